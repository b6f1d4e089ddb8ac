import Derived.Test.YtngghkhjejkelabKXt
set_option linter.unusedVariables false
set_option linter.unusedSimpArgs false
namespace Rx.S
open Go Rx
set_option maxRecDepth 100000
set_option maxHeartbeats 1000000
def g_ref03_Right : G := ⟨4, [⟨3, .iteB, [V 1, V 2, B false]⟩, ⟨2, (.cmp .leq), [V 0, N 8]⟩, ⟨1, (.cmp .geq), [V 0, N 3]⟩], [], []⟩
theorem pure_ref03_Right (e : Nat → A) (H : FactsQ T e g_ref03_Right.defs) (hp : (true) = true) :
  (True) ∧ (Day.right (e 0).int = (e 3).bool) := by
 simp only [g_ref03_Right, FactsQ, Def.q, updQ, L.ev_var, L.ev_n, L.ev_t, L.ev_e, L.ev, A.int_i, A.bool_b, A.str_v, A.els_l, List.map_cons, List.map_nil, Nat.zero_add, Nat.add_zero, and_true, true_and, Nat.reduceAdd, Nat.one_mul] at H
 simp only [arI, dvI, btI, cmpI, shI, ifQ, updV, ltQ, and_true, true_and] at H
 obtain ⟨q3, q2, q1⟩ := H
 generalize (e 0).int = x0, (e 1).bool = v1, (e 2).bool = v2, (e 3).bool = v3 at *
 grind [Day.clampR, Day.upR, Day.downR, Day.sm, Day.i64, Day.u8, Day.u16, Day.u32, Day.right, Day.times, Day.ownE, Day.ownR, Day.idE, Day.freshN, Day.noND, Day.cleanN, Day.wakeN, Day.rightN, Day.ND.i64, Day.waitR, Day.dueR, Day.ofR, Day.ofE, Day.noFr, wrap64, Day.modP, Day.modR, Day.slotP, Day.nextR, Day.atP, Day.atR, Day.aheadP, Day.aheadR]
def g_ref03_Block : G := ⟨3, [⟨1, (.call 32), [V 0, N 2]⟩], [V 1], []⟩
theorem pure_ref03_Block (e : Nat → A) (H : FactsQ T e g_ref03_Block.defs) (hp : (true) = true) :
  ((e 1).bool = true) ∧ (Day.times 2 (e 0).int = (e 2).int) := by
 simp only [g_ref03_Block, FactsQ, Def.q, updQ, L.ev_var, L.ev_n, L.ev_t, L.ev_e, L.ev, A.int_i, A.bool_b, A.str_v, A.els_l, List.map_cons, List.map_nil, Nat.zero_add, Nat.add_zero, and_true, true_and, Nat.reduceAdd, Nat.one_mul] at H
 have q1 := H
 replace q1 := out_ref03_times q1
 obtain ⟨q1, q2⟩ := q1
 simp only [L.ev_var, L.ev_n, L.ev_t, L.ev_e, L.ev, A.int_i, A.bool_b, A.str_v] at q1 q2
 generalize (e 0).int = x0, (e 1).bool = v1, (e 2).int = v2 at *
 grind [Day.clampR, Day.upR, Day.downR, Day.sm, Day.i64, Day.u8, Day.u16, Day.u32, Day.right, Day.times, Day.ownE, Day.ownR, Day.idE, Day.freshN, Day.noND, Day.cleanN, Day.wakeN, Day.rightN, Day.ND.i64, Day.waitR, Day.dueR, Day.ofR, Day.ofE, Day.noFr, wrap64, Day.modP, Day.modR, Day.slotP, Day.nextR, Day.atP, Day.atR, Day.aheadP, Day.aheadR]
def g_ref03_times : G := ⟨10, [⟨9, .iteB, [V 5, V 5, V 4]⟩, ⟨8, .iteI, [V 5, V 6, N 0]⟩, ⟨7, .not, [V 5]⟩, ⟨6, (.ar .mul .i64), [V 0, V 1]⟩, ⟨5, .not, [V 4]⟩, ⟨4, .not, [V 3]⟩, ⟨2, (.call 18), [V 0]⟩], [V 2], []⟩
theorem pure_ref03_times (e : Nat → A) (H : FactsQ T e g_ref03_times.defs) (hp : (Day.u8 (e 1).int) = true) :
  ((e 2).bool = true) ∧ (Day.times (e 1).int (e 0).int = (e 8).int) := by
 simp only [g_ref03_times, FactsQ, Def.q, updQ, L.ev_var, L.ev_n, L.ev_t, L.ev_e, L.ev, A.int_i, A.bool_b, A.str_v, A.els_l, List.map_cons, List.map_nil, Nat.zero_add, Nat.add_zero, and_true, true_and, Nat.reduceAdd, Nat.one_mul] at H
 simp only [arI, dvI, btI, cmpI, shI, ifQ, updV, ltQ, and_true, true_and] at H
 obtain ⟨q9, ⟨q8, -⟩, q7, ⟨q6, -⟩, q5, q4, q2⟩ := H
 replace q2 := out_ref03_Right q2
 obtain ⟨q2, q3⟩ := q2
 simp only [L.ev_var, L.ev_n, L.ev_t, L.ev_e, L.ev, A.int_i, A.bool_b, A.str_v] at q2 q3
 generalize (e 0).int = x0, (e 1).int = x1, (e 2).bool = v2, (e 3).bool = v3, (e 4).bool = v4, (e 5).bool = v5, (e 6).int = v6, (e 7).bool = v7, (e 8).int = v8, (e 9).bool = v9 at *
 by_cases hr : Day.right x0 = true
 ·have hn : 3 ≤ x0 ∧ x0 ≤ 8 := by grind [Day.clampR, Day.upR, Day.downR, Day.sm, Day.i64, Day.u8, Day.u16, Day.u32, Day.right, Day.times, Day.ownE, Day.ownR, Day.idE, Day.freshN, Day.noND, Day.cleanN, Day.wakeN, Day.rightN, Day.ND.i64, Day.waitR, Day.dueR, Day.ofR, Day.ofE, Day.noFr, wrap64, Day.modP, Day.modR, Day.slotP, Day.nextR, Day.atP, Day.atR, Day.aheadP, Day.aheadR]
  have hn2 : x0 = 3 ∨ x0 = 4 ∨ x0 = 5 ∨ x0 = 6 ∨ x0 = 7 ∨ x0 = 8 := by omega
  clear hn
  rcases hn2 with rfl | rfl | rfl | rfl | rfl | rfl <;> grind [Day.clampR, Day.upR, Day.downR, Day.sm, Day.i64, Day.u8, Day.u16, Day.u32, Day.right, Day.times, Day.ownE, Day.ownR, Day.idE, Day.freshN, Day.noND, Day.cleanN, Day.wakeN, Day.rightN, Day.ND.i64, Day.waitR, Day.dueR, Day.ofR, Day.ofE, Day.noFr, wrap64, Day.modP, Day.modR, Day.slotP, Day.nextR, Day.atP, Day.atR, Day.aheadP, Day.aheadR]
 ·grind [Day.clampR, Day.upR, Day.downR, Day.sm, Day.i64, Day.u8, Day.u16, Day.u32, Day.right, Day.times, Day.ownE, Day.ownR, Day.idE, Day.freshN, Day.noND, Day.cleanN, Day.wakeN, Day.rightN, Day.ND.i64, Day.waitR, Day.dueR, Day.ofR, Day.ofE, Day.noFr, wrap64, Day.modP, Day.modR, Day.slotP, Day.nextR, Day.atP, Day.atR, Day.aheadP, Day.aheadR]
def g_conf_Block : G := ⟨3, [⟨1, (.call 56), [.s [98, 108, 111, 99, 107], V 0]⟩], [V 1], []⟩
theorem pure_conf_Block (e : Nat → A) (H : FactsQ T e g_conf_Block.defs) (hp : (true) = true) :
  ((e 1).bool = true) ∧ (Day.times 2 (e 0).int = (e 2).int) := by
 simp only [g_conf_Block, FactsQ, Def.q, updQ, L.ev_var, L.ev_n, L.ev_t, L.ev_e, L.ev, A.int_i, A.bool_b, A.str_v, A.els_l, List.map_cons, List.map_nil, Nat.zero_add, Nat.add_zero, and_true, true_and, Nat.reduceAdd, Nat.one_mul] at H
 have q1 := H
 replace q1 := out_conf_time q1
 obtain ⟨q1, q2⟩ := q1
 simp only [L.ev_var, L.ev_n, L.ev_t, L.ev_e, L.ev, A.int_i, A.bool_b, A.str_v] at q1 q2
 generalize (e 0).int = x0, (e 1).bool = v1, (e 2).int = v2 at *
 simp only [Day.kOf_block, Day.kOf_watch, Day.kOf_later, Day.kOf_start, Day.kOf_stable, Day.kOf_listen, Day.kOf_cold, Day.timeP] at *
 grind [Day.clampR, Day.upR, Day.downR, Day.sm, Day.i64, Day.u8, Day.u16, Day.u32, Day.right, Day.times, Day.ownE, Day.ownR, Day.idE, Day.freshN, Day.noND, Day.cleanN, Day.wakeN, Day.rightN, Day.ND.i64, Day.waitR, Day.dueR, Day.ofR, Day.ofE, Day.noFr, wrap64, Day.modP, Day.modR, Day.slotP, Day.nextR, Day.atP, Day.atR, Day.aheadP, Day.aheadR, Day.timeP]
def g_conf_Right : G := ⟨4, [⟨3, .iteB, [V 1, V 2, B false]⟩, ⟨2, (.cmp .leq), [V 0, N 8]⟩, ⟨1, (.cmp .geq), [V 0, N 3]⟩], [], []⟩
theorem pure_conf_Right (e : Nat → A) (H : FactsQ T e g_conf_Right.defs) (hp : (true) = true) :
  (True) ∧ (Day.right (e 0).int = (e 3).bool) := by
 simp only [g_conf_Right, FactsQ, Def.q, updQ, L.ev_var, L.ev_n, L.ev_t, L.ev_e, L.ev, A.int_i, A.bool_b, A.str_v, A.els_l, List.map_cons, List.map_nil, Nat.zero_add, Nat.add_zero, and_true, true_and, Nat.reduceAdd, Nat.one_mul] at H
 simp only [arI, dvI, btI, cmpI, shI, ifQ, updV, ltQ, and_true, true_and] at H
 obtain ⟨q3, q2, q1⟩ := H
 generalize (e 0).int = x0, (e 1).bool = v1, (e 2).bool = v2, (e 3).bool = v3 at *
 grind [Day.clampR, Day.upR, Day.downR, Day.sm, Day.i64, Day.u8, Day.u16, Day.u32, Day.right, Day.times, Day.ownE, Day.ownR, Day.idE, Day.freshN, Day.noND, Day.cleanN, Day.wakeN, Day.rightN, Day.ND.i64, Day.waitR, Day.dueR, Day.ofR, Day.ofE, Day.noFr, wrap64, Day.modP, Day.modR, Day.slotP, Day.nextR, Day.atP, Day.atR, Day.aheadP, Day.aheadR]
end Rx.S
