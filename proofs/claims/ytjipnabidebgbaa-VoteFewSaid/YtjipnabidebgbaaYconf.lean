import Derived.Test.YtjipnabidebgbaaXt
set_option linter.unusedVariables false
set_option linter.unusedSimpArgs false
namespace Rx.S
open Go Rx
set_option maxRecDepth 100000
set_option maxHeartbeats 1000000
set_option linter.unusedVariables false
set_option linter.unusedSimpArgs false
def g_conf_Right : G := ⟨4, [⟨3, .iteB, [V 1, V 2, B false]⟩, ⟨2, (.cmp .leq), [V 0, N 8]⟩, ⟨1, (.cmp .geq), [V 0, N 3]⟩], [], []⟩
theorem pure_conf_Right (e : Nat → A) (H : FactsQ T e g_conf_Right.defs) (hp : (true) = true) :
    (True) ∧ (Day.right (e 0).int = (e 3).bool) := by
  simp only [g_conf_Right, FactsQ, Def.q, updQ, L.ev_var, L.ev_n, L.ev_t, L.ev_e, L.ev, A.int_i, A.bool_b, A.str_v, A.els_l, List.map_cons, List.map_nil, Nat.zero_add, Nat.add_zero, and_true, true_and, Nat.reduceAdd, Nat.one_mul] at H
  simp only [arI, dvI, btI, cmpI, ifQ, updV, ltQ, and_true, true_and] at H
  obtain ⟨q3, q2, q1⟩ := H
  generalize (e 0).int = x0 at *
  generalize (e 1).bool = v1 at *
  generalize (e 2).bool = v2 at *
  generalize (e 3).bool = v3 at *
  grind [Day.clampR, Day.upR, Day.downR, Day.sm, Day.i64, Day.u8, Day.u16, Day.u32, Day.right, Day.times, Day.ownE, Day.ownR, Day.idE, Day.freshN, Day.noND, Day.cleanN, Day.wakeN, Day.rightN, Day.ND.i64, Day.waitR, Day.dueR, Day.ofR, Day.ofE, Day.noFr, wrap64, Day.modP, Day.modR, Day.slotP, Day.nextR, Day.atP, Day.atR, Day.aheadP, Day.aheadR]
end Rx.S
namespace Rx.S
open Go Rx
set_option maxRecDepth 100000
set_option maxHeartbeats 1000000
set_option linter.unusedVariables false
set_option linter.unusedSimpArgs false
def g_conf_Block : G := ⟨3, [⟨1, (.call 130), [.s [98, 108, 111, 99, 107], V 0]⟩], [V 1], []⟩
theorem pure_conf_Block (e : Nat → A) (H : FactsQ T e g_conf_Block.defs) (hp : (true) = true) :
    ((e 1).bool = true) ∧ (Day.times 2 (e 0).int = (e 2).int) := by
  simp only [g_conf_Block, FactsQ, Def.q, updQ, L.ev_var, L.ev_n, L.ev_t, L.ev_e, L.ev, A.int_i, A.bool_b, A.str_v, A.els_l, List.map_cons, List.map_nil, Nat.zero_add, Nat.add_zero, and_true, true_and, Nat.reduceAdd, Nat.one_mul] at H
  have q1 := H
  replace q1 := out_conf_time q1
  obtain ⟨q1, q2⟩ := q1
  simp only [L.ev_var, L.ev_n, L.ev_t, L.ev_e, L.ev, A.int_i, A.bool_b, A.str_v] at q1 q2
  generalize (e 0).int = x0 at *
  generalize (e 1).bool = v1 at *
  generalize (e 2).int = v2 at *
  simp only [Day.kOf_block, Day.kOf_watch, Day.kOf_later, Day.kOf_start, Day.kOf_stable, Day.kOf_listen, Day.kOf_cold, Day.timeP] at *
  grind [Day.clampR, Day.upR, Day.downR, Day.sm, Day.i64, Day.u8, Day.u16, Day.u32, Day.right, Day.times, Day.ownE, Day.ownR, Day.idE, Day.freshN, Day.noND, Day.cleanN, Day.wakeN, Day.rightN, Day.ND.i64, Day.waitR, Day.dueR, Day.ofR, Day.ofE, Day.noFr, wrap64, Day.modP, Day.modR, Day.slotP, Day.nextR, Day.atP, Day.atR, Day.aheadP, Day.aheadR, Day.timeP]
end Rx.S
namespace Rx.S
open Go Rx
set_option maxRecDepth 100000
set_option maxHeartbeats 1000000
set_option linter.unusedVariables false
set_option linter.unusedSimpArgs false
def g_conf_Cold : G := ⟨5, [⟨2, (.call 129), [.s [99, 111, 108, 100], V 0, V 1]⟩], [V 2], []⟩
theorem pure_conf_Cold (e : Nat → A) (H : FactsQ T e g_conf_Cold.defs) (hp : (true) = true) :
    ((e 2).bool = true) ∧ (Day.ownR 2 (e 0).int (e 1).int = (e 3).int ∧ Day.ownE (e 0).int (e 1).int = (e 4).int) := by
  simp only [g_conf_Cold, FactsQ, Def.q, updQ, L.ev_var, L.ev_n, L.ev_t, L.ev_e, L.ev, A.int_i, A.bool_b, A.str_v, A.els_l, List.map_cons, List.map_nil, Nat.zero_add, Nat.add_zero, and_true, true_and, Nat.reduceAdd, Nat.one_mul] at H
  have q2 := H
  replace q2 := out_conf_own q2
  obtain ⟨q2, q3, q4⟩ := q2
  simp only [L.ev_var, L.ev_n, L.ev_t, L.ev_e, L.ev, A.int_i, A.bool_b, A.str_v] at q2 q3 q4
  generalize (e 0).int = x0 at *
  generalize (e 1).int = x1 at *
  generalize (e 2).bool = v2 at *
  generalize (e 3).int = v3 at *
  generalize (e 4).int = v4 at *
  simp only [Day.kOf_block, Day.kOf_watch, Day.kOf_later, Day.kOf_start, Day.kOf_stable, Day.kOf_listen, Day.kOf_cold, Day.timeP] at *
  grind [Day.clampR, Day.upR, Day.downR, Day.sm, Day.i64, Day.u8, Day.u16, Day.u32, Day.right, Day.times, Day.ownE, Day.ownR, Day.idE, Day.freshN, Day.noND, Day.cleanN, Day.wakeN, Day.rightN, Day.ND.i64, Day.waitR, Day.dueR, Day.ofR, Day.ofE, Day.noFr, wrap64, Day.modP, Day.modR, Day.slotP, Day.nextR, Day.atP, Day.atR, Day.aheadP, Day.aheadR, Day.timeP]
end Rx.S
namespace Rx.S
open Go Rx
set_option maxRecDepth 100000
set_option maxHeartbeats 1000000
set_option linter.unusedVariables false
set_option linter.unusedSimpArgs false
def g_conf_own : G := ⟨29, [⟨28, .iteB, [V 19, V 19, V 18]⟩, ⟨27, .iteI, [V 19, N 0, V 17]⟩, ⟨26, .iteI, [V 19, V 24, N 0]⟩, ⟨25, .not, [V 19]⟩, ⟨24, (.ar .add .i64), [V 23, N 1]⟩, ⟨23, (.ar .add .i64), [V 21, V 2]⟩, ⟨22, .imp, [V 19, V 20]⟩, ⟨20, (.call 130), [V 0, V 1]⟩, ⟨19, .and, [V 6, V 16]⟩, ⟨18, .iteB, [V 5, V 5, V 15]⟩, ⟨17, .iteI, [V 5, N 1, N 2]⟩, ⟨16, .and, [V 12, V 14]⟩, ⟨15, .and, [V 11, V 13]⟩, ⟨14, .and, [V 6, V 12]⟩, ⟨13, .and, [V 6, V 11]⟩, ⟨12, .not, [V 11]⟩, ⟨11, .iteB, [V 7, B true, V 10]⟩, ⟨10, (.cmp .geq), [V 2, V 1]⟩, ⟨9, .and, [V 6, V 8]⟩, ⟨8, .not, [V 7]⟩, ⟨7, (.cmp .lss), [V 2, N 0]⟩, ⟨6, .not, [V 5]⟩, ⟨5, .not, [V 4]⟩, ⟨3, (.call 50), [V 1]⟩], [V 22, V 3], []⟩
theorem pure_conf_own (e : Nat → A) (H : FactsQ T e g_conf_own.defs) (hp : (Day.timeP (e 0).str) = true) :
    ((e 22).bool = true ∧ (e 3).bool = true) ∧ (Day.ownR (Day.kOf (e 0).str) (e 1).int (e 2).int = (e 26).int ∧ Day.ownE (e 1).int (e 2).int = (e 27).int) := by
  simp only [g_conf_own, FactsQ, Def.q, updQ, L.ev_var, L.ev_n, L.ev_t, L.ev_e, L.ev, A.int_i, A.bool_b, A.str_v, A.els_l, List.map_cons, List.map_nil, Nat.zero_add, Nat.add_zero, and_true, true_and, Nat.reduceAdd, Nat.one_mul] at H
  simp only [arI, dvI, btI, cmpI, ifQ, updV, ltQ, and_true, true_and] at H
  obtain ⟨q28, ⟨q27, -⟩, ⟨q26, -⟩, q25, ⟨q24, -⟩, ⟨q23, -⟩, q22, q20, q19, q18, ⟨q17, -⟩, q16, q15, q14, q13, q12, q11, q10, q9, q8, q7, q6, q5, q3⟩ := H
  replace q20 := out_conf_time q20
  obtain ⟨q20, q21⟩ := q20
  replace q3 := out_conf_Right q3
  obtain ⟨q3, q4⟩ := q3
  simp only [L.ev_var, L.ev_n, L.ev_t, L.ev_e, L.ev, A.int_i, A.bool_b, A.str_v] at q20 q21 q3 q4
  generalize (e 0).str = x0 at *
  generalize (e 1).int = x1 at *
  generalize (e 2).int = x2 at *
  generalize (e 3).bool = v3 at *
  generalize (e 4).bool = v4 at *
  generalize (e 5).bool = v5 at *
  generalize (e 6).bool = v6 at *
  generalize (e 7).bool = v7 at *
  generalize (e 8).bool = v8 at *
  generalize (e 9).bool = v9 at *
  generalize (e 10).bool = v10 at *
  generalize (e 11).bool = v11 at *
  generalize (e 12).bool = v12 at *
  generalize (e 13).bool = v13 at *
  generalize (e 14).bool = v14 at *
  generalize (e 15).bool = v15 at *
  generalize (e 16).bool = v16 at *
  generalize (e 17).int = v17 at *
  generalize (e 18).bool = v18 at *
  generalize (e 19).bool = v19 at *
  generalize (e 20).bool = v20 at *
  generalize (e 21).int = v21 at *
  generalize (e 22).bool = v22 at *
  generalize (e 23).int = v23 at *
  generalize (e 24).int = v24 at *
  generalize (e 25).bool = v25 at *
  generalize (e 26).int = v26 at *
  generalize (e 27).int = v27 at *
  generalize (e 28).bool = v28 at *
  have hk := Day.kOf_range x0
  by_cases hr : Day.right x1 = true
  · have hn : 3 ≤ x1 ∧ x1 ≤ 8 := by grind [Day.clampR, Day.upR, Day.downR, Day.sm, Day.i64, Day.u8, Day.u16, Day.u32, Day.right, Day.times, Day.ownE, Day.ownR, Day.idE, Day.freshN, Day.noND, Day.cleanN, Day.wakeN, Day.rightN, Day.ND.i64, Day.waitR, Day.dueR, Day.ofR, Day.ofE, Day.noFr, wrap64, Day.modP, Day.modR, Day.slotP, Day.nextR, Day.atP, Day.atR, Day.aheadP, Day.aheadR]
    have hn2 : x1 = 3 ∨ x1 = 4 ∨ x1 = 5 ∨ x1 = 6 ∨ x1 = 7 ∨ x1 = 8 := by omega
    clear hn
    rcases hn2 with rfl | rfl | rfl | rfl | rfl | rfl <;> grind [Day.clampR, Day.upR, Day.downR, Day.sm, Day.i64, Day.u8, Day.u16, Day.u32, Day.right, Day.times, Day.ownE, Day.ownR, Day.idE, Day.freshN, Day.noND, Day.cleanN, Day.wakeN, Day.rightN, Day.ND.i64, Day.waitR, Day.dueR, Day.ofR, Day.ofE, Day.noFr, wrap64, Day.modP, Day.modR, Day.slotP, Day.nextR, Day.atP, Day.atR, Day.aheadP, Day.aheadR]
  · grind [Day.clampR, Day.upR, Day.downR, Day.sm, Day.i64, Day.u8, Day.u16, Day.u32, Day.right, Day.times, Day.ownE, Day.ownR, Day.idE, Day.freshN, Day.noND, Day.cleanN, Day.wakeN, Day.rightN, Day.ND.i64, Day.waitR, Day.dueR, Day.ofR, Day.ofE, Day.noFr, wrap64, Day.modP, Day.modR, Day.slotP, Day.nextR, Day.atP, Day.atR, Day.aheadP, Day.aheadR]
end Rx.S
namespace Rx.S
open Go Rx
set_option maxRecDepth 100000
set_option maxHeartbeats 1000000
set_option linter.unusedVariables false
set_option linter.unusedSimpArgs false
def g_conf_Later : G := ⟨3, [⟨1, (.call 130), [.s [108, 97, 116, 101, 114], V 0]⟩], [V 1], []⟩
theorem pure_conf_Later (e : Nat → A) (H : FactsQ T e g_conf_Later.defs) (hp : (true) = true) :
    ((e 1).bool = true) ∧ (Day.times 3 (e 0).int = (e 2).int) := by
  simp only [g_conf_Later, FactsQ, Def.q, updQ, L.ev_var, L.ev_n, L.ev_t, L.ev_e, L.ev, A.int_i, A.bool_b, A.str_v, A.els_l, List.map_cons, List.map_nil, Nat.zero_add, Nat.add_zero, and_true, true_and, Nat.reduceAdd, Nat.one_mul] at H
  have q1 := H
  replace q1 := out_conf_time q1
  obtain ⟨q1, q2⟩ := q1
  simp only [L.ev_var, L.ev_n, L.ev_t, L.ev_e, L.ev, A.int_i, A.bool_b, A.str_v] at q1 q2
  generalize (e 0).int = x0 at *
  generalize (e 1).bool = v1 at *
  generalize (e 2).int = v2 at *
  simp only [Day.kOf_block, Day.kOf_watch, Day.kOf_later, Day.kOf_start, Day.kOf_stable, Day.kOf_listen, Day.kOf_cold, Day.timeP] at *
  grind [Day.clampR, Day.upR, Day.downR, Day.sm, Day.i64, Day.u8, Day.u16, Day.u32, Day.right, Day.times, Day.ownE, Day.ownR, Day.idE, Day.freshN, Day.noND, Day.cleanN, Day.wakeN, Day.rightN, Day.ND.i64, Day.waitR, Day.dueR, Day.ofR, Day.ofE, Day.noFr, wrap64, Day.modP, Day.modR, Day.slotP, Day.nextR, Day.atP, Day.atR, Day.aheadP, Day.aheadR, Day.timeP]
end Rx.S
namespace Rx.S
open Go Rx
set_option maxRecDepth 100000
set_option maxHeartbeats 1000000
set_option linter.unusedVariables false
set_option linter.unusedSimpArgs false
def g_conf_Listen : G := ⟨5, [⟨2, (.call 129), [.s [108, 105, 115, 116, 101, 110], V 0, V 1]⟩], [V 2], []⟩
theorem pure_conf_Listen (e : Nat → A) (H : FactsQ T e g_conf_Listen.defs) (hp : (true) = true) :
    ((e 2).bool = true) ∧ (Day.ownR 4 (e 0).int (e 1).int = (e 3).int ∧ Day.ownE (e 0).int (e 1).int = (e 4).int) := by
  simp only [g_conf_Listen, FactsQ, Def.q, updQ, L.ev_var, L.ev_n, L.ev_t, L.ev_e, L.ev, A.int_i, A.bool_b, A.str_v, A.els_l, List.map_cons, List.map_nil, Nat.zero_add, Nat.add_zero, and_true, true_and, Nat.reduceAdd, Nat.one_mul] at H
  have q2 := H
  replace q2 := out_conf_own q2
  obtain ⟨q2, q3, q4⟩ := q2
  simp only [L.ev_var, L.ev_n, L.ev_t, L.ev_e, L.ev, A.int_i, A.bool_b, A.str_v] at q2 q3 q4
  generalize (e 0).int = x0 at *
  generalize (e 1).int = x1 at *
  generalize (e 2).bool = v2 at *
  generalize (e 3).int = v3 at *
  generalize (e 4).int = v4 at *
  simp only [Day.kOf_block, Day.kOf_watch, Day.kOf_later, Day.kOf_start, Day.kOf_stable, Day.kOf_listen, Day.kOf_cold, Day.timeP] at *
  grind [Day.clampR, Day.upR, Day.downR, Day.sm, Day.i64, Day.u8, Day.u16, Day.u32, Day.right, Day.times, Day.ownE, Day.ownR, Day.idE, Day.freshN, Day.noND, Day.cleanN, Day.wakeN, Day.rightN, Day.ND.i64, Day.waitR, Day.dueR, Day.ofR, Day.ofE, Day.noFr, wrap64, Day.modP, Day.modR, Day.slotP, Day.nextR, Day.atP, Day.atR, Day.aheadP, Day.aheadR, Day.timeP]
end Rx.S
namespace Rx.S
open Go Rx
set_option maxRecDepth 100000
set_option maxHeartbeats 1000000
set_option linter.unusedVariables false
set_option linter.unusedSimpArgs false
def g_conf_Stable : G := ⟨3, [⟨1, (.call 130), [.s [115, 116, 97, 98, 108, 101], V 0]⟩], [V 1], []⟩
theorem pure_conf_Stable (e : Nat → A) (H : FactsQ T e g_conf_Stable.defs) (hp : (true) = true) :
    ((e 1).bool = true) ∧ (Day.times 96 (e 0).int = (e 2).int) := by
  simp only [g_conf_Stable, FactsQ, Def.q, updQ, L.ev_var, L.ev_n, L.ev_t, L.ev_e, L.ev, A.int_i, A.bool_b, A.str_v, A.els_l, List.map_cons, List.map_nil, Nat.zero_add, Nat.add_zero, and_true, true_and, Nat.reduceAdd, Nat.one_mul] at H
  have q1 := H
  replace q1 := out_conf_time q1
  obtain ⟨q1, q2⟩ := q1
  simp only [L.ev_var, L.ev_n, L.ev_t, L.ev_e, L.ev, A.int_i, A.bool_b, A.str_v] at q1 q2
  generalize (e 0).int = x0 at *
  generalize (e 1).bool = v1 at *
  generalize (e 2).int = v2 at *
  simp only [Day.kOf_block, Day.kOf_watch, Day.kOf_later, Day.kOf_start, Day.kOf_stable, Day.kOf_listen, Day.kOf_cold, Day.timeP] at *
  grind [Day.clampR, Day.upR, Day.downR, Day.sm, Day.i64, Day.u8, Day.u16, Day.u32, Day.right, Day.times, Day.ownE, Day.ownR, Day.idE, Day.freshN, Day.noND, Day.cleanN, Day.wakeN, Day.rightN, Day.ND.i64, Day.waitR, Day.dueR, Day.ofR, Day.ofE, Day.noFr, wrap64, Day.modP, Day.modR, Day.slotP, Day.nextR, Day.atP, Day.atR, Day.aheadP, Day.aheadR, Day.timeP]
end Rx.S
namespace Rx.S
open Go Rx
set_option maxRecDepth 100000
set_option maxHeartbeats 1000000
set_option linter.unusedVariables false
set_option linter.unusedSimpArgs false
def g_conf_Start : G := ⟨3, [⟨1, (.call 130), [.s [115, 116, 97, 114, 116], V 0]⟩], [V 1], []⟩
theorem pure_conf_Start (e : Nat → A) (H : FactsQ T e g_conf_Start.defs) (hp : (true) = true) :
    ((e 1).bool = true) ∧ (Day.times 40 (e 0).int = (e 2).int) := by
  simp only [g_conf_Start, FactsQ, Def.q, updQ, L.ev_var, L.ev_n, L.ev_t, L.ev_e, L.ev, A.int_i, A.bool_b, A.str_v, A.els_l, List.map_cons, List.map_nil, Nat.zero_add, Nat.add_zero, and_true, true_and, Nat.reduceAdd, Nat.one_mul] at H
  have q1 := H
  replace q1 := out_conf_time q1
  obtain ⟨q1, q2⟩ := q1
  simp only [L.ev_var, L.ev_n, L.ev_t, L.ev_e, L.ev, A.int_i, A.bool_b, A.str_v] at q1 q2
  generalize (e 0).int = x0 at *
  generalize (e 1).bool = v1 at *
  generalize (e 2).int = v2 at *
  simp only [Day.kOf_block, Day.kOf_watch, Day.kOf_later, Day.kOf_start, Day.kOf_stable, Day.kOf_listen, Day.kOf_cold, Day.timeP] at *
  grind [Day.clampR, Day.upR, Day.downR, Day.sm, Day.i64, Day.u8, Day.u16, Day.u32, Day.right, Day.times, Day.ownE, Day.ownR, Day.idE, Day.freshN, Day.noND, Day.cleanN, Day.wakeN, Day.rightN, Day.ND.i64, Day.waitR, Day.dueR, Day.ofR, Day.ofE, Day.noFr, wrap64, Day.modP, Day.modR, Day.slotP, Day.nextR, Day.atP, Day.atR, Day.aheadP, Day.aheadR, Day.timeP]
end Rx.S
namespace Rx.S
open Go Rx
set_option maxRecDepth 100000
set_option maxHeartbeats 1000000
set_option linter.unusedVariables false
set_option linter.unusedSimpArgs false
def g_conf_Watch : G := ⟨3, [⟨1, (.call 130), [.s [119, 97, 116, 99, 104], V 0]⟩], [V 1], []⟩
theorem pure_conf_Watch (e : Nat → A) (H : FactsQ T e g_conf_Watch.defs) (hp : (true) = true) :
    ((e 1).bool = true) ∧ (Day.times 8 (e 0).int = (e 2).int) := by
  simp only [g_conf_Watch, FactsQ, Def.q, updQ, L.ev_var, L.ev_n, L.ev_t, L.ev_e, L.ev, A.int_i, A.bool_b, A.str_v, A.els_l, List.map_cons, List.map_nil, Nat.zero_add, Nat.add_zero, and_true, true_and, Nat.reduceAdd, Nat.one_mul] at H
  have q1 := H
  replace q1 := out_conf_time q1
  obtain ⟨q1, q2⟩ := q1
  simp only [L.ev_var, L.ev_n, L.ev_t, L.ev_e, L.ev, A.int_i, A.bool_b, A.str_v] at q1 q2
  generalize (e 0).int = x0 at *
  generalize (e 1).bool = v1 at *
  generalize (e 2).int = v2 at *
  simp only [Day.kOf_block, Day.kOf_watch, Day.kOf_later, Day.kOf_start, Day.kOf_stable, Day.kOf_listen, Day.kOf_cold, Day.timeP] at *
  grind [Day.clampR, Day.upR, Day.downR, Day.sm, Day.i64, Day.u8, Day.u16, Day.u32, Day.right, Day.times, Day.ownE, Day.ownR, Day.idE, Day.freshN, Day.noND, Day.cleanN, Day.wakeN, Day.rightN, Day.ND.i64, Day.waitR, Day.dueR, Day.ofR, Day.ofE, Day.noFr, wrap64, Day.modP, Day.modR, Day.slotP, Day.nextR, Day.atP, Day.atR, Day.aheadP, Day.aheadR, Day.timeP]
end Rx.S
namespace Rx.S
open Go Rx
set_option maxRecDepth 100000
set_option maxHeartbeats 1000000
set_option linter.unusedVariables false
set_option linter.unusedSimpArgs false
def g_ref03_Block : G := ⟨3, [⟨1, (.call 132), [V 0, N 2]⟩], [V 1], []⟩
theorem pure_ref03_Block (e : Nat → A) (H : FactsQ T e g_ref03_Block.defs) (hp : (true) = true) :
    ((e 1).bool = true) ∧ (Day.times 2 (e 0).int = (e 2).int) := by
  simp only [g_ref03_Block, FactsQ, Def.q, updQ, L.ev_var, L.ev_n, L.ev_t, L.ev_e, L.ev, A.int_i, A.bool_b, A.str_v, A.els_l, List.map_cons, List.map_nil, Nat.zero_add, Nat.add_zero, and_true, true_and, Nat.reduceAdd, Nat.one_mul] at H
  have q1 := H
  replace q1 := out_ref03_times q1
  obtain ⟨q1, q2⟩ := q1
  simp only [L.ev_var, L.ev_n, L.ev_t, L.ev_e, L.ev, A.int_i, A.bool_b, A.str_v] at q1 q2
  generalize (e 0).int = x0 at *
  generalize (e 1).bool = v1 at *
  generalize (e 2).int = v2 at *
  grind [Day.clampR, Day.upR, Day.downR, Day.sm, Day.i64, Day.u8, Day.u16, Day.u32, Day.right, Day.times, Day.ownE, Day.ownR, Day.idE, Day.freshN, Day.noND, Day.cleanN, Day.wakeN, Day.rightN, Day.ND.i64, Day.waitR, Day.dueR, Day.ofR, Day.ofE, Day.noFr, wrap64, Day.modP, Day.modR, Day.slotP, Day.nextR, Day.atP, Day.atR, Day.aheadP, Day.aheadR]
end Rx.S
namespace Rx.S
open Go Rx
set_option maxRecDepth 100000
set_option maxHeartbeats 1000000
set_option linter.unusedVariables false
set_option linter.unusedSimpArgs false
def g_ref03_times : G := ⟨10, [⟨9, .iteB, [V 5, V 5, V 4]⟩, ⟨8, .iteI, [V 5, V 6, N 0]⟩, ⟨7, .not, [V 5]⟩, ⟨6, (.ar .mul .i64), [V 0, V 1]⟩, ⟨5, .not, [V 4]⟩, ⟨4, .not, [V 3]⟩, ⟨2, (.call 51), [V 0]⟩], [V 2], []⟩
theorem pure_ref03_times (e : Nat → A) (H : FactsQ T e g_ref03_times.defs) (hp : (Day.u8 (e 1).int) = true) :
    ((e 2).bool = true) ∧ (Day.times (e 1).int (e 0).int = (e 8).int) := by
  simp only [g_ref03_times, FactsQ, Def.q, updQ, L.ev_var, L.ev_n, L.ev_t, L.ev_e, L.ev, A.int_i, A.bool_b, A.str_v, A.els_l, List.map_cons, List.map_nil, Nat.zero_add, Nat.add_zero, and_true, true_and, Nat.reduceAdd, Nat.one_mul] at H
  simp only [arI, dvI, btI, cmpI, ifQ, updV, ltQ, and_true, true_and] at H
  obtain ⟨q9, ⟨q8, -⟩, q7, ⟨q6, -⟩, q5, q4, q2⟩ := H
  replace q2 := out_ref03_Right q2
  obtain ⟨q2, q3⟩ := q2
  simp only [L.ev_var, L.ev_n, L.ev_t, L.ev_e, L.ev, A.int_i, A.bool_b, A.str_v] at q2 q3
  generalize (e 0).int = x0 at *
  generalize (e 1).int = x1 at *
  generalize (e 2).bool = v2 at *
  generalize (e 3).bool = v3 at *
  generalize (e 4).bool = v4 at *
  generalize (e 5).bool = v5 at *
  generalize (e 6).int = v6 at *
  generalize (e 7).bool = v7 at *
  generalize (e 8).int = v8 at *
  generalize (e 9).bool = v9 at *
  by_cases hr : Day.right x0 = true
  · have hn : 3 ≤ x0 ∧ x0 ≤ 8 := by grind [Day.clampR, Day.upR, Day.downR, Day.sm, Day.i64, Day.u8, Day.u16, Day.u32, Day.right, Day.times, Day.ownE, Day.ownR, Day.idE, Day.freshN, Day.noND, Day.cleanN, Day.wakeN, Day.rightN, Day.ND.i64, Day.waitR, Day.dueR, Day.ofR, Day.ofE, Day.noFr, wrap64, Day.modP, Day.modR, Day.slotP, Day.nextR, Day.atP, Day.atR, Day.aheadP, Day.aheadR]
    have hn2 : x0 = 3 ∨ x0 = 4 ∨ x0 = 5 ∨ x0 = 6 ∨ x0 = 7 ∨ x0 = 8 := by omega
    clear hn
    rcases hn2 with rfl | rfl | rfl | rfl | rfl | rfl <;> grind [Day.clampR, Day.upR, Day.downR, Day.sm, Day.i64, Day.u8, Day.u16, Day.u32, Day.right, Day.times, Day.ownE, Day.ownR, Day.idE, Day.freshN, Day.noND, Day.cleanN, Day.wakeN, Day.rightN, Day.ND.i64, Day.waitR, Day.dueR, Day.ofR, Day.ofE, Day.noFr, wrap64, Day.modP, Day.modR, Day.slotP, Day.nextR, Day.atP, Day.atR, Day.aheadP, Day.aheadR]
  · grind [Day.clampR, Day.upR, Day.downR, Day.sm, Day.i64, Day.u8, Day.u16, Day.u32, Day.right, Day.times, Day.ownE, Day.ownR, Day.idE, Day.freshN, Day.noND, Day.cleanN, Day.wakeN, Day.rightN, Day.ND.i64, Day.waitR, Day.dueR, Day.ofR, Day.ofE, Day.noFr, wrap64, Day.modP, Day.modR, Day.slotP, Day.nextR, Day.atP, Day.atR, Day.aheadP, Day.aheadR]
end Rx.S
namespace Rx.S
open Go Rx
set_option maxRecDepth 100000
set_option maxHeartbeats 1000000
set_option linter.unusedVariables false
set_option linter.unusedSimpArgs false
def g_ref03_Right : G := ⟨4, [⟨3, .iteB, [V 1, V 2, B false]⟩, ⟨2, (.cmp .leq), [V 0, N 8]⟩, ⟨1, (.cmp .geq), [V 0, N 3]⟩], [], []⟩
theorem pure_ref03_Right (e : Nat → A) (H : FactsQ T e g_ref03_Right.defs) (hp : (true) = true) :
    (True) ∧ (Day.right (e 0).int = (e 3).bool) := by
  simp only [g_ref03_Right, FactsQ, Def.q, updQ, L.ev_var, L.ev_n, L.ev_t, L.ev_e, L.ev, A.int_i, A.bool_b, A.str_v, A.els_l, List.map_cons, List.map_nil, Nat.zero_add, Nat.add_zero, and_true, true_and, Nat.reduceAdd, Nat.one_mul] at H
  simp only [arI, dvI, btI, cmpI, ifQ, updV, ltQ, and_true, true_and] at H
  obtain ⟨q3, q2, q1⟩ := H
  generalize (e 0).int = x0 at *
  generalize (e 1).bool = v1 at *
  generalize (e 2).bool = v2 at *
  generalize (e 3).bool = v3 at *
  grind [Day.clampR, Day.upR, Day.downR, Day.sm, Day.i64, Day.u8, Day.u16, Day.u32, Day.right, Day.times, Day.ownE, Day.ownR, Day.idE, Day.freshN, Day.noND, Day.cleanN, Day.wakeN, Day.rightN, Day.ND.i64, Day.waitR, Day.dueR, Day.ofR, Day.ofE, Day.noFr, wrap64, Day.modP, Day.modR, Day.slotP, Day.nextR, Day.atP, Day.atR, Day.aheadP, Day.aheadR]
end Rx.S
namespace Rx.S
open Go Rx
set_option maxRecDepth 100000
set_option maxHeartbeats 1000000
set_option linter.unusedVariables false
set_option linter.unusedSimpArgs false
def g_ref03_Cold : G := ⟨5, [⟨2, (.call 131), [V 0, V 1, N 2]⟩], [V 2], []⟩
theorem pure_ref03_Cold (e : Nat → A) (H : FactsQ T e g_ref03_Cold.defs) (hp : (true) = true) :
    ((e 2).bool = true) ∧ (Day.ownR 2 (e 0).int (e 1).int = (e 3).int ∧ Day.ownE (e 0).int (e 1).int = (e 4).int) := by
  simp only [g_ref03_Cold, FactsQ, Def.q, updQ, L.ev_var, L.ev_n, L.ev_t, L.ev_e, L.ev, A.int_i, A.bool_b, A.str_v, A.els_l, List.map_cons, List.map_nil, Nat.zero_add, Nat.add_zero, and_true, true_and, Nat.reduceAdd, Nat.one_mul] at H
  have q2 := H
  replace q2 := out_ref03_of q2
  obtain ⟨q2, q3, q4⟩ := q2
  simp only [L.ev_var, L.ev_n, L.ev_t, L.ev_e, L.ev, A.int_i, A.bool_b, A.str_v] at q2 q3 q4
  generalize (e 0).int = x0 at *
  generalize (e 1).int = x1 at *
  generalize (e 2).bool = v2 at *
  generalize (e 3).int = v3 at *
  generalize (e 4).int = v4 at *
  grind [Day.clampR, Day.upR, Day.downR, Day.sm, Day.i64, Day.u8, Day.u16, Day.u32, Day.right, Day.times, Day.ownE, Day.ownR, Day.idE, Day.freshN, Day.noND, Day.cleanN, Day.wakeN, Day.rightN, Day.ND.i64, Day.waitR, Day.dueR, Day.ofR, Day.ofE, Day.noFr, wrap64, Day.modP, Day.modR, Day.slotP, Day.nextR, Day.atP, Day.atR, Day.aheadP, Day.aheadR]
end Rx.S
namespace Rx.S
open Go Rx
set_option maxRecDepth 100000
set_option maxHeartbeats 1000000
set_option linter.unusedVariables false
set_option linter.unusedSimpArgs false
def g_ref03_of : G := ⟨28, [⟨27, .iteB, [V 6, V 23, V 5]⟩, ⟨26, .iteI, [V 6, V 22, N 1]⟩, ⟨25, .iteI, [V 6, V 21, N 0]⟩, ⟨24, .not, [V 6]⟩, ⟨23, .iteB, [V 16, V 16, V 15]⟩, ⟨22, .iteI, [V 16, N 0, N 2]⟩, ⟨21, .iteI, [V 16, V 19, N 0]⟩, ⟨20, .not, [V 16]⟩, ⟨19, (.ar .add .i64), [V 18, V 1]⟩, ⟨18, (.ar .add .i64), [V 17, N 1]⟩, ⟨17, (.ar .mul .i64), [V 2, V 0]⟩, ⟨16, .and, [V 12, V 14]⟩, ⟨15, .and, [V 11, V 13]⟩, ⟨14, .and, [V 6, V 12]⟩, ⟨13, .and, [V 6, V 11]⟩, ⟨12, .not, [V 11]⟩, ⟨11, .iteB, [V 7, B true, V 10]⟩, ⟨10, (.cmp .geq), [V 1, V 0]⟩, ⟨9, .and, [V 6, V 8]⟩, ⟨8, .not, [V 7]⟩, ⟨7, (.cmp .lss), [V 1, N 0]⟩, ⟨6, .not, [V 5]⟩, ⟨5, .not, [V 4]⟩, ⟨3, (.call 51), [V 0]⟩], [V 3], []⟩
theorem pure_ref03_of (e : Nat → A) (H : FactsQ T e g_ref03_of.defs) (hp : (Day.u8 (e 2).int) = true) :
    ((e 3).bool = true) ∧ (Day.ownR (e 2).int (e 0).int (e 1).int = (e 25).int ∧ Day.ownE (e 0).int (e 1).int = (e 26).int) := by
  simp only [g_ref03_of, FactsQ, Def.q, updQ, L.ev_var, L.ev_n, L.ev_t, L.ev_e, L.ev, A.int_i, A.bool_b, A.str_v, A.els_l, List.map_cons, List.map_nil, Nat.zero_add, Nat.add_zero, and_true, true_and, Nat.reduceAdd, Nat.one_mul] at H
  simp only [arI, dvI, btI, cmpI, ifQ, updV, ltQ, and_true, true_and] at H
  obtain ⟨q27, ⟨q26, -⟩, ⟨q25, -⟩, q24, q23, ⟨q22, -⟩, ⟨q21, -⟩, q20, ⟨q19, -⟩, ⟨q18, -⟩, ⟨q17, -⟩, q16, q15, q14, q13, q12, q11, q10, q9, q8, q7, q6, q5, q3⟩ := H
  replace q3 := out_ref03_Right q3
  obtain ⟨q3, q4⟩ := q3
  simp only [L.ev_var, L.ev_n, L.ev_t, L.ev_e, L.ev, A.int_i, A.bool_b, A.str_v] at q3 q4
  generalize (e 0).int = x0 at *
  generalize (e 1).int = x1 at *
  generalize (e 2).int = x2 at *
  generalize (e 3).bool = v3 at *
  generalize (e 4).bool = v4 at *
  generalize (e 5).bool = v5 at *
  generalize (e 6).bool = v6 at *
  generalize (e 7).bool = v7 at *
  generalize (e 8).bool = v8 at *
  generalize (e 9).bool = v9 at *
  generalize (e 10).bool = v10 at *
  generalize (e 11).bool = v11 at *
  generalize (e 12).bool = v12 at *
  generalize (e 13).bool = v13 at *
  generalize (e 14).bool = v14 at *
  generalize (e 15).bool = v15 at *
  generalize (e 16).bool = v16 at *
  generalize (e 17).int = v17 at *
  generalize (e 18).int = v18 at *
  generalize (e 19).int = v19 at *
  generalize (e 20).bool = v20 at *
  generalize (e 21).int = v21 at *
  generalize (e 22).int = v22 at *
  generalize (e 23).bool = v23 at *
  generalize (e 24).bool = v24 at *
  generalize (e 25).int = v25 at *
  generalize (e 26).int = v26 at *
  generalize (e 27).bool = v27 at *
  by_cases hr : Day.right x0 = true
  · have hn : 3 ≤ x0 ∧ x0 ≤ 8 := by grind [Day.clampR, Day.upR, Day.downR, Day.sm, Day.i64, Day.u8, Day.u16, Day.u32, Day.right, Day.times, Day.ownE, Day.ownR, Day.idE, Day.freshN, Day.noND, Day.cleanN, Day.wakeN, Day.rightN, Day.ND.i64, Day.waitR, Day.dueR, Day.ofR, Day.ofE, Day.noFr, wrap64, Day.modP, Day.modR, Day.slotP, Day.nextR, Day.atP, Day.atR, Day.aheadP, Day.aheadR]
    have hn2 : x0 = 3 ∨ x0 = 4 ∨ x0 = 5 ∨ x0 = 6 ∨ x0 = 7 ∨ x0 = 8 := by omega
    clear hn
    rcases hn2 with rfl | rfl | rfl | rfl | rfl | rfl <;> grind [Day.clampR, Day.upR, Day.downR, Day.sm, Day.i64, Day.u8, Day.u16, Day.u32, Day.right, Day.times, Day.ownE, Day.ownR, Day.idE, Day.freshN, Day.noND, Day.cleanN, Day.wakeN, Day.rightN, Day.ND.i64, Day.waitR, Day.dueR, Day.ofR, Day.ofE, Day.noFr, wrap64, Day.modP, Day.modR, Day.slotP, Day.nextR, Day.atP, Day.atR, Day.aheadP, Day.aheadR]
  · grind [Day.clampR, Day.upR, Day.downR, Day.sm, Day.i64, Day.u8, Day.u16, Day.u32, Day.right, Day.times, Day.ownE, Day.ownR, Day.idE, Day.freshN, Day.noND, Day.cleanN, Day.wakeN, Day.rightN, Day.ND.i64, Day.waitR, Day.dueR, Day.ofR, Day.ofE, Day.noFr, wrap64, Day.modP, Day.modR, Day.slotP, Day.nextR, Day.atP, Day.atR, Day.aheadP, Day.aheadR]
end Rx.S
namespace Rx.S
open Go Rx
set_option maxRecDepth 100000
set_option maxHeartbeats 1000000
set_option linter.unusedVariables false
set_option linter.unusedSimpArgs false
def g_ref03_Later : G := ⟨3, [⟨1, (.call 132), [V 0, N 3]⟩], [V 1], []⟩
theorem pure_ref03_Later (e : Nat → A) (H : FactsQ T e g_ref03_Later.defs) (hp : (true) = true) :
    ((e 1).bool = true) ∧ (Day.times 3 (e 0).int = (e 2).int) := by
  simp only [g_ref03_Later, FactsQ, Def.q, updQ, L.ev_var, L.ev_n, L.ev_t, L.ev_e, L.ev, A.int_i, A.bool_b, A.str_v, A.els_l, List.map_cons, List.map_nil, Nat.zero_add, Nat.add_zero, and_true, true_and, Nat.reduceAdd, Nat.one_mul] at H
  have q1 := H
  replace q1 := out_ref03_times q1
  obtain ⟨q1, q2⟩ := q1
  simp only [L.ev_var, L.ev_n, L.ev_t, L.ev_e, L.ev, A.int_i, A.bool_b, A.str_v] at q1 q2
  generalize (e 0).int = x0 at *
  generalize (e 1).bool = v1 at *
  generalize (e 2).int = v2 at *
  grind [Day.clampR, Day.upR, Day.downR, Day.sm, Day.i64, Day.u8, Day.u16, Day.u32, Day.right, Day.times, Day.ownE, Day.ownR, Day.idE, Day.freshN, Day.noND, Day.cleanN, Day.wakeN, Day.rightN, Day.ND.i64, Day.waitR, Day.dueR, Day.ofR, Day.ofE, Day.noFr, wrap64, Day.modP, Day.modR, Day.slotP, Day.nextR, Day.atP, Day.atR, Day.aheadP, Day.aheadR]
end Rx.S
namespace Rx.S
open Go Rx
set_option maxRecDepth 100000
set_option maxHeartbeats 1000000
set_option linter.unusedVariables false
set_option linter.unusedSimpArgs false
def g_ref03_Listen : G := ⟨5, [⟨2, (.call 131), [V 0, V 1, N 4]⟩], [V 2], []⟩
theorem pure_ref03_Listen (e : Nat → A) (H : FactsQ T e g_ref03_Listen.defs) (hp : (true) = true) :
    ((e 2).bool = true) ∧ (Day.ownR 4 (e 0).int (e 1).int = (e 3).int ∧ Day.ownE (e 0).int (e 1).int = (e 4).int) := by
  simp only [g_ref03_Listen, FactsQ, Def.q, updQ, L.ev_var, L.ev_n, L.ev_t, L.ev_e, L.ev, A.int_i, A.bool_b, A.str_v, A.els_l, List.map_cons, List.map_nil, Nat.zero_add, Nat.add_zero, and_true, true_and, Nat.reduceAdd, Nat.one_mul] at H
  have q2 := H
  replace q2 := out_ref03_of q2
  obtain ⟨q2, q3, q4⟩ := q2
  simp only [L.ev_var, L.ev_n, L.ev_t, L.ev_e, L.ev, A.int_i, A.bool_b, A.str_v] at q2 q3 q4
  generalize (e 0).int = x0 at *
  generalize (e 1).int = x1 at *
  generalize (e 2).bool = v2 at *
  generalize (e 3).int = v3 at *
  generalize (e 4).int = v4 at *
  grind [Day.clampR, Day.upR, Day.downR, Day.sm, Day.i64, Day.u8, Day.u16, Day.u32, Day.right, Day.times, Day.ownE, Day.ownR, Day.idE, Day.freshN, Day.noND, Day.cleanN, Day.wakeN, Day.rightN, Day.ND.i64, Day.waitR, Day.dueR, Day.ofR, Day.ofE, Day.noFr, wrap64, Day.modP, Day.modR, Day.slotP, Day.nextR, Day.atP, Day.atR, Day.aheadP, Day.aheadR]
end Rx.S
namespace Rx.S
open Go Rx
set_option maxRecDepth 100000
set_option maxHeartbeats 1000000
set_option linter.unusedVariables false
set_option linter.unusedSimpArgs false
def g_ref03_Stable : G := ⟨3, [⟨1, (.call 132), [V 0, N 96]⟩], [V 1], []⟩
theorem pure_ref03_Stable (e : Nat → A) (H : FactsQ T e g_ref03_Stable.defs) (hp : (true) = true) :
    ((e 1).bool = true) ∧ (Day.times 96 (e 0).int = (e 2).int) := by
  simp only [g_ref03_Stable, FactsQ, Def.q, updQ, L.ev_var, L.ev_n, L.ev_t, L.ev_e, L.ev, A.int_i, A.bool_b, A.str_v, A.els_l, List.map_cons, List.map_nil, Nat.zero_add, Nat.add_zero, and_true, true_and, Nat.reduceAdd, Nat.one_mul] at H
  have q1 := H
  replace q1 := out_ref03_times q1
  obtain ⟨q1, q2⟩ := q1
  simp only [L.ev_var, L.ev_n, L.ev_t, L.ev_e, L.ev, A.int_i, A.bool_b, A.str_v] at q1 q2
  generalize (e 0).int = x0 at *
  generalize (e 1).bool = v1 at *
  generalize (e 2).int = v2 at *
  grind [Day.clampR, Day.upR, Day.downR, Day.sm, Day.i64, Day.u8, Day.u16, Day.u32, Day.right, Day.times, Day.ownE, Day.ownR, Day.idE, Day.freshN, Day.noND, Day.cleanN, Day.wakeN, Day.rightN, Day.ND.i64, Day.waitR, Day.dueR, Day.ofR, Day.ofE, Day.noFr, wrap64, Day.modP, Day.modR, Day.slotP, Day.nextR, Day.atP, Day.atR, Day.aheadP, Day.aheadR]
end Rx.S
namespace Rx.S
open Go Rx
set_option maxRecDepth 100000
set_option maxHeartbeats 1000000
set_option linter.unusedVariables false
set_option linter.unusedSimpArgs false
def g_ref03_Start : G := ⟨3, [⟨1, (.call 132), [V 0, N 40]⟩], [V 1], []⟩
theorem pure_ref03_Start (e : Nat → A) (H : FactsQ T e g_ref03_Start.defs) (hp : (true) = true) :
    ((e 1).bool = true) ∧ (Day.times 40 (e 0).int = (e 2).int) := by
  simp only [g_ref03_Start, FactsQ, Def.q, updQ, L.ev_var, L.ev_n, L.ev_t, L.ev_e, L.ev, A.int_i, A.bool_b, A.str_v, A.els_l, List.map_cons, List.map_nil, Nat.zero_add, Nat.add_zero, and_true, true_and, Nat.reduceAdd, Nat.one_mul] at H
  have q1 := H
  replace q1 := out_ref03_times q1
  obtain ⟨q1, q2⟩ := q1
  simp only [L.ev_var, L.ev_n, L.ev_t, L.ev_e, L.ev, A.int_i, A.bool_b, A.str_v] at q1 q2
  generalize (e 0).int = x0 at *
  generalize (e 1).bool = v1 at *
  generalize (e 2).int = v2 at *
  grind [Day.clampR, Day.upR, Day.downR, Day.sm, Day.i64, Day.u8, Day.u16, Day.u32, Day.right, Day.times, Day.ownE, Day.ownR, Day.idE, Day.freshN, Day.noND, Day.cleanN, Day.wakeN, Day.rightN, Day.ND.i64, Day.waitR, Day.dueR, Day.ofR, Day.ofE, Day.noFr, wrap64, Day.modP, Day.modR, Day.slotP, Day.nextR, Day.atP, Day.atR, Day.aheadP, Day.aheadR]
end Rx.S
namespace Rx.S
open Go Rx
set_option maxRecDepth 100000
set_option maxHeartbeats 1000000
set_option linter.unusedVariables false
set_option linter.unusedSimpArgs false
def g_ref03_Watch : G := ⟨3, [⟨1, (.call 132), [V 0, N 8]⟩], [V 1], []⟩
theorem pure_ref03_Watch (e : Nat → A) (H : FactsQ T e g_ref03_Watch.defs) (hp : (true) = true) :
    ((e 1).bool = true) ∧ (Day.times 8 (e 0).int = (e 2).int) := by
  simp only [g_ref03_Watch, FactsQ, Def.q, updQ, L.ev_var, L.ev_n, L.ev_t, L.ev_e, L.ev, A.int_i, A.bool_b, A.str_v, A.els_l, List.map_cons, List.map_nil, Nat.zero_add, Nat.add_zero, and_true, true_and, Nat.reduceAdd, Nat.one_mul] at H
  have q1 := H
  replace q1 := out_ref03_times q1
  obtain ⟨q1, q2⟩ := q1
  simp only [L.ev_var, L.ev_n, L.ev_t, L.ev_e, L.ev, A.int_i, A.bool_b, A.str_v] at q1 q2
  generalize (e 0).int = x0 at *
  generalize (e 1).bool = v1 at *
  generalize (e 2).int = v2 at *
  grind [Day.clampR, Day.upR, Day.downR, Day.sm, Day.i64, Day.u8, Day.u16, Day.u32, Day.right, Day.times, Day.ownE, Day.ownR, Day.idE, Day.freshN, Day.noND, Day.cleanN, Day.wakeN, Day.rightN, Day.ND.i64, Day.waitR, Day.dueR, Day.ofR, Day.ofE, Day.noFr, wrap64, Day.modP, Day.modR, Day.slotP, Day.nextR, Day.atP, Day.atR, Day.aheadP, Day.aheadR]
end Rx.S
