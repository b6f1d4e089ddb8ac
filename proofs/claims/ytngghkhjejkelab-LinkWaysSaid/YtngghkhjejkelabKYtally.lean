import Derived.Test.YtngghkhjejkelabKXt
set_option linter.unusedVariables false
set_option linter.unusedSimpArgs false
namespace Rx.S
open Go Rx
set_option maxRecDepth 100000
set_option maxHeartbeats 1000000
def g_tally_Up : G := ⟨8, [⟨7, .mn, [V 6, V 1]⟩, ⟨6, .iteI, [V 3, V 5, V 2]⟩, ⟨5, (.ar .add .i64), [V 2, N 1]⟩, ⟨4, .not, [V 3]⟩, ⟨3, (.cmp .lss), [V 2, V 1]⟩, ⟨2, .mx, [V 0, N 0]⟩], [], []⟩
theorem pure_tally_Up (e : Nat → A) (H : FactsQ T e g_tally_Up.defs) (hp : (Day.sm (e 1).int) = true) :
  (True) ∧ (Day.upR (e 0).int (e 1).int = (e 7).int) := by
 simp only [g_tally_Up, FactsQ, Def.q, updQ, L.ev_var, L.ev_n, L.ev_t, L.ev_e, L.ev, A.int_i, A.bool_b, A.str_v, A.els_l, List.map_cons, List.map_nil, Nat.zero_add, Nat.add_zero, and_true, true_and, Nat.reduceAdd, Nat.one_mul] at H
 simp only [arI, dvI, btI, cmpI, shI, ifQ, updV, ltQ, and_true, true_and] at H
 obtain ⟨q7, ⟨q6, -⟩, ⟨q5, -⟩, q4, q3, q2⟩ := H
 generalize (e 0).int = x0, (e 1).int = x1, (e 2).int = v2, (e 3).bool = v3, (e 4).bool = v4, (e 5).int = v5, (e 6).int = v6, (e 7).int = v7 at *
 grind [Day.clampR, Day.upR, Day.downR, Day.sm, Day.i64, Day.u8, Day.u16, Day.u32, Day.right, Day.times, Day.ownE, Day.ownR, Day.idE, Day.freshN, Day.noND, Day.cleanN, Day.wakeN, Day.rightN, Day.ND.i64, Day.waitR, Day.dueR, Day.ofR, Day.ofE, Day.noFr, wrap64, Day.modP, Day.modR, Day.slotP, Day.nextR, Day.atP, Day.atR, Day.aheadP, Day.aheadR]
def g_tally_Down : G := ⟨3, [⟨2, (.ar .sub .i64), [V 1, N 1]⟩, ⟨1, .mx, [V 0, N 1]⟩], [], []⟩
theorem pure_tally_Down (e : Nat → A) (H : FactsQ T e g_tally_Down.defs) (hp : (Day.i64 (e 0).int) = true) :
  (True) ∧ (Day.downR (e 0).int = (e 2).int) := by
 simp only [g_tally_Down, FactsQ, Def.q, updQ, L.ev_var, L.ev_n, L.ev_t, L.ev_e, L.ev, A.int_i, A.bool_b, A.str_v, A.els_l, List.map_cons, List.map_nil, Nat.zero_add, Nat.add_zero, and_true, true_and, Nat.reduceAdd, Nat.one_mul] at H
 simp only [arI, dvI, btI, cmpI, shI, ifQ, updV, ltQ, and_true, true_and] at H
 obtain ⟨⟨q2, -⟩, q1⟩ := H
 generalize (e 0).int = x0, (e 1).int = v1, (e 2).int = v2 at *
 grind [Day.clampR, Day.upR, Day.downR, Day.sm, Day.i64, Day.u8, Day.u16, Day.u32, Day.right, Day.times, Day.ownE, Day.ownR, Day.idE, Day.freshN, Day.noND, Day.cleanN, Day.wakeN, Day.rightN, Day.ND.i64, Day.waitR, Day.dueR, Day.ofR, Day.ofE, Day.noFr, wrap64, Day.modP, Day.modR, Day.slotP, Day.nextR, Day.atP, Day.atR, Day.aheadP, Day.aheadR]
def g_tally_Clamp : G := ⟨9, [⟨8, .iteB, [V 4, V 4, V 3]⟩, ⟨7, .iteI, [V 4, V 5, V 1]⟩, ⟨6, .not, [V 4]⟩, ⟨5, .mn, [V 0, V 2]⟩, ⟨4, .not, [V 3]⟩, ⟨3, (.cmp .lss), [V 0, V 1]⟩], [], []⟩
theorem pure_tally_Clamp (e : Nat → A) (H : FactsQ T e g_tally_Clamp.defs) (hp : (true) = true) :
  (True) ∧ (Day.clampR (e 0).int (e 1).int (e 2).int = (e 7).int) := by
 simp only [g_tally_Clamp, FactsQ, Def.q, updQ, L.ev_var, L.ev_n, L.ev_t, L.ev_e, L.ev, A.int_i, A.bool_b, A.str_v, A.els_l, List.map_cons, List.map_nil, Nat.zero_add, Nat.add_zero, and_true, true_and, Nat.reduceAdd, Nat.one_mul] at H
 simp only [arI, dvI, btI, cmpI, shI, ifQ, updV, ltQ, and_true, true_and] at H
 obtain ⟨q8, ⟨q7, -⟩, q6, q5, q4, q3⟩ := H
 generalize (e 0).int = x0, (e 1).int = x1, (e 2).int = x2, (e 3).bool = v3, (e 4).bool = v4, (e 5).int = v5, (e 6).bool = v6, (e 7).int = v7, (e 8).bool = v8 at *
 grind [Day.clampR, Day.upR, Day.downR, Day.sm, Day.i64, Day.u8, Day.u16, Day.u32, Day.right, Day.times, Day.ownE, Day.ownR, Day.idE, Day.freshN, Day.noND, Day.cleanN, Day.wakeN, Day.rightN, Day.ND.i64, Day.waitR, Day.dueR, Day.ofR, Day.ofE, Day.noFr, wrap64, Day.modP, Day.modR, Day.slotP, Day.nextR, Day.atP, Day.atR, Day.aheadP, Day.aheadR]
end Rx.S
