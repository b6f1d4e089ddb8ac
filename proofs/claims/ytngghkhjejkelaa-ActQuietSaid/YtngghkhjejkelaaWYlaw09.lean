import Derived.Test.YtngghkhjejkelaaWXt
set_option linter.unusedVariables false
set_option linter.unusedSimpArgs false
namespace Rx.S
open Go Rx
set_option maxRecDepth 100000
set_option maxHeartbeats 1000000
def E8 : G := ⟨23, [⟨22, .iteB, [V 20, V 21, B false]⟩, ⟨21, (.cmp .eql), [V 11, N 1]⟩, ⟨20, .iteB, [V 12, V 19, B false]⟩, ⟨19, .and, [V 18, V 17]⟩, ⟨18, (.cmp .eql), [V 1, N 0]⟩, ⟨17, .and, [V 16, V 15]⟩, ⟨16, (.cmp .eql), [V 2, N 3]⟩, ⟨15, .and, [V 14, V 13]⟩, ⟨14, (.cmp .eql), [V 3, N 0]⟩, ⟨13, (.cmp .eql), [V 4, N 2]⟩, ⟨12, (.cmp .eql), [V 5, N 0]⟩, ⟨6, (.call 28), [N 4, N 0, N 0, N 0, N 0, N 0, N 0, N 0, N 0]⟩, ⟨0, (.call 28), [N 4, N 0, N 2, N 0, N 0, N 1, N 1, N 0, N 0]⟩], [V 6, V 0], []⟩
theorem KF (e : Nat → A) (H : Ak T e E8.defs) (hp : (true) = true) :
  ((e 6).bool = true ∧ (e 0).bool = true) ∧ (true = (e 22).bool) := by
 simp only [E8, Ak, Def.q, C6, L.An, L.AO, L.By, L.BE, L.ev, A.As, A.Ax, A.AV, A.BX, List.map_cons, List.map_nil, Nat.zero_add, Nat.add_zero, and_true, true_and, Nat.reduceAdd, Nat.one_mul] at H
 simp only [HU, Ir, HV, B5, JU, Ko, Em, MG, and_true, true_and] at H
 obtain ⟨q22, q21, q20, q19, q18, q17, q16, q15, q14, q13, q12, q6, q0⟩ := H
 replace q6 := DM q6 _ rfl _ rfl
 obtain ⟨q6, q7, q8, q9, q10, q11⟩ := q6
 replace q0 := DM q0 _ rfl _ rfl
 obtain ⟨q0, q1, q2, q3, q4, q5⟩ := q0
 simp only [L.An, L.AO, L.By, L.BE, L.ev, A.As, A.Ax, A.AV] at q6 q7 q8 q9 q10 q11 q0 q1 q2 q3 q4 q5
 generalize (e 0).bool = v0, (e 1).int = v1, (e 2).int = v2, (e 3).int = v3, (e 4).int = v4, (e 5).int = v5, (e 6).bool = v6, (e 7).int = v7, (e 8).int = v8, (e 9).int = v9, (e 10).int = v10, (e 11).int = v11, (e 12).bool = v12, (e 13).bool = v13, (e 14).bool = v14, (e 15).bool = v15, (e 16).bool = v16, (e 17).bool = v17, (e 18).bool = v18, (e 19).bool = v19, (e 20).bool = v20, (e 21).bool = v21, (e 22).bool = v22 at *
 subst_vars
 decide +kernel
end Rx.S
