import Derived.Test.YtngghkhjejkelaaFXt
set_option linter.unusedVariables false
set_option linter.unusedSimpArgs false
namespace Rx.S
open Go Rx
set_option maxRecDepth 100000
set_option maxHeartbeats 1000000
def Fm : G := ⟨26, [⟨25, .iteB, [V 20, V 24, B false]⟩, ⟨24, .not, [V 22]⟩, ⟨23, .imp, [V 20, V 21]⟩, ⟨21, (.call 19), [N 3, N 0, N 1]⟩, ⟨20, .iteB, [V 12, V 19, B false]⟩, ⟨19, .and, [V 18, V 17]⟩, ⟨18, .Qq, [V 14, B true]⟩, ⟨17, .Qq, [V 15, B false]⟩, ⟨16, .imp, [V 12, V 13]⟩, ⟨13, (.call 16), [N 2, N 1, .s [], .s [], V 2, N 2, N 1]⟩, ⟨12, .iteB, [V 7, V 11, B false]⟩, ⟨11, .eqS, [V 9, .s [0]]⟩, ⟨10, .imp, [V 7, V 8]⟩, ⟨8, (.call 12), [N 2, N 1, .s [], .s [], V 2, N 2, N 1, N 1, N 1, N 1, N 0]⟩, ⟨7, .iteB, [V 1, V 6, B false]⟩, ⟨6, .eqS, [V 4, .s []]⟩, ⟨5, .imp, [V 1, V 3]⟩, ⟨3, (.call 12), [N 2, N 1, .s [], .s [], V 2, N 2, N 1, N 1, N 0, N 1, N 0]⟩, ⟨2, .mkl, [N 1, N 2]⟩, ⟨0, (.call 19), [N 3, N 2, N 1]⟩], [V 23, V 16, V 10, V 5, V 0], []⟩
theorem K5 (e : Nat → A) (H : Ah T e Fm.defs) (hp : (true) = true) :
  ((e 23).bool = true ∧ (e 16).bool = true ∧ (e 10).bool = true ∧ (e 5).bool = true ∧ (e 0).bool = true) ∧ (true = (e 25).bool) := by
 simp only [Fm, Ah, Def.q, BQ, L.Al, L.Az, L.AX, L.A1, L.ev, A.Ak, A.Ap, A.AD, A.AW, List.map_cons, List.map_nil, Nat.zero_add, Nat.add_zero, and_true, true_and, Nat.reduceAdd, Nat.one_mul] at H
 simp only [EA, EW, Db, Bc, Fo, FK, B9, GS, and_true, true_and] at H
 obtain ⟨q25, q24, q23, q21, q20, q19, q18, q17, q16, q13, q12, q11, q10, q8, q7, q6, q5, q3, q2, q0⟩ := H
 replace q21 := CD q21
 obtain ⟨q21, q22⟩ := q21
 replace q13 := CJ q13 _ rfl
 obtain ⟨q13, q14, q15⟩ := q13
 replace q8 := Dq q8 _ rfl
 obtain ⟨q8, q9⟩ := q8
 replace q3 := Dq q3 _ rfl
 obtain ⟨q3, q4⟩ := q3
 replace q0 := CD q0
 obtain ⟨q0, q1⟩ := q0
 simp only [L.Al, L.Az, L.AX, L.A1, L.ev, A.Ak, A.Ap, A.AD] at q21 q22 q13 q14 q15 q8 q9 q3 q4 q0 q1
 generalize (e 0).bool = v0, (e 1).bool = v1, e 2 = v2, (e 3).bool = v3, (e 4).str = v4, (e 5).bool = v5, (e 6).bool = v6, (e 7).bool = v7, (e 8).bool = v8, (e 9).str = v9, (e 10).bool = v10, (e 11).bool = v11, (e 12).bool = v12, (e 13).bool = v13, (e 14).bool = v14, (e 15).bool = v15, (e 16).bool = v16, (e 17).bool = v17, (e 18).bool = v18, (e 19).bool = v19, (e 20).bool = v20, (e 21).bool = v21, (e 22).bool = v22, (e 23).bool = v23, (e 24).bool = v24, (e 25).bool = v25 at *
 subst_vars
 decide +kernel
end Rx.S
