import Derived.Test.YtikhhempbdimhaaSXt
set_option linter.unusedVariables false
set_option linter.unusedSimpArgs false
namespace Rx.S
open Go Rx
set_option maxRecDepth 100000
set_option maxHeartbeats 1000000
def Gj : G := ⟨39, [⟨38, .iteB, [V 37, B true, B false]⟩, ⟨36, (.call 8), [V 1, V 2, V 3, V 4, V 5, V 6, V 7, V 8, V 9, V 10, V 11, V 12, V 13, V 14, V 15, V 16, V 17, V 18, V 19, V 20, V 21, V 22, V 23, V 24, V 25, V 26, V 27, V 28, V 29, V 30, V 31, V 32, V 33, V 34, N 3, V 35, N 3, N 0, N 0, B false, .e, N 0, N 0, N 0, N 0, N 0, N 0, N 0, N 0, N 0, N 0, N 0, N 0, N 0, N 0, N 0, N 0, N 0, N 0, N 0, N 0, N 0, N 0, N 0, N 0, N 0, .e, N 0]⟩, ⟨35, .mkl, [N 0, N 0, N 0]⟩, ⟨0, (.call 10), [.s [0, 0, 0, 0, 0, 0, 0, 0]]⟩], [V 36, V 0], []⟩
theorem Nx (e : Nat → A) (H : Ab T e Gj.defs) (hp : (true) = true) :
  ((e 36).bool = true ∧ (e 0).bool = true) ∧ (true = (e 38).bool) := by
 simp only [Gj, Ab, Def.q, BI, L.Ak, L.Aw, L.AS, L.AV, L.ev, A.Ai, A.Ao, A.AF, A.AT, List.map_cons, List.map_nil, Nat.zero_add, Nat.add_zero, and_true, true_and, Nat.reduceAdd, Nat.one_mul] at H
 simp only [D0, Ee, CW, Bg, Ef, Ey, BV, Fq, and_true, true_and] at H
 obtain ⟨q38, q36, q35, q0⟩ := H
 replace q36 := I6 q36 _ rfl _ rfl
 obtain ⟨q36, q37⟩ := q36
 replace q0 := I5 q0 _ rfl
 obtain ⟨q0, q1, q2, q3, q4, q5, q6, q7, q8, q9, q10, q11, q12, q13, q14, q15, q16, q17, q18, q19, q20, q21, q22, q23, q24, q25, q26, q27, q28, q29, q30, q31, q32, q33, q34⟩ := q0
 simp only [L.Ak, L.Aw, L.AS, L.AV, L.ev, A.Ai, A.Ao, A.AF] at q36 q37 q0 q1 q2 q3 q4 q5 q6 q7 q8 q9 q10 q11 q12 q13 q14 q15 q16 q17 q18 q19 q20 q21 q22 q23 q24 q25 q26 q27 q28 q29 q30 q31 q32 q33 q34
 generalize (e 0).bool = v0, (e 1).int = v1, e 2 = v2, (e 3).int = v3, (e 4).int = v4, (e 5).int = v5, (e 6).bool = v6, e 7 = v7, (e 8).int = v8, (e 9).int = v9, (e 10).int = v10, (e 11).int = v11, (e 12).int = v12, (e 13).int = v13, (e 14).int = v14, (e 15).int = v15, (e 16).int = v16, (e 17).int = v17, (e 18).int = v18, (e 19).int = v19, (e 20).int = v20, (e 21).int = v21, (e 22).int = v22, (e 23).int = v23, (e 24).int = v24, (e 25).int = v25, (e 26).int = v26, (e 27).int = v27, (e 28).int = v28, (e 29).int = v29, (e 30).int = v30, (e 31).int = v31, (e 32).int = v32, e 33 = v33, (e 34).int = v34, e 35 = v35, (e 36).bool = v36, (e 37).bool = v37, (e 38).bool = v38 at *
 subst_vars
 refine ⟨⟨?_, ?_⟩, ?_⟩ <;> decide +kernel
end Rx.S
