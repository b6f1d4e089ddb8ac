import Derived.Test.YtngghkhjejkelaaWXt
set_option linter.unusedVariables false
set_option linter.unusedSimpArgs false
namespace Rx.S
open Go Rx
set_option maxRecDepth 100000
set_option maxHeartbeats 1000000
def F7 : G := ⟨58, [⟨57, .iteB, [V 18, V 54, V 17]⟩, ⟨56, .iteB, [V 18, V 53, B false]⟩, ⟨55, .not, [V 18]⟩, ⟨54, .iteB, [V 51, V 51, V 50]⟩, ⟨53, .iteB, [V 51, B false, V 49]⟩, ⟨52, .not, [V 51]⟩, ⟨51, .and, [V 20, V 48]⟩, ⟨50, .iteB, [V 19, V 21, V 47]⟩, ⟨49, .iteB, [V 19, V 26, V 46]⟩, ⟨48, .and, [V 33, V 45]⟩, ⟨47, .iteB, [V 32, V 34, V 44]⟩, ⟨46, .iteB, [V 32, V 25, V 43]⟩, ⟨45, .and, [V 37, V 39]⟩, ⟨44, .and, [V 36, V 38]⟩, ⟨43, (.cmp .eql), [V 41, V 4]⟩, ⟨42, .imp, [V 38, V 40]⟩, ⟨40, (.call 59), [V 0, V 4]⟩, ⟨39, .and, [V 35, V 37]⟩, ⟨38, .and, [V 35, V 36]⟩, ⟨37, .not, [V 36]⟩, ⟨36, (.cmp .eql), [V 2, N 3]⟩, ⟨35, .and, [V 22, V 33]⟩, ⟨34, .and, [V 22, V 32]⟩, ⟨33, .not, [V 32]⟩, ⟨32, .iteB, [V 27, V 27, V 31]⟩, ⟨31, (.cmp .eql), [V 2, N 2]⟩, ⟨30, .and, [V 22, V 28]⟩, ⟨29, .and, [V 22, V 27]⟩, ⟨28, .not, [V 27]⟩, ⟨27, (.cmp .eql), [V 2, N 1]⟩, ⟨26, .iteB, [V 23, V 25, B false]⟩, ⟨25, (.cmp .eql), [V 4, N 0]⟩, ⟨24, .and, [V 21, V 23]⟩, ⟨23, (.cmp .eql), [V 3, N 0]⟩, ⟨22, .and, [V 18, V 20]⟩, ⟨21, .and, [V 18, V 19]⟩, ⟨20, .not, [V 19]⟩, ⟨19, (.cmp .eql), [V 2, N 0]⟩, ⟨18, .not, [V 17]⟩, ⟨17, .iteB, [V 11, B true, V 16]⟩, ⟨16, (.cmp .neq), [V 14, V 3]⟩, ⟨15, .imp, [V 12, V 13]⟩, ⟨13, (.call 58), [V 3, N 0, N 1073741824]⟩, ⟨12, .not, [V 11]⟩, ⟨11, (.cmp .neq), [V 10, N 0]⟩, ⟨5, (.call 57), [V 0, V 1]⟩], [V 42, V 15, V 5], []⟩
theorem Ld (e : Nat → A) (H : Ak T e F7.defs) (hp : (Day.ND.i64 (Day.ND.mk (e 1).int (e 2).int (e 3).int (e 4).int)) = true) :
  ((e 42).bool = true ∧ (e 15).bool = true ∧ (e 5).bool = true) ∧ (Day.AE (e 0).int (Day.ND.mk (e 1).int (e 2).int (e 3).int (e 4).int) = (e 56).bool) := by
 simp only [F7, Ak, Def.q, C6, L.An, L.AO, L.By, L.BE, L.ev, A.As, A.Ax, A.AV, A.BX, List.map_cons, List.map_nil, Nat.zero_add, Nat.add_zero, and_true, true_and, Nat.reduceAdd, Nat.one_mul] at H
 simp only [HU, Ir, HV, B5, JU, Ko, Em, MG, and_true, true_and] at H
 obtain ⟨q57, q56, q55, q54, q53, q52, q51, q50, q49, q48, q47, q46, q45, q44, q43, q42, q40, q39, q38, q37, q36, q35, q34, q33, q32, q31, q30, q29, q28, q27, q26, q25, q24, q23, q22, q21, q20, q19, q18, q17, q16, q15, q13, q12, q11, q5⟩ := H
 replace q40 := Po q40
 obtain ⟨q40, q41⟩ := q40
 replace q13 := K9 q13
 obtain ⟨q13, q14⟩ := q13
 replace q5 := MP q5 _ rfl
 obtain ⟨q5, q6, q7, q8, q9, q10⟩ := q5
 simp only [L.An, L.AO, L.By, L.BE, L.ev, A.As, A.Ax, A.AV] at q40 q41 q13 q14 q5 q6 q7 q8 q9 q10
 generalize (e 0).int = x0, (e 1).int = x1, (e 2).int = x2, (e 3).int = x3, (e 4).int = x4, (e 5).bool = v5, (e 6).int = v6, (e 7).int = v7, (e 8).int = v8, (e 9).int = v9, (e 10).int = v10, (e 11).bool = v11, (e 12).bool = v12, (e 13).bool = v13, (e 14).int = v14, (e 15).bool = v15, (e 16).bool = v16, (e 17).bool = v17, (e 18).bool = v18, (e 19).bool = v19, (e 20).bool = v20, (e 21).bool = v21, (e 22).bool = v22, (e 23).bool = v23, (e 24).bool = v24, (e 25).bool = v25, (e 26).bool = v26, (e 27).bool = v27, (e 28).bool = v28, (e 29).bool = v29, (e 30).bool = v30, (e 31).bool = v31, (e 32).bool = v32, (e 33).bool = v33, (e 34).bool = v34, (e 35).bool = v35, (e 36).bool = v36, (e 37).bool = v37, (e 38).bool = v38, (e 39).bool = v39, (e 40).bool = v40, (e 41).int = v41, (e 42).bool = v42, (e 43).bool = v43, (e 44).bool = v44, (e 45).bool = v45, (e 46).bool = v46, (e 47).bool = v47, (e 48).bool = v48, (e 49).bool = v49, (e 50).bool = v50, (e 51).bool = v51, (e 52).bool = v52, (e 53).bool = v53, (e 54).bool = v54, (e 55).bool = v55, (e 56).bool = v56, (e 57).bool = v57 at *
 subst_vars
 simp only [Day.AE, Day.Nj, Day.right, Day.ND.i64, Day.i64, Day.Bw, Day.Ef, Day.Fw] at *
 by_cases hr : 3 ≤ x0 ∧ x0 ≤ 8
 ·have hn2 : x0 = 3 ∨ x0 = 4 ∨ x0 = 5 ∨ x0 = 6 ∨ x0 = 7 ∨ x0 = 8 := by omega
  clear hr
  rcases hn2 with rfl | rfl | rfl | rfl | rfl | rfl
  all_goals
   simp at hp
   simp
   rw [Bool.eq_iff_iff]
   simp
   grind
 ·have : (decide (3 ≤ x0) && decide (x0 ≤ 8)) = false := by simp; omega
  simp [this]
def F9 : G := ⟨23, [⟨22, .iteB, [V 18, V 18, V 17]⟩, ⟨21, .iteI, [V 18, V 1, N 0]⟩, ⟨20, .iteI, [V 18, N 0, V 16]⟩, ⟨19, .not, [V 18]⟩, ⟨18, .and, [V 5, V 15]⟩, ⟨17, .iteB, [V 4, V 4, V 14]⟩, ⟨16, .iteI, [V 4, N 1, N 2]⟩, ⟨15, .and, [V 11, V 13]⟩, ⟨14, .and, [V 10, V 12]⟩, ⟨13, .and, [V 5, V 11]⟩, ⟨12, .and, [V 5, V 10]⟩, ⟨11, .not, [V 10]⟩, ⟨10, .iteB, [V 6, B true, V 9]⟩, ⟨9, (.cmp .geq), [V 1, V 0]⟩, ⟨8, .and, [V 5, V 7]⟩, ⟨7, .not, [V 6]⟩, ⟨6, (.cmp .lss), [V 1, N 0]⟩, ⟨5, .not, [V 4]⟩, ⟨4, .not, [V 3]⟩, ⟨2, (.call 37), [V 0]⟩], [V 2], []⟩
theorem Lg (e : Nat → A) (H : Ak T e F9.defs) : ∀ r0, r0 = Day.BK (e 0).int (e 1).int → (true) = true →
  ((e 2).bool = true) ∧ (((r0)).id = (e 21).int ∧ ((r0)).mode = (0 : Int) ∧ ((r0)).count = (0 : Int) ∧ ((r0)).pos = (0 : Int) ∧ Day.Nj (e 0).int (e 1).int = (e 20).int) := by
 intro r0 hr0 hp
 subst hr0
 simp only [F9, Ak, Def.q, C6, L.An, L.AO, L.By, L.BE, L.ev, A.As, A.Ax, A.AV, A.BX, List.map_cons, List.map_nil, Nat.zero_add, Nat.add_zero, and_true, true_and, Nat.reduceAdd, Nat.one_mul] at H
 simp only [HU, Ir, HV, B5, JU, Ko, Em, MG, and_true, true_and] at H
 obtain ⟨q22, ⟨q21, -⟩, ⟨q20, -⟩, q19, q18, q17, ⟨q16, -⟩, q15, q14, q13, q12, q11, q10, q9, q8, q7, q6, q5, q4, q2⟩ := H
 replace q2 := G3 q2
 obtain ⟨q2, q3⟩ := q2
 simp only [L.An, L.AO, L.By, L.BE, L.ev, A.As, A.Ax, A.AV] at q2 q3
 generalize (e 0).int = x0, (e 1).int = x1, (e 2).bool = v2, (e 3).bool = v3, (e 4).bool = v4, (e 5).bool = v5, (e 6).bool = v6, (e 7).bool = v7, (e 8).bool = v8, (e 9).bool = v9, (e 10).bool = v10, (e 11).bool = v11, (e 12).bool = v12, (e 13).bool = v13, (e 14).bool = v14, (e 15).bool = v15, (e 16).int = v16, (e 17).bool = v17, (e 18).bool = v18, (e 19).bool = v19, (e 20).int = v20, (e 21).int = v21, (e 22).bool = v22 at *
 grind [Day.Bw, Day.Kp, Day.DA, Day.sm, Day.i64, Day.u8, Day.u16, Day.u32, Day.right, Day.times, Day.Dt, Day.C7, Day.Nj, Day.BK, Day.C1, Day.Cp, Day.DB, Day.AE, Day.ND.i64, Day.CO, Day.G0, Day.LH, Day.Pk, Day.B6, wrap64, Day.Ef, Day.Fw, Day.BN, Day.A8, Day.Qv, Day.atR, Day.Cn, Day.Co]
end Rx.S
