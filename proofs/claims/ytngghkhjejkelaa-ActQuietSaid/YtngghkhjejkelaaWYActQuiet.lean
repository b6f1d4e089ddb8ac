import Derived.Test.YtngghkhjejkelaaWXt
set_option linter.unusedVariables false
set_option linter.unusedSimpArgs false
namespace Rx.S
open Go Rx
set_option maxRecDepth 100000
set_option maxHeartbeats 1000000
def C9 : G := ⟨77, [⟨76, .iteB, [V 43, V 72, V 42]⟩, ⟨75, .iteI, [V 43, V 71, V 15]⟩, ⟨74, .iteB, [V 43, V 70, B false]⟩, ⟨73, .not, [V 43]⟩, ⟨72, .iteB, [V 56, V 56, V 55]⟩, ⟨71, .iteI, [V 56, V 44, V 15]⟩, ⟨70, .iteB, [V 56, V 68, V 54]⟩, ⟨69, .not, [V 56]⟩, ⟨68, .iteB, [V 58, V 67, B false]⟩, ⟨67, .and, [V 66, V 65]⟩, ⟨66, (.cmp .eql), [V 17, V 9]⟩, ⟨65, .and, [V 64, V 63]⟩, ⟨64, (.cmp .eql), [V 18, N 3]⟩, ⟨63, .and, [V 62, V 61]⟩, ⟨62, (.cmp .eql), [V 19, V 44]⟩, ⟨61, (.cmp .eql), [V 20, V 11]⟩, ⟨60, .and, [V 56, V 58]⟩, ⟨59, .imp, [V 56, V 57]⟩, ⟨57, (.call 27), []⟩, ⟨56, .and, [V 46, V 48]⟩, ⟨55, .and, [V 45, V 47]⟩, ⟨54, .iteB, [V 50, V 53, B false]⟩, ⟨53, (.cmp .neq), [V 18, N 3]⟩, ⟨52, .and, [V 47, V 50]⟩, ⟨51, .imp, [V 47, V 49]⟩, ⟨49, (.call 27), []⟩, ⟨48, .and, [V 43, V 46]⟩, ⟨47, .and, [V 43, V 45]⟩, ⟨46, .not, [V 45]⟩, ⟨45, (.cmp .geq), [V 44, V 13]⟩, ⟨44, (.ar .add .i64), [V 15, V 6]⟩, ⟨43, .not, [V 42]⟩, ⟨42, .iteB, [V 32, B true, V 41]⟩, ⟨41, .not, [V 40]⟩, ⟨40, .and, [V 39, V 38]⟩, ⟨39, (.cmp .eql), [V 24, V 9]⟩, ⟨38, .and, [V 37, V 36]⟩, ⟨37, (.cmp .eql), [V 25, N 1]⟩, ⟨36, .and, [V 35, V 34]⟩, ⟨35, (.cmp .eql), [V 26, N 0]⟩, ⟨34, (.cmp .eql), [V 27, N 0]⟩, ⟨33, .not, [V 32]⟩, ⟨32, .iteB, [V 29, B true, V 31]⟩, ⟨31, (.cmp .neq), [V 28, N 0]⟩, ⟨30, .not, [V 29]⟩, ⟨29, (.cmp .neq), [V 21, N 0]⟩, ⟨23, (.call 31), [V 6, V 9, N 3, V 15, V 11, V 22]⟩, ⟨22, (.ar .sub .i64), [V 13, V 15]⟩, ⟨16, (.call 31), [V 6, V 9, N 3, V 15, V 11, V 6]⟩, ⟨15, (.dv .rem .i64), [V 12, V 13]⟩, ⟨14, (.cmp .neq), [V 13, N 0]⟩, ⟨13, (.ar .mul .i64), [N 8, V 6]⟩, ⟨12, (.conv .i64), [V 3]⟩, ⟨11, (.dv .rem .i64), [V 10, V 6]⟩, ⟨10, (.conv .i64), [V 2]⟩, ⟨9, (.dv .rem .i64), [V 7, V 6]⟩, ⟨8, (.cmp .neq), [V 6, N 0]⟩, ⟨7, (.conv .i64), [V 1]⟩, ⟨6, (.ar .add .i64), [N 3, V 5]⟩, ⟨5, (.conv .i64), [V 4]⟩, ⟨4, (.dv .rem .u8), [V 0, N 6]⟩], [V 59, V 51, V 23, V 16, V 14, V 8], []⟩
theorem HL (e : Nat → A) (H : Ak T e C9.defs) (hp : (Day.u8 (e 0).int && (Day.u8 (e 1).int && (Day.u8 (e 2).int && Day.u16 (e 3).int))) = true) :
  ((e 59).bool = true ∧ (e 51).bool = true ∧ (e 23).bool = true ∧ (e 16).bool = true ∧ (e 14).bool = true ∧ (e 8).bool = true) ∧ (true = (e 74).bool) := by
 simp only [C9, Ak, Def.q, C6, L.An, L.AO, L.By, L.BE, L.ev, A.As, A.Ax, A.AV, A.BX, List.map_cons, List.map_nil, Nat.zero_add, Nat.add_zero, and_true, true_and, Nat.reduceAdd, Nat.one_mul] at H
 simp only [HU, Ir, HV, B5, JU, Ko, Em, MG, and_true, true_and] at H
 obtain ⟨q76, ⟨q75, -⟩, q74, q73, q72, ⟨q71, -⟩, q70, q69, q68, q67, q66, q65, q64, q63, q62, q61, q60, q59, q57, q56, q55, q54, q53, q52, q51, q49, q48, q47, q46, q45, ⟨q44, -⟩, q43, q42, q41, q40, q39, q38, q37, q36, q35, q34, q33, q32, q31, q30, q29, q23, ⟨q22, -⟩, q16, ⟨q15, -⟩, q14, ⟨q13, -⟩, ⟨q12, -⟩, ⟨q11, -⟩, ⟨q10, -⟩, ⟨q9, -⟩, q8, ⟨q7, -⟩, ⟨q6, -⟩, ⟨q5, -⟩, ⟨q4, -⟩⟩ := H
 replace q57 := Gq q57
 obtain ⟨q57, q58⟩ := q57
 replace q49 := Gq q49
 obtain ⟨q49, q50⟩ := q49
 replace q23 := Ij q23 _ rfl _ rfl
 obtain ⟨q23, q24, q25, q26, q27, q28⟩ := q23
 replace q16 := Ij q16 _ rfl _ rfl
 obtain ⟨q16, q17, q18, q19, q20, q21⟩ := q16
 simp only [L.An, L.AO, L.By, L.BE, L.ev, A.As, A.Ax, A.AV] at q57 q58 q49 q50 q23 q24 q25 q26 q27 q28 q16 q17 q18 q19 q20 q21
 generalize (e 0).int = x0, (e 1).int = x1, (e 2).int = x2, (e 3).int = x3, (e 4).int = v4, (e 5).int = v5, (e 6).int = v6, (e 7).int = v7, (e 8).bool = v8, (e 9).int = v9, (e 10).int = v10, (e 11).int = v11, (e 12).int = v12, (e 13).int = v13, (e 14).bool = v14, (e 15).int = v15, (e 16).bool = v16, (e 17).int = v17, (e 18).int = v18, (e 19).int = v19, (e 20).int = v20, (e 21).int = v21, (e 22).int = v22, (e 23).bool = v23, (e 24).int = v24, (e 25).int = v25, (e 26).int = v26, (e 27).int = v27, (e 28).int = v28, (e 29).bool = v29, (e 30).bool = v30, (e 31).bool = v31, (e 32).bool = v32, (e 33).bool = v33, (e 34).bool = v34, (e 35).bool = v35, (e 36).bool = v36, (e 37).bool = v37, (e 38).bool = v38, (e 39).bool = v39, (e 40).bool = v40, (e 41).bool = v41, (e 42).bool = v42, (e 43).bool = v43, (e 44).int = v44, (e 45).bool = v45, (e 46).bool = v46, (e 47).bool = v47, (e 48).bool = v48, (e 49).bool = v49, (e 50).bool = v50, (e 51).bool = v51, (e 52).bool = v52, (e 53).bool = v53, (e 54).bool = v54, (e 55).bool = v55, (e 56).bool = v56, (e 57).bool = v57, (e 58).bool = v58, (e 59).bool = v59, (e 60).bool = v60, (e 61).bool = v61, (e 62).bool = v62, (e 63).bool = v63, (e 64).bool = v64, (e 65).bool = v65, (e 66).bool = v66, (e 67).bool = v67, (e 68).bool = v68, (e 69).bool = v69, (e 70).bool = v70, (e 71).int = v71, (e 72).bool = v72, (e 73).bool = v73, (e 74).bool = v74, (e 75).int = v75, (e 76).bool = v76 at *
 simp only [Bool.and_eq_true] at hp
 obtain ⟨h0, h1, h2, h3⟩ := hp
 obtain ⟨-, hR⟩ := Day.Vz h0 q4 q5 q6
 clear q4 q5 q6
 have hn : 3 ≤ v6 ∧ v6 ≤ 8 := by simpa [Day.right] using hR
 simp only [Day.u8, Day.u16, Bool.and_eq_true, decide_eq_true_eq] at h1 h2 h3
 have w13 : v13 = 8 * v6 := by rw [q13]; exact wrap64 (by omega) (by omega)
 have hi : 0 ≤ v9 ∧ v9 < v6 := by
  rw [q9, q7, wrap64 (by omega) (by omega)]
  exact ⟨Int.tmod_nonneg _ h1.1, Int.tmod_lt_of_pos _ (by omega)⟩
 have hps : 0 ≤ v11 ∧ v11 < v6 := by
  rw [q11, q10, wrap64 (by omega) (by omega)]
  exact ⟨Int.tmod_nonneg _ h2.1, Int.tmod_lt_of_pos _ (by omega)⟩
 have hc : 0 ≤ v15 ∧ v15 < 8 * v6 := by
  rw [q15, q12, w13, wrap64 (by omega) (by omega)]
  exact ⟨Int.tmod_nonneg _ h3.1, Int.tmod_lt_of_pos _ (by omega)⟩
 have w22 : v22 = 8 * v6 - v15 := by rw [q22, w13]; exact wrap64 (by omega) (by omega)
 have w44 : v44 = v15 + v6 := by rw [q44]; exact wrap64 (by omega) (by omega)
 clear q9 q7 q11 q10 q15 q12 q13 q22 q44
 have n6 : v6 ≠ 0 := by omega
 have n8 : 8 * v6 ≠ 0 := by omega
 obtain ⟨k1, k2, k3, k4, k5⟩ := Day.Sx hn hi hc hps
 have hI : (Day.ND.mk v9 3 v15 v11).i64 = true := Day.MJ (Day.Cy.1 (Day.Pn hn hi hc hps)).1
 subst w22 w13 w44
 rw [k3] at q24 q25 q26 q27
 rw [k2] at q28
 rw [k1] at q21
 by_cases hlt : v15 + v6 < 8 * v6
 ·have k4 := k4 hlt
  have hle : ¬ 8 * v6 ≤ v15 + v6 := by omega
  rw [k4] at q17 q18 q19 q20
  subst_vars
  simp [hI, hle, n6]
 ·have hle : 8 * v6 ≤ v15 + v6 := by omega
  have k5 := k5 hle
  generalize Day.B3 v6 ⟨v9, 3, v15, v11⟩ v6 = Y at *
  subst_vars
  simp [hI, hle, n6, k5]
end Rx.S
