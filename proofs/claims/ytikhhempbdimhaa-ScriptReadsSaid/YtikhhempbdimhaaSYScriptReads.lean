import Derived.Test.YtikhhempbdimhaaSXt
set_option linter.unusedVariables false
set_option linter.unusedSimpArgs false
namespace Rx.S
open Go Rx
set_option maxRecDepth 100000
set_option maxHeartbeats 1000000
def C6 : G := ⟨102, [⟨101, .iteB, [V 3, V 3, V 2]⟩, ⟨100, .iteB, [V 3, V 98, V 5]⟩, ⟨99, .not, [V 3]⟩, ⟨98, .iteB, [V 8, V 96, B false]⟩, ⟨97, .imp, [V 10, V 95]⟩, ⟨95, (.call 8), [V 12, V 47, V 48, V 15, V 16, V 17, V 49, V 50, V 20, V 21, V 22, V 23, V 24, V 25, V 26, V 27, V 28, V 29, V 30, V 31, V 32, V 33, V 34, V 35, V 36, V 37, V 38, V 39, V 40, V 41, V 42, V 43, V 51, V 52, V 54, V 89, V 90, V 57, V 58, V 59, V 91, V 92, V 62, V 63, V 64, V 65, V 66, V 67, V 68, V 69, V 70, V 71, V 72, V 73, V 74, V 75, V 76, V 77, V 78, V 79, V 80, V 81, V 82, V 83, V 84, V 85, V 93, V 94]⟩, ⟨94, .iteI, [V 8, V 87, N 0]⟩, ⟨93, .iteA, [V 8, V 86, .e]⟩, ⟨92, .iteI, [V 8, V 61, N 0]⟩, ⟨91, .iteA, [V 8, V 60, .e]⟩, ⟨90, .iteI, [V 8, V 56, N 0]⟩, ⟨89, .iteA, [V 8, V 55, .e]⟩, ⟨88, .imp, [V 10, V 53]⟩, ⟨53, (.call 10), [V 0]⟩, ⟨52, .iteI, [V 8, V 45, N 0]⟩, ⟨51, .iteA, [V 8, V 44, .e]⟩, ⟨50, .iteI, [V 8, V 19, N 0]⟩, ⟨49, .iteA, [V 8, V 18, .e]⟩, ⟨48, .iteI, [V 8, V 14, N 0]⟩, ⟨47, .iteA, [V 8, V 13, .e]⟩, ⟨46, .imp, [V 10, V 11]⟩, ⟨11, (.call 9), [V 0]⟩, ⟨10, .and, [V 3, V 8]⟩, ⟨9, .imp, [V 3, V 7]⟩, ⟨7, (.call 7), []⟩, ⟨6, .imp, [V 2, V 4]⟩, ⟨4, (.call 7), []⟩, ⟨3, .not, [V 2]⟩, ⟨2, (.cmp .gtr), [V 1, N 3000]⟩, ⟨1, .slen, [V 0]⟩], [V 97, V 88, V 46, V 9, V 6], []⟩
theorem Hh (e : Nat → A) (H : Ab T e C6.defs) (hp : (true) = true) :
  ((e 97).bool = true ∧ (e 88).bool = true ∧ (e 46).bool = true ∧ (e 9).bool = true ∧ (e 6).bool = true) ∧ (true = (e 100).bool) := by
 simp only [C6, Ab, Def.q, BI, L.Ak, L.Aw, L.AS, L.AV, L.ev, A.Ai, A.Ao, A.AF, A.AT, List.map_cons, List.map_nil, Nat.zero_add, Nat.add_zero, and_true, true_and, Nat.reduceAdd, Nat.one_mul] at H
 simp only [D0, Ee, CW, Bg, Ef, Ey, BV, Fq, and_true, true_and] at H
 obtain ⟨q101, q100, q99, q98, q97, q95, ⟨q94, -⟩, q93, ⟨q92, -⟩, q91, ⟨q90, -⟩, q89, q88, q53, ⟨q52, -⟩, q51, ⟨q50, -⟩, q49, ⟨q48, -⟩, q47, q46, q11, q10, q9, q7, q6, q4, q3, q2, q1⟩ := H
 replace q95 := I6 q95 _ rfl _ rfl
 obtain ⟨q95, q96⟩ := q95
 replace q53 := I5 q53 _ rfl
 obtain ⟨q53, q54, q55, q56, q57, q58, q59, q60, q61, q62, q63, q64, q65, q66, q67, q68, q69, q70, q71, q72, q73, q74, q75, q76, q77, q78, q79, q80, q81, q82, q83, q84, q85, q86, q87⟩ := q53
 replace q11 := Cw q11 _ rfl
 obtain ⟨q11, q12, q13, q14, q15, q16, q17, q18, q19, q20, q21, q22, q23, q24, q25, q26, q27, q28, q29, q30, q31, q32, q33, q34, q35, q36, q37, q38, q39, q40, q41, q42, q43, q44, q45⟩ := q11
 replace q7 := Dd q7
 obtain ⟨q7, q8⟩ := q7
 replace q4 := Dd q4
 obtain ⟨q4, q5⟩ := q4
 simp only [L.Ak, L.Aw, L.AS, L.AV, L.ev, A.Ai, A.Ao, A.AF] at q95 q96 q53 q54 q55 q56 q57 q58 q59 q60 q61 q62 q63 q64 q65 q66 q67 q68 q69 q70 q71 q72 q73 q74 q75 q76 q77 q78 q79 q80 q81 q82 q83 q84 q85 q86 q87 q11 q12 q13 q14 q15 q16 q17 q18 q19 q20 q21 q22 q23 q24 q25 q26 q27 q28 q29 q30 q31 q32 q33 q34 q35 q36 q37 q38 q39 q40 q41 q42 q43 q44 q45 q7 q8 q4 q5
 generalize (e 0).str = x0, (e 1).int = v1, (e 2).bool = v2, (e 3).bool = v3, (e 4).bool = v4, (e 5).bool = v5, (e 6).bool = v6, (e 7).bool = v7, (e 8).bool = v8, (e 9).bool = v9, (e 10).bool = v10, (e 11).bool = v11, (e 12).int = v12, e 13 = v13, (e 14).int = v14, (e 15).int = v15, (e 16).int = v16, (e 17).bool = v17, e 18 = v18, (e 19).int = v19, (e 20).int = v20, (e 21).int = v21, (e 22).int = v22, (e 23).int = v23, (e 24).int = v24, (e 25).int = v25, (e 26).int = v26, (e 27).int = v27, (e 28).int = v28, (e 29).int = v29, (e 30).int = v30, (e 31).int = v31, (e 32).int = v32, (e 33).int = v33, (e 34).int = v34, (e 35).int = v35, (e 36).int = v36, (e 37).int = v37, (e 38).int = v38, (e 39).int = v39, (e 40).int = v40, (e 41).int = v41, (e 42).int = v42, (e 43).int = v43, e 44 = v44, (e 45).int = v45, (e 46).bool = v46, e 47 = v47, (e 48).int = v48, e 49 = v49, (e 50).int = v50, e 51 = v51, (e 52).int = v52, (e 53).bool = v53, (e 54).int = v54, e 55 = v55, (e 56).int = v56, (e 57).int = v57, (e 58).int = v58, (e 59).bool = v59, e 60 = v60, (e 61).int = v61, (e 62).int = v62, (e 63).int = v63, (e 64).int = v64, (e 65).int = v65, (e 66).int = v66, (e 67).int = v67, (e 68).int = v68, (e 69).int = v69, (e 70).int = v70, (e 71).int = v71, (e 72).int = v72, (e 73).int = v73, (e 74).int = v74, (e 75).int = v75, (e 76).int = v76, (e 77).int = v77, (e 78).int = v78, (e 79).int = v79, (e 80).int = v80, (e 81).int = v81, (e 82).int = v82, (e 83).int = v83, (e 84).int = v84, (e 85).int = v85, e 86 = v86, (e 87).int = v87, (e 88).bool = v88, e 89 = v89, (e 90).int = v90, e 91 = v91, (e 92).int = v92, e 93 = v93, (e 94).int = v94, (e 95).bool = v95, (e 96).bool = v96, (e 97).bool = v97, (e 98).bool = v98, (e 99).bool = v99, (e 100).bool = v100, (e 101).bool = v101 at *
 have h8 : v8 = true := q8
 simp only [h8, if_true] at q47 q48 q49 q50 q51 q52 q89 q90 q91 q92 q93 q94
 have h11 : v3 = true → v11 = true := fun h => by
  rw [q3, q2, q1] at h
  rw [q11]
  simp only [Day.FC, decide_eq_true_eq]
  simp at h
  omega
 have h95 : v95 = true := by
  rw [q95, q47, q48, q49, q50, q51, q52, q13, q14, q18, q19, q44, q45]
  exact Day.Yl x0
 have h96 : v96 = true := by
  rw [q96]
  subst_vars
  exact Day.VS _
 refine ⟨⟨by rw [q97]; exact Day.BF h95, ?_, ?_, by rw [q9]; exact Day.BF q7, by rw [q6]; exact Day.BF q4⟩, ?_⟩
 ·rw [q88, q53, ← q11, q10, h8]
  cases c : v3
  ·rfl
  ·rw [h11 c]; rfl
 ·rw [q46, q10, h8]
  cases c : v3
  ·rfl
  ·rw [h11 c]; rfl
 ·rw [q100, q98, h96, q5, h8]
  cases v3 <;> rfl
end Rx.S
