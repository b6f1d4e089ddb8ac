import Derived.Test.YtngghkhjejkelabMXt
set_option linter.unusedVariables false
set_option linter.unusedSimpArgs false
namespace Rx.S
open Go Rx
set_option maxRecDepth 100000
set_option maxHeartbeats 1000000
def HG : G := ⟨81, [⟨80, .iteB, [V 78, V 79, B false]⟩, ⟨79, (.cmp .eql), [V 25, N 2]⟩, ⟨78, .iteB, [V 54, V 77, B false]⟩, ⟨77, .and, [V 76, V 75]⟩, ⟨76, (.cmp .eql), [V 17, V 29]⟩, ⟨75, .and, [V 74, V 73]⟩, ⟨74, (.cmp .eql), [V 18, V 30]⟩, ⟨73, .and, [V 72, V 71]⟩, ⟨72, (.cmp .eql), [V 19, V 31]⟩, ⟨71, .and, [V 70, V 69]⟩, ⟨70, (.cmp .eql), [V 20, V 32]⟩, ⟨69, .and, [V 68, V 67]⟩, ⟨68, (.cmp .eql), [V 21, V 33]⟩, ⟨67, .and, [V 66, V 65]⟩, ⟨66, (.cmp .eql), [V 22, V 34]⟩, ⟨65, .and, [V 64, V 63]⟩, ⟨64, (.cmp .eql), [V 23, V 35]⟩, ⟨63, .and, [V 62, V 61]⟩, ⟨62, (.cmp .eql), [V 24, V 36]⟩, ⟨61, .and, [V 60, V 59]⟩, ⟨60, (.cmp .eql), [V 25, V 37]⟩, ⟨59, .and, [V 58, V 57]⟩, ⟨58, (.cmp .eql), [V 26, V 38]⟩, ⟨57, .and, [V 56, V 55]⟩, ⟨56, (.cmp .eql), [V 27, V 39]⟩, ⟨55, (.cmp .eql), [V 28, V 40]⟩, ⟨54, .iteB, [V 46, V 53, B false]⟩, ⟨53, .and, [V 52, V 51]⟩, ⟨52, (.cmp .eql), [V 41, N 1]⟩, ⟨51, .and, [V 50, V 49]⟩, ⟨50, (.cmp .eql), [V 42, N 2]⟩, ⟨49, .and, [V 48, V 47]⟩, ⟨48, (.cmp .eql), [V 43, N 1]⟩, ⟨47, (.cmp .eql), [V 44, N 2]⟩, ⟨46, (.cmp .eql), [V 45, N 0]⟩, ⟨16, (.call 13), [N 3, V 1, V 2, V 3, V 4, V 5, V 6, V 7, V 8, V 9, V 10, V 11, V 12, V 1, V 2, V 3, V 4, V 5, V 6, V 7, V 8, V 9, V 10, V 11, V 12, V 14, N 3, V 15, N 3, B true, B true]⟩, ⟨15, .mkl, [N 0, N 0, N 0, N 0, N 1, N 2]⟩, ⟨14, .mkl, [N 0, N 0, N 0, N 0, N 0, N 0]⟩, ⟨0, (.call 14), [N 3]⟩], [V 16, V 0], []⟩
theorem PF (e : Nat → A) (H : Ac T e HG.defs) (hp : (true) = true) :
  ((e 16).bool = true ∧ (e 0).bool = true) ∧ (true = (e 80).bool) := by
 simp only [HG, Ac, Def.q, Bc, L.Ae, L.Aq, L.AE, L.AF, L.ev, A.Ad, A.Ah, A.As, A.AJ, List.map_cons, List.map_nil, Nat.zero_add, Nat.add_zero, and_true, true_and, Nat.reduceAdd, Nat.one_mul] at H
 simp only [C0, C1, CN, A3, De, Dg, Bm, Dw, and_true, true_and] at H
 obtain ⟨q80, q79, q78, q77, q76, q75, q74, q73, q72, q71, q70, q69, q68, q67, q66, q65, q64, q63, q62, q61, q60, q59, q58, q57, q56, q55, q54, q53, q52, q51, q50, q49, q48, q47, q46, q16, q15, q14, q0⟩ := H
 replace q16 := Mf q16 _ rfl _ rfl _ rfl _ rfl
 obtain ⟨q16, q17, q18, q19, q20, q21, q22, q23, q24, q25, q26, q27, q28, q29, q30, q31, q32, q33, q34, q35, q36, q37, q38, q39, q40, q41, q42, q43, q44, q45⟩ := q16
 replace q0 := JD q0 _ rfl
 obtain ⟨q0, q1, q2, q3, q4, q5, q6, q7, q8, q9, q10, q11, q12, q13⟩ := q0
 simp only [L.Ae, L.Aq, L.AE, L.AF, L.ev, A.Ad, A.Ah, A.As] at q16 q17 q18 q19 q20 q21 q22 q23 q24 q25 q26 q27 q28 q29 q30 q31 q32 q33 q34 q35 q36 q37 q38 q39 q40 q41 q42 q43 q44 q45 q0 q1 q2 q3 q4 q5 q6 q7 q8 q9 q10 q11 q12 q13
 generalize (e 0).bool = v0, (e 1).int = v1, (e 2).int = v2, (e 3).int = v3, (e 4).int = v4, (e 5).int = v5, (e 6).int = v6, (e 7).int = v7, (e 8).int = v8, (e 9).int = v9, (e 10).int = v10, (e 11).int = v11, (e 12).int = v12, (e 13).int = v13, e 14 = v14, e 15 = v15, (e 16).bool = v16, (e 17).int = v17, (e 18).int = v18, (e 19).int = v19, (e 20).int = v20, (e 21).int = v21, (e 22).int = v22, (e 23).int = v23, (e 24).int = v24, (e 25).int = v25, (e 26).int = v26, (e 27).int = v27, (e 28).int = v28, (e 29).int = v29, (e 30).int = v30, (e 31).int = v31, (e 32).int = v32, (e 33).int = v33, (e 34).int = v34, (e 35).int = v35, (e 36).int = v36, (e 37).int = v37, (e 38).int = v38, (e 39).int = v39, (e 40).int = v40, (e 41).int = v41, (e 42).int = v42, (e 43).int = v43, (e 44).int = v44, (e 45).int = v45, (e 46).bool = v46, (e 47).bool = v47, (e 48).bool = v48, (e 49).bool = v49, (e 50).bool = v50, (e 51).bool = v51, (e 52).bool = v52, (e 53).bool = v53, (e 54).bool = v54, (e 55).bool = v55, (e 56).bool = v56, (e 57).bool = v57, (e 58).bool = v58, (e 59).bool = v59, (e 60).bool = v60, (e 61).bool = v61, (e 62).bool = v62, (e 63).bool = v63, (e 64).bool = v64, (e 65).bool = v65, (e 66).bool = v66, (e 67).bool = v67, (e 68).bool = v68, (e 69).bool = v69, (e 70).bool = v70, (e 71).bool = v71, (e 72).bool = v72, (e 73).bool = v73, (e 74).bool = v74, (e 75).bool = v75, (e 76).bool = v76, (e 77).bool = v77, (e 78).bool = v78, (e 79).bool = v79, (e 80).bool = v80 at *
 subst_vars
 decide +kernel
end Rx.S
