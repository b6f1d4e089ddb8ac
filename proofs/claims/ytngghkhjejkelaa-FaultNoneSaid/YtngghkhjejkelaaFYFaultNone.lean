import Derived.Test.YtngghkhjejkelaaFXt
set_option linter.unusedVariables false
set_option linter.unusedSimpArgs false
namespace Rx.S
open Go Rx
set_option maxRecDepth 100000
set_option maxHeartbeats 1000000
def Da : G := ⟨100, [⟨99, .iteB, [V 15, V 96, V 14]⟩, ⟨98, .iteB, [V 15, V 95, V 17]⟩, ⟨97, .not, [V 15]⟩, ⟨96, .iteB, [V 43, V 93, V 42]⟩, ⟨95, .iteB, [V 43, V 92, B false]⟩, ⟨94, .not, [V 43]⟩, ⟨93, .iteB, [V 56, V 56, V 55]⟩, ⟨92, .iteB, [V 56, V 90, B false]⟩, ⟨91, .not, [V 56]⟩, ⟨90, .iteB, [V 80, V 89, B false]⟩, ⟨89, .iteB, [V 82, B true, V 88]⟩, ⟨88, .and, [V 87, V 86]⟩, ⟨87, .Qq, [V 58, B true]⟩, ⟨86, .Qq, [V 59, B true]⟩, ⟨85, .and, [V 84, V 80]⟩, ⟨84, .and, [V 56, V 83]⟩, ⟨83, .not, [V 82]⟩, ⟨82, (.cmp .eql), [V 1, N 2]⟩, ⟨81, .and, [V 56, V 80]⟩, ⟨80, .iteB, [V 74, V 79, B false]⟩, ⟨79, .iteB, [V 58, B true, V 59]⟩, ⟨78, .and, [V 77, V 74]⟩, ⟨77, .and, [V 56, V 76]⟩, ⟨76, .not, [V 58]⟩, ⟨75, .and, [V 56, V 74]⟩, ⟨74, .iteB, [V 62, V 73, B false]⟩, ⟨73, .iteB, [V 68, B true, V 72]⟩, ⟨72, .eqS, [V 23, .s [0]]⟩, ⟨71, .and, [V 70, V 62]⟩, ⟨70, .and, [V 56, V 69]⟩, ⟨69, .not, [V 68]⟩, ⟨68, .iteB, [V 49, B true, V 67]⟩, ⟨67, .eqS, [V 23, .s []]⟩, ⟨66, .and, [V 65, V 62]⟩, ⟨65, .and, [V 56, V 50]⟩, ⟨64, .and, [V 56, V 62]⟩, ⟨63, .imp, [V 56, V 61]⟩, ⟨61, (.call 10), []⟩, ⟨60, .imp, [V 56, V 57]⟩, ⟨57, (.call 16), [V 1, V 2, V 3, V 4, V 5, V 6, V 7]⟩, ⟨56, .and, [V 52, V 54]⟩, ⟨55, .and, [V 51, V 53]⟩, ⟨54, .and, [V 43, V 52]⟩, ⟨53, .and, [V 43, V 51]⟩, ⟨52, .not, [V 51]⟩, ⟨51, .iteB, [V 47, V 50, B false]⟩, ⟨50, .not, [V 49]⟩, ⟨49, .eqS, [V 23, V 20]⟩, ⟨48, .and, [V 43, V 47]⟩, ⟨47, .not, [V 45]⟩, ⟨46, .imp, [V 43, V 44]⟩, ⟨44, (.call 15), [V 1, V 2, V 8]⟩, ⟨43, .and, [V 39, V 41]⟩, ⟨42, .and, [V 38, V 40]⟩, ⟨41, .and, [V 15, V 39]⟩, ⟨40, .and, [V 15, V 38]⟩, ⟨39, .not, [V 38]⟩, ⟨38, .iteB, [V 28, V 37, B false]⟩, ⟨37, .not, [V 36]⟩, ⟨36, .and, [V 35, V 34]⟩, ⟨35, .eqS, [V 31, V 20]⟩, ⟨34, .eqS, [V 32, V 20]⟩, ⟨33, .imp, [V 29, V 30]⟩, ⟨30, (.call 14), [V 1, V 2, V 3, V 4, V 5, V 6, V 7, V 9, V 10, V 11]⟩, ⟨29, .and, [V 15, V 28]⟩, ⟨28, .not, [V 26]⟩, ⟨27, .imp, [V 15, V 25]⟩, ⟨25, (.call 13), [V 1, V 2, V 9]⟩, ⟨24, .imp, [V 15, V 22]⟩, ⟨22, (.call 12), [V 1, V 2, V 3, V 4, V 5, V 6, V 7, V 8, V 9, V 10, V 11]⟩, ⟨21, .imp, [V 15, V 19]⟩, ⟨19, (.call 11), [V 10, V 11]⟩, ⟨18, .imp, [V 14, V 16]⟩, ⟨16, (.call 10), []⟩, ⟨15, .not, [V 14]⟩, ⟨14, .not, [V 13]⟩, ⟨12, (.call 9), [V 3, V 4, V 5, V 6, V 7]⟩], [V 63, V 60, V 46, V 33, V 27, V 24, V 21, V 18, V 12], []⟩
theorem HN (e : Nat → A) (H : Ah T e Da.defs) (hp : (true) = true) :
  ((e 63).bool = true ∧ (e 60).bool = true ∧ (e 46).bool = true ∧ (e 33).bool = true ∧ (e 27).bool = true ∧ (e 24).bool = true ∧ (e 21).bool = true ∧ (e 18).bool = true ∧ (e 12).bool = true) ∧ (true = (e 98).bool) := by
 simp only [Da, Ah, Def.q, BQ, L.Al, L.Az, L.AX, L.A1, L.ev, A.Ak, A.Ap, A.AD, A.AW, List.map_cons, List.map_nil, Nat.zero_add, Nat.add_zero, and_true, true_and, Nat.reduceAdd, Nat.one_mul] at H
 simp only [EA, EW, Db, Bc, Fo, FK, B9, GS, and_true, true_and] at H
 obtain ⟨q99, q98, q97, q96, q95, q94, q93, q92, q91, q90, q89, q88, q87, q86, q85, q84, q83, q82, q81, q80, q79, q78, q77, q76, q75, q74, q73, q72, q71, q70, q69, q68, q67, q66, q65, q64, q63, q61, q60, q57, q56, q55, q54, q53, q52, q51, q50, q49, q48, q47, q46, q44, q43, q42, q41, q40, q39, q38, q37, q36, q35, q34, q33, q30, q29, q28, q27, q25, q24, q22, q21, q19, q18, q16, q15, q14, q12⟩ := H
 replace q61 := CE q61
 obtain ⟨q61, q62⟩ := q61
 replace q57 := CJ q57 _ rfl
 obtain ⟨q57, q58, q59⟩ := q57
 replace q44 := Cx q44
 obtain ⟨q44, q45⟩ := q44
 replace q30 := Gu q30 _ rfl
 obtain ⟨q30, q31, q32⟩ := q30
 replace q25 := Et q25
 obtain ⟨q25, q26⟩ := q25
 replace q22 := Dq q22 _ rfl
 obtain ⟨q22, q23⟩ := q22
 replace q19 := Dp q19
 obtain ⟨q19, q20⟩ := q19
 replace q16 := CE q16
 obtain ⟨q16, q17⟩ := q16
 replace q12 := Gw q12 _ rfl
 obtain ⟨q12, q13⟩ := q12
 simp only [L.Al, L.Az, L.AX, L.A1, L.ev, A.Ak, A.Ap, A.AD] at q61 q62 q57 q58 q59 q44 q45 q30 q31 q32 q25 q26 q22 q23 q19 q20 q16 q17 q12 q13
 generalize (e 0).int = x0, (e 1).int = x1, (e 2).int = x2, (e 3).str = x3, (e 4).str = x4, e 5 = x5, (e 6).int = x6, (e 7).int = x7, (e 8).int = x8, (e 9).int = x9, (e 10).int = x10, (e 11).int = x11, (e 12).bool = v12, (e 13).bool = v13, (e 14).bool = v14, (e 15).bool = v15, (e 16).bool = v16, (e 17).bool = v17, (e 18).bool = v18, (e 19).bool = v19, (e 20).str = v20, (e 21).bool = v21, (e 22).bool = v22, (e 23).str = v23, (e 24).bool = v24, (e 25).bool = v25, (e 26).bool = v26, (e 27).bool = v27, (e 28).bool = v28, (e 29).bool = v29, (e 30).bool = v30, (e 31).str = v31, (e 32).str = v32, (e 33).bool = v33, (e 34).bool = v34, (e 35).bool = v35, (e 36).bool = v36, (e 37).bool = v37, (e 38).bool = v38, (e 39).bool = v39, (e 40).bool = v40, (e 41).bool = v41, (e 42).bool = v42, (e 43).bool = v43, (e 44).bool = v44, (e 45).bool = v45, (e 46).bool = v46, (e 47).bool = v47, (e 48).bool = v48, (e 49).bool = v49, (e 50).bool = v50, (e 51).bool = v51, (e 52).bool = v52, (e 53).bool = v53, (e 54).bool = v54, (e 55).bool = v55, (e 56).bool = v56, (e 57).bool = v57, (e 58).bool = v58, (e 59).bool = v59, (e 60).bool = v60, (e 61).bool = v61, (e 62).bool = v62, (e 63).bool = v63, (e 64).bool = v64, (e 65).bool = v65, (e 66).bool = v66, (e 67).bool = v67, (e 68).bool = v68, (e 69).bool = v69, (e 70).bool = v70, (e 71).bool = v71, (e 72).bool = v72, (e 73).bool = v73, (e 74).bool = v74, (e 75).bool = v75, (e 76).bool = v76, (e 77).bool = v77, (e 78).bool = v78, (e 79).bool = v79, (e 80).bool = v80, (e 81).bool = v81, (e 82).bool = v82, (e 83).bool = v83, (e 84).bool = v84, (e 85).bool = v85, (e 86).bool = v86, (e 87).bool = v87, (e 88).bool = v88, (e 89).bool = v89, (e 90).bool = v90, (e 91).bool = v91, (e 92).bool = v92, (e 93).bool = v93, (e 94).bool = v94, (e 95).bool = v95, (e 96).bool = v96, (e 97).bool = v97, (e 98).bool = v98, (e 99).bool = v99 at *
 have l1 := @Day.TM ⟨x1, x2⟩ ⟨x3, x4, x5, x6, x7⟩ x9 ⟨x10, x11⟩
 have l2 := @Day.U6 ⟨x1, x2⟩ ⟨x3, x4, x5, x6, x7⟩ x8 x9 ⟨x10, x11⟩
 have l3 := Day.U7 ⟨x1, x2⟩ ⟨x3, x4, x5, x6, x7⟩ x8 x9 ⟨x10, x11⟩
 have l4 := Day.V9 ⟨x1, x2⟩ ⟨x3, x4, x5, x6, x7⟩
 have l5 := fun h : x1 ≠ 2 => @Day.Rc ⟨x1, x2⟩ ⟨x3, x4, x5, x6, x7⟩ h 0
 have l6 := fun h : x1 ≠ 2 => @Day.Rc ⟨x1, x2⟩ ⟨x3, x4, x5, x6, x7⟩ h 1
 generalize Day.BE ⟨x3, x4, x5, x6, x7⟩ = sm at *
 generalize Day.isNode ⟨x1, x2⟩ x9 = nd at *
 generalize Day.Bt ⟨x1, x2⟩ x8 = hb at *
 generalize Day.BS ⟨x1, x2⟩ ⟨x3, x4, x5, x6, x7⟩ x9 ⟨x10, x11⟩ = la at *
 generalize Day.BT ⟨x1, x2⟩ ⟨x3, x4, x5, x6, x7⟩ x9 ⟨x10, x11⟩ = lb at *
 generalize Day.CI ⟨x1, x2⟩ ⟨x3, x4, x5, x6, x7⟩ x8 x9 ⟨x10, x11⟩ = oc at *
 generalize Day.Cf ⟨x1, x2⟩ ⟨x3, x4, x5, x6, x7⟩ 0 = d0 at *
 generalize Day.Cf ⟨x1, x2⟩ ⟨x3, x4, x5, x6, x7⟩ 1 = d1 at *
 generalize Day.D1 ⟨x10, x11⟩ = pp at *
 have c2 : (x1 == 2) = true ∨ d0 = true ∧ d1 = true := by
  by_cases h : x1 = 2
  ·exact .inl (by simp [h])
  ·exact .inr ⟨l5 h, l6 h⟩
 clear l5 l6
 generalize (x1 == 2) = e2 at *
 have m1 : nd = true ∨ la = pp ∧ lb = pp := by cases nd <;> simp_all
 have m2 : hb = true ∨ oc = pp := by cases hb <;> simp_all
 clear l1 l2
 simp only [Day.RJ] at *
 cases sm
 ·subst_vars
  simp
 ·have l4 : d0 = true ∨ (d0 = false ∧ d1 = true) := by cases d0 <;> simp_all
  have c2 : e2 = true ∨ (e2 = false ∧ d0 = true ∧ d1 = true) := by cases e2 <;> simp_all
  rcases m1 with h1 | ⟨h1, h2⟩ <;> rcases m2 with h3 | h3 <;> rcases l4 with h4 | ⟨h4, h5⟩ <;> rcases c2 with h6 | ⟨h6, h7, h8⟩ <;> rcases l3 with h9 | h9 | h9 <;> simp only [h1, h3, h4, h6] at * <;> subst_vars <;> simp_all
end Rx.S
