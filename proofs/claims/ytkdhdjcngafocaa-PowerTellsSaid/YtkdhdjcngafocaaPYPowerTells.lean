import Derived.Test.YtkdhdjcngafocaaPXt
set_option linter.unusedVariables false
set_option linter.unusedSimpArgs false
namespace Rx.S
open Go Rx
set_option maxRecDepth 100000
set_option maxHeartbeats 1000000
def CD : G := ⟨103, [⟨102, .iteB, [V 8, V 99, V 7]⟩, ⟨101, .iteB, [V 8, V 98, V 10]⟩, ⟨100, .not, [V 8]⟩, ⟨99, .iteB, [V 56, V 96, V 55]⟩, ⟨98, .iteB, [V 56, V 95, B false]⟩, ⟨97, .not, [V 56]⟩, ⟨96, .iteB, [V 72, V 72, V 71]⟩, ⟨95, .iteB, [V 72, V 93, V 69]⟩, ⟨94, .not, [V 72]⟩, ⟨93, .iteB, [V 84, V 92, B false]⟩, ⟨92, (.cmp .eql), [V 87, V 90]⟩, ⟨91, .imp, [V 85, V 89]⟩, ⟨89, (.call 18), [V 1, V 2, V 3, V 4]⟩, ⟨88, .imp, [V 85, V 86]⟩, ⟨86, (.call 7), [V 1, V 2, V 3, V 4]⟩, ⟨85, .and, [V 72, V 84]⟩, ⟨84, .iteB, [V 74, V 83, B false]⟩, ⟨83, (.cmp .eql), [V 78, V 81]⟩, ⟨82, .imp, [V 76, V 80]⟩, ⟨80, (.call 17), [V 1, V 2, V 5, V 6]⟩, ⟨79, .imp, [V 76, V 77]⟩, ⟨77, (.call 9), [V 1, V 2, V 5, V 6]⟩, ⟨76, .and, [V 72, V 74]⟩, ⟨75, .imp, [V 72, V 73]⟩, ⟨73, (.call 6), []⟩, ⟨72, .and, [V 65, V 67]⟩, ⟨71, .and, [V 64, V 66]⟩, ⟨70, .imp, [V 66, V 68]⟩, ⟨68, (.call 6), []⟩, ⟨67, .and, [V 56, V 65]⟩, ⟨66, .and, [V 56, V 64]⟩, ⟨65, .not, [V 64]⟩, ⟨64, .iteB, [V 60, B true, V 63]⟩, ⟨63, (.cmp .lss), [V 6, N 0]⟩, ⟨62, .and, [V 56, V 61]⟩, ⟨61, .not, [V 60]⟩, ⟨60, .not, [V 58]⟩, ⟨59, .imp, [V 56, V 57]⟩, ⟨57, (.call 16), [V 1, V 2]⟩, ⟨56, .and, [V 52, V 54]⟩, ⟨55, .and, [V 51, V 53]⟩, ⟨54, .and, [V 8, V 52]⟩, ⟨53, .and, [V 8, V 51]⟩, ⟨52, .not, [V 51]⟩, ⟨51, .iteB, [V 40, B true, V 50]⟩, ⟨50, .not, [V 49]⟩, ⟨49, .V6, [V 44, V 47]⟩, ⟨48, .imp, [V 42, V 46]⟩, ⟨46, (.call 15), [V 1, V 2, V 5, V 6]⟩, ⟨45, .imp, [V 42, V 43]⟩, ⟨43, (.call 8), [V 1, V 2, V 5, V 6]⟩, ⟨42, .and, [V 8, V 41]⟩, ⟨41, .not, [V 40]⟩, ⟨40, .iteB, [V 29, B true, V 39]⟩, ⟨39, .not, [V 38]⟩, ⟨38, .V6, [V 33, V 36]⟩, ⟨37, .imp, [V 31, V 35]⟩, ⟨35, (.call 14), [V 0, V 1, V 2]⟩, ⟨34, .imp, [V 31, V 32]⟩, ⟨32, (.call 13), [V 0, V 1, V 2]⟩, ⟨31, .and, [V 8, V 30]⟩, ⟨30, .not, [V 29]⟩, ⟨29, .iteB, [V 25, B true, V 28]⟩, ⟨28, (.cmp .neq), [V 15, V 20]⟩, ⟨27, .and, [V 8, V 26]⟩, ⟨26, .not, [V 25]⟩, ⟨25, .not, [V 23]⟩, ⟨24, .imp, [V 8, V 22]⟩, ⟨22, (.call 12), [V 13, V 14, V 18, V 19]⟩, ⟨21, .imp, [V 8, V 17]⟩, ⟨17, (.call 11), [V 0, V 1, V 2]⟩, ⟨16, .imp, [V 8, V 12]⟩, ⟨12, (.call 10), [V 0, V 1, V 2]⟩, ⟨11, .imp, [V 7, V 9]⟩, ⟨9, (.call 6), []⟩, ⟨8, .not, [V 7]⟩, ⟨7, (.cmp .gtr), [V 2, N 20]⟩], [V 91, V 88, V 82, V 79, V 75, V 70, V 59, V 48, V 45, V 37, V 34, V 24, V 21, V 16, V 11], []⟩
theorem Hf (e : Nat → A) (H : Ai T e CD.defs) (hp : (Day.L1.len (Day.L1.mk (e 1) (e 2).int) && Day.i64 (e 6).int) = true) :
  ((e 91).bool = true ∧ (e 88).bool = true ∧ (e 82).bool = true ∧ (e 79).bool = true ∧ (e 75).bool = true ∧ (e 70).bool = true ∧ (e 59).bool = true ∧ (e 48).bool = true ∧ (e 45).bool = true ∧ (e 37).bool = true ∧ (e 34).bool = true ∧ (e 24).bool = true ∧ (e 21).bool = true ∧ (e 16).bool = true ∧ (e 11).bool = true) ∧ (true = (e 101).bool) := by
 simp only [CD, Ai, Def.q, Cn, L.Al, L.AB, L.A3, L.A9, L.ev, A.Am, A.At, A.AF, A.Bh, List.map_cons, List.map_nil, Nat.zero_add, Nat.add_zero, and_true, true_and, Nat.reduceAdd, Nat.one_mul] at H
 simp only [F6, GR, FC, Br, Hg, Hi, CC, IP, and_true, true_and] at H
 obtain ⟨q102, q101, q100, q99, q98, q97, q96, q95, q94, q93, q92, q91, q89, q88, q86, q85, q84, q83, q82, q80, q79, q77, q76, q75, q73, q72, q71, q70, q68, q67, q66, q65, q64, q63, q62, q61, q60, q59, q57, q56, q55, q54, q53, q52, q51, q50, q49, q48, q46, q45, q43, q42, q41, q40, q39, q38, q37, q35, q34, q32, q31, q30, q29, q28, q27, q26, q25, q24, q22, q21, q17, q16, q12, q11, q9, q8, q7⟩ := H
 replace q89 := Oi q89
 obtain ⟨q89, q90⟩ := q89
 replace q86 := IQ q86
 obtain ⟨q86, q87⟩ := q86
 replace q80 := LH q80
 obtain ⟨q80, q81⟩ := q80
 replace q77 := LG q77
 obtain ⟨q77, q78⟩ := q77
 replace q73 := DQ q73
 obtain ⟨q73, q74⟩ := q73
 replace q68 := DQ q68
 obtain ⟨q68, q69⟩ := q68
 replace q57 := KV q57
 obtain ⟨q57, q58⟩ := q57
 replace q46 := Gz q46
 obtain ⟨q46, q47⟩ := q46
 replace q43 := Gy q43
 obtain ⟨q43, q44⟩ := q43
 replace q35 := LJ q35
 obtain ⟨q35, q36⟩ := q35
 replace q32 := LI q32
 obtain ⟨q32, q33⟩ := q32
 replace q22 := HU q22
 obtain ⟨q22, q23⟩ := q22
 replace q17 := LK q17
 obtain ⟨q17, q18, q19, q20⟩ := q17
 replace q12 := DP q12
 obtain ⟨q12, q13, q14, q15⟩ := q12
 replace q9 := DQ q9
 obtain ⟨q9, q10⟩ := q9
 simp only [L.Al, L.AB, L.A3, L.A9, L.ev, A.Am, A.At, A.AF] at q89 q90 q86 q87 q80 q81 q77 q78 q73 q74 q68 q69 q57 q58 q46 q47 q43 q44 q35 q36 q32 q33 q22 q23 q17 q18 q19 q20 q12 q13 q14 q15 q9 q10
 generalize (e 0).int = x0, e 1 = x1, (e 2).int = x2, (e 3).int = x3, (e 4).int = x4, (e 5).int = x5, (e 6).int = x6, (e 7).bool = v7, (e 8).bool = v8, (e 9).bool = v9, (e 10).bool = v10, (e 11).bool = v11, (e 12).bool = v12, e 13 = v13, (e 14).int = v14, (e 15).int = v15, (e 16).bool = v16, (e 17).bool = v17, e 18 = v18, (e 19).int = v19, (e 20).int = v20, (e 21).bool = v21, (e 22).bool = v22, (e 23).bool = v23, (e 24).bool = v24, (e 25).bool = v25, (e 26).bool = v26, (e 27).bool = v27, (e 28).bool = v28, (e 29).bool = v29, (e 30).bool = v30, (e 31).bool = v31, (e 32).bool = v32, (e 33).bool = v33, (e 34).bool = v34, (e 35).bool = v35, (e 36).bool = v36, (e 37).bool = v37, (e 38).bool = v38, (e 39).bool = v39, (e 40).bool = v40, (e 41).bool = v41, (e 42).bool = v42, (e 43).bool = v43, (e 44).bool = v44, (e 45).bool = v45, (e 46).bool = v46, (e 47).bool = v47, (e 48).bool = v48, (e 49).bool = v49, (e 50).bool = v50, (e 51).bool = v51, (e 52).bool = v52, (e 53).bool = v53, (e 54).bool = v54, (e 55).bool = v55, (e 56).bool = v56, (e 57).bool = v57, (e 58).bool = v58, (e 59).bool = v59, (e 60).bool = v60, (e 61).bool = v61, (e 62).bool = v62, (e 63).bool = v63, (e 64).bool = v64, (e 65).bool = v65, (e 66).bool = v66, (e 67).bool = v67, (e 68).bool = v68, (e 69).bool = v69, (e 70).bool = v70, (e 71).bool = v71, (e 72).bool = v72, (e 73).bool = v73, (e 74).bool = v74, (e 75).bool = v75, (e 76).bool = v76, (e 77).bool = v77, (e 78).int = v78, (e 79).bool = v79, (e 80).bool = v80, (e 81).int = v81, (e 82).bool = v82, (e 83).bool = v83, (e 84).bool = v84, (e 85).bool = v85, (e 86).bool = v86, (e 87).int = v87, (e 88).bool = v88, (e 89).bool = v89, (e 90).int = v90, (e 91).bool = v91, (e 92).bool = v92, (e 93).bool = v93, (e 94).bool = v94, (e 95).bool = v95, (e 96).bool = v96, (e 97).bool = v97, (e 98).bool = v98, (e 99).bool = v99, (e 100).bool = v100, (e 101).bool = v101, (e 102).bool = v102 at *
 simp only [Bool.and_eq_true] at hp
 obtain ⟨hl, ht⟩ := hp
 by_cases h : x2 > 20
 ·subst_vars
  simp [h]
 ·have hk := Day.Yk hl h
  have hc := Day.VM x0 ⟨x1, x2⟩
  have hs := Day.Ud (Day.B1 x0 ⟨x1, x2⟩)
  subst_vars
  generalize Day.B1 x0 ⟨x1, x2⟩ = cw at *
  cases ha : Day.Fk ⟨x1, x2⟩ <;> by_cases hz : x6 < 0 <;> simp [h, hk, hc, hs, ht, ha, hz]
end Rx.S
