import Derived.Test.YtngghkhjejkelaaFXt
set_option linter.unusedVariables false
set_option linter.unusedSimpArgs false
namespace Rx.S
open Go Rx
set_option maxRecDepth 100000
set_option maxHeartbeats 1000000
def CK : G := ⟨119, [⟨118, .iteB, [V 15, V 115, V 14]⟩, ⟨117, .iteB, [V 15, V 114, V 17]⟩, ⟨116, .not, [V 15]⟩, ⟨115, .iteB, [V 74, V 74, V 73]⟩, ⟨114, .iteB, [V 74, V 112, B false]⟩, ⟨113, .not, [V 74]⟩, ⟨112, .iteB, [V 99, V 111, B false]⟩, ⟨111, .and, [V 110, V 109]⟩, ⟨110, .Qq, [V 102, V 106]⟩, ⟨109, .Qq, [V 103, V 107]⟩, ⟨108, .imp, [V 100, V 105]⟩, ⟨105, (.call 25), [V 1, V 2, V 3, V 4, V 5, V 6, V 7]⟩, ⟨104, .imp, [V 100, V 101]⟩, ⟨101, (.call 16), [V 1, V 2, V 3, V 4, V 5, V 6, V 7]⟩, ⟨100, .and, [V 74, V 99]⟩, ⟨99, .iteB, [V 90, V 98, B false]⟩, ⟨98, .eqS, [V 93, V 96]⟩, ⟨97, .imp, [V 91, V 95]⟩, ⟨95, (.call 24), [V 1, V 2, V 3, V 4, V 5, V 6, V 7, V 8, V 9, V 10, V 11]⟩, ⟨94, .imp, [V 91, V 92]⟩, ⟨92, (.call 12), [V 1, V 2, V 3, V 4, V 5, V 6, V 7, V 8, V 9, V 10, V 11]⟩, ⟨91, .and, [V 74, V 90]⟩, ⟨90, .iteB, [V 76, V 89, B false]⟩, ⟨89, .and, [V 88, V 87]⟩, ⟨88, .eqS, [V 80, V 84]⟩, ⟨87, .eqS, [V 81, V 85]⟩, ⟨86, .imp, [V 78, V 83]⟩, ⟨83, (.call 23), [V 1, V 2, V 3, V 4, V 5, V 6, V 7, V 9, V 10, V 11]⟩, ⟨82, .imp, [V 78, V 79]⟩, ⟨79, (.call 14), [V 1, V 2, V 3, V 4, V 5, V 6, V 7, V 9, V 10, V 11]⟩, ⟨78, .and, [V 74, V 76]⟩, ⟨77, .imp, [V 74, V 75]⟩, ⟨75, (.call 10), []⟩, ⟨74, .and, [V 70, V 72]⟩, ⟨73, .and, [V 69, V 71]⟩, ⟨72, .and, [V 15, V 70]⟩, ⟨71, .and, [V 15, V 69]⟩, ⟨70, .not, [V 69]⟩, ⟨69, .iteB, [V 58, B true, V 68]⟩, ⟨68, .not, [V 67]⟩, ⟨67, .Qq, [V 62, V 65]⟩, ⟨66, .imp, [V 60, V 64]⟩, ⟨64, (.call 22), [V 1, V 2, V 8]⟩, ⟨63, .imp, [V 60, V 61]⟩, ⟨61, (.call 15), [V 1, V 2, V 8]⟩, ⟨60, .and, [V 15, V 59]⟩, ⟨59, .not, [V 58]⟩, ⟨58, .iteB, [V 47, B true, V 57]⟩, ⟨57, .not, [V 56]⟩, ⟨56, .Qq, [V 51, V 54]⟩, ⟨55, .imp, [V 49, V 53]⟩, ⟨53, (.call 21), [V 1, V 2, V 9]⟩, ⟨52, .imp, [V 49, V 50]⟩, ⟨50, (.call 13), [V 1, V 2, V 9]⟩, ⟨49, .and, [V 15, V 48]⟩, ⟨48, .not, [V 47]⟩, ⟨47, .iteB, [V 36, B true, V 46]⟩, ⟨46, .not, [V 45]⟩, ⟨45, .Qq, [V 40, V 43]⟩, ⟨44, .imp, [V 38, V 42]⟩, ⟨42, (.call 20), [V 0, V 1, V 2]⟩, ⟨41, .imp, [V 38, V 39]⟩, ⟨39, (.call 19), [V 0, V 1, V 2]⟩, ⟨38, .and, [V 15, V 37]⟩, ⟨37, .not, [V 36]⟩, ⟨36, .iteB, [V 32, B true, V 35]⟩, ⟨35, (.cmp .neq), [V 22, V 27]⟩, ⟨34, .and, [V 15, V 33]⟩, ⟨33, .not, [V 32]⟩, ⟨32, .not, [V 31]⟩, ⟨31, .and, [V 30, V 29]⟩, ⟨30, (.cmp .eql), [V 20, V 25]⟩, ⟨29, (.cmp .eql), [V 21, V 26]⟩, ⟨28, .imp, [V 15, V 24]⟩, ⟨24, (.call 18), [V 0, V 1, V 2]⟩, ⟨23, .imp, [V 15, V 19]⟩, ⟨19, (.call 17), [V 0, V 1, V 2]⟩, ⟨18, .imp, [V 14, V 16]⟩, ⟨16, (.call 10), []⟩, ⟨15, .not, [V 14]⟩, ⟨14, .not, [V 13]⟩, ⟨12, (.call 9), [V 3, V 4, V 5, V 6, V 7]⟩], [V 108, V 104, V 97, V 94, V 86, V 82, V 77, V 66, V 63, V 55, V 52, V 44, V 41, V 28, V 23, V 18, V 12], []⟩
theorem GU (e : Nat → A) (H : Ah T e CK.defs) (hp : (true) = true) :
  ((e 108).bool = true ∧ (e 104).bool = true ∧ (e 97).bool = true ∧ (e 94).bool = true ∧ (e 86).bool = true ∧ (e 82).bool = true ∧ (e 77).bool = true ∧ (e 66).bool = true ∧ (e 63).bool = true ∧ (e 55).bool = true ∧ (e 52).bool = true ∧ (e 44).bool = true ∧ (e 41).bool = true ∧ (e 28).bool = true ∧ (e 23).bool = true ∧ (e 18).bool = true ∧ (e 12).bool = true) ∧ (true = (e 117).bool) := by
 simp only [CK, Ah, Def.q, BQ, L.Al, L.Az, L.AX, L.A1, L.ev, A.Ak, A.Ap, A.AD, A.AW, List.map_cons, List.map_nil, Nat.zero_add, Nat.add_zero, and_true, true_and, Nat.reduceAdd, Nat.one_mul] at H
 simp only [EA, EW, Db, Bc, Fo, FK, B9, GS, and_true, true_and] at H
 obtain ⟨q118, q117, q116, q115, q114, q113, q112, q111, q110, q109, q108, q105, q104, q101, q100, q99, q98, q97, q95, q94, q92, q91, q90, q89, q88, q87, q86, q83, q82, q79, q78, q77, q75, q74, q73, q72, q71, q70, q69, q68, q67, q66, q64, q63, q61, q60, q59, q58, q57, q56, q55, q53, q52, q50, q49, q48, q47, q46, q45, q44, q42, q41, q39, q38, q37, q36, q35, q34, q33, q32, q31, q30, q29, q28, q24, q23, q19, q18, q16, q15, q14, q12⟩ := H
 replace q105 := Jg q105 _ rfl
 obtain ⟨q105, q106, q107⟩ := q105
 replace q101 := CJ q101 _ rfl
 obtain ⟨q101, q102, q103⟩ := q101
 replace q95 := Oh q95 _ rfl
 obtain ⟨q95, q96⟩ := q95
 replace q92 := Dq q92 _ rfl
 obtain ⟨q92, q93⟩ := q92
 replace q83 := LF q83 _ rfl
 obtain ⟨q83, q84, q85⟩ := q83
 replace q79 := Gu q79 _ rfl
 obtain ⟨q79, q80, q81⟩ := q79
 replace q75 := CE q75
 obtain ⟨q75, q76⟩ := q75
 replace q64 := Dr q64
 obtain ⟨q64, q65⟩ := q64
 replace q61 := Cx q61
 obtain ⟨q61, q62⟩ := q61
 replace q53 := Ho q53
 obtain ⟨q53, q54⟩ := q53
 replace q50 := Et q50
 obtain ⟨q50, q51⟩ := q50
 replace q42 := Gv q42
 obtain ⟨q42, q43⟩ := q42
 replace q39 := CD q39
 obtain ⟨q39, q40⟩ := q39
 replace q24 := LD q24
 obtain ⟨q24, q25, q26, q27⟩ := q24
 replace q19 := LC q19
 obtain ⟨q19, q20, q21, q22⟩ := q19
 replace q16 := CE q16
 obtain ⟨q16, q17⟩ := q16
 replace q12 := Gw q12 _ rfl
 obtain ⟨q12, q13⟩ := q12
 simp only [L.Al, L.Az, L.AX, L.A1, L.ev, A.Ak, A.Ap, A.AD] at q105 q106 q107 q101 q102 q103 q95 q96 q92 q93 q83 q84 q85 q79 q80 q81 q75 q76 q64 q65 q61 q62 q53 q54 q50 q51 q42 q43 q39 q40 q24 q25 q26 q27 q19 q20 q21 q22 q16 q17 q12 q13
 generalize (e 0).int = x0, (e 1).int = x1, (e 2).int = x2, (e 3).str = x3, (e 4).str = x4, e 5 = x5, (e 6).int = x6, (e 7).int = x7, (e 8).int = x8, (e 9).int = x9, (e 10).int = x10, (e 11).int = x11, (e 12).bool = v12, (e 13).bool = v13, (e 14).bool = v14, (e 15).bool = v15, (e 16).bool = v16, (e 17).bool = v17, (e 18).bool = v18, (e 19).bool = v19, (e 20).int = v20, (e 21).int = v21, (e 22).int = v22, (e 23).bool = v23, (e 24).bool = v24, (e 25).int = v25, (e 26).int = v26, (e 27).int = v27, (e 28).bool = v28, (e 29).bool = v29, (e 30).bool = v30, (e 31).bool = v31, (e 32).bool = v32, (e 33).bool = v33, (e 34).bool = v34, (e 35).bool = v35, (e 36).bool = v36, (e 37).bool = v37, (e 38).bool = v38, (e 39).bool = v39, (e 40).bool = v40, (e 41).bool = v41, (e 42).bool = v42, (e 43).bool = v43, (e 44).bool = v44, (e 45).bool = v45, (e 46).bool = v46, (e 47).bool = v47, (e 48).bool = v48, (e 49).bool = v49, (e 50).bool = v50, (e 51).bool = v51, (e 52).bool = v52, (e 53).bool = v53, (e 54).bool = v54, (e 55).bool = v55, (e 56).bool = v56, (e 57).bool = v57, (e 58).bool = v58, (e 59).bool = v59, (e 60).bool = v60, (e 61).bool = v61, (e 62).bool = v62, (e 63).bool = v63, (e 64).bool = v64, (e 65).bool = v65, (e 66).bool = v66, (e 67).bool = v67, (e 68).bool = v68, (e 69).bool = v69, (e 70).bool = v70, (e 71).bool = v71, (e 72).bool = v72, (e 73).bool = v73, (e 74).bool = v74, (e 75).bool = v75, (e 76).bool = v76, (e 77).bool = v77, (e 78).bool = v78, (e 79).bool = v79, (e 80).str = v80, (e 81).str = v81, (e 82).bool = v82, (e 83).bool = v83, (e 84).str = v84, (e 85).str = v85, (e 86).bool = v86, (e 87).bool = v87, (e 88).bool = v88, (e 89).bool = v89, (e 90).bool = v90, (e 91).bool = v91, (e 92).bool = v92, (e 93).str = v93, (e 94).bool = v94, (e 95).bool = v95, (e 96).str = v96, (e 97).bool = v97, (e 98).bool = v98, (e 99).bool = v99, (e 100).bool = v100, (e 101).bool = v101, (e 102).bool = v102, (e 103).bool = v103, (e 104).bool = v104, (e 105).bool = v105, (e 106).bool = v106, (e 107).bool = v107, (e 108).bool = v108, (e 109).bool = v109, (e 110).bool = v110, (e 111).bool = v111, (e 112).bool = v112, (e 113).bool = v113, (e 114).bool = v114, (e 115).bool = v115, (e 116).bool = v116, (e 117).bool = v117, (e 118).bool = v118 at *
 generalize Day.BE ⟨x3, x4, x5, x6, x7⟩ = sm at *
 subst_vars
 cases sm <;> simp [Day.RJ]
end Rx.S
