import Derived.Test.YtngghkhjejkelaaVXt
set_option linter.unusedVariables false
set_option linter.unusedSimpArgs false
namespace Rx.S
open Go Rx
set_option maxRecDepth 100000
set_option maxHeartbeats 1000000
def DJ : G := ⟨150, [⟨149, .iteB, [V 15, V 146, V 14]⟩, ⟨148, .iteB, [V 15, V 145, V 17]⟩, ⟨147, .not, [V 15]⟩, ⟨146, .iteB, [V 44, V 143, V 43]⟩, ⟨145, .iteB, [V 44, V 142, V 42]⟩, ⟨144, .not, [V 44]⟩, ⟨143, .iteB, [V 65, V 140, V 64]⟩, ⟨142, .iteB, [V 65, V 131, B false]⟩, ⟨141, .not, [V 65]⟩, ⟨140, .iteB, [V 119, V 119, V 126]⟩, ⟨139, .iteB, [V 119, V 110, V 125]⟩, ⟨138, .iteB, [V 119, V 101, V 124]⟩, ⟨137, .iteB, [V 119, V 99, V 123]⟩, ⟨136, .iteB, [V 119, V 94, V 122]⟩, ⟨135, .iteI, [V 119, V 7, V 121]⟩, ⟨134, .iteI, [V 119, N 1, V 120]⟩, ⟨133, .iteB, [V 119, B false, B true]⟩, ⟨132, .iteI, [V 119, N 2, V 120]⟩, ⟨131, .iteB, [V 119, V 128, B false]⟩, ⟨130, .not, [V 119]⟩, ⟨129, .imp, [V 119, V 127]⟩, ⟨127, (.call 27), []⟩, ⟨126, .iteB, [V 91, V 118, V 93]⟩, ⟨125, .iteB, [V 91, V 110, V 86]⟩, ⟨124, .iteB, [V 91, V 101, V 74]⟩, ⟨123, .iteB, [V 91, V 99, V 71]⟩, ⟨122, .iteB, [V 91, V 94, V 66]⟩, ⟨121, .iteI, [V 91, V 7, V 5]⟩, ⟨120, .iteI, [V 91, N 1, N 0]⟩, ⟨119, .and, [V 91, V 115]⟩, ⟨118, .and, [V 116, V 117]⟩, ⟨117, .and, [V 116, V 114]⟩, ⟨116, .not, [V 115]⟩, ⟨115, .and, [V 111, V 113]⟩, ⟨114, .and, [V 110, V 112]⟩, ⟨113, .and, [V 91, V 111]⟩, ⟨112, .and, [V 91, V 110]⟩, ⟨111, .not, [V 110]⟩, ⟨110, .iteB, [V 101, V 109, B false]⟩, ⟨109, .iteB, [V 76, B true, V 108]⟩, ⟨108, (.cmp .neq), [V 23, V 107]⟩, ⟨107, (.dv .rem .i64), [V 105, V 11]⟩, ⟨106, .imp, [V 104, V 81]⟩, ⟨105, (.ar .add .i64), [V 8, N 1]⟩, ⟨104, .and, [V 103, V 101]⟩, ⟨103, .and, [V 91, V 77]⟩, ⟨102, .and, [V 91, V 101]⟩, ⟨101, .iteB, [V 99, V 73, B false]⟩, ⟨100, .and, [V 91, V 99]⟩, ⟨99, .iteB, [V 94, V 98, B false]⟩, ⟨98, .and, [V 97, V 96]⟩, ⟨97, (.cmp .eql), [V 5, N 0]⟩, ⟨96, (.cmp .eql), [V 6, N 0]⟩, ⟨95, .and, [V 91, V 94]⟩, ⟨94, (.cmp .eql), [V 7, N 2]⟩, ⟨93, .and, [V 92, V 90]⟩, ⟨92, .not, [V 91]⟩, ⟨91, .and, [V 87, V 89]⟩, ⟨90, .and, [V 86, V 88]⟩, ⟨89, .and, [V 65, V 87]⟩, ⟨88, .and, [V 65, V 86]⟩, ⟨87, .not, [V 86]⟩, ⟨86, .iteB, [V 74, V 85, B false]⟩, ⟨85, .iteB, [V 76, B true, V 84]⟩, ⟨84, (.cmp .neq), [V 23, V 83]⟩, ⟨83, (.dv .rem .i64), [V 80, V 11]⟩, ⟨82, .imp, [V 79, V 81]⟩, ⟨81, (.cmp .neq), [V 11, N 0]⟩, ⟨80, (.ar .add .i64), [V 6, N 1]⟩, ⟨79, .and, [V 78, V 74]⟩, ⟨78, .and, [V 65, V 77]⟩, ⟨77, .not, [V 76]⟩, ⟨76, (.cmp .neq), [V 21, N 3]⟩, ⟨75, .and, [V 65, V 74]⟩, ⟨74, .iteB, [V 71, V 73, B false]⟩, ⟨73, (.cmp .neq), [V 21, N 1]⟩, ⟨72, .and, [V 65, V 71]⟩, ⟨71, .iteB, [V 66, V 70, B false]⟩, ⟨70, .and, [V 69, V 68]⟩, ⟨69, (.cmp .eql), [V 7, N 0]⟩, ⟨68, (.cmp .eql), [V 8, N 0]⟩, ⟨67, .and, [V 65, V 66]⟩, ⟨66, (.cmp .eql), [V 5, N 2]⟩, ⟨65, .and, [V 61, V 63]⟩, ⟨64, .and, [V 60, V 62]⟩, ⟨63, .and, [V 44, V 61]⟩, ⟨62, .and, [V 44, V 60]⟩, ⟨61, .not, [V 60]⟩, ⟨60, .iteB, [V 56, B true, V 59]⟩, ⟨59, (.cmp .eql), [V 21, N 0]⟩, ⟨58, .and, [V 44, V 57]⟩, ⟨57, .not, [V 56]⟩, ⟨56, .iteB, [V 52, B true, V 55]⟩, ⟨55, (.cmp .neq), [V 20, V 1]⟩, ⟨54, .and, [V 44, V 53]⟩, ⟨53, .not, [V 52]⟩, ⟨52, .iteB, [V 45, B true, V 51]⟩, ⟨51, .not, [V 49]⟩, ⟨50, .imp, [V 47, V 48]⟩, ⟨48, (.call 29), [V 11, V 20, V 21, V 22, V 23]⟩, ⟨47, .and, [V 44, V 46]⟩, ⟨46, .not, [V 45]⟩, ⟨45, (.cmp .neq), [V 24, N 0]⟩, ⟨44, .and, [V 34, V 36]⟩, ⟨43, .and, [V 33, V 35]⟩, ⟨42, .iteB, [V 38, V 41, B false]⟩, ⟨41, (.cmp .eql), [V 24, N 1]⟩, ⟨40, .and, [V 35, V 38]⟩, ⟨39, .imp, [V 35, V 37]⟩, ⟨37, (.call 27), []⟩, ⟨36, .and, [V 15, V 34]⟩, ⟨35, .and, [V 15, V 33]⟩, ⟨34, .not, [V 33]⟩, ⟨33, .iteB, [V 29, B true, V 32]⟩, ⟨32, (.cmp .eql), [V 2, N 0]⟩, ⟨31, .and, [V 15, V 30]⟩, ⟨30, .not, [V 29]⟩, ⟨29, .not, [V 27]⟩, ⟨28, .imp, [V 15, V 26]⟩, ⟨26, (.call 29), [V 11, V 1, V 2, V 3, V 4]⟩, ⟨25, .imp, [V 15, V 19]⟩, ⟨19, (.call 28), [V 11, V 1, V 2, V 3, V 4, V 5, V 6, V 7, V 8]⟩, ⟨18, .imp, [V 14, V 16]⟩, ⟨16, (.call 27), []⟩, ⟨15, .not, [V 14]⟩, ⟨14, .not, [V 13]⟩, ⟨12, (.call 26), [V 11, V 5, V 6, V 7, V 8]⟩, ⟨11, (.ar .add .i64), [N 3, V 10]⟩, ⟨10, (.conv .i64), [V 9]⟩, ⟨9, (.dv .rem .u8), [V 0, N 6]⟩], [V 129, V 106, V 82, V 50, V 39, V 28, V 25, V 18, V 12], []⟩
theorem Jr (e : Nat → A) (H : Ad T e DJ.defs) (hp : (Day.u8 (e 0).int && Day.ND.i64 (Day.ND.mk (e 1).int (e 2).int (e 3).int (e 4).int)) = true) :
  ((e 129).bool = true ∧ (e 106).bool = true ∧ (e 82).bool = true ∧ (e 50).bool = true ∧ (e 39).bool = true ∧ (e 28).bool = true ∧ (e 25).bool = true ∧ (e 18).bool = true ∧ (e 12).bool = true) ∧ (true = (e 148).bool) := by
 simp only [DJ, Ad, Def.q, BB, L.Ai, L.Ar, L.AN, L.AR, L.ev, A.Ah, A.Am, A.Au, A.AZ, List.map_cons, List.map_nil, Nat.zero_add, Nat.add_zero, and_true, true_and, Nat.reduceAdd, Nat.one_mul] at H
 simp only [DZ, Ed, D0, Bo, EK, EO, B9, FI, and_true, true_and] at H
 obtain ⟨q149, q148, q147, q146, q145, q144, q143, q142, q141, q140, q139, q138, q137, q136, ⟨q135, -⟩, ⟨q134, -⟩, q133, ⟨q132, -⟩, q131, q130, q129, q127, q126, q125, q124, q123, q122, ⟨q121, -⟩, ⟨q120, -⟩, q119, q118, q117, q116, q115, q114, q113, q112, q111, q110, q109, q108, ⟨q107, -⟩, q106, ⟨q105, -⟩, q104, q103, q102, q101, q100, q99, q98, q97, q96, q95, q94, q93, q92, q91, q90, q89, q88, q87, q86, q85, q84, ⟨q83, -⟩, q82, q81, ⟨q80, -⟩, q79, q78, q77, q76, q75, q74, q73, q72, q71, q70, q69, q68, q67, q66, q65, q64, q63, q62, q61, q60, q59, q58, q57, q56, q55, q54, q53, q52, q51, q50, q48, q47, q46, q45, q44, q43, q42, q41, q40, q39, q37, q36, q35, q34, q33, q32, q31, q30, q29, q28, q26, q25, q19, q18, q16, q15, q14, q12, ⟨q11, -⟩, ⟨q10, -⟩, ⟨q9, -⟩⟩ := H
 replace q127 := Bn q127
 obtain ⟨q127, q128⟩ := q127
 replace q48 := BC q48 _ rfl
 obtain ⟨q48, q49⟩ := q48
 replace q37 := Bn q37
 obtain ⟨q37, q38⟩ := q37
 replace q26 := BC q26 _ rfl
 obtain ⟨q26, q27⟩ := q26
 replace q19 := Bv q19 _ rfl _ rfl
 obtain ⟨q19, q20, q21, q22, q23, q24⟩ := q19
 replace q16 := Bn q16
 obtain ⟨q16, q17⟩ := q16
 replace q12 := HG q12
 obtain ⟨q12, q13⟩ := q12
 simp only [L.Ai, L.Ar, L.AN, L.AR, L.ev, A.Ah, A.Am, A.Au] at q127 q128 q48 q49 q37 q38 q26 q27 q19 q20 q21 q22 q23 q24 q16 q17 q12 q13
 generalize (e 0).int = x0, (e 1).int = x1, (e 2).int = x2, (e 3).int = x3, (e 4).int = x4, (e 5).int = x5, (e 6).int = x6, (e 7).int = x7, (e 8).int = x8, (e 9).int = v9, (e 10).int = v10, (e 11).int = v11, (e 12).bool = v12, (e 13).bool = v13, (e 14).bool = v14, (e 15).bool = v15, (e 16).bool = v16, (e 17).bool = v17, (e 18).bool = v18, (e 19).bool = v19, (e 20).int = v20, (e 21).int = v21, (e 22).int = v22, (e 23).int = v23, (e 24).int = v24, (e 25).bool = v25, (e 26).bool = v26, (e 27).bool = v27, (e 28).bool = v28, (e 29).bool = v29, (e 30).bool = v30, (e 31).bool = v31, (e 32).bool = v32, (e 33).bool = v33, (e 34).bool = v34, (e 35).bool = v35, (e 36).bool = v36, (e 37).bool = v37, (e 38).bool = v38, (e 39).bool = v39, (e 40).bool = v40, (e 41).bool = v41, (e 42).bool = v42, (e 43).bool = v43, (e 44).bool = v44, (e 45).bool = v45, (e 46).bool = v46, (e 47).bool = v47, (e 48).bool = v48, (e 49).bool = v49, (e 50).bool = v50, (e 51).bool = v51, (e 52).bool = v52, (e 53).bool = v53, (e 54).bool = v54, (e 55).bool = v55, (e 56).bool = v56, (e 57).bool = v57, (e 58).bool = v58, (e 59).bool = v59, (e 60).bool = v60, (e 61).bool = v61, (e 62).bool = v62, (e 63).bool = v63, (e 64).bool = v64, (e 65).bool = v65, (e 66).bool = v66, (e 67).bool = v67, (e 68).bool = v68, (e 69).bool = v69, (e 70).bool = v70, (e 71).bool = v71, (e 72).bool = v72, (e 73).bool = v73, (e 74).bool = v74, (e 75).bool = v75, (e 76).bool = v76, (e 77).bool = v77, (e 78).bool = v78, (e 79).bool = v79, (e 80).int = v80, (e 81).bool = v81, (e 82).bool = v82, (e 83).int = v83, (e 84).bool = v84, (e 85).bool = v85, (e 86).bool = v86, (e 87).bool = v87, (e 88).bool = v88, (e 89).bool = v89, (e 90).bool = v90, (e 91).bool = v91, (e 92).bool = v92, (e 93).bool = v93, (e 94).bool = v94, (e 95).bool = v95, (e 96).bool = v96, (e 97).bool = v97, (e 98).bool = v98, (e 99).bool = v99, (e 100).bool = v100, (e 101).bool = v101, (e 102).bool = v102, (e 103).bool = v103, (e 104).bool = v104, (e 105).int = v105, (e 106).bool = v106, (e 107).int = v107, (e 108).bool = v108, (e 109).bool = v109, (e 110).bool = v110, (e 111).bool = v111, (e 112).bool = v112, (e 113).bool = v113, (e 114).bool = v114, (e 115).bool = v115, (e 116).bool = v116, (e 117).bool = v117, (e 118).bool = v118, (e 119).bool = v119, (e 120).int = v120, (e 121).int = v121, (e 122).bool = v122, (e 123).bool = v123, (e 124).bool = v124, (e 125).bool = v125, (e 126).bool = v126, (e 127).bool = v127, (e 128).bool = v128, (e 129).bool = v129, (e 130).bool = v130, (e 131).bool = v131, (e 132).int = v132, (e 133).bool = v133, (e 134).int = v134, (e 135).int = v135, (e 136).bool = v136, (e 137).bool = v137, (e 138).bool = v138, (e 139).bool = v139, (e 140).bool = v140, (e 141).bool = v141, (e 142).bool = v142, (e 143).bool = v143, (e 144).bool = v144, (e 145).bool = v145, (e 146).bool = v146, (e 147).bool = v147, (e 148).bool = v148, (e 149).bool = v149 at *
 simp only [Bool.and_eq_true] at hp
 obtain ⟨hu, hi⟩ := hp
 obtain ⟨-, hR⟩ := Day.Xp hu q9 q10 q11
 clear q9 q10 q11
 have hn : 3 ≤ v11 ∧ v11 ≤ 8 := by simpa [Day.right] using hR
 have n0 : v11 ≠ 0 := by omega
 generalize hX : Day.ND.mk x1 x2 x3 x4 = X at *
 have f1 : x1 = X.id := by rw [← hX]
 have f2 : x2 = X.mode := by rw [← hX]
 clear hX
 cases hh : Day.AE v11 ⟨x5, x6⟩ ⟨x7, x8⟩ with
 | false =>
  subst_vars
  simp [hi, hh]
 | true =>
  cases hr : Day.Ap v11 X with
  | false =>
   have hE : Day.Bm v11 X = 1 := by simp [Day.Bm, hr]
   subst_vars
   simp [hi, hh, hr, hE]
  | true =>
   by_cases hm : X.mode = 0
   ·have hE : Day.Bm v11 X = 1 := by simp [Day.Bm, hm]
    subst_vars
    simp [hi, hh, hr, hE, hm]
   ·have hE : Day.Bm v11 X = 0 := Day.BZ.2 ⟨hr, hm⟩
    obtain ⟨n1, n2, n3⟩ := Day.Mz hE hh
    have i1 : x5 = 2 → x7 = 0 → x8 = 0 → (Day.AI v11 X ⟨x5, x6⟩ ⟨x7, x8⟩).mode = 1 ∨ ((Day.AI v11 X ⟨x5, x6⟩ ⟨x7, x8⟩).mode = 3 ∧ (Day.AI v11 X ⟨x5, x6⟩ ⟨x7, x8⟩).pos = v83) := fun a b c => by
     subst a b c
     have hx : 0 ≤ x6 ∧ x6 < v11 := by
      simp only [Day.AE, Bool.and_eq_true] at hh
      exact Day.GF hh.1 (.inr rfl)
     rw [q83, q80, Day.Vx hn hx]
     exact Day.Xq hE
    have i2 : x7 = 2 → x5 = 0 → x6 = 0 → (Day.AI v11 X ⟨x5, x6⟩ ⟨x7, x8⟩).mode = 1 ∨ ((Day.AI v11 X ⟨x5, x6⟩ ⟨x7, x8⟩).mode = 3 ∧ (Day.AI v11 X ⟨x5, x6⟩ ⟨x7, x8⟩).pos = v107) := fun a b c => by
     subst a b c
     have hx : 0 ≤ x8 ∧ x8 < v11 := by
      simp only [Day.AE, Bool.and_eq_true] at hh
      exact Day.GF hh.2 (.inr rfl)
     rw [q107, q105, Day.Vx hn hx]
     exact Day.V8 hE
    clear q83 q80 q107 q105
    generalize Day.AI v11 X ⟨x5, x6⟩ ⟨x7, x8⟩ = Y at *
    have hY : Day.ND.mk v20 v21 v22 v23 = Y := by rw [q20, q21, q22, q23]
    rw [hY] at q49 q48
    rw [n1] at q49
    have n4 := Day.KA n1
    clear hY
    rw [hr] at q27
    rw [hE] at q24
    by_cases a1 : x5 = 2
    ·have b1 : x5 ≠ 0 := by omega
     by_cases a2 : x7 = 0
     ·by_cases a3 : x8 = 0
      ·rcases i1 a1 a2 a3 with h | ⟨h, h'⟩ <;> subst_vars <;> simp_all
      ·subst_vars; simp_all
     ·subst_vars; simp_all
    ·by_cases a4 : x7 = 2
     ·by_cases a2 : x5 = 0
      ·by_cases a3 : x6 = 0
       ·rcases i2 a4 a2 a3 with h | ⟨h, h'⟩ <;> subst_vars <;> simp_all
       ·subst_vars; simp_all
      ·subst_vars; simp_all
     ·subst_vars; simp_all
end Rx.S
