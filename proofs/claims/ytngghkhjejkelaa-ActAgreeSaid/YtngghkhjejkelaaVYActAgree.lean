import Derived.Test.YtngghkhjejkelaaVXt
set_option linter.unusedVariables false
set_option linter.unusedSimpArgs false
namespace Rx.S
open Go Rx
set_option maxRecDepth 100000
set_option maxHeartbeats 1000000
def DL : G := ⟨143, [⟨142, .iteB, [V 34, V 139, V 33]⟩, ⟨141, .iteB, [V 34, V 138, V 36]⟩, ⟨140, .not, [V 34]⟩, ⟨139, .iteB, [V 77, V 136, V 76]⟩, ⟨138, .iteB, [V 77, V 135, B false]⟩, ⟨137, .not, [V 77]⟩, ⟨136, .iteB, [V 98, V 98, V 97]⟩, ⟨135, .iteB, [V 98, V 133, V 95]⟩, ⟨134, .not, [V 98]⟩, ⟨133, .iteB, [V 130, V 132, B false]⟩, ⟨132, (.cmp .eql), [V 103, V 46]⟩, ⟨131, .and, [V 98, V 130]⟩, ⟨130, .iteB, [V 127, V 129, B false]⟩, ⟨129, (.cmp .eql), [V 103, V 110]⟩, ⟨128, .and, [V 98, V 127]⟩, ⟨127, .iteB, [V 124, V 126, B false]⟩, ⟨126, (.cmp .eql), [V 108, N 3]⟩, ⟨125, .and, [V 98, V 124]⟩, ⟨124, .iteB, [V 121, V 123, B false]⟩, ⟨123, (.cmp .eql), [V 101, N 3]⟩, ⟨122, .and, [V 98, V 121]⟩, ⟨121, .iteB, [V 118, V 120, B false]⟩, ⟨120, (.cmp .eql), [V 111, N 0]⟩, ⟨119, .and, [V 98, V 118]⟩, ⟨118, .iteB, [V 114, V 117, B false]⟩, ⟨117, (.cmp .eql), [V 104, N 0]⟩, ⟨116, .and, [V 98, V 114]⟩, ⟨115, .imp, [V 98, V 113]⟩, ⟨113, (.call 27), []⟩, ⟨112, .imp, [V 98, V 106]⟩, ⟨106, (.call 28), [V 12, V 5, V 6, V 7, V 8, N 0, N 0, N 1, V 41]⟩, ⟨105, .imp, [V 98, V 99]⟩, ⟨99, (.call 28), [V 12, V 1, V 2, V 3, V 4, N 0, N 0, N 1, V 41]⟩, ⟨98, .and, [V 91, V 93]⟩, ⟨97, .and, [V 90, V 92]⟩, ⟨96, .imp, [V 92, V 94]⟩, ⟨94, (.call 27), []⟩, ⟨93, .and, [V 77, V 91]⟩, ⟨92, .and, [V 77, V 90]⟩, ⟨91, .not, [V 90]⟩, ⟨90, .iteB, [V 86, B true, V 89]⟩, ⟨89, (.cmp .eql), [V 5, V 41]⟩, ⟨88, .and, [V 77, V 87]⟩, ⟨87, .not, [V 86]⟩, ⟨86, .iteB, [V 82, B true, V 85]⟩, ⟨85, (.cmp .eql), [V 1, V 41]⟩, ⟨84, .and, [V 77, V 83]⟩, ⟨83, .not, [V 82]⟩, ⟨82, .iteB, [V 78, B true, V 81]⟩, ⟨81, (.cmp .neq), [V 6, N 2]⟩, ⟨80, .and, [V 77, V 79]⟩, ⟨79, .not, [V 78]⟩, ⟨78, (.cmp .neq), [V 2, N 2]⟩, ⟨77, .and, [V 73, V 75]⟩, ⟨76, .and, [V 72, V 74]⟩, ⟨75, .and, [V 34, V 73]⟩, ⟨74, .and, [V 34, V 72]⟩, ⟨73, .not, [V 72]⟩, ⟨72, .iteB, [V 68, B true, V 71]⟩, ⟨71, (.cmp .neq), [V 46, V 53]⟩, ⟨70, .and, [V 34, V 69]⟩, ⟨69, .not, [V 68]⟩, ⟨68, .iteB, [V 64, B true, V 67]⟩, ⟨67, (.cmp .neq), [V 51, N 3]⟩, ⟨66, .and, [V 34, V 65]⟩, ⟨65, .not, [V 64]⟩, ⟨64, .iteB, [V 60, B true, V 63]⟩, ⟨63, (.cmp .neq), [V 44, N 3]⟩, ⟨62, .and, [V 34, V 61]⟩, ⟨61, .not, [V 60]⟩, ⟨60, .iteB, [V 56, B true, V 59]⟩, ⟨59, (.cmp .neq), [V 54, N 0]⟩, ⟨58, .and, [V 34, V 57]⟩, ⟨57, .not, [V 56]⟩, ⟨56, (.cmp .neq), [V 47, N 0]⟩, ⟨55, .imp, [V 34, V 49]⟩, ⟨49, (.call 28), [V 12, V 5, V 6, V 7, V 8, N 2, V 41, N 0, N 0]⟩, ⟨48, .imp, [V 34, V 42]⟩, ⟨42, (.call 28), [V 12, V 1, V 2, V 3, V 4, N 2, V 41, N 0, N 0]⟩, ⟨41, (.dv .rem .i64), [V 38, V 12]⟩, ⟨40, .imp, [V 34, V 39]⟩, ⟨39, (.cmp .neq), [V 12, N 0]⟩, ⟨38, (.conv .i64), [V 9]⟩, ⟨37, .imp, [V 33, V 35]⟩, ⟨35, (.call 27), []⟩, ⟨34, .not, [V 33]⟩, ⟨33, .iteB, [V 30, B true, V 32]⟩, ⟨32, (.cmp .eql), [V 6, N 3]⟩, ⟨31, .not, [V 30]⟩, ⟨30, .iteB, [V 27, B true, V 29]⟩, ⟨29, (.cmp .eql), [V 2, N 3]⟩, ⟨28, .not, [V 27]⟩, ⟨27, .iteB, [V 24, B true, V 26]⟩, ⟨26, (.cmp .eql), [V 6, N 0]⟩, ⟨25, .not, [V 24]⟩, ⟨24, .iteB, [V 21, B true, V 23]⟩, ⟨23, (.cmp .eql), [V 2, N 0]⟩, ⟨22, .not, [V 21]⟩, ⟨21, .iteB, [V 15, B true, V 20]⟩, ⟨20, .not, [V 18]⟩, ⟨19, .imp, [V 16, V 17]⟩, ⟨17, (.call 29), [V 12, V 5, V 6, V 7, V 8]⟩, ⟨16, .not, [V 15]⟩, ⟨15, .not, [V 14]⟩, ⟨13, (.call 29), [V 12, V 1, V 2, V 3, V 4]⟩, ⟨12, (.ar .add .i64), [N 3, V 11]⟩, ⟨11, (.conv .i64), [V 10]⟩, ⟨10, (.dv .rem .u8), [V 0, N 6]⟩], [V 115, V 112, V 105, V 96, V 55, V 48, V 40, V 37, V 19, V 13], []⟩
theorem JA (e : Nat → A) (H : Ad T e DL.defs) (hp : (Day.u8 (e 0).int && (Day.ND.i64 (Day.ND.mk (e 1).int (e 2).int (e 3).int (e 4).int) && (Day.ND.i64 (Day.ND.mk (e 5).int (e 6).int (e 7).int (e 8).int) && Day.u8 (e 9).int))) = true) :
  ((e 115).bool = true ∧ (e 112).bool = true ∧ (e 105).bool = true ∧ (e 96).bool = true ∧ (e 55).bool = true ∧ (e 48).bool = true ∧ (e 40).bool = true ∧ (e 37).bool = true ∧ (e 19).bool = true ∧ (e 13).bool = true) ∧ (true = (e 141).bool) := by
 simp only [DL, Ad, Def.q, BB, L.Ai, L.Ar, L.AN, L.AR, L.ev, A.Ah, A.Am, A.Au, A.AZ, List.map_cons, List.map_nil, Nat.zero_add, Nat.add_zero, and_true, true_and, Nat.reduceAdd, Nat.one_mul] at H
 simp only [DZ, Ed, D0, Bo, EK, EO, B9, FI, and_true, true_and] at H
 obtain ⟨q142, q141, q140, q139, q138, q137, q136, q135, q134, q133, q132, q131, q130, q129, q128, q127, q126, q125, q124, q123, q122, q121, q120, q119, q118, q117, q116, q115, q113, q112, q106, q105, q99, q98, q97, q96, q94, q93, q92, q91, q90, q89, q88, q87, q86, q85, q84, q83, q82, q81, q80, q79, q78, q77, q76, q75, q74, q73, q72, q71, q70, q69, q68, q67, q66, q65, q64, q63, q62, q61, q60, q59, q58, q57, q56, q55, q49, q48, q42, ⟨q41, -⟩, q40, q39, ⟨q38, -⟩, q37, q35, q34, q33, q32, q31, q30, q29, q28, q27, q26, q25, q24, q23, q22, q21, q20, q19, q17, q16, q15, q13, ⟨q12, -⟩, ⟨q11, -⟩, ⟨q10, -⟩⟩ := H
 replace q113 := Bn q113
 obtain ⟨q113, q114⟩ := q113
 replace q106 := Bv q106 _ rfl _ rfl
 obtain ⟨q106, q107, q108, q109, q110, q111⟩ := q106
 replace q99 := Bv q99 _ rfl _ rfl
 obtain ⟨q99, q100, q101, q102, q103, q104⟩ := q99
 replace q94 := Bn q94
 obtain ⟨q94, q95⟩ := q94
 replace q49 := Bv q49 _ rfl _ rfl
 obtain ⟨q49, q50, q51, q52, q53, q54⟩ := q49
 replace q42 := Bv q42 _ rfl _ rfl
 obtain ⟨q42, q43, q44, q45, q46, q47⟩ := q42
 replace q35 := Bn q35
 obtain ⟨q35, q36⟩ := q35
 replace q17 := BC q17 _ rfl
 obtain ⟨q17, q18⟩ := q17
 replace q13 := BC q13 _ rfl
 obtain ⟨q13, q14⟩ := q13
 simp only [L.Ai, L.Ar, L.AN, L.AR, L.ev, A.Ah, A.Am, A.Au] at q113 q114 q106 q107 q108 q109 q110 q111 q99 q100 q101 q102 q103 q104 q94 q95 q49 q50 q51 q52 q53 q54 q42 q43 q44 q45 q46 q47 q35 q36 q17 q18 q13 q14
 generalize (e 0).int = x0, (e 1).int = x1, (e 2).int = x2, (e 3).int = x3, (e 4).int = x4, (e 5).int = x5, (e 6).int = x6, (e 7).int = x7, (e 8).int = x8, (e 9).int = x9, (e 10).int = v10, (e 11).int = v11, (e 12).int = v12, (e 13).bool = v13, (e 14).bool = v14, (e 15).bool = v15, (e 16).bool = v16, (e 17).bool = v17, (e 18).bool = v18, (e 19).bool = v19, (e 20).bool = v20, (e 21).bool = v21, (e 22).bool = v22, (e 23).bool = v23, (e 24).bool = v24, (e 25).bool = v25, (e 26).bool = v26, (e 27).bool = v27, (e 28).bool = v28, (e 29).bool = v29, (e 30).bool = v30, (e 31).bool = v31, (e 32).bool = v32, (e 33).bool = v33, (e 34).bool = v34, (e 35).bool = v35, (e 36).bool = v36, (e 37).bool = v37, (e 38).int = v38, (e 39).bool = v39, (e 40).bool = v40, (e 41).int = v41, (e 42).bool = v42, (e 43).int = v43, (e 44).int = v44, (e 45).int = v45, (e 46).int = v46, (e 47).int = v47, (e 48).bool = v48, (e 49).bool = v49, (e 50).int = v50, (e 51).int = v51, (e 52).int = v52, (e 53).int = v53, (e 54).int = v54, (e 55).bool = v55, (e 56).bool = v56, (e 57).bool = v57, (e 58).bool = v58, (e 59).bool = v59, (e 60).bool = v60, (e 61).bool = v61, (e 62).bool = v62, (e 63).bool = v63, (e 64).bool = v64, (e 65).bool = v65, (e 66).bool = v66, (e 67).bool = v67, (e 68).bool = v68, (e 69).bool = v69, (e 70).bool = v70, (e 71).bool = v71, (e 72).bool = v72, (e 73).bool = v73, (e 74).bool = v74, (e 75).bool = v75, (e 76).bool = v76, (e 77).bool = v77, (e 78).bool = v78, (e 79).bool = v79, (e 80).bool = v80, (e 81).bool = v81, (e 82).bool = v82, (e 83).bool = v83, (e 84).bool = v84, (e 85).bool = v85, (e 86).bool = v86, (e 87).bool = v87, (e 88).bool = v88, (e 89).bool = v89, (e 90).bool = v90, (e 91).bool = v91, (e 92).bool = v92, (e 93).bool = v93, (e 94).bool = v94, (e 95).bool = v95, (e 96).bool = v96, (e 97).bool = v97, (e 98).bool = v98, (e 99).bool = v99, (e 100).int = v100, (e 101).int = v101, (e 102).int = v102, (e 103).int = v103, (e 104).int = v104, (e 105).bool = v105, (e 106).bool = v106, (e 107).int = v107, (e 108).int = v108, (e 109).int = v109, (e 110).int = v110, (e 111).int = v111, (e 112).bool = v112, (e 113).bool = v113, (e 114).bool = v114, (e 115).bool = v115, (e 116).bool = v116, (e 117).bool = v117, (e 118).bool = v118, (e 119).bool = v119, (e 120).bool = v120, (e 121).bool = v121, (e 122).bool = v122, (e 123).bool = v123, (e 124).bool = v124, (e 125).bool = v125, (e 126).bool = v126, (e 127).bool = v127, (e 128).bool = v128, (e 129).bool = v129, (e 130).bool = v130, (e 131).bool = v131, (e 132).bool = v132, (e 133).bool = v133, (e 134).bool = v134, (e 135).bool = v135, (e 136).bool = v136, (e 137).bool = v137, (e 138).bool = v138, (e 139).bool = v139, (e 140).bool = v140, (e 141).bool = v141, (e 142).bool = v142 at *
 simp only [Bool.and_eq_true] at hp
 obtain ⟨hu, hi, hj, hw⟩ := hp
 obtain ⟨-, hR⟩ := Day.Xp hu q10 q11 q12
 clear q10 q11 q12
 have hn : 3 ≤ v12 ∧ v12 ≤ 8 := by simpa [Day.right] using hR
 have n0 : v12 ≠ 0 := by omega
 have hk : 0 ≤ v41 ∧ v41 < v12 := by
  simp only [Day.u8, Bool.and_eq_true, decide_eq_true_eq] at hw
  rw [q41, q38, wrap64 (by omega) (by omega)]
  exact ⟨Int.tmod_nonneg _ hw.1, Int.tmod_lt_of_pos _ (by omega)⟩
 have hI := Day.UK hk
 have hC := Day.Xs hk
 clear q41 q38
 generalize hX : Day.ND.mk x1 x2 x3 x4 = X at *
 generalize hY : Day.ND.mk x5 x6 x7 x8 = Y at *
 have f1 : x1 = X.id := by rw [← hX]
 have f2 : x2 = X.mode := by rw [← hX]
 have f3 : x5 = Y.id := by rw [← hY]
 have f4 : x6 = Y.mode := by rw [← hY]
 clear hX hY
 cases hr : Day.Ap v12 X with
 | false => subst_vars; simp_all
 | true =>
  cases hs : Day.Ap v12 Y with
  | false => subst_vars; simp_all
  | true =>
   by_cases m1 : X.mode = 0 ∨ Y.mode = 0 ∨ X.mode = 3 ∨ Y.mode = 3
   ·rcases m1 with m | m | m | m <;> subst_vars <;> simp_all
   ·have hE : Day.Bm v12 X = 0 := Day.BZ.2 ⟨hr, by omega⟩
    have hF : Day.Bm v12 Y = 0 := Day.BZ.2 ⟨hs, by omega⟩
    have x3' : X.mode ≠ 3 := by omega
    have y3' : Y.mode ≠ 3 := by omega
    have x0' : X.mode ≠ 0 := by omega
    have y0' : Y.mode ≠ 0 := by omega
    have sX := Day.R2 (i := v41) hE x3'
    have sY := Day.R2 (i := v41) hF y3'
    by_cases c1 : X.mode = 2
    ·by_cases c2 : Y.mode = 2
     ·by_cases c3 : X.id = v41
      ·subst_vars; simp_all
      ·by_cases c4 : Y.id = v41
       ·subst_vars; simp_all
       ·have tX := Day.Xr hE c1 c3
        have tY := Day.Xr hF c2 c4
        subst_vars; simp_all
     ·subst_vars; simp_all
    ·subst_vars; simp_all
end Rx.S
