import Derived.Test.YtjipnabidebgbaaXt
set_option linter.unusedVariables false
set_option linter.unusedSimpArgs false
namespace Rx.S
open Go Rx
set_option maxRecDepth 100000
set_option maxHeartbeats 1000000
set_option linter.unusedVariables false
set_option linter.unusedSimpArgs false
def g_law12_GateSettles : G := ⟨165, [⟨164, .iteB, [V 19, V 161, V 18]⟩, ⟨163, .iteB, [V 19, V 160, V 21]⟩, ⟨162, .not, [V 19]⟩, ⟨161, .iteB, [V 89, V 158, V 88]⟩, ⟨160, .iteB, [V 89, V 157, B false]⟩, ⟨159, .not, [V 89]⟩, ⟨158, .iteB, [V 104, V 104, V 103]⟩, ⟨157, .iteB, [V 104, V 155, V 102]⟩, ⟨156, .not, [V 104]⟩, ⟨155, .iteB, [V 144, V 154, B false]⟩, ⟨154, .iteB, [V 146, B true, V 153]⟩, ⟨153, (.cmp .eql), [V 151, V 107]⟩, ⟨152, .imp, [V 149, V 150]⟩, ⟨150, (.call 101), [V 15, V 24, V 25, V 26, V 27, V 28, V 29, V 30, V 31, V 32, V 33, V 34, V 35, V 35]⟩, ⟨149, .and, [V 148, V 144]⟩, ⟨148, .and, [V 104, V 147]⟩, ⟨147, .not, [V 146]⟩, ⟨146, (.cmp .eql), [V 34, N 0]⟩, ⟨145, .and, [V 104, V 144]⟩, ⟨144, .iteB, [V 116, V 143, B false]⟩, ⟨143, .iteB, [V 113, B true, V 142]⟩, ⟨142, .and, [V 141, V 140]⟩, ⟨141, (.cmp .eql), [V 24, V 1]⟩, ⟨140, .and, [V 139, V 138]⟩, ⟨139, (.cmp .eql), [V 25, V 2]⟩, ⟨138, .and, [V 137, V 136]⟩, ⟨137, (.cmp .eql), [V 26, V 3]⟩, ⟨136, .and, [V 135, V 134]⟩, ⟨135, (.cmp .eql), [V 27, V 4]⟩, ⟨134, .and, [V 133, V 132]⟩, ⟨133, (.cmp .eql), [V 28, V 5]⟩, ⟨132, .and, [V 131, V 130]⟩, ⟨131, (.cmp .eql), [V 29, V 6]⟩, ⟨130, .and, [V 129, V 128]⟩, ⟨129, (.cmp .eql), [V 30, V 7]⟩, ⟨128, .and, [V 127, V 126]⟩, ⟨127, (.cmp .eql), [V 31, V 8]⟩, ⟨126, .and, [V 125, V 124]⟩, ⟨125, (.cmp .eql), [V 32, V 9]⟩, ⟨124, .and, [V 123, V 122]⟩, ⟨123, (.cmp .eql), [V 33, V 10]⟩, ⟨122, .and, [V 121, V 98]⟩, ⟨121, (.cmp .eql), [V 34, V 11]⟩, ⟨120, .and, [V 119, V 116]⟩, ⟨119, .and, [V 104, V 118]⟩, ⟨118, .not, [V 113]⟩, ⟨117, .and, [V 104, V 116]⟩, ⟨116, .iteB, [V 110, V 115, B false]⟩, ⟨115, .eqB, [V 113, V 114]⟩, ⟨114, (.cmp .geq), [V 107, N 2]⟩, ⟨113, (.cmp .gtr), [V 34, N 0]⟩, ⟨112, .and, [V 104, V 110]⟩, ⟨111, .imp, [V 104, V 109]⟩, ⟨109, (.call 103), []⟩, ⟨108, .imp, [V 104, V 105]⟩, ⟨105, (.call 99), [V 15, V 1, V 2, V 3, V 4, V 5, V 6, V 7, V 8, V 9, V 10, V 11, V 12]⟩, ⟨104, .and, [V 91, V 93]⟩, ⟨103, .and, [V 90, V 92]⟩, ⟨102, .iteB, [V 99, V 101, B false]⟩, ⟨101, (.cmp .geq), [V 34, V 11]⟩, ⟨100, .and, [V 92, V 99]⟩, ⟨99, .iteB, [V 95, V 98, B false]⟩, ⟨98, (.cmp .eql), [V 35, V 12]⟩, ⟨97, .and, [V 92, V 95]⟩, ⟨96, .imp, [V 92, V 94]⟩, ⟨94, (.call 103), []⟩, ⟨93, .and, [V 89, V 91]⟩, ⟨92, .and, [V 89, V 90]⟩, ⟨91, .not, [V 90]⟩, ⟨90, (.cmp .gtr), [V 11, N 0]⟩, ⟨89, .and, [V 85, V 87]⟩, ⟨88, .and, [V 84, V 86]⟩, ⟨87, .and, [V 19, V 85]⟩, ⟨86, .and, [V 19, V 84]⟩, ⟨85, .not, [V 84]⟩, ⟨84, .iteB, [V 57, B true, V 83]⟩, ⟨83, .not, [V 82]⟩, ⟨82, .and, [V 81, V 80]⟩, ⟨81, (.cmp .eql), [V 24, V 39]⟩, ⟨80, .and, [V 79, V 78]⟩, ⟨79, (.cmp .eql), [V 25, V 40]⟩, ⟨78, .and, [V 77, V 76]⟩, ⟨77, (.cmp .eql), [V 26, V 41]⟩, ⟨76, .and, [V 75, V 74]⟩, ⟨75, (.cmp .eql), [V 27, V 42]⟩, ⟨74, .and, [V 73, V 72]⟩, ⟨73, (.cmp .eql), [V 28, V 43]⟩, ⟨72, .and, [V 71, V 70]⟩, ⟨71, (.cmp .eql), [V 29, V 44]⟩, ⟨70, .and, [V 69, V 68]⟩, ⟨69, (.cmp .eql), [V 30, V 45]⟩, ⟨68, .and, [V 67, V 66]⟩, ⟨67, (.cmp .eql), [V 31, V 46]⟩, ⟨66, .and, [V 65, V 64]⟩, ⟨65, (.cmp .eql), [V 32, V 47]⟩, ⟨64, .and, [V 63, V 62]⟩, ⟨63, (.cmp .eql), [V 33, V 48]⟩, ⟨62, .and, [V 61, V 60]⟩, ⟨61, (.cmp .eql), [V 34, V 49]⟩, ⟨60, (.cmp .eql), [V 35, V 50]⟩, ⟨59, .and, [V 19, V 58]⟩, ⟨58, .not, [V 57]⟩, ⟨57, .iteB, [V 53, B true, V 56]⟩, ⟨56, (.cmp .neq), [V 51, N 0]⟩, ⟨55, .and, [V 19, V 54]⟩, ⟨54, .not, [V 53]⟩, ⟨53, (.cmp .neq), [V 36, N 0]⟩, ⟨52, .imp, [V 19, V 38]⟩, ⟨38, (.call 105), [V 15, V 24, V 25, V 26, V 27, V 28, V 29, V 30, V 31, V 32, V 33, V 34, V 35]⟩, ⟨37, .imp, [V 19, V 23]⟩, ⟨23, (.call 105), [V 15, V 1, V 2, V 3, V 4, V 5, V 6, V 7, V 8, V 9, V 10, V 11, V 12]⟩, ⟨22, .imp, [V 18, V 20]⟩, ⟨20, (.call 103), []⟩, ⟨19, .not, [V 18]⟩, ⟨18, .not, [V 17]⟩, ⟨16, (.call 97), [V 15, V 1, V 2, V 3, V 4, V 5, V 6, V 7, V 8, V 9, V 10, V 11, V 12]⟩, ⟨15, (.ar .add .i64), [N 3, V 14]⟩, ⟨14, (.conv .i64), [V 13]⟩, ⟨13, (.dv .rem .u8), [V 0, N 6]⟩], [V 152, V 111, V 108, V 96, V 52, V 37, V 22, V 16], []⟩
theorem pure_law12_GateSettles (e : Nat → A) (H : FactsQ T e g_law12_GateSettles.defs) (hp : (Day.u8 (e 0).int && Day.HB.i64 (Day.HB.mk [(e 1).int, (e 2).int, (e 3).int, (e 4).int, (e 5).int, (e 6).int, (e 7).int, (e 8).int] (e 9).int (e 10).int (e 11).int (e 12).int)) = true) :
    ((e 152).bool = true ∧ (e 111).bool = true ∧ (e 108).bool = true ∧ (e 96).bool = true ∧ (e 52).bool = true ∧ (e 37).bool = true ∧ (e 22).bool = true ∧ (e 16).bool = true) ∧ (true = (e 163).bool) := by
  simp only [g_law12_GateSettles, FactsQ, Def.q, updQ, L.ev_var, L.ev_n, L.ev_t, L.ev_e, L.ev, A.int_i, A.bool_b, A.str_v, A.els_l, List.map_cons, List.map_nil, Nat.zero_add, Nat.add_zero, and_true, true_and, Nat.reduceAdd, Nat.one_mul] at H
  simp only [arI, dvI, btI, cmpI, shI, ifQ, updV, ltQ, and_true, true_and] at H
  obtain ⟨q164, q163, q162, q161, q160, q159, q158, q157, q156, q155, q154, q153, q152, q150, q149, q148, q147, q146, q145, q144, q143, q142, q141, q140, q139, q138, q137, q136, q135, q134, q133, q132, q131, q130, q129, q128, q127, q126, q125, q124, q123, q122, q121, q120, q119, q118, q117, q116, q115, q114, q113, q112, q111, q109, q108, q105, q104, q103, q102, q101, q100, q99, q98, q97, q96, q94, q93, q92, q91, q90, q89, q88, q87, q86, q85, q84, q83, q82, q81, q80, q79, q78, q77, q76, q75, q74, q73, q72, q71, q70, q69, q68, q67, q66, q65, q64, q63, q62, q61, q60, q59, q58, q57, q56, q55, q54, q53, q52, q38, q37, q23, q22, q20, q19, q18, q16, ⟨q15, -⟩, ⟨q14, -⟩, q13⟩ := H
  replace q150 := out_ref11_Votes q150
  obtain ⟨q150, q151⟩ := q150
  replace q109 := out_law12_awake q109
  obtain ⟨q109, q110⟩ := q109
  replace q105 := out_ref11_Best q105
  obtain ⟨q105, q106, q107⟩ := q105
  replace q94 := out_law12_awake q94
  obtain ⟨q94, q95⟩ := q94
  replace q38 := out_gate_Settle q38
  obtain ⟨q38, q39, q40, q41, q42, q43, q44, q45, q46, q47, q48, q49, q50, q51⟩ := q38
  replace q23 := out_gate_Settle q23
  obtain ⟨q23, q24, q25, q26, q27, q28, q29, q30, q31, q32, q33, q34, q35, q36⟩ := q23
  replace q20 := out_law12_awake q20
  obtain ⟨q20, q21⟩ := q20
  replace q16 := out_ref11_Right q16
  obtain ⟨q16, q17⟩ := q16
  simp only [L.ev_var, L.ev_n, L.ev_t, L.ev_e, L.ev, A.int_i, A.bool_b, A.str_v] at q150 q151 q109 q110 q105 q106 q107 q94 q95 q38 q39 q40 q41 q42 q43 q44 q45 q46 q47 q48 q49 q50 q51 q23 q24 q25 q26 q27 q28 q29 q30 q31 q32 q33 q34 q35 q36 q20 q21 q16 q17
  generalize (e 0).int = x0, (e 1).int = x1, (e 2).int = x2, (e 3).int = x3, (e 4).int = x4, (e 5).int = x5, (e 6).int = x6, (e 7).int = x7, (e 8).int = x8, (e 9).int = x9, (e 10).int = x10, (e 11).int = x11, (e 12).int = x12, (e 13).int = v13, (e 14).int = v14, (e 15).int = v15, (e 16).bool = v16, (e 17).bool = v17, (e 18).bool = v18, (e 19).bool = v19, (e 20).bool = v20, (e 21).bool = v21, (e 22).bool = v22, (e 23).bool = v23, (e 24).int = v24, (e 25).int = v25, (e 26).int = v26, (e 27).int = v27, (e 28).int = v28, (e 29).int = v29, (e 30).int = v30, (e 31).int = v31, (e 32).int = v32, (e 33).int = v33, (e 34).int = v34, (e 35).int = v35, (e 36).int = v36, (e 37).bool = v37, (e 38).bool = v38, (e 39).int = v39, (e 40).int = v40, (e 41).int = v41, (e 42).int = v42, (e 43).int = v43, (e 44).int = v44, (e 45).int = v45, (e 46).int = v46, (e 47).int = v47, (e 48).int = v48, (e 49).int = v49, (e 50).int = v50, (e 51).int = v51, (e 52).bool = v52, (e 53).bool = v53, (e 54).bool = v54, (e 55).bool = v55, (e 56).bool = v56, (e 57).bool = v57, (e 58).bool = v58, (e 59).bool = v59, (e 60).bool = v60, (e 61).bool = v61, (e 62).bool = v62, (e 63).bool = v63, (e 64).bool = v64, (e 65).bool = v65, (e 66).bool = v66, (e 67).bool = v67, (e 68).bool = v68, (e 69).bool = v69, (e 70).bool = v70, (e 71).bool = v71, (e 72).bool = v72, (e 73).bool = v73, (e 74).bool = v74, (e 75).bool = v75, (e 76).bool = v76, (e 77).bool = v77, (e 78).bool = v78, (e 79).bool = v79, (e 80).bool = v80, (e 81).bool = v81, (e 82).bool = v82, (e 83).bool = v83, (e 84).bool = v84, (e 85).bool = v85, (e 86).bool = v86, (e 87).bool = v87, (e 88).bool = v88, (e 89).bool = v89, (e 90).bool = v90, (e 91).bool = v91, (e 92).bool = v92, (e 93).bool = v93, (e 94).bool = v94, (e 95).bool = v95, (e 96).bool = v96, (e 97).bool = v97, (e 98).bool = v98, (e 99).bool = v99, (e 100).bool = v100, (e 101).bool = v101, (e 102).bool = v102, (e 103).bool = v103, (e 104).bool = v104, (e 105).bool = v105, (e 106).int = v106, (e 107).int = v107, (e 108).bool = v108, (e 109).bool = v109, (e 110).bool = v110, (e 111).bool = v111, (e 112).bool = v112, (e 113).bool = v113, (e 114).bool = v114, (e 115).bool = v115, (e 116).bool = v116, (e 117).bool = v117, (e 118).bool = v118, (e 119).bool = v119, (e 120).bool = v120, (e 121).bool = v121, (e 122).bool = v122, (e 123).bool = v123, (e 124).bool = v124, (e 125).bool = v125, (e 126).bool = v126, (e 127).bool = v127, (e 128).bool = v128, (e 129).bool = v129, (e 130).bool = v130, (e 131).bool = v131, (e 132).bool = v132, (e 133).bool = v133, (e 134).bool = v134, (e 135).bool = v135, (e 136).bool = v136, (e 137).bool = v137, (e 138).bool = v138, (e 139).bool = v139, (e 140).bool = v140, (e 141).bool = v141, (e 142).bool = v142, (e 143).bool = v143, (e 144).bool = v144, (e 145).bool = v145, (e 146).bool = v146, (e 147).bool = v147, (e 148).bool = v148, (e 149).bool = v149, (e 150).bool = v150, (e 151).int = v151, (e 152).bool = v152, (e 153).bool = v153, (e 154).bool = v154, (e 155).bool = v155, (e 156).bool = v156, (e 157).bool = v157, (e 158).bool = v158, (e 159).bool = v159, (e 160).bool = v160, (e 161).bool = v161, (e 162).bool = v162, (e 163).bool = v163, (e 164).bool = v164 at *
  simp only [Bool.and_eq_true] at hp
  obtain ⟨hx, hi⟩ := hp
  obtain ⟨em, hR⟩ := Day.u8m_eq hx q13 q14 q15
  clear q13 q14 q15 em
  generalize hH : (Day.HB.mk [x1, x2, x3, x4, x5, x6, x7, x8] x9 x10 x11 x12) = h at *
  have g0 : x1 = h.a 0 ∧ x2 = h.a 1 ∧ x3 = h.a 2 ∧ x4 = h.a 3 ∧ x5 = h.a 4 ∧ x6 = h.a 5 ∧ x7 = h.a 6 ∧ x8 = h.a 7 ∧ x9 = h.port ∧ x10 = h.age ∧ x11 = h.hold ∧ x12 = h.pos := by subst hH; simp [Day.HB.a]
  obtain ⟨a1, a2, a3, a4, a5, a6, a7, a8, a9, a10, a11, a12⟩ := g0
  clear hH
  cases hr : Day.rightH v15 h with
  | false =>
    rw [hr] at q17
    subst_vars
    simp [hi]
  | true =>
    rw [hr] at q17
    have hn := Day.right_le hr
    have hs1 := Day.settle_right hr
    have hmk := Day.mk_HB (Day.settleH v15 h) (Day.len_settle _ _)
    rw [← q24, ← q25, ← q26, ← q27, ← q28, ← q29, ← q30, ← q31, ← q32, ← q33, ← q34, ← q35] at hmk
    simp only [hmk, Day.settle_again hr] at q38 q39 q40 q41 q42 q43 q44 q45 q46 q47 q48 q49 q50 q51 q150 q151
    have hi2 := Day.right_i64 hs1
    have g1 := Day.argH_right hr
    have g2 := Day.argH_right hs1
    rw [g1] at q36
    rw [g2] at q51
    obtain ⟨L1, L2⟩ := Day.settle_law hr
    have hb := Day.right_all hr
    clear hmk
    by_cases c : 0 < h.hold
    · obtain ⟨L3, L4⟩ := L1 c
      subst_vars
      simp [hi, hi2, c, L3, L4]
    · have c0 : h.hold = 0 := by omega
      obtain ⟨L3, L4⟩ := L2 c0
      by_cases c2 : 2 ≤ Day.bestK v15 h
      · obtain ⟨L5, L6⟩ := L3 c2
        have L7 : ¬ (Day.settleH v15 h).hold = 0 := by omega
        subst_vars
        simp [hi, hi2, c, c2, L5, L6, L7]
      · have L5 := L4 c2
        have hi3 : (Day.sameH h).i64 = true := by rw [← L5]; exact hi2
        subst_vars
        simp only [L5, hi3]
        simp [hi, c, c2, c0, Day.sameH, Day.ages8, Day.HB.a]
end Rx.S
