import Derived.Test.YtjipnabidebgbaaXc
import Derived.Test.YtjipnabidebgbaaXt
set_option linter.unusedVariables false
set_option linter.unusedSimpArgs false
namespace Rx.S
open Go Rx
set_option maxRecDepth 100000
set_option maxHeartbeats 1000000
set_option linter.unusedVariables false
set_option linter.unusedSimpArgs false
def g_vote_Clean : G := ⟨127, [⟨126, .iteB, [V 16, V 16, V 15]⟩, ⟨125, .iteI, [V 16, V 98, N 0]⟩, ⟨124, .iteI, [V 16, V 68, N 0]⟩, ⟨123, .iteI, [V 16, V 65, N 0]⟩, ⟨122, .iteI, [V 16, V 95, N 0]⟩, ⟨121, .iteI, [V 16, V 92, N 0]⟩, ⟨120, .iteI, [V 16, V 89, N 0]⟩, ⟨119, .iteI, [V 16, V 86, N 0]⟩, ⟨118, .iteI, [V 16, V 83, N 0]⟩, ⟨117, .iteI, [V 16, V 80, N 0]⟩, ⟨116, .iteI, [V 16, V 77, N 0]⟩, ⟨115, .iteI, [V 16, V 74, N 0]⟩, ⟨114, .iteI, [V 16, V 71, N 0]⟩, ⟨113, .iteI, [V 16, V 98, V 12]⟩, ⟨112, .iteI, [V 16, V 68, V 11]⟩, ⟨111, .iteI, [V 16, V 65, V 10]⟩, ⟨110, .iteI, [V 16, V 95, V 9]⟩, ⟨109, .iteI, [V 16, V 92, V 8]⟩, ⟨108, .iteI, [V 16, V 89, V 7]⟩, ⟨107, .iteI, [V 16, V 86, V 6]⟩, ⟨106, .iteI, [V 16, V 83, V 5]⟩, ⟨105, .iteI, [V 16, V 80, V 4]⟩, ⟨104, .iteI, [V 16, V 77, V 3]⟩, ⟨103, .iteI, [V 16, V 74, V 2]⟩, ⟨102, .iteI, [V 16, V 71, V 1]⟩, ⟨101, .iteI, [V 16, N 0, N 1]⟩, ⟨100, .not, [V 16]⟩, ⟨99, .imp, [V 16, V 97]⟩, ⟨97, (.call 33), [V 0, V 12]⟩, ⟨96, .imp, [V 16, V 94]⟩, ⟨94, (.call 33), [V 0, V 9]⟩, ⟨93, .imp, [V 16, V 91]⟩, ⟨91, (.call 133), [V 8, N 0, V 63]⟩, ⟨90, .imp, [V 16, V 88]⟩, ⟨88, (.call 133), [V 7, N 0, V 58]⟩, ⟨87, .imp, [V 16, V 85]⟩, ⟨85, (.call 133), [V 6, N 0, V 53]⟩, ⟨84, .imp, [V 16, V 82]⟩, ⟨82, (.call 133), [V 5, N 0, V 48]⟩, ⟨81, .imp, [V 16, V 79]⟩, ⟨79, (.call 133), [V 4, N 0, V 43]⟩, ⟨78, .imp, [V 16, V 76]⟩, ⟨76, (.call 133), [V 3, N 0, V 38]⟩, ⟨75, .imp, [V 16, V 73]⟩, ⟨73, (.call 133), [V 2, N 0, V 33]⟩, ⟨72, .imp, [V 16, V 70]⟩, ⟨70, (.call 133), [V 1, N 0, V 28]⟩, ⟨69, .imp, [V 16, V 67]⟩, ⟨67, (.call 133), [V 11, N 0, V 22]⟩, ⟨66, .imp, [V 16, V 64]⟩, ⟨64, (.call 133), [V 10, N 0, V 20]⟩, ⟨63, .iteI, [V 59, V 0, N 0]⟩, ⟨62, .and, [V 16, V 60]⟩, ⟨61, .and, [V 16, V 59]⟩, ⟨60, .not, [V 59]⟩, ⟨59, (.cmp .lss), [N 7, V 0]⟩, ⟨58, .iteI, [V 54, V 0, N 0]⟩, ⟨57, .and, [V 16, V 55]⟩, ⟨56, .and, [V 16, V 54]⟩, ⟨55, .not, [V 54]⟩, ⟨54, (.cmp .lss), [N 6, V 0]⟩, ⟨53, .iteI, [V 49, V 0, N 0]⟩, ⟨52, .and, [V 16, V 50]⟩, ⟨51, .and, [V 16, V 49]⟩, ⟨50, .not, [V 49]⟩, ⟨49, (.cmp .lss), [N 5, V 0]⟩, ⟨48, .iteI, [V 44, V 0, N 0]⟩, ⟨47, .and, [V 16, V 45]⟩, ⟨46, .and, [V 16, V 44]⟩, ⟨45, .not, [V 44]⟩, ⟨44, (.cmp .lss), [N 4, V 0]⟩, ⟨43, .iteI, [V 39, V 0, N 0]⟩, ⟨42, .and, [V 16, V 40]⟩, ⟨41, .and, [V 16, V 39]⟩, ⟨40, .not, [V 39]⟩, ⟨39, (.cmp .lss), [N 3, V 0]⟩, ⟨38, .iteI, [V 34, V 0, N 0]⟩, ⟨37, .and, [V 16, V 35]⟩, ⟨36, .and, [V 16, V 34]⟩, ⟨35, .not, [V 34]⟩, ⟨34, (.cmp .lss), [N 2, V 0]⟩, ⟨33, .iteI, [V 29, V 0, N 0]⟩, ⟨32, .and, [V 16, V 30]⟩, ⟨31, .and, [V 16, V 29]⟩, ⟨30, .not, [V 29]⟩, ⟨29, (.cmp .lss), [N 1, V 0]⟩, ⟨28, .iteI, [V 24, V 0, N 0]⟩, ⟨27, .and, [V 16, V 25]⟩, ⟨26, .and, [V 16, V 24]⟩, ⟨25, .not, [V 24]⟩, ⟨24, (.cmp .lss), [N 0, V 0]⟩, ⟨23, .imp, [V 16, V 21]⟩, ⟨21, (.call 44), [V 0]⟩, ⟨20, (.ar .add .i64), [V 18, N 1]⟩, ⟨19, .imp, [V 16, V 17]⟩, ⟨17, (.call 44), [V 0]⟩, ⟨16, .not, [V 15]⟩, ⟨15, .not, [V 14]⟩, ⟨13, (.call 50), [V 0]⟩], [V 99, V 96, V 93, V 90, V 87, V 84, V 81, V 78, V 75, V 72, V 69, V 66, V 23, V 19, V 13], []⟩
theorem pure_vote_Clean (e : Nat → A) (H : FactsQ T e g_vote_Clean.defs) (hp : (Day.HB.i64 (Day.HB.mk [(e 1).int, (e 2).int, (e 3).int, (e 4).int, (e 5).int, (e 6).int, (e 7).int, (e 8).int] (e 9).int (e 10).int (e 11).int (e 12).int)) = true) :
    ((e 99).bool = true ∧ (e 96).bool = true ∧ (e 93).bool = true ∧ (e 90).bool = true ∧ (e 87).bool = true ∧ (e 84).bool = true ∧ (e 81).bool = true ∧ (e 78).bool = true ∧ (e 75).bool = true ∧ (e 72).bool = true ∧ (e 69).bool = true ∧ (e 66).bool = true ∧ (e 23).bool = true ∧ (e 19).bool = true ∧ (e 13).bool = true) ∧ (((Day.cleanH (e 0).int (Day.HB.mk [(e 1).int, (e 2).int, (e 3).int, (e 4).int, (e 5).int, (e 6).int, (e 7).int, (e 8).int] (e 9).int (e 10).int (e 11).int (e 12).int))).a 0 = (e 114).int ∧ ((Day.cleanH (e 0).int (Day.HB.mk [(e 1).int, (e 2).int, (e 3).int, (e 4).int, (e 5).int, (e 6).int, (e 7).int, (e 8).int] (e 9).int (e 10).int (e 11).int (e 12).int))).a 1 = (e 115).int ∧ ((Day.cleanH (e 0).int (Day.HB.mk [(e 1).int, (e 2).int, (e 3).int, (e 4).int, (e 5).int, (e 6).int, (e 7).int, (e 8).int] (e 9).int (e 10).int (e 11).int (e 12).int))).a 2 = (e 116).int ∧ ((Day.cleanH (e 0).int (Day.HB.mk [(e 1).int, (e 2).int, (e 3).int, (e 4).int, (e 5).int, (e 6).int, (e 7).int, (e 8).int] (e 9).int (e 10).int (e 11).int (e 12).int))).a 3 = (e 117).int ∧ ((Day.cleanH (e 0).int (Day.HB.mk [(e 1).int, (e 2).int, (e 3).int, (e 4).int, (e 5).int, (e 6).int, (e 7).int, (e 8).int] (e 9).int (e 10).int (e 11).int (e 12).int))).a 4 = (e 118).int ∧ ((Day.cleanH (e 0).int (Day.HB.mk [(e 1).int, (e 2).int, (e 3).int, (e 4).int, (e 5).int, (e 6).int, (e 7).int, (e 8).int] (e 9).int (e 10).int (e 11).int (e 12).int))).a 5 = (e 119).int ∧ ((Day.cleanH (e 0).int (Day.HB.mk [(e 1).int, (e 2).int, (e 3).int, (e 4).int, (e 5).int, (e 6).int, (e 7).int, (e 8).int] (e 9).int (e 10).int (e 11).int (e 12).int))).a 6 = (e 120).int ∧ ((Day.cleanH (e 0).int (Day.HB.mk [(e 1).int, (e 2).int, (e 3).int, (e 4).int, (e 5).int, (e 6).int, (e 7).int, (e 8).int] (e 9).int (e 10).int (e 11).int (e 12).int))).a 7 = (e 121).int ∧ ((Day.cleanH (e 0).int (Day.HB.mk [(e 1).int, (e 2).int, (e 3).int, (e 4).int, (e 5).int, (e 6).int, (e 7).int, (e 8).int] (e 9).int (e 10).int (e 11).int (e 12).int))).port = (e 122).int ∧ ((Day.cleanH (e 0).int (Day.HB.mk [(e 1).int, (e 2).int, (e 3).int, (e 4).int, (e 5).int, (e 6).int, (e 7).int, (e 8).int] (e 9).int (e 10).int (e 11).int (e 12).int))).age = (e 123).int ∧ ((Day.cleanH (e 0).int (Day.HB.mk [(e 1).int, (e 2).int, (e 3).int, (e 4).int, (e 5).int, (e 6).int, (e 7).int, (e 8).int] (e 9).int (e 10).int (e 11).int (e 12).int))).hold = (e 124).int ∧ ((Day.cleanH (e 0).int (Day.HB.mk [(e 1).int, (e 2).int, (e 3).int, (e 4).int, (e 5).int, (e 6).int, (e 7).int, (e 8).int] (e 9).int (e 10).int (e 11).int (e 12).int))).pos = (e 125).int ∧ Day.argE (e 0).int = (e 101).int) := by
  simp only [g_vote_Clean, FactsQ, Def.q, updQ, L.ev_var, L.ev_n, L.ev_t, L.ev_e, L.ev, A.int_i, A.bool_b, A.str_v, A.els_l, List.map_cons, List.map_nil, Nat.zero_add, Nat.add_zero, and_true, true_and, Nat.reduceAdd, Nat.one_mul] at H
  simp only [arI, dvI, btI, cmpI, ifQ, updV, ltQ, and_true, true_and] at H
  obtain ⟨q126, ⟨q125, -⟩, ⟨q124, -⟩, ⟨q123, -⟩, ⟨q122, -⟩, ⟨q121, -⟩, ⟨q120, -⟩, ⟨q119, -⟩, ⟨q118, -⟩, ⟨q117, -⟩, ⟨q116, -⟩, ⟨q115, -⟩, ⟨q114, -⟩, ⟨q113, -⟩, ⟨q112, -⟩, ⟨q111, -⟩, ⟨q110, -⟩, ⟨q109, -⟩, ⟨q108, -⟩, ⟨q107, -⟩, ⟨q106, -⟩, ⟨q105, -⟩, ⟨q104, -⟩, ⟨q103, -⟩, ⟨q102, -⟩, ⟨q101, -⟩, q100, q99, q97, q96, q94, q93, q91, q90, q88, q87, q85, q84, q82, q81, q79, q78, q76, q75, q73, q72, q70, q69, q67, q66, q64, ⟨q63, -⟩, q62, q61, q60, q59, ⟨q58, -⟩, q57, q56, q55, q54, ⟨q53, -⟩, q52, q51, q50, q49, ⟨q48, -⟩, q47, q46, q45, q44, ⟨q43, -⟩, q42, q41, q40, q39, ⟨q38, -⟩, q37, q36, q35, q34, ⟨q33, -⟩, q32, q31, q30, q29, ⟨q28, -⟩, q27, q26, q25, q24, q23, q21, ⟨q20, -⟩, q19, q17, q16, q15, q13⟩ := H
  replace q97 := out_ring_Mod q97
  obtain ⟨q97, q98⟩ := q97
  replace q94 := out_ring_Mod q94
  obtain ⟨q94, q95⟩ := q94
  replace q91 := out_tally_Clamp q91
  obtain ⟨q91, q92⟩ := q91
  replace q88 := out_tally_Clamp q88
  obtain ⟨q88, q89⟩ := q88
  replace q85 := out_tally_Clamp q85
  obtain ⟨q85, q86⟩ := q85
  replace q82 := out_tally_Clamp q82
  obtain ⟨q82, q83⟩ := q82
  replace q79 := out_tally_Clamp q79
  obtain ⟨q79, q80⟩ := q79
  replace q76 := out_tally_Clamp q76
  obtain ⟨q76, q77⟩ := q76
  replace q73 := out_tally_Clamp q73
  obtain ⟨q73, q74⟩ := q73
  replace q70 := out_tally_Clamp q70
  obtain ⟨q70, q71⟩ := q70
  replace q67 := out_tally_Clamp q67
  obtain ⟨q67, q68⟩ := q67
  replace q64 := out_tally_Clamp q64
  obtain ⟨q64, q65⟩ := q64
  replace q21 := out_conf_Block q21
  obtain ⟨q21, q22⟩ := q21
  replace q17 := out_conf_Block q17
  obtain ⟨q17, q18⟩ := q17
  replace q13 := out_conf_Right q13
  obtain ⟨q13, q14⟩ := q13
  simp only [L.ev_var, L.ev_n, L.ev_t, L.ev_e, L.ev, A.int_i, A.bool_b, A.str_v] at q97 q98 q94 q95 q91 q92 q88 q89 q85 q86 q82 q83 q79 q80 q76 q77 q73 q74 q70 q71 q67 q68 q64 q65 q21 q22 q17 q18 q13 q14
  generalize (e 0).int = x0 at *
  generalize (e 1).int = x1 at *
  generalize (e 2).int = x2 at *
  generalize (e 3).int = x3 at *
  generalize (e 4).int = x4 at *
  generalize (e 5).int = x5 at *
  generalize (e 6).int = x6 at *
  generalize (e 7).int = x7 at *
  generalize (e 8).int = x8 at *
  generalize (e 9).int = x9 at *
  generalize (e 10).int = x10 at *
  generalize (e 11).int = x11 at *
  generalize (e 12).int = x12 at *
  generalize (e 13).bool = v13 at *
  generalize (e 14).bool = v14 at *
  generalize (e 15).bool = v15 at *
  generalize (e 16).bool = v16 at *
  generalize (e 17).bool = v17 at *
  generalize (e 18).int = v18 at *
  generalize (e 19).bool = v19 at *
  generalize (e 20).int = v20 at *
  generalize (e 21).bool = v21 at *
  generalize (e 22).int = v22 at *
  generalize (e 23).bool = v23 at *
  generalize (e 24).bool = v24 at *
  generalize (e 25).bool = v25 at *
  generalize (e 26).bool = v26 at *
  generalize (e 27).bool = v27 at *
  generalize (e 28).int = v28 at *
  generalize (e 29).bool = v29 at *
  generalize (e 30).bool = v30 at *
  generalize (e 31).bool = v31 at *
  generalize (e 32).bool = v32 at *
  generalize (e 33).int = v33 at *
  generalize (e 34).bool = v34 at *
  generalize (e 35).bool = v35 at *
  generalize (e 36).bool = v36 at *
  generalize (e 37).bool = v37 at *
  generalize (e 38).int = v38 at *
  generalize (e 39).bool = v39 at *
  generalize (e 40).bool = v40 at *
  generalize (e 41).bool = v41 at *
  generalize (e 42).bool = v42 at *
  generalize (e 43).int = v43 at *
  generalize (e 44).bool = v44 at *
  generalize (e 45).bool = v45 at *
  generalize (e 46).bool = v46 at *
  generalize (e 47).bool = v47 at *
  generalize (e 48).int = v48 at *
  generalize (e 49).bool = v49 at *
  generalize (e 50).bool = v50 at *
  generalize (e 51).bool = v51 at *
  generalize (e 52).bool = v52 at *
  generalize (e 53).int = v53 at *
  generalize (e 54).bool = v54 at *
  generalize (e 55).bool = v55 at *
  generalize (e 56).bool = v56 at *
  generalize (e 57).bool = v57 at *
  generalize (e 58).int = v58 at *
  generalize (e 59).bool = v59 at *
  generalize (e 60).bool = v60 at *
  generalize (e 61).bool = v61 at *
  generalize (e 62).bool = v62 at *
  generalize (e 63).int = v63 at *
  generalize (e 64).bool = v64 at *
  generalize (e 65).int = v65 at *
  generalize (e 66).bool = v66 at *
  generalize (e 67).bool = v67 at *
  generalize (e 68).int = v68 at *
  generalize (e 69).bool = v69 at *
  generalize (e 70).bool = v70 at *
  generalize (e 71).int = v71 at *
  generalize (e 72).bool = v72 at *
  generalize (e 73).bool = v73 at *
  generalize (e 74).int = v74 at *
  generalize (e 75).bool = v75 at *
  generalize (e 76).bool = v76 at *
  generalize (e 77).int = v77 at *
  generalize (e 78).bool = v78 at *
  generalize (e 79).bool = v79 at *
  generalize (e 80).int = v80 at *
  generalize (e 81).bool = v81 at *
  generalize (e 82).bool = v82 at *
  generalize (e 83).int = v83 at *
  generalize (e 84).bool = v84 at *
  generalize (e 85).bool = v85 at *
  generalize (e 86).int = v86 at *
  generalize (e 87).bool = v87 at *
  generalize (e 88).bool = v88 at *
  generalize (e 89).int = v89 at *
  generalize (e 90).bool = v90 at *
  generalize (e 91).bool = v91 at *
  generalize (e 92).int = v92 at *
  generalize (e 93).bool = v93 at *
  generalize (e 94).bool = v94 at *
  generalize (e 95).int = v95 at *
  generalize (e 96).bool = v96 at *
  generalize (e 97).bool = v97 at *
  generalize (e 98).int = v98 at *
  generalize (e 99).bool = v99 at *
  generalize (e 100).bool = v100 at *
  generalize (e 101).int = v101 at *
  generalize (e 102).int = v102 at *
  generalize (e 103).int = v103 at *
  generalize (e 104).int = v104 at *
  generalize (e 105).int = v105 at *
  generalize (e 106).int = v106 at *
  generalize (e 107).int = v107 at *
  generalize (e 108).int = v108 at *
  generalize (e 109).int = v109 at *
  generalize (e 110).int = v110 at *
  generalize (e 111).int = v111 at *
  generalize (e 112).int = v112 at *
  generalize (e 113).int = v113 at *
  generalize (e 114).int = v114 at *
  generalize (e 115).int = v115 at *
  generalize (e 116).int = v116 at *
  generalize (e 117).int = v117 at *
  generalize (e 118).int = v118 at *
  generalize (e 119).int = v119 at *
  generalize (e 120).int = v120 at *
  generalize (e 121).int = v121 at *
  generalize (e 122).int = v122 at *
  generalize (e 123).int = v123 at *
  generalize (e 124).int = v124 at *
  generalize (e 125).int = v125 at *
  generalize (e 126).bool = v126 at *
  rcases Day.right_cases x0 with rfl | rfl | rfl | rfl | rfl | rfl | hc
  · subst_vars
    simp [Day.times, wrap64, Day.HB.i64, Day.all8, Day.ages8, Day.mostA, Day.noHB, Day.inR, Day.freshH, Day.cleanH, Day.argE, Day.tickH, Day.argH, Day.HB.a, Day.right, Day.i64, Day.modP, Day.modR, Day.sm, Day.slotP, Day.nextR] at hp ⊢
    omega
  · subst_vars
    simp [Day.times, wrap64, Day.HB.i64, Day.all8, Day.ages8, Day.mostA, Day.noHB, Day.inR, Day.freshH, Day.cleanH, Day.argE, Day.tickH, Day.argH, Day.HB.a, Day.right, Day.i64, Day.modP, Day.modR, Day.sm, Day.slotP, Day.nextR] at hp ⊢
    omega
  · subst_vars
    simp [Day.times, wrap64, Day.HB.i64, Day.all8, Day.ages8, Day.mostA, Day.noHB, Day.inR, Day.freshH, Day.cleanH, Day.argE, Day.tickH, Day.argH, Day.HB.a, Day.right, Day.i64, Day.modP, Day.modR, Day.sm, Day.slotP, Day.nextR] at hp ⊢
    omega
  · subst_vars
    simp [Day.times, wrap64, Day.HB.i64, Day.all8, Day.ages8, Day.mostA, Day.noHB, Day.inR, Day.freshH, Day.cleanH, Day.argE, Day.tickH, Day.argH, Day.HB.a, Day.right, Day.i64, Day.modP, Day.modR, Day.sm, Day.slotP, Day.nextR] at hp ⊢
    omega
  · subst_vars
    simp [Day.times, wrap64, Day.HB.i64, Day.all8, Day.ages8, Day.mostA, Day.noHB, Day.inR, Day.freshH, Day.cleanH, Day.argE, Day.tickH, Day.argH, Day.HB.a, Day.right, Day.i64, Day.modP, Day.modR, Day.sm, Day.slotP, Day.nextR] at hp ⊢
    omega
  · subst_vars
    simp [Day.times, wrap64, Day.HB.i64, Day.all8, Day.ages8, Day.mostA, Day.noHB, Day.inR, Day.freshH, Day.cleanH, Day.argE, Day.tickH, Day.argH, Day.HB.a, Day.right, Day.i64, Day.modP, Day.modR, Day.sm, Day.slotP, Day.nextR] at hp ⊢
    omega
  · subst_vars
    simp [Day.cleanH, Day.argE, hc, Day.noHB, Day.HB.a]
end Rx.S
namespace Rx.S
open Go Rx
set_option maxRecDepth 100000
set_option maxHeartbeats 1000000
set_option linter.unusedVariables false
set_option linter.unusedSimpArgs false
def g_vote_Right : G := ⟨52, [⟨51, .iteB, [V 27, V 50, B false]⟩, ⟨50, .and, [V 49, V 48]⟩, ⟨49, (.cmp .eql), [V 14, V 1]⟩, ⟨48, .and, [V 47, V 46]⟩, ⟨47, (.cmp .eql), [V 15, V 2]⟩, ⟨46, .and, [V 45, V 44]⟩, ⟨45, (.cmp .eql), [V 16, V 3]⟩, ⟨44, .and, [V 43, V 42]⟩, ⟨43, (.cmp .eql), [V 17, V 4]⟩, ⟨42, .and, [V 41, V 40]⟩, ⟨41, (.cmp .eql), [V 18, V 5]⟩, ⟨40, .and, [V 39, V 38]⟩, ⟨39, (.cmp .eql), [V 19, V 6]⟩, ⟨38, .and, [V 37, V 36]⟩, ⟨37, (.cmp .eql), [V 20, V 7]⟩, ⟨36, .and, [V 35, V 34]⟩, ⟨35, (.cmp .eql), [V 21, V 8]⟩, ⟨34, .and, [V 33, V 32]⟩, ⟨33, (.cmp .eql), [V 22, V 9]⟩, ⟨32, .and, [V 31, V 30]⟩, ⟨31, (.cmp .eql), [V 23, V 10]⟩, ⟨30, .and, [V 29, V 28]⟩, ⟨29, (.cmp .eql), [V 24, V 11]⟩, ⟨28, (.cmp .eql), [V 25, V 12]⟩, ⟨27, (.cmp .eql), [V 26, N 0]⟩, ⟨13, (.call 89), [V 0, V 1, V 2, V 3, V 4, V 5, V 6, V 7, V 8, V 9, V 10, V 11, V 12]⟩], [V 13], []⟩
theorem pure_vote_Right (e : Nat → A) (H : FactsQ T e g_vote_Right.defs) (hp : (Day.HB.i64 (Day.HB.mk [(e 1).int, (e 2).int, (e 3).int, (e 4).int, (e 5).int, (e 6).int, (e 7).int, (e 8).int] (e 9).int (e 10).int (e 11).int (e 12).int)) = true) :
    ((e 13).bool = true) ∧ (Day.rightH (e 0).int (Day.HB.mk [(e 1).int, (e 2).int, (e 3).int, (e 4).int, (e 5).int, (e 6).int, (e 7).int, (e 8).int] (e 9).int (e 10).int (e 11).int (e 12).int) = (e 51).bool) := by
  simp only [g_vote_Right, FactsQ, Def.q, updQ, L.ev_var, L.ev_n, L.ev_t, L.ev_e, L.ev, A.int_i, A.bool_b, A.str_v, A.els_l, List.map_cons, List.map_nil, Nat.zero_add, Nat.add_zero, and_true, true_and, Nat.reduceAdd, Nat.one_mul] at H
  simp only [arI, dvI, btI, cmpI, ifQ, updV, ltQ, and_true, true_and] at H
  obtain ⟨q51, q50, q49, q48, q47, q46, q45, q44, q43, q42, q41, q40, q39, q38, q37, q36, q35, q34, q33, q32, q31, q30, q29, q28, q27, q13⟩ := H
  replace q13 := out_vote_Clean q13
  obtain ⟨q13, q14, q15, q16, q17, q18, q19, q20, q21, q22, q23, q24, q25, q26⟩ := q13
  simp only [L.ev_var, L.ev_n, L.ev_t, L.ev_e, L.ev, A.int_i, A.bool_b, A.str_v] at q13 q14 q15 q16 q17 q18 q19 q20 q21 q22 q23 q24 q25 q26
  generalize (e 0).int = x0 at *
  generalize (e 1).int = x1 at *
  generalize (e 2).int = x2 at *
  generalize (e 3).int = x3 at *
  generalize (e 4).int = x4 at *
  generalize (e 5).int = x5 at *
  generalize (e 6).int = x6 at *
  generalize (e 7).int = x7 at *
  generalize (e 8).int = x8 at *
  generalize (e 9).int = x9 at *
  generalize (e 10).int = x10 at *
  generalize (e 11).int = x11 at *
  generalize (e 12).int = x12 at *
  generalize (e 13).bool = v13 at *
  generalize (e 14).int = v14 at *
  generalize (e 15).int = v15 at *
  generalize (e 16).int = v16 at *
  generalize (e 17).int = v17 at *
  generalize (e 18).int = v18 at *
  generalize (e 19).int = v19 at *
  generalize (e 20).int = v20 at *
  generalize (e 21).int = v21 at *
  generalize (e 22).int = v22 at *
  generalize (e 23).int = v23 at *
  generalize (e 24).int = v24 at *
  generalize (e 25).int = v25 at *
  generalize (e 26).int = v26 at *
  generalize (e 27).bool = v27 at *
  generalize (e 28).bool = v28 at *
  generalize (e 29).bool = v29 at *
  generalize (e 30).bool = v30 at *
  generalize (e 31).bool = v31 at *
  generalize (e 32).bool = v32 at *
  generalize (e 33).bool = v33 at *
  generalize (e 34).bool = v34 at *
  generalize (e 35).bool = v35 at *
  generalize (e 36).bool = v36 at *
  generalize (e 37).bool = v37 at *
  generalize (e 38).bool = v38 at *
  generalize (e 39).bool = v39 at *
  generalize (e 40).bool = v40 at *
  generalize (e 41).bool = v41 at *
  generalize (e 42).bool = v42 at *
  generalize (e 43).bool = v43 at *
  generalize (e 44).bool = v44 at *
  generalize (e 45).bool = v45 at *
  generalize (e 46).bool = v46 at *
  generalize (e 47).bool = v47 at *
  generalize (e 48).bool = v48 at *
  generalize (e 49).bool = v49 at *
  generalize (e 50).bool = v50 at *
  generalize (e 51).bool = v51 at *
  refine ⟨by rw [q13]; exact hp, ?_⟩
  cases hr : Day.right x0 with
  | false =>
    have h1 : Day.rightH x0 ⟨[x1, x2, x3, x4, x5, x6, x7, x8], x9, x10, x11, x12⟩ = false := by simp [Day.rightH, hr]
    simp [*, Day.argE, hr, h1]
  | true =>
    have e := Day.right_clean x0 ⟨[x1, x2, x3, x4, x5, x6, x7, x8], x9, x10, x11, x12⟩ hr
    rw [Bool.eq_iff_iff, e]
    clear e hp
    subst_vars
    generalize Day.cleanH x0 ⟨[x1, x2, x3, x4, x5, x6, x7, x8], x9, x10, x11, x12⟩ = c
    simp [Day.argE, hr, Day.HB.a, and_assoc]
end Rx.S
namespace Rx.S
open Go Rx
set_option maxRecDepth 100000
set_option maxHeartbeats 1000000
set_option linter.unusedVariables false
set_option linter.unusedSimpArgs false
def g_vote_Fresh : G := ⟨64, [⟨63, .iteB, [V 4, V 4, V 3]⟩, ⟨62, .iteI, [V 4, V 8, N 0]⟩, ⟨61, .iteI, [V 4, V 51, N 0]⟩, ⟨60, .iteI, [V 4, V 46, N 0]⟩, ⟨59, .iteI, [V 4, V 41, N 0]⟩, ⟨58, .iteI, [V 4, V 36, N 0]⟩, ⟨57, .iteI, [V 4, V 31, N 0]⟩, ⟨56, .iteI, [V 4, V 26, N 0]⟩, ⟨55, .iteI, [V 4, V 21, N 0]⟩, ⟨54, .iteI, [V 4, V 16, N 0]⟩, ⟨53, .iteI, [V 4, N 0, N 1]⟩, ⟨52, .not, [V 4]⟩, ⟨51, .iteI, [V 47, V 0, N 0]⟩, ⟨50, .and, [V 4, V 48]⟩, ⟨49, .and, [V 4, V 47]⟩, ⟨48, .not, [V 47]⟩, ⟨47, (.cmp .lss), [N 7, V 0]⟩, ⟨46, .iteI, [V 42, V 0, N 0]⟩, ⟨45, .and, [V 4, V 43]⟩, ⟨44, .and, [V 4, V 42]⟩, ⟨43, .not, [V 42]⟩, ⟨42, (.cmp .lss), [N 6, V 0]⟩, ⟨41, .iteI, [V 37, V 0, N 0]⟩, ⟨40, .and, [V 4, V 38]⟩, ⟨39, .and, [V 4, V 37]⟩, ⟨38, .not, [V 37]⟩, ⟨37, (.cmp .lss), [N 5, V 0]⟩, ⟨36, .iteI, [V 32, V 0, N 0]⟩, ⟨35, .and, [V 4, V 33]⟩, ⟨34, .and, [V 4, V 32]⟩, ⟨33, .not, [V 32]⟩, ⟨32, (.cmp .lss), [N 4, V 0]⟩, ⟨31, .iteI, [V 27, V 0, N 0]⟩, ⟨30, .and, [V 4, V 28]⟩, ⟨29, .and, [V 4, V 27]⟩, ⟨28, .not, [V 27]⟩, ⟨27, (.cmp .lss), [N 3, V 0]⟩, ⟨26, .iteI, [V 22, V 0, N 0]⟩, ⟨25, .and, [V 4, V 23]⟩, ⟨24, .and, [V 4, V 22]⟩, ⟨23, .not, [V 22]⟩, ⟨22, (.cmp .lss), [N 2, V 0]⟩, ⟨21, .iteI, [V 17, V 0, N 0]⟩, ⟨20, .and, [V 4, V 18]⟩, ⟨19, .and, [V 4, V 17]⟩, ⟨18, .not, [V 17]⟩, ⟨17, (.cmp .lss), [N 1, V 0]⟩, ⟨16, .iteI, [V 12, V 0, N 0]⟩, ⟨15, .and, [V 4, V 13]⟩, ⟨14, .and, [V 4, V 12]⟩, ⟨13, .not, [V 12]⟩, ⟨12, (.cmp .lss), [N 0, V 0]⟩, ⟨11, .imp, [V 4, V 9]⟩, ⟨9, (.call 44), [V 0]⟩, ⟨8, (.ar .add .i64), [V 6, N 1]⟩, ⟨7, .imp, [V 4, V 5]⟩, ⟨5, (.call 44), [V 0]⟩, ⟨4, .not, [V 3]⟩, ⟨3, .not, [V 2]⟩, ⟨1, (.call 50), [V 0]⟩], [V 11, V 7, V 1], []⟩
theorem pure_vote_Fresh (e : Nat → A) (H : FactsQ T e g_vote_Fresh.defs) (hp : (true) = true) :
    ((e 11).bool = true ∧ (e 7).bool = true ∧ (e 1).bool = true) ∧ (((Day.freshH (e 0).int)).a 0 = (e 54).int ∧ ((Day.freshH (e 0).int)).a 1 = (e 55).int ∧ ((Day.freshH (e 0).int)).a 2 = (e 56).int ∧ ((Day.freshH (e 0).int)).a 3 = (e 57).int ∧ ((Day.freshH (e 0).int)).a 4 = (e 58).int ∧ ((Day.freshH (e 0).int)).a 5 = (e 59).int ∧ ((Day.freshH (e 0).int)).a 6 = (e 60).int ∧ ((Day.freshH (e 0).int)).a 7 = (e 61).int ∧ ((Day.freshH (e 0).int)).port = (0 : Int) ∧ ((Day.freshH (e 0).int)).age = (e 62).int ∧ ((Day.freshH (e 0).int)).hold = (0 : Int) ∧ ((Day.freshH (e 0).int)).pos = (0 : Int) ∧ Day.argE (e 0).int = (e 53).int) := by
  simp only [g_vote_Fresh, FactsQ, Def.q, updQ, L.ev_var, L.ev_n, L.ev_t, L.ev_e, L.ev, A.int_i, A.bool_b, A.str_v, A.els_l, List.map_cons, List.map_nil, Nat.zero_add, Nat.add_zero, and_true, true_and, Nat.reduceAdd, Nat.one_mul] at H
  simp only [arI, dvI, btI, cmpI, ifQ, updV, ltQ, and_true, true_and] at H
  obtain ⟨q63, ⟨q62, -⟩, ⟨q61, -⟩, ⟨q60, -⟩, ⟨q59, -⟩, ⟨q58, -⟩, ⟨q57, -⟩, ⟨q56, -⟩, ⟨q55, -⟩, ⟨q54, -⟩, ⟨q53, -⟩, q52, ⟨q51, -⟩, q50, q49, q48, q47, ⟨q46, -⟩, q45, q44, q43, q42, ⟨q41, -⟩, q40, q39, q38, q37, ⟨q36, -⟩, q35, q34, q33, q32, ⟨q31, -⟩, q30, q29, q28, q27, ⟨q26, -⟩, q25, q24, q23, q22, ⟨q21, -⟩, q20, q19, q18, q17, ⟨q16, -⟩, q15, q14, q13, q12, q11, q9, ⟨q8, -⟩, q7, q5, q4, q3, q1⟩ := H
  replace q9 := out_conf_Block q9
  obtain ⟨q9, q10⟩ := q9
  replace q5 := out_conf_Block q5
  obtain ⟨q5, q6⟩ := q5
  replace q1 := out_conf_Right q1
  obtain ⟨q1, q2⟩ := q1
  simp only [L.ev_var, L.ev_n, L.ev_t, L.ev_e, L.ev, A.int_i, A.bool_b, A.str_v] at q9 q10 q5 q6 q1 q2
  generalize (e 0).int = x0 at *
  generalize (e 1).bool = v1 at *
  generalize (e 2).bool = v2 at *
  generalize (e 3).bool = v3 at *
  generalize (e 4).bool = v4 at *
  generalize (e 5).bool = v5 at *
  generalize (e 6).int = v6 at *
  generalize (e 7).bool = v7 at *
  generalize (e 8).int = v8 at *
  generalize (e 9).bool = v9 at *
  generalize (e 10).int = v10 at *
  generalize (e 11).bool = v11 at *
  generalize (e 12).bool = v12 at *
  generalize (e 13).bool = v13 at *
  generalize (e 14).bool = v14 at *
  generalize (e 15).bool = v15 at *
  generalize (e 16).int = v16 at *
  generalize (e 17).bool = v17 at *
  generalize (e 18).bool = v18 at *
  generalize (e 19).bool = v19 at *
  generalize (e 20).bool = v20 at *
  generalize (e 21).int = v21 at *
  generalize (e 22).bool = v22 at *
  generalize (e 23).bool = v23 at *
  generalize (e 24).bool = v24 at *
  generalize (e 25).bool = v25 at *
  generalize (e 26).int = v26 at *
  generalize (e 27).bool = v27 at *
  generalize (e 28).bool = v28 at *
  generalize (e 29).bool = v29 at *
  generalize (e 30).bool = v30 at *
  generalize (e 31).int = v31 at *
  generalize (e 32).bool = v32 at *
  generalize (e 33).bool = v33 at *
  generalize (e 34).bool = v34 at *
  generalize (e 35).bool = v35 at *
  generalize (e 36).int = v36 at *
  generalize (e 37).bool = v37 at *
  generalize (e 38).bool = v38 at *
  generalize (e 39).bool = v39 at *
  generalize (e 40).bool = v40 at *
  generalize (e 41).int = v41 at *
  generalize (e 42).bool = v42 at *
  generalize (e 43).bool = v43 at *
  generalize (e 44).bool = v44 at *
  generalize (e 45).bool = v45 at *
  generalize (e 46).int = v46 at *
  generalize (e 47).bool = v47 at *
  generalize (e 48).bool = v48 at *
  generalize (e 49).bool = v49 at *
  generalize (e 50).bool = v50 at *
  generalize (e 51).int = v51 at *
  generalize (e 52).bool = v52 at *
  generalize (e 53).int = v53 at *
  generalize (e 54).int = v54 at *
  generalize (e 55).int = v55 at *
  generalize (e 56).int = v56 at *
  generalize (e 57).int = v57 at *
  generalize (e 58).int = v58 at *
  generalize (e 59).int = v59 at *
  generalize (e 60).int = v60 at *
  generalize (e 61).int = v61 at *
  generalize (e 62).int = v62 at *
  generalize (e 63).bool = v63 at *
  rcases Day.right_cases x0 with rfl | rfl | rfl | rfl | rfl | rfl | hc
  · subst_vars
    simp [Day.times, wrap64, Day.HB.i64, Day.all8, Day.ages8, Day.mostA, Day.noHB, Day.inR, Day.freshH, Day.cleanH, Day.argE, Day.tickH, Day.argH, Day.HB.a, Day.right, Day.i64, Day.modP, Day.modR, Day.sm, Day.slotP, Day.nextR]
  · subst_vars
    simp [Day.times, wrap64, Day.HB.i64, Day.all8, Day.ages8, Day.mostA, Day.noHB, Day.inR, Day.freshH, Day.cleanH, Day.argE, Day.tickH, Day.argH, Day.HB.a, Day.right, Day.i64, Day.modP, Day.modR, Day.sm, Day.slotP, Day.nextR]
  · subst_vars
    simp [Day.times, wrap64, Day.HB.i64, Day.all8, Day.ages8, Day.mostA, Day.noHB, Day.inR, Day.freshH, Day.cleanH, Day.argE, Day.tickH, Day.argH, Day.HB.a, Day.right, Day.i64, Day.modP, Day.modR, Day.sm, Day.slotP, Day.nextR]
  · subst_vars
    simp [Day.times, wrap64, Day.HB.i64, Day.all8, Day.ages8, Day.mostA, Day.noHB, Day.inR, Day.freshH, Day.cleanH, Day.argE, Day.tickH, Day.argH, Day.HB.a, Day.right, Day.i64, Day.modP, Day.modR, Day.sm, Day.slotP, Day.nextR]
  · subst_vars
    simp [Day.times, wrap64, Day.HB.i64, Day.all8, Day.ages8, Day.mostA, Day.noHB, Day.inR, Day.freshH, Day.cleanH, Day.argE, Day.tickH, Day.argH, Day.HB.a, Day.right, Day.i64, Day.modP, Day.modR, Day.sm, Day.slotP, Day.nextR]
  · subst_vars
    simp [Day.times, wrap64, Day.HB.i64, Day.all8, Day.ages8, Day.mostA, Day.noHB, Day.inR, Day.freshH, Day.cleanH, Day.argE, Day.tickH, Day.argH, Day.HB.a, Day.right, Day.i64, Day.modP, Day.modR, Day.sm, Day.slotP, Day.nextR]
  · subst_vars
    simp [Day.times, Day.freshH, Day.argE, hc, Day.noHB, Day.HB.a]
end Rx.S
namespace Rx.S
open Go Rx
set_option maxRecDepth 100000
set_option maxHeartbeats 1000000
set_option linter.unusedVariables false
set_option linter.unusedSimpArgs false
def g_vote_Tick : G := ⟨126, [⟨125, .iteB, [V 16, V 16, V 15]⟩, ⟨124, .iteI, [V 16, V 98, N 0]⟩, ⟨123, .iteI, [V 16, V 18, N 0]⟩, ⟨122, .iteI, [V 16, V 68, N 0]⟩, ⟨121, .iteI, [V 16, V 9, N 0]⟩, ⟨120, .iteI, [V 16, V 95, N 0]⟩, ⟨119, .iteI, [V 16, V 92, N 0]⟩, ⟨118, .iteI, [V 16, V 89, N 0]⟩, ⟨117, .iteI, [V 16, V 86, N 0]⟩, ⟨116, .iteI, [V 16, V 83, N 0]⟩, ⟨115, .iteI, [V 16, V 80, N 0]⟩, ⟨114, .iteI, [V 16, V 77, N 0]⟩, ⟨113, .iteI, [V 16, V 74, N 0]⟩, ⟨112, .iteI, [V 16, V 98, V 12]⟩, ⟨111, .iteI, [V 16, V 18, V 11]⟩, ⟨110, .iteI, [V 16, V 68, V 10]⟩, ⟨109, .iteI, [V 16, V 95, V 8]⟩, ⟨108, .iteI, [V 16, V 92, V 7]⟩, ⟨107, .iteI, [V 16, V 89, V 6]⟩, ⟨106, .iteI, [V 16, V 86, V 5]⟩, ⟨105, .iteI, [V 16, V 83, V 4]⟩, ⟨104, .iteI, [V 16, V 80, V 3]⟩, ⟨103, .iteI, [V 16, V 77, V 2]⟩, ⟨102, .iteI, [V 16, V 74, V 1]⟩, ⟨101, .iteI, [V 16, N 0, N 1]⟩, ⟨100, .not, [V 16]⟩, ⟨99, .imp, [V 16, V 97]⟩, ⟨97, (.call 35), [V 0, V 12]⟩, ⟨96, .imp, [V 16, V 94]⟩, ⟨94, (.call 143), [V 8, V 66]⟩, ⟨93, .imp, [V 16, V 91]⟩, ⟨91, (.call 143), [V 7, V 61]⟩, ⟨90, .imp, [V 16, V 88]⟩, ⟨88, (.call 143), [V 6, V 56]⟩, ⟨87, .imp, [V 16, V 85]⟩, ⟨85, (.call 143), [V 5, V 51]⟩, ⟨84, .imp, [V 16, V 82]⟩, ⟨82, (.call 143), [V 4, V 46]⟩, ⟨81, .imp, [V 16, V 79]⟩, ⟨79, (.call 143), [V 3, V 41]⟩, ⟨78, .imp, [V 16, V 76]⟩, ⟨76, (.call 143), [V 2, V 36]⟩, ⟨75, .imp, [V 16, V 73]⟩, ⟨73, (.call 143), [V 1, V 31]⟩, ⟨72, .imp, [V 16, V 70]⟩, ⟨70, (.call 143), [V 11, V 25]⟩, ⟨69, .imp, [V 16, V 67]⟩, ⟨67, (.call 143), [V 10, V 23]⟩, ⟨66, .iteI, [V 62, V 0, N 0]⟩, ⟨65, .and, [V 16, V 63]⟩, ⟨64, .and, [V 16, V 62]⟩, ⟨63, .not, [V 62]⟩, ⟨62, (.cmp .lss), [N 7, V 0]⟩, ⟨61, .iteI, [V 57, V 0, N 0]⟩, ⟨60, .and, [V 16, V 58]⟩, ⟨59, .and, [V 16, V 57]⟩, ⟨58, .not, [V 57]⟩, ⟨57, (.cmp .lss), [N 6, V 0]⟩, ⟨56, .iteI, [V 52, V 0, N 0]⟩, ⟨55, .and, [V 16, V 53]⟩, ⟨54, .and, [V 16, V 52]⟩, ⟨53, .not, [V 52]⟩, ⟨52, (.cmp .lss), [N 5, V 0]⟩, ⟨51, .iteI, [V 47, V 0, N 0]⟩, ⟨50, .and, [V 16, V 48]⟩, ⟨49, .and, [V 16, V 47]⟩, ⟨48, .not, [V 47]⟩, ⟨47, (.cmp .lss), [N 4, V 0]⟩, ⟨46, .iteI, [V 42, V 0, N 0]⟩, ⟨45, .and, [V 16, V 43]⟩, ⟨44, .and, [V 16, V 42]⟩, ⟨43, .not, [V 42]⟩, ⟨42, (.cmp .lss), [N 3, V 0]⟩, ⟨41, .iteI, [V 37, V 0, N 0]⟩, ⟨40, .and, [V 16, V 38]⟩, ⟨39, .and, [V 16, V 37]⟩, ⟨38, .not, [V 37]⟩, ⟨37, (.cmp .lss), [N 2, V 0]⟩, ⟨36, .iteI, [V 32, V 0, N 0]⟩, ⟨35, .and, [V 16, V 33]⟩, ⟨34, .and, [V 16, V 32]⟩, ⟨33, .not, [V 32]⟩, ⟨32, (.cmp .lss), [N 1, V 0]⟩, ⟨31, .iteI, [V 27, V 0, N 0]⟩, ⟨30, .and, [V 16, V 28]⟩, ⟨29, .and, [V 16, V 27]⟩, ⟨28, .not, [V 27]⟩, ⟨27, (.cmp .lss), [N 0, V 0]⟩, ⟨26, .imp, [V 16, V 24]⟩, ⟨24, (.call 44), [V 0]⟩, ⟨23, (.ar .add .i64), [V 21, N 1]⟩, ⟨22, .imp, [V 16, V 20]⟩, ⟨20, (.call 44), [V 0]⟩, ⟨19, .imp, [V 16, V 17]⟩, ⟨17, (.call 142), [V 11]⟩, ⟨16, .not, [V 15]⟩, ⟨15, .not, [V 14]⟩, ⟨13, (.call 96), [V 0, V 1, V 2, V 3, V 4, V 5, V 6, V 7, V 8, V 9, V 10, V 11, V 12]⟩], [V 99, V 96, V 93, V 90, V 87, V 84, V 81, V 78, V 75, V 72, V 69, V 26, V 22, V 19, V 13], []⟩
theorem pure_vote_Tick (e : Nat → A) (H : FactsQ T e g_vote_Tick.defs) (hp : (Day.HB.i64 (Day.HB.mk [(e 1).int, (e 2).int, (e 3).int, (e 4).int, (e 5).int, (e 6).int, (e 7).int, (e 8).int] (e 9).int (e 10).int (e 11).int (e 12).int)) = true) :
    ((e 99).bool = true ∧ (e 96).bool = true ∧ (e 93).bool = true ∧ (e 90).bool = true ∧ (e 87).bool = true ∧ (e 84).bool = true ∧ (e 81).bool = true ∧ (e 78).bool = true ∧ (e 75).bool = true ∧ (e 72).bool = true ∧ (e 69).bool = true ∧ (e 26).bool = true ∧ (e 22).bool = true ∧ (e 19).bool = true ∧ (e 13).bool = true) ∧ (((Day.tickH (e 0).int (Day.HB.mk [(e 1).int, (e 2).int, (e 3).int, (e 4).int, (e 5).int, (e 6).int, (e 7).int, (e 8).int] (e 9).int (e 10).int (e 11).int (e 12).int))).a 0 = (e 113).int ∧ ((Day.tickH (e 0).int (Day.HB.mk [(e 1).int, (e 2).int, (e 3).int, (e 4).int, (e 5).int, (e 6).int, (e 7).int, (e 8).int] (e 9).int (e 10).int (e 11).int (e 12).int))).a 1 = (e 114).int ∧ ((Day.tickH (e 0).int (Day.HB.mk [(e 1).int, (e 2).int, (e 3).int, (e 4).int, (e 5).int, (e 6).int, (e 7).int, (e 8).int] (e 9).int (e 10).int (e 11).int (e 12).int))).a 2 = (e 115).int ∧ ((Day.tickH (e 0).int (Day.HB.mk [(e 1).int, (e 2).int, (e 3).int, (e 4).int, (e 5).int, (e 6).int, (e 7).int, (e 8).int] (e 9).int (e 10).int (e 11).int (e 12).int))).a 3 = (e 116).int ∧ ((Day.tickH (e 0).int (Day.HB.mk [(e 1).int, (e 2).int, (e 3).int, (e 4).int, (e 5).int, (e 6).int, (e 7).int, (e 8).int] (e 9).int (e 10).int (e 11).int (e 12).int))).a 4 = (e 117).int ∧ ((Day.tickH (e 0).int (Day.HB.mk [(e 1).int, (e 2).int, (e 3).int, (e 4).int, (e 5).int, (e 6).int, (e 7).int, (e 8).int] (e 9).int (e 10).int (e 11).int (e 12).int))).a 5 = (e 118).int ∧ ((Day.tickH (e 0).int (Day.HB.mk [(e 1).int, (e 2).int, (e 3).int, (e 4).int, (e 5).int, (e 6).int, (e 7).int, (e 8).int] (e 9).int (e 10).int (e 11).int (e 12).int))).a 6 = (e 119).int ∧ ((Day.tickH (e 0).int (Day.HB.mk [(e 1).int, (e 2).int, (e 3).int, (e 4).int, (e 5).int, (e 6).int, (e 7).int, (e 8).int] (e 9).int (e 10).int (e 11).int (e 12).int))).a 7 = (e 120).int ∧ ((Day.tickH (e 0).int (Day.HB.mk [(e 1).int, (e 2).int, (e 3).int, (e 4).int, (e 5).int, (e 6).int, (e 7).int, (e 8).int] (e 9).int (e 10).int (e 11).int (e 12).int))).port = (e 121).int ∧ ((Day.tickH (e 0).int (Day.HB.mk [(e 1).int, (e 2).int, (e 3).int, (e 4).int, (e 5).int, (e 6).int, (e 7).int, (e 8).int] (e 9).int (e 10).int (e 11).int (e 12).int))).age = (e 122).int ∧ ((Day.tickH (e 0).int (Day.HB.mk [(e 1).int, (e 2).int, (e 3).int, (e 4).int, (e 5).int, (e 6).int, (e 7).int, (e 8).int] (e 9).int (e 10).int (e 11).int (e 12).int))).hold = (e 123).int ∧ ((Day.tickH (e 0).int (Day.HB.mk [(e 1).int, (e 2).int, (e 3).int, (e 4).int, (e 5).int, (e 6).int, (e 7).int, (e 8).int] (e 9).int (e 10).int (e 11).int (e 12).int))).pos = (e 124).int ∧ Day.argH (e 0).int (Day.HB.mk [(e 1).int, (e 2).int, (e 3).int, (e 4).int, (e 5).int, (e 6).int, (e 7).int, (e 8).int] (e 9).int (e 10).int (e 11).int (e 12).int) = (e 101).int) := by
  simp only [g_vote_Tick, FactsQ, Def.q, updQ, L.ev_var, L.ev_n, L.ev_t, L.ev_e, L.ev, A.int_i, A.bool_b, A.str_v, A.els_l, List.map_cons, List.map_nil, Nat.zero_add, Nat.add_zero, and_true, true_and, Nat.reduceAdd, Nat.one_mul] at H
  simp only [arI, dvI, btI, cmpI, ifQ, updV, ltQ, and_true, true_and] at H
  obtain ⟨q125, ⟨q124, -⟩, ⟨q123, -⟩, ⟨q122, -⟩, ⟨q121, -⟩, ⟨q120, -⟩, ⟨q119, -⟩, ⟨q118, -⟩, ⟨q117, -⟩, ⟨q116, -⟩, ⟨q115, -⟩, ⟨q114, -⟩, ⟨q113, -⟩, ⟨q112, -⟩, ⟨q111, -⟩, ⟨q110, -⟩, ⟨q109, -⟩, ⟨q108, -⟩, ⟨q107, -⟩, ⟨q106, -⟩, ⟨q105, -⟩, ⟨q104, -⟩, ⟨q103, -⟩, ⟨q102, -⟩, ⟨q101, -⟩, q100, q99, q97, q96, q94, q93, q91, q90, q88, q87, q85, q84, q82, q81, q79, q78, q76, q75, q73, q72, q70, q69, q67, ⟨q66, -⟩, q65, q64, q63, q62, ⟨q61, -⟩, q60, q59, q58, q57, ⟨q56, -⟩, q55, q54, q53, q52, ⟨q51, -⟩, q50, q49, q48, q47, ⟨q46, -⟩, q45, q44, q43, q42, ⟨q41, -⟩, q40, q39, q38, q37, ⟨q36, -⟩, q35, q34, q33, q32, ⟨q31, -⟩, q30, q29, q28, q27, q26, q24, ⟨q23, -⟩, q22, q20, q19, q17, q16, q15, q13⟩ := H
  replace q97 := out_ring_Next q97
  obtain ⟨q97, q98⟩ := q97
  replace q94 := out_tally_Up q94
  obtain ⟨q94, q95⟩ := q94
  replace q91 := out_tally_Up q91
  obtain ⟨q91, q92⟩ := q91
  replace q88 := out_tally_Up q88
  obtain ⟨q88, q89⟩ := q88
  replace q85 := out_tally_Up q85
  obtain ⟨q85, q86⟩ := q85
  replace q82 := out_tally_Up q82
  obtain ⟨q82, q83⟩ := q82
  replace q79 := out_tally_Up q79
  obtain ⟨q79, q80⟩ := q79
  replace q76 := out_tally_Up q76
  obtain ⟨q76, q77⟩ := q76
  replace q73 := out_tally_Up q73
  obtain ⟨q73, q74⟩ := q73
  replace q70 := out_tally_Up q70
  obtain ⟨q70, q71⟩ := q70
  replace q67 := out_tally_Up q67
  obtain ⟨q67, q68⟩ := q67
  replace q24 := out_conf_Block q24
  obtain ⟨q24, q25⟩ := q24
  replace q20 := out_conf_Block q20
  obtain ⟨q20, q21⟩ := q20
  replace q17 := out_tally_Down q17
  obtain ⟨q17, q18⟩ := q17
  replace q13 := out_vote_Right q13
  obtain ⟨q13, q14⟩ := q13
  simp only [L.ev_var, L.ev_n, L.ev_t, L.ev_e, L.ev, A.int_i, A.bool_b, A.str_v] at q97 q98 q94 q95 q91 q92 q88 q89 q85 q86 q82 q83 q79 q80 q76 q77 q73 q74 q70 q71 q67 q68 q24 q25 q20 q21 q17 q18 q13 q14
  generalize (e 0).int = x0 at *
  generalize (e 1).int = x1 at *
  generalize (e 2).int = x2 at *
  generalize (e 3).int = x3 at *
  generalize (e 4).int = x4 at *
  generalize (e 5).int = x5 at *
  generalize (e 6).int = x6 at *
  generalize (e 7).int = x7 at *
  generalize (e 8).int = x8 at *
  generalize (e 9).int = x9 at *
  generalize (e 10).int = x10 at *
  generalize (e 11).int = x11 at *
  generalize (e 12).int = x12 at *
  generalize (e 13).bool = v13 at *
  generalize (e 14).bool = v14 at *
  generalize (e 15).bool = v15 at *
  generalize (e 16).bool = v16 at *
  generalize (e 17).bool = v17 at *
  generalize (e 18).int = v18 at *
  generalize (e 19).bool = v19 at *
  generalize (e 20).bool = v20 at *
  generalize (e 21).int = v21 at *
  generalize (e 22).bool = v22 at *
  generalize (e 23).int = v23 at *
  generalize (e 24).bool = v24 at *
  generalize (e 25).int = v25 at *
  generalize (e 26).bool = v26 at *
  generalize (e 27).bool = v27 at *
  generalize (e 28).bool = v28 at *
  generalize (e 29).bool = v29 at *
  generalize (e 30).bool = v30 at *
  generalize (e 31).int = v31 at *
  generalize (e 32).bool = v32 at *
  generalize (e 33).bool = v33 at *
  generalize (e 34).bool = v34 at *
  generalize (e 35).bool = v35 at *
  generalize (e 36).int = v36 at *
  generalize (e 37).bool = v37 at *
  generalize (e 38).bool = v38 at *
  generalize (e 39).bool = v39 at *
  generalize (e 40).bool = v40 at *
  generalize (e 41).int = v41 at *
  generalize (e 42).bool = v42 at *
  generalize (e 43).bool = v43 at *
  generalize (e 44).bool = v44 at *
  generalize (e 45).bool = v45 at *
  generalize (e 46).int = v46 at *
  generalize (e 47).bool = v47 at *
  generalize (e 48).bool = v48 at *
  generalize (e 49).bool = v49 at *
  generalize (e 50).bool = v50 at *
  generalize (e 51).int = v51 at *
  generalize (e 52).bool = v52 at *
  generalize (e 53).bool = v53 at *
  generalize (e 54).bool = v54 at *
  generalize (e 55).bool = v55 at *
  generalize (e 56).int = v56 at *
  generalize (e 57).bool = v57 at *
  generalize (e 58).bool = v58 at *
  generalize (e 59).bool = v59 at *
  generalize (e 60).bool = v60 at *
  generalize (e 61).int = v61 at *
  generalize (e 62).bool = v62 at *
  generalize (e 63).bool = v63 at *
  generalize (e 64).bool = v64 at *
  generalize (e 65).bool = v65 at *
  generalize (e 66).int = v66 at *
  generalize (e 67).bool = v67 at *
  generalize (e 68).int = v68 at *
  generalize (e 69).bool = v69 at *
  generalize (e 70).bool = v70 at *
  generalize (e 71).int = v71 at *
  generalize (e 72).bool = v72 at *
  generalize (e 73).bool = v73 at *
  generalize (e 74).int = v74 at *
  generalize (e 75).bool = v75 at *
  generalize (e 76).bool = v76 at *
  generalize (e 77).int = v77 at *
  generalize (e 78).bool = v78 at *
  generalize (e 79).bool = v79 at *
  generalize (e 80).int = v80 at *
  generalize (e 81).bool = v81 at *
  generalize (e 82).bool = v82 at *
  generalize (e 83).int = v83 at *
  generalize (e 84).bool = v84 at *
  generalize (e 85).bool = v85 at *
  generalize (e 86).int = v86 at *
  generalize (e 87).bool = v87 at *
  generalize (e 88).bool = v88 at *
  generalize (e 89).int = v89 at *
  generalize (e 90).bool = v90 at *
  generalize (e 91).bool = v91 at *
  generalize (e 92).int = v92 at *
  generalize (e 93).bool = v93 at *
  generalize (e 94).bool = v94 at *
  generalize (e 95).int = v95 at *
  generalize (e 96).bool = v96 at *
  generalize (e 97).bool = v97 at *
  generalize (e 98).int = v98 at *
  generalize (e 99).bool = v99 at *
  generalize (e 100).bool = v100 at *
  generalize (e 101).int = v101 at *
  generalize (e 102).int = v102 at *
  generalize (e 103).int = v103 at *
  generalize (e 104).int = v104 at *
  generalize (e 105).int = v105 at *
  generalize (e 106).int = v106 at *
  generalize (e 107).int = v107 at *
  generalize (e 108).int = v108 at *
  generalize (e 109).int = v109 at *
  generalize (e 110).int = v110 at *
  generalize (e 111).int = v111 at *
  generalize (e 112).int = v112 at *
  generalize (e 113).int = v113 at *
  generalize (e 114).int = v114 at *
  generalize (e 115).int = v115 at *
  generalize (e 116).int = v116 at *
  generalize (e 117).int = v117 at *
  generalize (e 118).int = v118 at *
  generalize (e 119).int = v119 at *
  generalize (e 120).int = v120 at *
  generalize (e 121).int = v121 at *
  generalize (e 122).int = v122 at *
  generalize (e 123).int = v123 at *
  generalize (e 124).int = v124 at *
  generalize (e 125).bool = v125 at *
  rcases Day.hub_cases x0 ⟨[x1, x2, x3, x4, x5, x6, x7, x8], x9, x10, x11, x12⟩ with ⟨rfl, hc⟩ | ⟨rfl, hc⟩ | ⟨rfl, hc⟩ | ⟨rfl, hc⟩ | ⟨rfl, hc⟩ | ⟨rfl, hc⟩ | hc
  · subst_vars
    simp [Day.times, wrap64, Day.HB.i64, Day.all8, Day.ages8, Day.mostA, Day.noHB, Day.inR, Day.freshH, Day.cleanH, Day.argE, Day.tickH, Day.argH, Day.HB.a, Day.right, Day.i64, Day.modP, Day.modR, Day.sm, Day.slotP, Day.nextR, hc] at hp ⊢
    simp [Day.rightH, Day.times, wrap64, Day.HB.i64, Day.all8, Day.ages8, Day.mostA, Day.noHB, Day.inR, Day.freshH, Day.cleanH, Day.argE, Day.tickH, Day.argH, Day.HB.a, Day.right, Day.i64, Day.modP, Day.modR, Day.sm, Day.slotP, Day.nextR] at hc
    omega
  · subst_vars
    simp [Day.times, wrap64, Day.HB.i64, Day.all8, Day.ages8, Day.mostA, Day.noHB, Day.inR, Day.freshH, Day.cleanH, Day.argE, Day.tickH, Day.argH, Day.HB.a, Day.right, Day.i64, Day.modP, Day.modR, Day.sm, Day.slotP, Day.nextR, hc] at hp ⊢
    simp [Day.rightH, Day.times, wrap64, Day.HB.i64, Day.all8, Day.ages8, Day.mostA, Day.noHB, Day.inR, Day.freshH, Day.cleanH, Day.argE, Day.tickH, Day.argH, Day.HB.a, Day.right, Day.i64, Day.modP, Day.modR, Day.sm, Day.slotP, Day.nextR] at hc
    omega
  · subst_vars
    simp [Day.times, wrap64, Day.HB.i64, Day.all8, Day.ages8, Day.mostA, Day.noHB, Day.inR, Day.freshH, Day.cleanH, Day.argE, Day.tickH, Day.argH, Day.HB.a, Day.right, Day.i64, Day.modP, Day.modR, Day.sm, Day.slotP, Day.nextR, hc] at hp ⊢
    simp [Day.rightH, Day.times, wrap64, Day.HB.i64, Day.all8, Day.ages8, Day.mostA, Day.noHB, Day.inR, Day.freshH, Day.cleanH, Day.argE, Day.tickH, Day.argH, Day.HB.a, Day.right, Day.i64, Day.modP, Day.modR, Day.sm, Day.slotP, Day.nextR] at hc
    omega
  · subst_vars
    simp [Day.times, wrap64, Day.HB.i64, Day.all8, Day.ages8, Day.mostA, Day.noHB, Day.inR, Day.freshH, Day.cleanH, Day.argE, Day.tickH, Day.argH, Day.HB.a, Day.right, Day.i64, Day.modP, Day.modR, Day.sm, Day.slotP, Day.nextR, hc] at hp ⊢
    simp [Day.rightH, Day.times, wrap64, Day.HB.i64, Day.all8, Day.ages8, Day.mostA, Day.noHB, Day.inR, Day.freshH, Day.cleanH, Day.argE, Day.tickH, Day.argH, Day.HB.a, Day.right, Day.i64, Day.modP, Day.modR, Day.sm, Day.slotP, Day.nextR] at hc
    omega
  · subst_vars
    simp [Day.times, wrap64, Day.HB.i64, Day.all8, Day.ages8, Day.mostA, Day.noHB, Day.inR, Day.freshH, Day.cleanH, Day.argE, Day.tickH, Day.argH, Day.HB.a, Day.right, Day.i64, Day.modP, Day.modR, Day.sm, Day.slotP, Day.nextR, hc] at hp ⊢
    simp [Day.rightH, Day.times, wrap64, Day.HB.i64, Day.all8, Day.ages8, Day.mostA, Day.noHB, Day.inR, Day.freshH, Day.cleanH, Day.argE, Day.tickH, Day.argH, Day.HB.a, Day.right, Day.i64, Day.modP, Day.modR, Day.sm, Day.slotP, Day.nextR] at hc
    omega
  · subst_vars
    simp [Day.times, wrap64, Day.HB.i64, Day.all8, Day.ages8, Day.mostA, Day.noHB, Day.inR, Day.freshH, Day.cleanH, Day.argE, Day.tickH, Day.argH, Day.HB.a, Day.right, Day.i64, Day.modP, Day.modR, Day.sm, Day.slotP, Day.nextR, hc] at hp ⊢
    simp [Day.rightH, Day.times, wrap64, Day.HB.i64, Day.all8, Day.ages8, Day.mostA, Day.noHB, Day.inR, Day.freshH, Day.cleanH, Day.argE, Day.tickH, Day.argH, Day.HB.a, Day.right, Day.i64, Day.modP, Day.modR, Day.sm, Day.slotP, Day.nextR] at hc
    omega
  · subst_vars
    simp [Day.times, wrap64, Day.HB.i64, Day.all8, Day.ages8, Day.mostA, Day.noHB, Day.inR, Day.freshH, Day.cleanH, Day.argE, Day.tickH, Day.argH, Day.HB.a, Day.right, Day.i64, Day.modP, Day.modR, Day.sm, Day.slotP, Day.nextR, hc] at hp ⊢
    exact hp
end Rx.S
namespace Rx.S
open Go Rx
set_option maxRecDepth 100000
set_option maxHeartbeats 1000000
set_option linter.unusedVariables false
set_option linter.unusedSimpArgs false
def g_ref11_Right : G := ⟨286, [⟨285, .iteB, [V 16, V 282, V 15]⟩, ⟨284, .iteB, [V 16, V 275, B false]⟩, ⟨283, .not, [V 16]⟩, ⟨282, .iteB, [V 242, V 242, V 247]⟩, ⟨281, .iteB, [V 242, V 185, V 246]⟩, ⟨280, .iteB, [V 242, V 177, V 245]⟩, ⟨279, .iteB, [V 242, V 171, V 244]⟩, ⟨278, .iteI, [V 242, N 7, V 243]⟩, ⟨277, .iteB, [V 242, B false, B true]⟩, ⟨276, .iteI, [V 242, N 8, V 243]⟩, ⟨275, .iteB, [V 242, V 273, B false]⟩, ⟨274, .not, [V 242]⟩, ⟨273, .iteB, [V 268, V 271, B false]⟩, ⟨272, .imp, [V 269, V 270]⟩, ⟨270, (.call 147), [V 12, V 248]⟩, ⟨269, .and, [V 242, V 268]⟩, ⟨268, .iteB, [V 260, V 266, B false]⟩, ⟨267, .imp, [V 261, V 265]⟩, ⟨265, (.call 147), [V 11, V 263]⟩, ⟨264, .imp, [V 261, V 262]⟩, ⟨262, (.call 52), [V 0]⟩, ⟨261, .and, [V 242, V 260]⟩, ⟨260, .iteB, [V 250, V 258, B false]⟩, ⟨259, .imp, [V 252, V 257]⟩, ⟨257, (.call 147), [V 10, V 256]⟩, ⟨256, (.ar .add .i64), [V 254, N 1]⟩, ⟨255, .imp, [V 252, V 253]⟩, ⟨253, (.call 52), [V 0]⟩, ⟨252, .and, [V 242, V 250]⟩, ⟨251, .imp, [V 242, V 249]⟩, ⟨249, (.call 147), [V 9, V 248]⟩, ⟨248, (.ar .sub .i64), [V 0, N 1]⟩, ⟨247, .iteB, [V 36, V 240, V 38]⟩, ⟨246, .iteB, [V 36, V 239, V 31]⟩, ⟨245, .iteB, [V 36, V 238, V 23]⟩, ⟨244, .iteB, [V 36, V 237, V 17]⟩, ⟨243, .iteI, [V 36, V 235, N 0]⟩, ⟨242, .and, [V 36, V 234]⟩, ⟨241, .not, [V 36]⟩, ⟨240, .iteB, [V 58, V 232, V 60]⟩, ⟨239, .iteB, [V 58, V 231, V 53]⟩, ⟨238, .iteB, [V 58, V 230, V 45]⟩, ⟨237, .iteB, [V 58, V 229, V 39]⟩, ⟨236, .iteI, [V 58, V 228, N 0]⟩, ⟨235, .iteI, [V 58, V 227, N 1]⟩, ⟨234, .and, [V 58, V 226]⟩, ⟨233, .not, [V 58]⟩, ⟨232, .iteB, [V 80, V 224, V 82]⟩, ⟨231, .iteB, [V 80, V 223, V 75]⟩, ⟨230, .iteB, [V 80, V 222, V 67]⟩, ⟨229, .iteB, [V 80, V 221, V 61]⟩, ⟨228, .iteI, [V 80, V 220, N 1]⟩, ⟨227, .iteI, [V 80, V 219, N 2]⟩, ⟨226, .and, [V 80, V 218]⟩, ⟨225, .not, [V 80]⟩, ⟨224, .iteB, [V 102, V 216, V 104]⟩, ⟨223, .iteB, [V 102, V 215, V 97]⟩, ⟨222, .iteB, [V 102, V 214, V 89]⟩, ⟨221, .iteB, [V 102, V 213, V 83]⟩, ⟨220, .iteI, [V 102, V 212, N 2]⟩, ⟨219, .iteI, [V 102, V 211, N 3]⟩, ⟨218, .and, [V 102, V 210]⟩, ⟨217, .not, [V 102]⟩, ⟨216, .iteB, [V 124, V 208, V 126]⟩, ⟨215, .iteB, [V 124, V 207, V 119]⟩, ⟨214, .iteB, [V 124, V 206, V 111]⟩, ⟨213, .iteB, [V 124, V 205, V 105]⟩, ⟨212, .iteI, [V 124, V 204, N 3]⟩, ⟨211, .iteI, [V 124, V 203, N 4]⟩, ⟨210, .and, [V 124, V 202]⟩, ⟨209, .not, [V 124]⟩, ⟨208, .iteB, [V 146, V 200, V 148]⟩, ⟨207, .iteB, [V 146, V 199, V 141]⟩, ⟨206, .iteB, [V 146, V 198, V 133]⟩, ⟨205, .iteB, [V 146, V 197, V 127]⟩, ⟨204, .iteI, [V 146, V 196, N 4]⟩, ⟨203, .iteI, [V 146, V 195, N 5]⟩, ⟨202, .and, [V 146, V 194]⟩, ⟨201, .not, [V 146]⟩, ⟨200, .iteB, [V 168, V 193, V 170]⟩, ⟨199, .iteB, [V 168, V 185, V 163]⟩, ⟨198, .iteB, [V 168, V 177, V 155]⟩, ⟨197, .iteB, [V 168, V 171, V 149]⟩, ⟨196, .iteI, [V 168, N 6, N 5]⟩, ⟨195, .iteI, [V 168, N 7, N 6]⟩, ⟨194, .and, [V 168, V 190]⟩, ⟨193, .and, [V 191, V 192]⟩, ⟨192, .and, [V 191, V 189]⟩, ⟨191, .not, [V 190]⟩, ⟨190, .and, [V 186, V 188]⟩, ⟨189, .and, [V 185, V 187]⟩, ⟨188, .and, [V 168, V 186]⟩, ⟨187, .and, [V 168, V 185]⟩, ⟨186, .not, [V 185]⟩, ⟨185, .iteB, [V 177, B true, V 184]⟩, ⟨184, .iteB, [V 180, V 183, B false]⟩, ⟨183, (.cmp .neq), [V 8, N 0]⟩, ⟨182, .and, [V 181, V 178]⟩, ⟨181, .and, [V 168, V 180]⟩, ⟨180, (.cmp .geq), [N 7, V 0]⟩, ⟨179, .and, [V 168, V 178]⟩, ⟨178, .not, [V 177]⟩, ⟨177, .iteB, [V 171, V 176, B false]⟩, ⟨176, .not, [V 174]⟩, ⟨175, .imp, [V 172, V 173]⟩, ⟨173, (.call 147), [V 8, V 0]⟩, ⟨172, .and, [V 168, V 171]⟩, ⟨171, (.cmp .lss), [N 7, V 0]⟩, ⟨170, .and, [V 169, V 167]⟩, ⟨169, .not, [V 168]⟩, ⟨168, .and, [V 164, V 166]⟩, ⟨167, .and, [V 163, V 165]⟩, ⟨166, .and, [V 146, V 164]⟩, ⟨165, .and, [V 146, V 163]⟩, ⟨164, .not, [V 163]⟩, ⟨163, .iteB, [V 155, B true, V 162]⟩, ⟨162, .iteB, [V 158, V 161, B false]⟩, ⟨161, (.cmp .neq), [V 7, N 0]⟩, ⟨160, .and, [V 159, V 156]⟩, ⟨159, .and, [V 146, V 158]⟩, ⟨158, (.cmp .geq), [N 6, V 0]⟩, ⟨157, .and, [V 146, V 156]⟩, ⟨156, .not, [V 155]⟩, ⟨155, .iteB, [V 149, V 154, B false]⟩, ⟨154, .not, [V 152]⟩, ⟨153, .imp, [V 150, V 151]⟩, ⟨151, (.call 147), [V 7, V 0]⟩, ⟨150, .and, [V 146, V 149]⟩, ⟨149, (.cmp .lss), [N 6, V 0]⟩, ⟨148, .and, [V 147, V 145]⟩, ⟨147, .not, [V 146]⟩, ⟨146, .and, [V 142, V 144]⟩, ⟨145, .and, [V 141, V 143]⟩, ⟨144, .and, [V 124, V 142]⟩, ⟨143, .and, [V 124, V 141]⟩, ⟨142, .not, [V 141]⟩, ⟨141, .iteB, [V 133, B true, V 140]⟩, ⟨140, .iteB, [V 136, V 139, B false]⟩, ⟨139, (.cmp .neq), [V 6, N 0]⟩, ⟨138, .and, [V 137, V 134]⟩, ⟨137, .and, [V 124, V 136]⟩, ⟨136, (.cmp .geq), [N 5, V 0]⟩, ⟨135, .and, [V 124, V 134]⟩, ⟨134, .not, [V 133]⟩, ⟨133, .iteB, [V 127, V 132, B false]⟩, ⟨132, .not, [V 130]⟩, ⟨131, .imp, [V 128, V 129]⟩, ⟨129, (.call 147), [V 6, V 0]⟩, ⟨128, .and, [V 124, V 127]⟩, ⟨127, (.cmp .lss), [N 5, V 0]⟩, ⟨126, .and, [V 125, V 123]⟩, ⟨125, .not, [V 124]⟩, ⟨124, .and, [V 120, V 122]⟩, ⟨123, .and, [V 119, V 121]⟩, ⟨122, .and, [V 102, V 120]⟩, ⟨121, .and, [V 102, V 119]⟩, ⟨120, .not, [V 119]⟩, ⟨119, .iteB, [V 111, B true, V 118]⟩, ⟨118, .iteB, [V 114, V 117, B false]⟩, ⟨117, (.cmp .neq), [V 5, N 0]⟩, ⟨116, .and, [V 115, V 112]⟩, ⟨115, .and, [V 102, V 114]⟩, ⟨114, (.cmp .geq), [N 4, V 0]⟩, ⟨113, .and, [V 102, V 112]⟩, ⟨112, .not, [V 111]⟩, ⟨111, .iteB, [V 105, V 110, B false]⟩, ⟨110, .not, [V 108]⟩, ⟨109, .imp, [V 106, V 107]⟩, ⟨107, (.call 147), [V 5, V 0]⟩, ⟨106, .and, [V 102, V 105]⟩, ⟨105, (.cmp .lss), [N 4, V 0]⟩, ⟨104, .and, [V 103, V 101]⟩, ⟨103, .not, [V 102]⟩, ⟨102, .and, [V 98, V 100]⟩, ⟨101, .and, [V 97, V 99]⟩, ⟨100, .and, [V 80, V 98]⟩, ⟨99, .and, [V 80, V 97]⟩, ⟨98, .not, [V 97]⟩, ⟨97, .iteB, [V 89, B true, V 96]⟩, ⟨96, .iteB, [V 92, V 95, B false]⟩, ⟨95, (.cmp .neq), [V 4, N 0]⟩, ⟨94, .and, [V 93, V 90]⟩, ⟨93, .and, [V 80, V 92]⟩, ⟨92, (.cmp .geq), [N 3, V 0]⟩, ⟨91, .and, [V 80, V 90]⟩, ⟨90, .not, [V 89]⟩, ⟨89, .iteB, [V 83, V 88, B false]⟩, ⟨88, .not, [V 86]⟩, ⟨87, .imp, [V 84, V 85]⟩, ⟨85, (.call 147), [V 4, V 0]⟩, ⟨84, .and, [V 80, V 83]⟩, ⟨83, (.cmp .lss), [N 3, V 0]⟩, ⟨82, .and, [V 81, V 79]⟩, ⟨81, .not, [V 80]⟩, ⟨80, .and, [V 76, V 78]⟩, ⟨79, .and, [V 75, V 77]⟩, ⟨78, .and, [V 58, V 76]⟩, ⟨77, .and, [V 58, V 75]⟩, ⟨76, .not, [V 75]⟩, ⟨75, .iteB, [V 67, B true, V 74]⟩, ⟨74, .iteB, [V 70, V 73, B false]⟩, ⟨73, (.cmp .neq), [V 3, N 0]⟩, ⟨72, .and, [V 71, V 68]⟩, ⟨71, .and, [V 58, V 70]⟩, ⟨70, (.cmp .geq), [N 2, V 0]⟩, ⟨69, .and, [V 58, V 68]⟩, ⟨68, .not, [V 67]⟩, ⟨67, .iteB, [V 61, V 66, B false]⟩, ⟨66, .not, [V 64]⟩, ⟨65, .imp, [V 62, V 63]⟩, ⟨63, (.call 147), [V 3, V 0]⟩, ⟨62, .and, [V 58, V 61]⟩, ⟨61, (.cmp .lss), [N 2, V 0]⟩, ⟨60, .and, [V 59, V 57]⟩, ⟨59, .not, [V 58]⟩, ⟨58, .and, [V 54, V 56]⟩, ⟨57, .and, [V 53, V 55]⟩, ⟨56, .and, [V 36, V 54]⟩, ⟨55, .and, [V 36, V 53]⟩, ⟨54, .not, [V 53]⟩, ⟨53, .iteB, [V 45, B true, V 52]⟩, ⟨52, .iteB, [V 48, V 51, B false]⟩, ⟨51, (.cmp .neq), [V 2, N 0]⟩, ⟨50, .and, [V 49, V 46]⟩, ⟨49, .and, [V 36, V 48]⟩, ⟨48, (.cmp .geq), [N 1, V 0]⟩, ⟨47, .and, [V 36, V 46]⟩, ⟨46, .not, [V 45]⟩, ⟨45, .iteB, [V 39, V 44, B false]⟩, ⟨44, .not, [V 42]⟩, ⟨43, .imp, [V 40, V 41]⟩, ⟨41, (.call 147), [V 2, V 0]⟩, ⟨40, .and, [V 36, V 39]⟩, ⟨39, (.cmp .lss), [N 1, V 0]⟩, ⟨38, .and, [V 37, V 35]⟩, ⟨37, .not, [V 36]⟩, ⟨36, .and, [V 32, V 34]⟩, ⟨35, .and, [V 31, V 33]⟩, ⟨34, .and, [V 16, V 32]⟩, ⟨33, .and, [V 16, V 31]⟩, ⟨32, .not, [V 31]⟩, ⟨31, .iteB, [V 23, B true, V 30]⟩, ⟨30, .iteB, [V 26, V 29, B false]⟩, ⟨29, (.cmp .neq), [V 1, N 0]⟩, ⟨28, .and, [V 27, V 24]⟩, ⟨27, .and, [V 16, V 26]⟩, ⟨26, (.cmp .geq), [N 0, V 0]⟩, ⟨25, .and, [V 16, V 24]⟩, ⟨24, .not, [V 23]⟩, ⟨23, .iteB, [V 17, V 22, B false]⟩, ⟨22, .not, [V 20]⟩, ⟨21, .imp, [V 18, V 19]⟩, ⟨19, (.call 147), [V 1, V 0]⟩, ⟨18, .and, [V 16, V 17]⟩, ⟨17, (.cmp .lss), [N 0, V 0]⟩, ⟨16, .not, [V 15]⟩, ⟨15, .not, [V 14]⟩, ⟨13, (.call 51), [V 0]⟩], [V 272, V 267, V 264, V 259, V 255, V 251, V 175, V 153, V 131, V 109, V 87, V 65, V 43, V 21, V 13], []⟩
theorem pure_ref11_Right (e : Nat → A) (H : FactsQ T e g_ref11_Right.defs) (hp : (true) = true) :
    ((e 272).bool = true ∧ (e 267).bool = true ∧ (e 264).bool = true ∧ (e 259).bool = true ∧ (e 255).bool = true ∧ (e 251).bool = true ∧ (e 175).bool = true ∧ (e 153).bool = true ∧ (e 131).bool = true ∧ (e 109).bool = true ∧ (e 87).bool = true ∧ (e 65).bool = true ∧ (e 43).bool = true ∧ (e 21).bool = true ∧ (e 13).bool = true) ∧ (Day.rightH (e 0).int (Day.HB.mk [(e 1).int, (e 2).int, (e 3).int, (e 4).int, (e 5).int, (e 6).int, (e 7).int, (e 8).int] (e 9).int (e 10).int (e 11).int (e 12).int) = (e 284).bool) := by
  simp only [g_ref11_Right, FactsQ, Def.q, updQ, L.ev_var, L.ev_n, L.ev_t, L.ev_e, L.ev, A.int_i, A.bool_b, A.str_v, A.els_l, List.map_cons, List.map_nil, Nat.zero_add, Nat.add_zero, and_true, true_and, Nat.reduceAdd, Nat.one_mul] at H
  simp only [arI, dvI, btI, cmpI, ifQ, updV, ltQ, and_true, true_and] at H
  obtain ⟨q285, q284, q283, q282, q281, q280, q279, ⟨q278, -⟩, q277, ⟨q276, -⟩, q275, q274, q273, q272, q270, q269, q268, q267, q265, q264, q262, q261, q260, q259, q257, ⟨q256, -⟩, q255, q253, q252, q251, q249, ⟨q248, -⟩, q247, q246, q245, q244, ⟨q243, -⟩, q242, q241, q240, q239, q238, q237, ⟨q236, -⟩, ⟨q235, -⟩, q234, q233, q232, q231, q230, q229, ⟨q228, -⟩, ⟨q227, -⟩, q226, q225, q224, q223, q222, q221, ⟨q220, -⟩, ⟨q219, -⟩, q218, q217, q216, q215, q214, q213, ⟨q212, -⟩, ⟨q211, -⟩, q210, q209, q208, q207, q206, q205, ⟨q204, -⟩, ⟨q203, -⟩, q202, q201, q200, q199, q198, q197, ⟨q196, -⟩, ⟨q195, -⟩, q194, q193, q192, q191, q190, q189, q188, q187, q186, q185, q184, q183, q182, q181, q180, q179, q178, q177, q176, q175, q173, q172, q171, q170, q169, q168, q167, q166, q165, q164, q163, q162, q161, q160, q159, q158, q157, q156, q155, q154, q153, q151, q150, q149, q148, q147, q146, q145, q144, q143, q142, q141, q140, q139, q138, q137, q136, q135, q134, q133, q132, q131, q129, q128, q127, q126, q125, q124, q123, q122, q121, q120, q119, q118, q117, q116, q115, q114, q113, q112, q111, q110, q109, q107, q106, q105, q104, q103, q102, q101, q100, q99, q98, q97, q96, q95, q94, q93, q92, q91, q90, q89, q88, q87, q85, q84, q83, q82, q81, q80, q79, q78, q77, q76, q75, q74, q73, q72, q71, q70, q69, q68, q67, q66, q65, q63, q62, q61, q60, q59, q58, q57, q56, q55, q54, q53, q52, q51, q50, q49, q48, q47, q46, q45, q44, q43, q41, q40, q39, q38, q37, q36, q35, q34, q33, q32, q31, q30, q29, q28, q27, q26, q25, q24, q23, q22, q21, q19, q18, q17, q16, q15, q13⟩ := H
  replace q270 := out_ref11_in q270
  obtain ⟨q270, q271⟩ := q270
  replace q265 := out_ref11_in q265
  obtain ⟨q265, q266⟩ := q265
  replace q262 := out_ref03_Block q262
  obtain ⟨q262, q263⟩ := q262
  replace q257 := out_ref11_in q257
  obtain ⟨q257, q258⟩ := q257
  replace q253 := out_ref03_Block q253
  obtain ⟨q253, q254⟩ := q253
  replace q249 := out_ref11_in q249
  obtain ⟨q249, q250⟩ := q249
  replace q173 := out_ref11_in q173
  obtain ⟨q173, q174⟩ := q173
  replace q151 := out_ref11_in q151
  obtain ⟨q151, q152⟩ := q151
  replace q129 := out_ref11_in q129
  obtain ⟨q129, q130⟩ := q129
  replace q107 := out_ref11_in q107
  obtain ⟨q107, q108⟩ := q107
  replace q85 := out_ref11_in q85
  obtain ⟨q85, q86⟩ := q85
  replace q63 := out_ref11_in q63
  obtain ⟨q63, q64⟩ := q63
  replace q41 := out_ref11_in q41
  obtain ⟨q41, q42⟩ := q41
  replace q19 := out_ref11_in q19
  obtain ⟨q19, q20⟩ := q19
  replace q13 := out_ref03_Right q13
  obtain ⟨q13, q14⟩ := q13
  simp only [L.ev_var, L.ev_n, L.ev_t, L.ev_e, L.ev, A.int_i, A.bool_b, A.str_v] at q270 q271 q265 q266 q262 q263 q257 q258 q253 q254 q249 q250 q173 q174 q151 q152 q129 q130 q107 q108 q85 q86 q63 q64 q41 q42 q19 q20 q13 q14
  generalize (e 0).int = x0 at *
  generalize (e 1).int = x1 at *
  generalize (e 2).int = x2 at *
  generalize (e 3).int = x3 at *
  generalize (e 4).int = x4 at *
  generalize (e 5).int = x5 at *
  generalize (e 6).int = x6 at *
  generalize (e 7).int = x7 at *
  generalize (e 8).int = x8 at *
  generalize (e 9).int = x9 at *
  generalize (e 10).int = x10 at *
  generalize (e 11).int = x11 at *
  generalize (e 12).int = x12 at *
  generalize (e 13).bool = v13 at *
  generalize (e 14).bool = v14 at *
  generalize (e 15).bool = v15 at *
  generalize (e 16).bool = v16 at *
  generalize (e 17).bool = v17 at *
  generalize (e 18).bool = v18 at *
  generalize (e 19).bool = v19 at *
  generalize (e 20).bool = v20 at *
  generalize (e 21).bool = v21 at *
  generalize (e 22).bool = v22 at *
  generalize (e 23).bool = v23 at *
  generalize (e 24).bool = v24 at *
  generalize (e 25).bool = v25 at *
  generalize (e 26).bool = v26 at *
  generalize (e 27).bool = v27 at *
  generalize (e 28).bool = v28 at *
  generalize (e 29).bool = v29 at *
  generalize (e 30).bool = v30 at *
  generalize (e 31).bool = v31 at *
  generalize (e 32).bool = v32 at *
  generalize (e 33).bool = v33 at *
  generalize (e 34).bool = v34 at *
  generalize (e 35).bool = v35 at *
  generalize (e 36).bool = v36 at *
  generalize (e 37).bool = v37 at *
  generalize (e 38).bool = v38 at *
  generalize (e 39).bool = v39 at *
  generalize (e 40).bool = v40 at *
  generalize (e 41).bool = v41 at *
  generalize (e 42).bool = v42 at *
  generalize (e 43).bool = v43 at *
  generalize (e 44).bool = v44 at *
  generalize (e 45).bool = v45 at *
  generalize (e 46).bool = v46 at *
  generalize (e 47).bool = v47 at *
  generalize (e 48).bool = v48 at *
  generalize (e 49).bool = v49 at *
  generalize (e 50).bool = v50 at *
  generalize (e 51).bool = v51 at *
  generalize (e 52).bool = v52 at *
  generalize (e 53).bool = v53 at *
  generalize (e 54).bool = v54 at *
  generalize (e 55).bool = v55 at *
  generalize (e 56).bool = v56 at *
  generalize (e 57).bool = v57 at *
  generalize (e 58).bool = v58 at *
  generalize (e 59).bool = v59 at *
  generalize (e 60).bool = v60 at *
  generalize (e 61).bool = v61 at *
  generalize (e 62).bool = v62 at *
  generalize (e 63).bool = v63 at *
  generalize (e 64).bool = v64 at *
  generalize (e 65).bool = v65 at *
  generalize (e 66).bool = v66 at *
  generalize (e 67).bool = v67 at *
  generalize (e 68).bool = v68 at *
  generalize (e 69).bool = v69 at *
  generalize (e 70).bool = v70 at *
  generalize (e 71).bool = v71 at *
  generalize (e 72).bool = v72 at *
  generalize (e 73).bool = v73 at *
  generalize (e 74).bool = v74 at *
  generalize (e 75).bool = v75 at *
  generalize (e 76).bool = v76 at *
  generalize (e 77).bool = v77 at *
  generalize (e 78).bool = v78 at *
  generalize (e 79).bool = v79 at *
  generalize (e 80).bool = v80 at *
  generalize (e 81).bool = v81 at *
  generalize (e 82).bool = v82 at *
  generalize (e 83).bool = v83 at *
  generalize (e 84).bool = v84 at *
  generalize (e 85).bool = v85 at *
  generalize (e 86).bool = v86 at *
  generalize (e 87).bool = v87 at *
  generalize (e 88).bool = v88 at *
  generalize (e 89).bool = v89 at *
  generalize (e 90).bool = v90 at *
  generalize (e 91).bool = v91 at *
  generalize (e 92).bool = v92 at *
  generalize (e 93).bool = v93 at *
  generalize (e 94).bool = v94 at *
  generalize (e 95).bool = v95 at *
  generalize (e 96).bool = v96 at *
  generalize (e 97).bool = v97 at *
  generalize (e 98).bool = v98 at *
  generalize (e 99).bool = v99 at *
  generalize (e 100).bool = v100 at *
  generalize (e 101).bool = v101 at *
  generalize (e 102).bool = v102 at *
  generalize (e 103).bool = v103 at *
  generalize (e 104).bool = v104 at *
  generalize (e 105).bool = v105 at *
  generalize (e 106).bool = v106 at *
  generalize (e 107).bool = v107 at *
  generalize (e 108).bool = v108 at *
  generalize (e 109).bool = v109 at *
  generalize (e 110).bool = v110 at *
  generalize (e 111).bool = v111 at *
  generalize (e 112).bool = v112 at *
  generalize (e 113).bool = v113 at *
  generalize (e 114).bool = v114 at *
  generalize (e 115).bool = v115 at *
  generalize (e 116).bool = v116 at *
  generalize (e 117).bool = v117 at *
  generalize (e 118).bool = v118 at *
  generalize (e 119).bool = v119 at *
  generalize (e 120).bool = v120 at *
  generalize (e 121).bool = v121 at *
  generalize (e 122).bool = v122 at *
  generalize (e 123).bool = v123 at *
  generalize (e 124).bool = v124 at *
  generalize (e 125).bool = v125 at *
  generalize (e 126).bool = v126 at *
  generalize (e 127).bool = v127 at *
  generalize (e 128).bool = v128 at *
  generalize (e 129).bool = v129 at *
  generalize (e 130).bool = v130 at *
  generalize (e 131).bool = v131 at *
  generalize (e 132).bool = v132 at *
  generalize (e 133).bool = v133 at *
  generalize (e 134).bool = v134 at *
  generalize (e 135).bool = v135 at *
  generalize (e 136).bool = v136 at *
  generalize (e 137).bool = v137 at *
  generalize (e 138).bool = v138 at *
  generalize (e 139).bool = v139 at *
  generalize (e 140).bool = v140 at *
  generalize (e 141).bool = v141 at *
  generalize (e 142).bool = v142 at *
  generalize (e 143).bool = v143 at *
  generalize (e 144).bool = v144 at *
  generalize (e 145).bool = v145 at *
  generalize (e 146).bool = v146 at *
  generalize (e 147).bool = v147 at *
  generalize (e 148).bool = v148 at *
  generalize (e 149).bool = v149 at *
  generalize (e 150).bool = v150 at *
  generalize (e 151).bool = v151 at *
  generalize (e 152).bool = v152 at *
  generalize (e 153).bool = v153 at *
  generalize (e 154).bool = v154 at *
  generalize (e 155).bool = v155 at *
  generalize (e 156).bool = v156 at *
  generalize (e 157).bool = v157 at *
  generalize (e 158).bool = v158 at *
  generalize (e 159).bool = v159 at *
  generalize (e 160).bool = v160 at *
  generalize (e 161).bool = v161 at *
  generalize (e 162).bool = v162 at *
  generalize (e 163).bool = v163 at *
  generalize (e 164).bool = v164 at *
  generalize (e 165).bool = v165 at *
  generalize (e 166).bool = v166 at *
  generalize (e 167).bool = v167 at *
  generalize (e 168).bool = v168 at *
  generalize (e 169).bool = v169 at *
  generalize (e 170).bool = v170 at *
  generalize (e 171).bool = v171 at *
  generalize (e 172).bool = v172 at *
  generalize (e 173).bool = v173 at *
  generalize (e 174).bool = v174 at *
  generalize (e 175).bool = v175 at *
  generalize (e 176).bool = v176 at *
  generalize (e 177).bool = v177 at *
  generalize (e 178).bool = v178 at *
  generalize (e 179).bool = v179 at *
  generalize (e 180).bool = v180 at *
  generalize (e 181).bool = v181 at *
  generalize (e 182).bool = v182 at *
  generalize (e 183).bool = v183 at *
  generalize (e 184).bool = v184 at *
  generalize (e 185).bool = v185 at *
  generalize (e 186).bool = v186 at *
  generalize (e 187).bool = v187 at *
  generalize (e 188).bool = v188 at *
  generalize (e 189).bool = v189 at *
  generalize (e 190).bool = v190 at *
  generalize (e 191).bool = v191 at *
  generalize (e 192).bool = v192 at *
  generalize (e 193).bool = v193 at *
  generalize (e 194).bool = v194 at *
  generalize (e 195).int = v195 at *
  generalize (e 196).int = v196 at *
  generalize (e 197).bool = v197 at *
  generalize (e 198).bool = v198 at *
  generalize (e 199).bool = v199 at *
  generalize (e 200).bool = v200 at *
  generalize (e 201).bool = v201 at *
  generalize (e 202).bool = v202 at *
  generalize (e 203).int = v203 at *
  generalize (e 204).int = v204 at *
  generalize (e 205).bool = v205 at *
  generalize (e 206).bool = v206 at *
  generalize (e 207).bool = v207 at *
  generalize (e 208).bool = v208 at *
  generalize (e 209).bool = v209 at *
  generalize (e 210).bool = v210 at *
  generalize (e 211).int = v211 at *
  generalize (e 212).int = v212 at *
  generalize (e 213).bool = v213 at *
  generalize (e 214).bool = v214 at *
  generalize (e 215).bool = v215 at *
  generalize (e 216).bool = v216 at *
  generalize (e 217).bool = v217 at *
  generalize (e 218).bool = v218 at *
  generalize (e 219).int = v219 at *
  generalize (e 220).int = v220 at *
  generalize (e 221).bool = v221 at *
  generalize (e 222).bool = v222 at *
  generalize (e 223).bool = v223 at *
  generalize (e 224).bool = v224 at *
  generalize (e 225).bool = v225 at *
  generalize (e 226).bool = v226 at *
  generalize (e 227).int = v227 at *
  generalize (e 228).int = v228 at *
  generalize (e 229).bool = v229 at *
  generalize (e 230).bool = v230 at *
  generalize (e 231).bool = v231 at *
  generalize (e 232).bool = v232 at *
  generalize (e 233).bool = v233 at *
  generalize (e 234).bool = v234 at *
  generalize (e 235).int = v235 at *
  generalize (e 236).int = v236 at *
  generalize (e 237).bool = v237 at *
  generalize (e 238).bool = v238 at *
  generalize (e 239).bool = v239 at *
  generalize (e 240).bool = v240 at *
  generalize (e 241).bool = v241 at *
  generalize (e 242).bool = v242 at *
  generalize (e 243).int = v243 at *
  generalize (e 244).bool = v244 at *
  generalize (e 245).bool = v245 at *
  generalize (e 246).bool = v246 at *
  generalize (e 247).bool = v247 at *
  generalize (e 248).int = v248 at *
  generalize (e 249).bool = v249 at *
  generalize (e 250).bool = v250 at *
  generalize (e 251).bool = v251 at *
  generalize (e 252).bool = v252 at *
  generalize (e 253).bool = v253 at *
  generalize (e 254).int = v254 at *
  generalize (e 255).bool = v255 at *
  generalize (e 256).int = v256 at *
  generalize (e 257).bool = v257 at *
  generalize (e 258).bool = v258 at *
  generalize (e 259).bool = v259 at *
  generalize (e 260).bool = v260 at *
  generalize (e 261).bool = v261 at *
  generalize (e 262).bool = v262 at *
  generalize (e 263).int = v263 at *
  generalize (e 264).bool = v264 at *
  generalize (e 265).bool = v265 at *
  generalize (e 266).bool = v266 at *
  generalize (e 267).bool = v267 at *
  generalize (e 268).bool = v268 at *
  generalize (e 269).bool = v269 at *
  generalize (e 270).bool = v270 at *
  generalize (e 271).bool = v271 at *
  generalize (e 272).bool = v272 at *
  generalize (e 273).bool = v273 at *
  generalize (e 274).bool = v274 at *
  generalize (e 275).bool = v275 at *
  generalize (e 276).int = v276 at *
  generalize (e 277).bool = v277 at *
  generalize (e 278).int = v278 at *
  generalize (e 279).bool = v279 at *
  generalize (e 280).bool = v280 at *
  generalize (e 281).bool = v281 at *
  generalize (e 282).bool = v282 at *
  generalize (e 283).bool = v283 at *
  generalize (e 284).bool = v284 at *
  generalize (e 285).bool = v285 at *
  rcases Day.right_cases x0 with rfl | rfl | rfl | rfl | rfl | rfl | hc
  · subst_vars
    simp only [Day.rightH, Day.all8, Day.mostA, Day.HB.a, Day.times, Day.right]
    simp [wrap64, Day.inR0]
    rw [Bool.eq_iff_iff]
    simp only [Bool.and_eq_true]
    grind
  · subst_vars
    simp only [Day.rightH, Day.all8, Day.mostA, Day.HB.a, Day.times, Day.right]
    simp [wrap64, Day.inR0]
    rw [Bool.eq_iff_iff]
    simp only [Bool.and_eq_true]
    grind
  · subst_vars
    simp only [Day.rightH, Day.all8, Day.mostA, Day.HB.a, Day.times, Day.right]
    simp [wrap64, Day.inR0]
    rw [Bool.eq_iff_iff]
    simp only [Bool.and_eq_true]
    grind
  · subst_vars
    simp only [Day.rightH, Day.all8, Day.mostA, Day.HB.a, Day.times, Day.right]
    simp [wrap64, Day.inR0]
    rw [Bool.eq_iff_iff]
    simp only [Bool.and_eq_true]
    grind
  · subst_vars
    simp only [Day.rightH, Day.all8, Day.mostA, Day.HB.a, Day.times, Day.right]
    simp [wrap64, Day.inR0]
    rw [Bool.eq_iff_iff]
    simp only [Bool.and_eq_true]
    grind
  · subst_vars
    simp only [Day.rightH, Day.all8, Day.mostA, Day.HB.a, Day.times, Day.right]
    simp [wrap64, Day.inR0]
    rw [Bool.eq_iff_iff]
    simp only [Bool.and_eq_true]
    grind
  · subst_vars
    simp [Day.rightH, hc]
end Rx.S
namespace Rx.S
open Go Rx
set_option maxRecDepth 100000
set_option maxHeartbeats 1000000
set_option linter.unusedVariables false
set_option linter.unusedSimpArgs false
def g_ref11_in : G := ⟨5, [⟨4, .iteB, [V 2, V 3, B false]⟩, ⟨3, (.cmp .leq), [V 0, V 1]⟩, ⟨2, (.cmp .geq), [V 0, N 0]⟩], [], []⟩
theorem pure_ref11_in (e : Nat → A) (H : FactsQ T e g_ref11_in.defs) (hp : (true) = true) :
    (True) ∧ (Day.inR (e 0).int (e 1).int = (e 4).bool) := by
  simp only [g_ref11_in, FactsQ, Def.q, updQ, L.ev_var, L.ev_n, L.ev_t, L.ev_e, L.ev, A.int_i, A.bool_b, A.str_v, A.els_l, List.map_cons, List.map_nil, Nat.zero_add, Nat.add_zero, and_true, true_and, Nat.reduceAdd, Nat.one_mul] at H
  simp only [arI, dvI, btI, cmpI, ifQ, updV, ltQ, and_true, true_and] at H
  obtain ⟨q4, q3, q2⟩ := H
  generalize (e 0).int = x0 at *
  generalize (e 1).int = x1 at *
  generalize (e 2).bool = v2 at *
  generalize (e 3).bool = v3 at *
  generalize (e 4).bool = v4 at *
  grind [Day.inR]
end Rx.S
namespace Rx.S
open Go Rx
set_option maxRecDepth 100000
set_option maxHeartbeats 1000000
set_option linter.unusedVariables false
set_option linter.unusedSimpArgs false
def g_ref11_Clean : G := ⟨127, [⟨126, .iteB, [V 16, V 16, V 15]⟩, ⟨125, .iteI, [V 16, V 85, N 0]⟩, ⟨124, .iteI, [V 16, V 98, N 0]⟩, ⟨123, .iteI, [V 16, V 92, N 0]⟩, ⟨122, .iteI, [V 16, V 82, N 0]⟩, ⟨121, .iteI, [V 16, V 79, N 0]⟩, ⟨120, .iteI, [V 16, V 71, N 0]⟩, ⟨119, .iteI, [V 16, V 63, N 0]⟩, ⟨118, .iteI, [V 16, V 55, N 0]⟩, ⟨117, .iteI, [V 16, V 47, N 0]⟩, ⟨116, .iteI, [V 16, V 39, N 0]⟩, ⟨115, .iteI, [V 16, V 31, N 0]⟩, ⟨114, .iteI, [V 16, V 23, N 0]⟩, ⟨113, .iteI, [V 16, V 85, V 12]⟩, ⟨112, .iteI, [V 16, V 98, V 11]⟩, ⟨111, .iteI, [V 16, V 92, V 10]⟩, ⟨110, .iteI, [V 16, V 82, V 9]⟩, ⟨109, .iteI, [V 16, V 79, V 8]⟩, ⟨108, .iteI, [V 16, V 71, V 7]⟩, ⟨107, .iteI, [V 16, V 63, V 6]⟩, ⟨106, .iteI, [V 16, V 55, V 5]⟩, ⟨105, .iteI, [V 16, V 47, V 4]⟩, ⟨104, .iteI, [V 16, V 39, V 3]⟩, ⟨103, .iteI, [V 16, V 31, V 2]⟩, ⟨102, .iteI, [V 16, V 23, V 1]⟩, ⟨101, .iteI, [V 16, N 0, N 1]⟩, ⟨100, .not, [V 16]⟩, ⟨99, .imp, [V 16, V 97]⟩, ⟨97, (.call 134), [V 11, N 0, V 95]⟩, ⟨96, .imp, [V 16, V 94]⟩, ⟨94, (.call 52), [V 0]⟩, ⟨93, .imp, [V 16, V 91]⟩, ⟨91, (.call 134), [V 10, N 0, V 90]⟩, ⟨90, (.ar .add .i64), [V 88, N 1]⟩, ⟨89, .imp, [V 16, V 87]⟩, ⟨87, (.call 52), [V 0]⟩, ⟨86, .imp, [V 16, V 84]⟩, ⟨84, (.call 34), [V 0, V 12]⟩, ⟨83, .imp, [V 16, V 81]⟩, ⟨81, (.call 34), [V 0, V 9]⟩, ⟨80, .imp, [V 16, V 78]⟩, ⟨78, (.call 134), [V 8, N 0, V 77]⟩, ⟨77, .iteI, [V 73, V 0, N 0]⟩, ⟨76, .and, [V 16, V 74]⟩, ⟨75, .and, [V 16, V 73]⟩, ⟨74, .not, [V 73]⟩, ⟨73, (.cmp .lss), [N 7, V 0]⟩, ⟨72, .imp, [V 16, V 70]⟩, ⟨70, (.call 134), [V 7, N 0, V 69]⟩, ⟨69, .iteI, [V 65, V 0, N 0]⟩, ⟨68, .and, [V 16, V 66]⟩, ⟨67, .and, [V 16, V 65]⟩, ⟨66, .not, [V 65]⟩, ⟨65, (.cmp .lss), [N 6, V 0]⟩, ⟨64, .imp, [V 16, V 62]⟩, ⟨62, (.call 134), [V 6, N 0, V 61]⟩, ⟨61, .iteI, [V 57, V 0, N 0]⟩, ⟨60, .and, [V 16, V 58]⟩, ⟨59, .and, [V 16, V 57]⟩, ⟨58, .not, [V 57]⟩, ⟨57, (.cmp .lss), [N 5, V 0]⟩, ⟨56, .imp, [V 16, V 54]⟩, ⟨54, (.call 134), [V 5, N 0, V 53]⟩, ⟨53, .iteI, [V 49, V 0, N 0]⟩, ⟨52, .and, [V 16, V 50]⟩, ⟨51, .and, [V 16, V 49]⟩, ⟨50, .not, [V 49]⟩, ⟨49, (.cmp .lss), [N 4, V 0]⟩, ⟨48, .imp, [V 16, V 46]⟩, ⟨46, (.call 134), [V 4, N 0, V 45]⟩, ⟨45, .iteI, [V 41, V 0, N 0]⟩, ⟨44, .and, [V 16, V 42]⟩, ⟨43, .and, [V 16, V 41]⟩, ⟨42, .not, [V 41]⟩, ⟨41, (.cmp .lss), [N 3, V 0]⟩, ⟨40, .imp, [V 16, V 38]⟩, ⟨38, (.call 134), [V 3, N 0, V 37]⟩, ⟨37, .iteI, [V 33, V 0, N 0]⟩, ⟨36, .and, [V 16, V 34]⟩, ⟨35, .and, [V 16, V 33]⟩, ⟨34, .not, [V 33]⟩, ⟨33, (.cmp .lss), [N 2, V 0]⟩, ⟨32, .imp, [V 16, V 30]⟩, ⟨30, (.call 134), [V 2, N 0, V 29]⟩, ⟨29, .iteI, [V 25, V 0, N 0]⟩, ⟨28, .and, [V 16, V 26]⟩, ⟨27, .and, [V 16, V 25]⟩, ⟨26, .not, [V 25]⟩, ⟨25, (.cmp .lss), [N 1, V 0]⟩, ⟨24, .imp, [V 16, V 22]⟩, ⟨22, (.call 134), [V 1, N 0, V 21]⟩, ⟨21, .iteI, [V 17, V 0, N 0]⟩, ⟨20, .and, [V 16, V 18]⟩, ⟨19, .and, [V 16, V 17]⟩, ⟨18, .not, [V 17]⟩, ⟨17, (.cmp .lss), [N 0, V 0]⟩, ⟨16, .not, [V 15]⟩, ⟨15, .not, [V 14]⟩, ⟨13, (.call 51), [V 0]⟩], [V 99, V 96, V 93, V 89, V 86, V 83, V 80, V 72, V 64, V 56, V 48, V 40, V 32, V 24, V 13], []⟩
theorem pure_ref11_Clean (e : Nat → A) (H : FactsQ T e g_ref11_Clean.defs) (hp : (Day.HB.i64 (Day.HB.mk [(e 1).int, (e 2).int, (e 3).int, (e 4).int, (e 5).int, (e 6).int, (e 7).int, (e 8).int] (e 9).int (e 10).int (e 11).int (e 12).int)) = true) :
    ((e 99).bool = true ∧ (e 96).bool = true ∧ (e 93).bool = true ∧ (e 89).bool = true ∧ (e 86).bool = true ∧ (e 83).bool = true ∧ (e 80).bool = true ∧ (e 72).bool = true ∧ (e 64).bool = true ∧ (e 56).bool = true ∧ (e 48).bool = true ∧ (e 40).bool = true ∧ (e 32).bool = true ∧ (e 24).bool = true ∧ (e 13).bool = true) ∧ (((Day.cleanH (e 0).int (Day.HB.mk [(e 1).int, (e 2).int, (e 3).int, (e 4).int, (e 5).int, (e 6).int, (e 7).int, (e 8).int] (e 9).int (e 10).int (e 11).int (e 12).int))).a 0 = (e 114).int ∧ ((Day.cleanH (e 0).int (Day.HB.mk [(e 1).int, (e 2).int, (e 3).int, (e 4).int, (e 5).int, (e 6).int, (e 7).int, (e 8).int] (e 9).int (e 10).int (e 11).int (e 12).int))).a 1 = (e 115).int ∧ ((Day.cleanH (e 0).int (Day.HB.mk [(e 1).int, (e 2).int, (e 3).int, (e 4).int, (e 5).int, (e 6).int, (e 7).int, (e 8).int] (e 9).int (e 10).int (e 11).int (e 12).int))).a 2 = (e 116).int ∧ ((Day.cleanH (e 0).int (Day.HB.mk [(e 1).int, (e 2).int, (e 3).int, (e 4).int, (e 5).int, (e 6).int, (e 7).int, (e 8).int] (e 9).int (e 10).int (e 11).int (e 12).int))).a 3 = (e 117).int ∧ ((Day.cleanH (e 0).int (Day.HB.mk [(e 1).int, (e 2).int, (e 3).int, (e 4).int, (e 5).int, (e 6).int, (e 7).int, (e 8).int] (e 9).int (e 10).int (e 11).int (e 12).int))).a 4 = (e 118).int ∧ ((Day.cleanH (e 0).int (Day.HB.mk [(e 1).int, (e 2).int, (e 3).int, (e 4).int, (e 5).int, (e 6).int, (e 7).int, (e 8).int] (e 9).int (e 10).int (e 11).int (e 12).int))).a 5 = (e 119).int ∧ ((Day.cleanH (e 0).int (Day.HB.mk [(e 1).int, (e 2).int, (e 3).int, (e 4).int, (e 5).int, (e 6).int, (e 7).int, (e 8).int] (e 9).int (e 10).int (e 11).int (e 12).int))).a 6 = (e 120).int ∧ ((Day.cleanH (e 0).int (Day.HB.mk [(e 1).int, (e 2).int, (e 3).int, (e 4).int, (e 5).int, (e 6).int, (e 7).int, (e 8).int] (e 9).int (e 10).int (e 11).int (e 12).int))).a 7 = (e 121).int ∧ ((Day.cleanH (e 0).int (Day.HB.mk [(e 1).int, (e 2).int, (e 3).int, (e 4).int, (e 5).int, (e 6).int, (e 7).int, (e 8).int] (e 9).int (e 10).int (e 11).int (e 12).int))).port = (e 122).int ∧ ((Day.cleanH (e 0).int (Day.HB.mk [(e 1).int, (e 2).int, (e 3).int, (e 4).int, (e 5).int, (e 6).int, (e 7).int, (e 8).int] (e 9).int (e 10).int (e 11).int (e 12).int))).age = (e 123).int ∧ ((Day.cleanH (e 0).int (Day.HB.mk [(e 1).int, (e 2).int, (e 3).int, (e 4).int, (e 5).int, (e 6).int, (e 7).int, (e 8).int] (e 9).int (e 10).int (e 11).int (e 12).int))).hold = (e 124).int ∧ ((Day.cleanH (e 0).int (Day.HB.mk [(e 1).int, (e 2).int, (e 3).int, (e 4).int, (e 5).int, (e 6).int, (e 7).int, (e 8).int] (e 9).int (e 10).int (e 11).int (e 12).int))).pos = (e 125).int ∧ Day.argE (e 0).int = (e 101).int) := by
  simp only [g_ref11_Clean, FactsQ, Def.q, updQ, L.ev_var, L.ev_n, L.ev_t, L.ev_e, L.ev, A.int_i, A.bool_b, A.str_v, A.els_l, List.map_cons, List.map_nil, Nat.zero_add, Nat.add_zero, and_true, true_and, Nat.reduceAdd, Nat.one_mul] at H
  simp only [arI, dvI, btI, cmpI, ifQ, updV, ltQ, and_true, true_and] at H
  obtain ⟨q126, ⟨q125, -⟩, ⟨q124, -⟩, ⟨q123, -⟩, ⟨q122, -⟩, ⟨q121, -⟩, ⟨q120, -⟩, ⟨q119, -⟩, ⟨q118, -⟩, ⟨q117, -⟩, ⟨q116, -⟩, ⟨q115, -⟩, ⟨q114, -⟩, ⟨q113, -⟩, ⟨q112, -⟩, ⟨q111, -⟩, ⟨q110, -⟩, ⟨q109, -⟩, ⟨q108, -⟩, ⟨q107, -⟩, ⟨q106, -⟩, ⟨q105, -⟩, ⟨q104, -⟩, ⟨q103, -⟩, ⟨q102, -⟩, ⟨q101, -⟩, q100, q99, q97, q96, q94, q93, q91, ⟨q90, -⟩, q89, q87, q86, q84, q83, q81, q80, q78, ⟨q77, -⟩, q76, q75, q74, q73, q72, q70, ⟨q69, -⟩, q68, q67, q66, q65, q64, q62, ⟨q61, -⟩, q60, q59, q58, q57, q56, q54, ⟨q53, -⟩, q52, q51, q50, q49, q48, q46, ⟨q45, -⟩, q44, q43, q42, q41, q40, q38, ⟨q37, -⟩, q36, q35, q34, q33, q32, q30, ⟨q29, -⟩, q28, q27, q26, q25, q24, q22, ⟨q21, -⟩, q20, q19, q18, q17, q16, q15, q13⟩ := H
  replace q97 := out_ref04_Clamp q97
  obtain ⟨q97, q98⟩ := q97
  replace q94 := out_ref03_Block q94
  obtain ⟨q94, q95⟩ := q94
  replace q91 := out_ref04_Clamp q91
  obtain ⟨q91, q92⟩ := q91
  replace q87 := out_ref03_Block q87
  obtain ⟨q87, q88⟩ := q87
  replace q84 := out_ref05_Mod q84
  obtain ⟨q84, q85⟩ := q84
  replace q81 := out_ref05_Mod q81
  obtain ⟨q81, q82⟩ := q81
  replace q78 := out_ref04_Clamp q78
  obtain ⟨q78, q79⟩ := q78
  replace q70 := out_ref04_Clamp q70
  obtain ⟨q70, q71⟩ := q70
  replace q62 := out_ref04_Clamp q62
  obtain ⟨q62, q63⟩ := q62
  replace q54 := out_ref04_Clamp q54
  obtain ⟨q54, q55⟩ := q54
  replace q46 := out_ref04_Clamp q46
  obtain ⟨q46, q47⟩ := q46
  replace q38 := out_ref04_Clamp q38
  obtain ⟨q38, q39⟩ := q38
  replace q30 := out_ref04_Clamp q30
  obtain ⟨q30, q31⟩ := q30
  replace q22 := out_ref04_Clamp q22
  obtain ⟨q22, q23⟩ := q22
  replace q13 := out_ref03_Right q13
  obtain ⟨q13, q14⟩ := q13
  simp only [L.ev_var, L.ev_n, L.ev_t, L.ev_e, L.ev, A.int_i, A.bool_b, A.str_v] at q97 q98 q94 q95 q91 q92 q87 q88 q84 q85 q81 q82 q78 q79 q70 q71 q62 q63 q54 q55 q46 q47 q38 q39 q30 q31 q22 q23 q13 q14
  generalize (e 0).int = x0 at *
  generalize (e 1).int = x1 at *
  generalize (e 2).int = x2 at *
  generalize (e 3).int = x3 at *
  generalize (e 4).int = x4 at *
  generalize (e 5).int = x5 at *
  generalize (e 6).int = x6 at *
  generalize (e 7).int = x7 at *
  generalize (e 8).int = x8 at *
  generalize (e 9).int = x9 at *
  generalize (e 10).int = x10 at *
  generalize (e 11).int = x11 at *
  generalize (e 12).int = x12 at *
  generalize (e 13).bool = v13 at *
  generalize (e 14).bool = v14 at *
  generalize (e 15).bool = v15 at *
  generalize (e 16).bool = v16 at *
  generalize (e 17).bool = v17 at *
  generalize (e 18).bool = v18 at *
  generalize (e 19).bool = v19 at *
  generalize (e 20).bool = v20 at *
  generalize (e 21).int = v21 at *
  generalize (e 22).bool = v22 at *
  generalize (e 23).int = v23 at *
  generalize (e 24).bool = v24 at *
  generalize (e 25).bool = v25 at *
  generalize (e 26).bool = v26 at *
  generalize (e 27).bool = v27 at *
  generalize (e 28).bool = v28 at *
  generalize (e 29).int = v29 at *
  generalize (e 30).bool = v30 at *
  generalize (e 31).int = v31 at *
  generalize (e 32).bool = v32 at *
  generalize (e 33).bool = v33 at *
  generalize (e 34).bool = v34 at *
  generalize (e 35).bool = v35 at *
  generalize (e 36).bool = v36 at *
  generalize (e 37).int = v37 at *
  generalize (e 38).bool = v38 at *
  generalize (e 39).int = v39 at *
  generalize (e 40).bool = v40 at *
  generalize (e 41).bool = v41 at *
  generalize (e 42).bool = v42 at *
  generalize (e 43).bool = v43 at *
  generalize (e 44).bool = v44 at *
  generalize (e 45).int = v45 at *
  generalize (e 46).bool = v46 at *
  generalize (e 47).int = v47 at *
  generalize (e 48).bool = v48 at *
  generalize (e 49).bool = v49 at *
  generalize (e 50).bool = v50 at *
  generalize (e 51).bool = v51 at *
  generalize (e 52).bool = v52 at *
  generalize (e 53).int = v53 at *
  generalize (e 54).bool = v54 at *
  generalize (e 55).int = v55 at *
  generalize (e 56).bool = v56 at *
  generalize (e 57).bool = v57 at *
  generalize (e 58).bool = v58 at *
  generalize (e 59).bool = v59 at *
  generalize (e 60).bool = v60 at *
  generalize (e 61).int = v61 at *
  generalize (e 62).bool = v62 at *
  generalize (e 63).int = v63 at *
  generalize (e 64).bool = v64 at *
  generalize (e 65).bool = v65 at *
  generalize (e 66).bool = v66 at *
  generalize (e 67).bool = v67 at *
  generalize (e 68).bool = v68 at *
  generalize (e 69).int = v69 at *
  generalize (e 70).bool = v70 at *
  generalize (e 71).int = v71 at *
  generalize (e 72).bool = v72 at *
  generalize (e 73).bool = v73 at *
  generalize (e 74).bool = v74 at *
  generalize (e 75).bool = v75 at *
  generalize (e 76).bool = v76 at *
  generalize (e 77).int = v77 at *
  generalize (e 78).bool = v78 at *
  generalize (e 79).int = v79 at *
  generalize (e 80).bool = v80 at *
  generalize (e 81).bool = v81 at *
  generalize (e 82).int = v82 at *
  generalize (e 83).bool = v83 at *
  generalize (e 84).bool = v84 at *
  generalize (e 85).int = v85 at *
  generalize (e 86).bool = v86 at *
  generalize (e 87).bool = v87 at *
  generalize (e 88).int = v88 at *
  generalize (e 89).bool = v89 at *
  generalize (e 90).int = v90 at *
  generalize (e 91).bool = v91 at *
  generalize (e 92).int = v92 at *
  generalize (e 93).bool = v93 at *
  generalize (e 94).bool = v94 at *
  generalize (e 95).int = v95 at *
  generalize (e 96).bool = v96 at *
  generalize (e 97).bool = v97 at *
  generalize (e 98).int = v98 at *
  generalize (e 99).bool = v99 at *
  generalize (e 100).bool = v100 at *
  generalize (e 101).int = v101 at *
  generalize (e 102).int = v102 at *
  generalize (e 103).int = v103 at *
  generalize (e 104).int = v104 at *
  generalize (e 105).int = v105 at *
  generalize (e 106).int = v106 at *
  generalize (e 107).int = v107 at *
  generalize (e 108).int = v108 at *
  generalize (e 109).int = v109 at *
  generalize (e 110).int = v110 at *
  generalize (e 111).int = v111 at *
  generalize (e 112).int = v112 at *
  generalize (e 113).int = v113 at *
  generalize (e 114).int = v114 at *
  generalize (e 115).int = v115 at *
  generalize (e 116).int = v116 at *
  generalize (e 117).int = v117 at *
  generalize (e 118).int = v118 at *
  generalize (e 119).int = v119 at *
  generalize (e 120).int = v120 at *
  generalize (e 121).int = v121 at *
  generalize (e 122).int = v122 at *
  generalize (e 123).int = v123 at *
  generalize (e 124).int = v124 at *
  generalize (e 125).int = v125 at *
  generalize (e 126).bool = v126 at *
  rcases Day.right_cases x0 with rfl | rfl | rfl | rfl | rfl | rfl | hc
  · subst_vars
    simp [Day.times, wrap64, Day.HB.i64, Day.all8, Day.ages8, Day.mostA, Day.noHB, Day.inR, Day.freshH, Day.cleanH, Day.argE, Day.tickH, Day.argH, Day.HB.a, Day.right, Day.i64, Day.modP, Day.modR, Day.sm, Day.slotP, Day.nextR] at hp ⊢
    omega
  · subst_vars
    simp [Day.times, wrap64, Day.HB.i64, Day.all8, Day.ages8, Day.mostA, Day.noHB, Day.inR, Day.freshH, Day.cleanH, Day.argE, Day.tickH, Day.argH, Day.HB.a, Day.right, Day.i64, Day.modP, Day.modR, Day.sm, Day.slotP, Day.nextR] at hp ⊢
    omega
  · subst_vars
    simp [Day.times, wrap64, Day.HB.i64, Day.all8, Day.ages8, Day.mostA, Day.noHB, Day.inR, Day.freshH, Day.cleanH, Day.argE, Day.tickH, Day.argH, Day.HB.a, Day.right, Day.i64, Day.modP, Day.modR, Day.sm, Day.slotP, Day.nextR] at hp ⊢
    omega
  · subst_vars
    simp [Day.times, wrap64, Day.HB.i64, Day.all8, Day.ages8, Day.mostA, Day.noHB, Day.inR, Day.freshH, Day.cleanH, Day.argE, Day.tickH, Day.argH, Day.HB.a, Day.right, Day.i64, Day.modP, Day.modR, Day.sm, Day.slotP, Day.nextR] at hp ⊢
    omega
  · subst_vars
    simp [Day.times, wrap64, Day.HB.i64, Day.all8, Day.ages8, Day.mostA, Day.noHB, Day.inR, Day.freshH, Day.cleanH, Day.argE, Day.tickH, Day.argH, Day.HB.a, Day.right, Day.i64, Day.modP, Day.modR, Day.sm, Day.slotP, Day.nextR] at hp ⊢
    omega
  · subst_vars
    simp [Day.times, wrap64, Day.HB.i64, Day.all8, Day.ages8, Day.mostA, Day.noHB, Day.inR, Day.freshH, Day.cleanH, Day.argE, Day.tickH, Day.argH, Day.HB.a, Day.right, Day.i64, Day.modP, Day.modR, Day.sm, Day.slotP, Day.nextR] at hp ⊢
    omega
  · subst_vars
    simp [Day.cleanH, Day.argE, hc, Day.noHB, Day.HB.a]
end Rx.S
namespace Rx.S
open Go Rx
set_option maxRecDepth 100000
set_option maxHeartbeats 1000000
set_option linter.unusedVariables false
set_option linter.unusedSimpArgs false
def lp_1490 : Lp := ⟨94, [false, true, false, true, true, true], 1490, 14, 8, 2, ⟨frS 24 [(0, .pv (.one (.k (.int .i64 (V 0))))), (2, .pv (.one (.k (.ptr 0 0)))), (3, .pv (.one (.k (.int .i64 (N 0))))), (4, .pv (.one (.k (.ptr 1 0)))), (5, .pv (.one (.k (.int .i64 (V 1))))), (6, .pv (.one (.k (.int .i64 (V 0))))), (7, .pv (.one (.k (.bool (V 2))))), (8, .pv (.one (.k (.bool (V 3))))), (10, .pv (.one (.k (.int .i64 (V 0))))), (11, .pv (.one (.k (.int .i64 (V 4))))), (12, .pv (.one (.k (.int .i64 (V 5))))), (13, .pv (.agg [.k (.int .i64 (N 0)), .k (.int .i64 (N 0)), .k (.int .i64 (N 0)), .k (.int .i64 (N 0)), .k (.int .i64 (N 0)), .k (.int .i64 (N 0)), .k (.int .i64 (N 0)), .k (.int .i64 (N 0)), .k (.int .i64 (N 0)), .k (.int .i64 (V 5)), .k (.int .i64 (N 0)), .k (.int .i64 (N 0))]))], [⟨true, 77, 12, [.k (.int .i64 (N 0)), .k (.int .i64 (N 0)), .k (.int .i64 (N 0)), .k (.int .i64 (N 0)), .k (.int .i64 (N 0)), .k (.int .i64 (N 0)), .k (.int .i64 (N 0)), .k (.int .i64 (N 0)), .k (.int .i64 (N 0)), .k (.int .i64 (N 0)), .k (.int .i64 (N 0)), .k (.int .i64 (N 0))], none⟩, ⟨true, 77, 12, [.k (.int .i64 (V 6)), .k (.int .i64 (V 7)), .k (.int .i64 (V 8)), .k (.int .i64 (V 9)), .k (.int .i64 (V 10)), .k (.int .i64 (V 11)), .k (.int .i64 (V 12)), .k (.int .i64 (V 13)), .k (.int .i64 (N 0)), .k (.int .i64 (V 5)), .k (.int .i64 (N 0)), .k (.int .i64 (N 0))], none⟩], B true⟩, [(.exit 0, ⟨frS 24 [(0, .pv (.one (.k (.int .i64 (V 0))))), (2, .pv (.one (.k (.ptr 0 0)))), (3, .pv (.one (.k (.int .i64 (N 0))))), (4, .pv (.one (.k (.ptr 1 0)))), (6, .pv (.one (.k (.int .i64 (V 0))))), (7, .pv (.one (.k (.bool (V 2))))), (8, .pv (.one (.k (.bool (V 3))))), (10, .pv (.one (.k (.int .i64 (V 0))))), (11, .pv (.one (.k (.int .i64 (V 4))))), (12, .pv (.one (.k (.int .i64 (V 5))))), (13, .pv (.agg [.k (.int .i64 (N 0)), .k (.int .i64 (N 0)), .k (.int .i64 (N 0)), .k (.int .i64 (N 0)), .k (.int .i64 (N 0)), .k (.int .i64 (N 0)), .k (.int .i64 (N 0)), .k (.int .i64 (N 0)), .k (.int .i64 (N 0)), .k (.int .i64 (V 5)), .k (.int .i64 (N 0)), .k (.int .i64 (N 0))]))], [⟨true, 77, 12, [.k (.int .i64 (N 0)), .k (.int .i64 (N 0)), .k (.int .i64 (N 0)), .k (.int .i64 (N 0)), .k (.int .i64 (N 0)), .k (.int .i64 (N 0)), .k (.int .i64 (N 0)), .k (.int .i64 (N 0)), .k (.int .i64 (N 0)), .k (.int .i64 (N 0)), .k (.int .i64 (N 0)), .k (.int .i64 (N 0))], none⟩, ⟨true, 77, 12, [.k (.int .i64 (V 14)), .k (.int .i64 (V 15)), .k (.int .i64 (V 16)), .k (.int .i64 (V 17)), .k (.int .i64 (V 18)), .k (.int .i64 (V 19)), .k (.int .i64 (V 20)), .k (.int .i64 (V 21)), .k (.int .i64 (N 0)), .k (.int .i64 (V 5)), .k (.int .i64 (N 0)), .k (.int .i64 (N 0))], none⟩], B true⟩)], [true, false, true, true, true, true, false, false, false, false, false, false, false, false], [.i, .i, .i, .i, .i, .i, .i, .i]⟩
def g_L1490 : G := ⟨29, [⟨28, (.ar .add .i64), [V 1, N 1]⟩, ⟨20, .upd, [V 1, V 0, V 6, V 7, V 8, V 9, V 10, V 11, V 12, V 13]⟩, ⟨19, .imp, [V 14, V 18]⟩, ⟨18, .and, [V 16, V 17]⟩, ⟨17, (.cmp .lss), [V 1, N 8]⟩, ⟨16, (.cmp .leq), [N 0, V 1]⟩, ⟨15, .not, [V 14]⟩, ⟨14, (.cmp .lss), [V 1, V 0]⟩], [V 19], []⟩
def m_1490 (al : List A) : Nat := ((gi al 0) - (gi al 1)).toNat
theorem lpureQ_1490 (e : Nat → A) (H : FactsQ T e g_L1490.defs) (hp : (Day.loP (e 0).int (e 1).int) = true) :
    ((e 19).bool = true) ∧ ((e 14).bool = true → (Day.loP (e 0).int (e 28).int) = true ∧ (Day.fillF (e 0).int (e 28).int 0 (e 20).int = Day.fillF (e 0).int (e 1).int 0 (e 6).int ∧ Day.fillF (e 0).int (e 28).int 1 (e 21).int = Day.fillF (e 0).int (e 1).int 1 (e 7).int ∧ Day.fillF (e 0).int (e 28).int 2 (e 22).int = Day.fillF (e 0).int (e 1).int 2 (e 8).int ∧ Day.fillF (e 0).int (e 28).int 3 (e 23).int = Day.fillF (e 0).int (e 1).int 3 (e 9).int ∧ Day.fillF (e 0).int (e 28).int 4 (e 24).int = Day.fillF (e 0).int (e 1).int 4 (e 10).int ∧ Day.fillF (e 0).int (e 28).int 5 (e 25).int = Day.fillF (e 0).int (e 1).int 5 (e 11).int ∧ Day.fillF (e 0).int (e 28).int 6 (e 26).int = Day.fillF (e 0).int (e 1).int 6 (e 12).int ∧ Day.fillF (e 0).int (e 28).int 7 (e 27).int = Day.fillF (e 0).int (e 1).int 7 (e 13).int) ∧ ((e 0).int - (e 28).int).toNat < ((e 0).int - (e 1).int).toNat) ∧ ((e 15).bool = true → (e 6).int = Day.fillF (e 0).int (e 1).int 0 (e 6).int ∧ (e 7).int = Day.fillF (e 0).int (e 1).int 1 (e 7).int ∧ (e 8).int = Day.fillF (e 0).int (e 1).int 2 (e 8).int ∧ (e 9).int = Day.fillF (e 0).int (e 1).int 3 (e 9).int ∧ (e 10).int = Day.fillF (e 0).int (e 1).int 4 (e 10).int ∧ (e 11).int = Day.fillF (e 0).int (e 1).int 5 (e 11).int ∧ (e 12).int = Day.fillF (e 0).int (e 1).int 6 (e 12).int ∧ (e 13).int = Day.fillF (e 0).int (e 1).int 7 (e 13).int) := by
  simp only [g_L1490, FactsQ, Def.q, updQ, L.ev_var, L.ev_n, L.ev_t, L.ev_e, L.ev, A.int_i, A.bool_b, A.str_v, A.els_l, List.map_cons, List.map_nil, Nat.zero_add, Nat.add_zero, and_true, true_and, Nat.reduceAdd, Nat.one_mul] at H
  simp only [arI, dvI, btI, cmpI, ifQ, updV, ltQ, and_true, true_and] at H
  obtain ⟨⟨q28, -⟩, ⟨q20, q21, q22, q23, q24, q25, q26, q27⟩, q19, q18, q17, q16, q15, q14⟩ := H
  generalize (e 0).int = x0 at *
  generalize (e 1).int = x1 at *
  generalize (e 2).int = x2 at *
  generalize (e 3).int = x3 at *
  generalize (e 4).int = x4 at *
  generalize (e 5).int = x5 at *
  generalize (e 6).int = x6 at *
  generalize (e 7).int = x7 at *
  generalize (e 8).int = x8 at *
  generalize (e 9).int = x9 at *
  generalize (e 10).int = x10 at *
  generalize (e 11).int = x11 at *
  generalize (e 12).int = x12 at *
  generalize (e 13).int = x13 at *
  generalize (e 14).bool = v14 at *
  generalize (e 15).bool = v15 at *
  generalize (e 16).bool = v16 at *
  generalize (e 17).bool = v17 at *
  generalize (e 18).bool = v18 at *
  generalize (e 19).bool = v19 at *
  generalize (e 20).int = v20 at *
  generalize (e 21).int = v21 at *
  generalize (e 22).int = v22 at *
  generalize (e 23).int = v23 at *
  generalize (e 24).int = v24 at *
  generalize (e 25).int = v25 at *
  generalize (e 26).int = v26 at *
  generalize (e 27).int = v27 at *
  generalize (e 28).int = v28 at *
  simp only [Day.loP_iff] at hp
  have hx : x1 = 0 ∨ x1 = 1 ∨ x1 = 2 ∨ x1 = 3 ∨ x1 = 4 ∨ x1 = 5 ∨ x1 = 6 ∨ x1 = 7 ∨ x1 = 8 := by omega
  rcases hx with rfl | rfl | rfl | rfl | rfl | rfl | rfl | rfl | rfl
  all_goals
    subst_vars
    simp [Day.loP_iff, Day.fillF, Day.sm, wrap64] at *
    omega
theorem lpure_1490 (as : List A) (e : Nat → A) (h1 : as = (List.range 14).map e) (h2 : (t_1490 as).1 = true) (H : FactsQ T e g_L1490.defs) : ObsAll e g_L1490.obs ∧
      (∀ pc ls, some (V 14, [V 0, V 28, V 2, V 3, V 4, V 5, V 20, V 21, V 22, V 23, V 24, V 25, V 26, V 27]) = some (pc, ls) → (pc.ev e).bool = true → (t_1490 (ls.map (L.ev e))).1 = true ∧ (t_1490 (ls.map (L.ev e))).2 = (t_1490 as).2 ∧ m_1490 (ls.map (L.ev e)) < m_1490 as) ∧
      ∀ x ∈ ([(V 15, [some (V 6), some (V 7), some (V 8), some (V 9), some (V 10), some (V 11), some (V 12), some (V 13)])] : List (L × List (Option L))), (x.1.ev e).bool = true → ∀ (j : Nat) l, x.2[j]? = some (some l) → Teq (lp_1490.tags.getD j .any) (l.ev e) ((t_1490 as).2.getD j (.i 0)) := by
  subst h1
  obtain ⟨ho, h⟩ := lpureQ_1490 e H h2
  refine ⟨⟨ho, trivial⟩, fun pc ls hb hpc => ?_, ?_⟩
  · injection hb with hb
    injection hb with h3 h4
    subst h3 h4
    have h := h.1 hpc
    refine ⟨h.1, ?_, h.2.2⟩
    have h5 := h.2.1
    show ([.i (Day.fillF (e 0).int (e 28).int 0 (e 20).int), .i (Day.fillF (e 0).int (e 28).int 1 (e 21).int), .i (Day.fillF (e 0).int (e 28).int 2 (e 22).int), .i (Day.fillF (e 0).int (e 28).int 3 (e 23).int), .i (Day.fillF (e 0).int (e 28).int 4 (e 24).int), .i (Day.fillF (e 0).int (e 28).int 5 (e 25).int), .i (Day.fillF (e 0).int (e 28).int 6 (e 26).int), .i (Day.fillF (e 0).int (e 28).int 7 (e 27).int)] : List A) = [.i (Day.fillF (e 0).int (e 1).int 0 (e 6).int), .i (Day.fillF (e 0).int (e 1).int 1 (e 7).int), .i (Day.fillF (e 0).int (e 1).int 2 (e 8).int), .i (Day.fillF (e 0).int (e 1).int 3 (e 9).int), .i (Day.fillF (e 0).int (e 1).int 4 (e 10).int), .i (Day.fillF (e 0).int (e 1).int 5 (e 11).int), .i (Day.fillF (e 0).int (e 1).int 6 (e 12).int), .i (Day.fillF (e 0).int (e 1).int 7 (e 13).int)]
    obtain ⟨z0, z1, z2, z3, z4, z5, z6, z7⟩ := h5
    simp only [z0, z1, z2, z3, z4, z5, z6, z7]
  · intro x hx hpc j l hj
    simp only [List.mem_cons, List.not_mem_nil, or_false] at hx
    rcases hx with rfl
    · have h := h.2 hpc
      obtain ⟨z0, z1, z2, z3, z4, z5, z6, z7⟩ := h
      match j, hj with
      | 0, hj => injection hj with hj; injection hj with hj; subst hj; exact z0
      | 1, hj => injection hj with hj; injection hj with hj; subst hj; exact z1
      | 2, hj => injection hj with hj; injection hj with hj; subst hj; exact z2
      | 3, hj => injection hj with hj; injection hj with hj; subst hj; exact z3
      | 4, hj => injection hj with hj; injection hj with hj; subst hj; exact z4
      | 5, hj => injection hj with hj; injection hj with hj; subst hj; exact z5
      | 6, hj => injection hj with hj; injection hj with hj; subst hj; exact z6
      | 7, hj => injection hj with hj; injection hj with hj; subst hj; exact z7
      | _ + 8, hj => cases hj
def g_ref11_Fresh : G := ⟨31, [⟨30, .iteB, [V 4, V 4, V 3]⟩, ⟨29, .iteI, [V 4, V 8, N 0]⟩, ⟨28, .iteI, [V 4, V 17, N 0]⟩, ⟨27, .iteI, [V 4, V 16, N 0]⟩, ⟨26, .iteI, [V 4, V 15, N 0]⟩, ⟨25, .iteI, [V 4, V 14, N 0]⟩, ⟨24, .iteI, [V 4, V 13, N 0]⟩, ⟨23, .iteI, [V 4, V 12, N 0]⟩, ⟨22, .iteI, [V 4, V 11, N 0]⟩, ⟨21, .iteI, [V 4, V 10, N 0]⟩, ⟨20, .iteI, [V 4, N 0, N 1]⟩, ⟨19, .not, [V 4]⟩, ⟨18, .imp, [V 4, V 9]⟩, ⟨9, (.call 1490), [V 0, N 0, V 2, V 3, V 6, V 8, N 0, N 0, N 0, N 0, N 0, N 0, N 0, N 0]⟩, ⟨8, (.ar .add .i64), [V 6, N 1]⟩, ⟨7, .imp, [V 4, V 5]⟩, ⟨5, (.call 52), [V 0]⟩, ⟨4, .not, [V 3]⟩, ⟨3, .not, [V 2]⟩, ⟨1, (.call 51), [V 0]⟩], [V 18, V 7, V 1], []⟩
theorem pure_ref11_Fresh (e : Nat → A) (H : FactsQ T e g_ref11_Fresh.defs) (hp : (true) = true) :
    ((e 18).bool = true ∧ (e 7).bool = true ∧ (e 1).bool = true) ∧ (((Day.freshH (e 0).int)).a 0 = (e 21).int ∧ ((Day.freshH (e 0).int)).a 1 = (e 22).int ∧ ((Day.freshH (e 0).int)).a 2 = (e 23).int ∧ ((Day.freshH (e 0).int)).a 3 = (e 24).int ∧ ((Day.freshH (e 0).int)).a 4 = (e 25).int ∧ ((Day.freshH (e 0).int)).a 5 = (e 26).int ∧ ((Day.freshH (e 0).int)).a 6 = (e 27).int ∧ ((Day.freshH (e 0).int)).a 7 = (e 28).int ∧ ((Day.freshH (e 0).int)).port = (0 : Int) ∧ ((Day.freshH (e 0).int)).age = (e 29).int ∧ ((Day.freshH (e 0).int)).hold = (0 : Int) ∧ ((Day.freshH (e 0).int)).pos = (0 : Int) ∧ Day.argE (e 0).int = (e 20).int) := by
  simp only [g_ref11_Fresh, FactsQ, Def.q, updQ, L.ev_var, L.ev_n, L.ev_t, L.ev_e, L.ev, A.int_i, A.bool_b, A.str_v, A.els_l, List.map_cons, List.map_nil, Nat.zero_add, Nat.add_zero, and_true, true_and, Nat.reduceAdd, Nat.one_mul] at H
  simp only [arI, dvI, btI, cmpI, ifQ, updV, ltQ, and_true, true_and] at H
  obtain ⟨q30, ⟨q29, -⟩, ⟨q28, -⟩, ⟨q27, -⟩, ⟨q26, -⟩, ⟨q25, -⟩, ⟨q24, -⟩, ⟨q23, -⟩, ⟨q22, -⟩, ⟨q21, -⟩, ⟨q20, -⟩, q19, q18, q9, ⟨q8, -⟩, q7, q5, q4, q3, q1⟩ := H
  replace q9 := out_L1490 q9
  obtain ⟨q9, q10, q11, q12, q13, q14, q15, q16, q17⟩ := q9
  replace q5 := out_ref03_Block q5
  obtain ⟨q5, q6⟩ := q5
  replace q1 := out_ref03_Right q1
  obtain ⟨q1, q2⟩ := q1
  simp only [L.ev_var, L.ev_n, L.ev_t, L.ev_e, L.ev, A.int_i, A.bool_b, A.str_v] at q9 q10 q11 q12 q13 q14 q15 q16 q17 q5 q6 q1 q2
  generalize (e 0).int = x0 at *
  generalize (e 1).bool = v1 at *
  generalize (e 2).bool = v2 at *
  generalize (e 3).bool = v3 at *
  generalize (e 4).bool = v4 at *
  generalize (e 5).bool = v5 at *
  generalize (e 6).int = v6 at *
  generalize (e 7).bool = v7 at *
  generalize (e 8).int = v8 at *
  generalize (e 9).bool = v9 at *
  generalize (e 10).int = v10 at *
  generalize (e 11).int = v11 at *
  generalize (e 12).int = v12 at *
  generalize (e 13).int = v13 at *
  generalize (e 14).int = v14 at *
  generalize (e 15).int = v15 at *
  generalize (e 16).int = v16 at *
  generalize (e 17).int = v17 at *
  generalize (e 18).bool = v18 at *
  generalize (e 19).bool = v19 at *
  generalize (e 20).int = v20 at *
  generalize (e 21).int = v21 at *
  generalize (e 22).int = v22 at *
  generalize (e 23).int = v23 at *
  generalize (e 24).int = v24 at *
  generalize (e 25).int = v25 at *
  generalize (e 26).int = v26 at *
  generalize (e 27).int = v27 at *
  generalize (e 28).int = v28 at *
  generalize (e 29).int = v29 at *
  generalize (e 30).bool = v30 at *
  cases hR : Day.right x0 with
  | false =>
    rw [hR] at q2
    subst_vars
    simp [Day.freshH, Day.argE, hR, Day.noHB, Day.HB.a]
  | true =>
    have hn : 3 ≤ x0 ∧ x0 ≤ 8 := by simpa [Day.right] using hR
    rw [hR] at q2
    have w : IntKind.wrap .i64 (2 * x0 + 1) = 2 * x0 + 1 := wrap64 (by omega) (by omega)
    subst_vars
    simp [Day.freshH, Day.argE, hR, Day.HB.a, Day.ages8, Day.mostA, Day.fillF, Day.times, Day.loP, w, hn]
    omega
end Rx.S
namespace Rx.S
open Go Rx
set_option maxRecDepth 100000
set_option maxHeartbeats 1000000
set_option linter.unusedVariables false
set_option linter.unusedSimpArgs false
def lp_1500 : Lp := ⟨98, [false, true, false, true, true], 1500, 24, 8, 2, ⟨frS 43 [(0, .pv (.one (.k (.int .i64 (V 0))))), (1, .pv (.agg [.k (.int .i64 (V 1)), .k (.int .i64 (V 2)), .k (.int .i64 (V 3)), .k (.int .i64 (V 4)), .k (.int .i64 (V 5)), .k (.int .i64 (V 6)), .k (.int .i64 (V 7)), .k (.int .i64 (V 8)), .k (.int .i64 (V 9)), .k (.int .i64 (V 10)), .k (.int .i64 (V 11)), .k (.int .i64 (V 12))])), (3, .pv (.one (.k (.ptr 0 0)))), (4, .pv (.one (.k (.ptr 1 0)))), (5, .pv (.one (.k (.int .i64 (N 0))))), (6, .pv (.one (.k (.int .i64 (V 13))))), (7, .pv (.one (.k (.int .i64 (V 0))))), (8, .pv (.agg [.k (.int .i64 (V 1)), .k (.int .i64 (V 2)), .k (.int .i64 (V 3)), .k (.int .i64 (V 4)), .k (.int .i64 (V 5)), .k (.int .i64 (V 6)), .k (.int .i64 (V 7)), .k (.int .i64 (V 8)), .k (.int .i64 (V 9)), .k (.int .i64 (V 10)), .k (.int .i64 (V 11)), .k (.int .i64 (V 12))])), (9, .pv (.one (.k (.bool (V 14))))), (10, .pv (.one (.k (.bool (V 15)))))], [⟨true, 77, 12, [.k (.int .i64 (V 16)), .k (.int .i64 (V 17)), .k (.int .i64 (V 18)), .k (.int .i64 (V 19)), .k (.int .i64 (V 20)), .k (.int .i64 (V 21)), .k (.int .i64 (V 22)), .k (.int .i64 (V 23)), .k (.int .i64 (V 9)), .k (.int .i64 (V 10)), .k (.int .i64 (V 11)), .k (.int .i64 (V 12))], none⟩, ⟨true, 77, 12, [.k (.int .i64 (N 0)), .k (.int .i64 (N 0)), .k (.int .i64 (N 0)), .k (.int .i64 (N 0)), .k (.int .i64 (N 0)), .k (.int .i64 (N 0)), .k (.int .i64 (N 0)), .k (.int .i64 (N 0)), .k (.int .i64 (N 0)), .k (.int .i64 (N 0)), .k (.int .i64 (N 0)), .k (.int .i64 (N 0))], none⟩], B true⟩, [(.exit 0, ⟨frS 43 [(0, .pv (.one (.k (.int .i64 (V 0))))), (1, .pv (.agg [.k (.int .i64 (V 1)), .k (.int .i64 (V 2)), .k (.int .i64 (V 3)), .k (.int .i64 (V 4)), .k (.int .i64 (V 5)), .k (.int .i64 (V 6)), .k (.int .i64 (V 7)), .k (.int .i64 (V 8)), .k (.int .i64 (V 9)), .k (.int .i64 (V 10)), .k (.int .i64 (V 11)), .k (.int .i64 (V 12))])), (3, .pv (.one (.k (.ptr 0 0)))), (4, .pv (.one (.k (.ptr 1 0)))), (5, .pv (.one (.k (.int .i64 (N 0))))), (7, .pv (.one (.k (.int .i64 (V 0))))), (8, .pv (.agg [.k (.int .i64 (V 1)), .k (.int .i64 (V 2)), .k (.int .i64 (V 3)), .k (.int .i64 (V 4)), .k (.int .i64 (V 5)), .k (.int .i64 (V 6)), .k (.int .i64 (V 7)), .k (.int .i64 (V 8)), .k (.int .i64 (V 9)), .k (.int .i64 (V 10)), .k (.int .i64 (V 11)), .k (.int .i64 (V 12))])), (9, .pv (.one (.k (.bool (V 14))))), (10, .pv (.one (.k (.bool (V 15)))))], [⟨true, 77, 12, [.k (.int .i64 (V 24)), .k (.int .i64 (V 25)), .k (.int .i64 (V 26)), .k (.int .i64 (V 27)), .k (.int .i64 (V 28)), .k (.int .i64 (V 29)), .k (.int .i64 (V 30)), .k (.int .i64 (V 31)), .k (.int .i64 (V 9)), .k (.int .i64 (V 10)), .k (.int .i64 (V 11)), .k (.int .i64 (V 12))], none⟩, ⟨true, 77, 12, [.k (.int .i64 (N 0)), .k (.int .i64 (N 0)), .k (.int .i64 (N 0)), .k (.int .i64 (N 0)), .k (.int .i64 (N 0)), .k (.int .i64 (N 0)), .k (.int .i64 (N 0)), .k (.int .i64 (N 0)), .k (.int .i64 (N 0)), .k (.int .i64 (N 0)), .k (.int .i64 (N 0)), .k (.int .i64 (N 0))], none⟩], B true⟩)], [true, true, true, true, true, true, true, true, true, true, true, true, true, false, true, true, false, false, false, false, false, false, false, false], [.i, .i, .i, .i, .i, .i, .i, .i]⟩
def g_L1500 : G := ⟨43, [⟨42, (.ar .add .i64), [V 13, N 1]⟩, ⟨34, .upd, [V 13, V 32, V 16, V 17, V 18, V 19, V 20, V 21, V 22, V 23]⟩, ⟨33, .imp, [V 24, V 31]⟩, ⟨31, (.call 148), [V 30, V 0]⟩, ⟨30, .sel, [V 13, V 16, V 17, V 18, V 19, V 20, V 21, V 22, V 23]⟩, ⟨29, .imp, [V 24, V 28]⟩, ⟨28, .and, [V 26, V 27]⟩, ⟨27, (.cmp .lss), [V 13, N 8]⟩, ⟨26, (.cmp .leq), [N 0, V 13]⟩, ⟨25, .not, [V 24]⟩, ⟨24, (.cmp .lss), [V 13, V 0]⟩], [V 29, V 33, V 29], []⟩
def m_1500 (al : List A) : Nat := ((gi al 0) - (gi al 13)).toNat
theorem lpureQ_1500 (e : Nat → A) (H : FactsQ T e g_L1500.defs) (hp : (Day.loP (e 0).int (e 13).int) = true) :
    ((e 29).bool = true ∧ (e 33).bool = true ∧ (e 29).bool = true) ∧ ((e 24).bool = true → (Day.loP (e 0).int (e 42).int) = true ∧ (Day.upF (e 0).int (e 42).int 0 (e 34).int = Day.upF (e 0).int (e 13).int 0 (e 16).int ∧ Day.upF (e 0).int (e 42).int 1 (e 35).int = Day.upF (e 0).int (e 13).int 1 (e 17).int ∧ Day.upF (e 0).int (e 42).int 2 (e 36).int = Day.upF (e 0).int (e 13).int 2 (e 18).int ∧ Day.upF (e 0).int (e 42).int 3 (e 37).int = Day.upF (e 0).int (e 13).int 3 (e 19).int ∧ Day.upF (e 0).int (e 42).int 4 (e 38).int = Day.upF (e 0).int (e 13).int 4 (e 20).int ∧ Day.upF (e 0).int (e 42).int 5 (e 39).int = Day.upF (e 0).int (e 13).int 5 (e 21).int ∧ Day.upF (e 0).int (e 42).int 6 (e 40).int = Day.upF (e 0).int (e 13).int 6 (e 22).int ∧ Day.upF (e 0).int (e 42).int 7 (e 41).int = Day.upF (e 0).int (e 13).int 7 (e 23).int) ∧ ((e 0).int - (e 42).int).toNat < ((e 0).int - (e 13).int).toNat) ∧ ((e 25).bool = true → (e 16).int = Day.upF (e 0).int (e 13).int 0 (e 16).int ∧ (e 17).int = Day.upF (e 0).int (e 13).int 1 (e 17).int ∧ (e 18).int = Day.upF (e 0).int (e 13).int 2 (e 18).int ∧ (e 19).int = Day.upF (e 0).int (e 13).int 3 (e 19).int ∧ (e 20).int = Day.upF (e 0).int (e 13).int 4 (e 20).int ∧ (e 21).int = Day.upF (e 0).int (e 13).int 5 (e 21).int ∧ (e 22).int = Day.upF (e 0).int (e 13).int 6 (e 22).int ∧ (e 23).int = Day.upF (e 0).int (e 13).int 7 (e 23).int) := by
  simp only [g_L1500, FactsQ, Def.q, updQ, L.ev_var, L.ev_n, L.ev_t, L.ev_e, L.ev, A.int_i, A.bool_b, A.str_v, A.els_l, List.map_cons, List.map_nil, Nat.zero_add, Nat.add_zero, and_true, true_and, Nat.reduceAdd, Nat.one_mul] at H
  simp only [arI, dvI, btI, cmpI, ifQ, updV, ltQ, and_true, true_and] at H
  obtain ⟨⟨q42, -⟩, ⟨q34, q35, q36, q37, q38, q39, q40, q41⟩, q33, q31, q30, q29, q28, q27, q26, q25, q24⟩ := H
  replace q31 := out_ref04_Up q31
  obtain ⟨q31, q32⟩ := q31
  simp only [L.ev_var, L.ev_n, L.ev_t, L.ev_e, L.ev, A.int_i, A.bool_b, A.str_v] at q31 q32
  generalize (e 0).int = x0 at *
  generalize (e 1).int = x1 at *
  generalize (e 2).int = x2 at *
  generalize (e 3).int = x3 at *
  generalize (e 4).int = x4 at *
  generalize (e 5).int = x5 at *
  generalize (e 6).int = x6 at *
  generalize (e 7).int = x7 at *
  generalize (e 8).int = x8 at *
  generalize (e 9).int = x9 at *
  generalize (e 10).int = x10 at *
  generalize (e 11).int = x11 at *
  generalize (e 12).int = x12 at *
  generalize (e 13).int = x13 at *
  generalize (e 14).int = x14 at *
  generalize (e 15).int = x15 at *
  generalize (e 16).int = x16 at *
  generalize (e 17).int = x17 at *
  generalize (e 18).int = x18 at *
  generalize (e 19).int = x19 at *
  generalize (e 20).int = x20 at *
  generalize (e 21).int = x21 at *
  generalize (e 22).int = x22 at *
  generalize (e 23).int = x23 at *
  generalize (e 24).bool = v24 at *
  generalize (e 25).bool = v25 at *
  generalize (e 26).bool = v26 at *
  generalize (e 27).bool = v27 at *
  generalize (e 28).bool = v28 at *
  generalize (e 29).bool = v29 at *
  generalize (e 30).int = v30 at *
  generalize (e 31).bool = v31 at *
  generalize (e 32).int = v32 at *
  generalize (e 33).bool = v33 at *
  generalize (e 34).int = v34 at *
  generalize (e 35).int = v35 at *
  generalize (e 36).int = v36 at *
  generalize (e 37).int = v37 at *
  generalize (e 38).int = v38 at *
  generalize (e 39).int = v39 at *
  generalize (e 40).int = v40 at *
  generalize (e 41).int = v41 at *
  generalize (e 42).int = v42 at *
  simp only [Day.loP_iff] at hp
  have hx : x13 = 0 ∨ x13 = 1 ∨ x13 = 2 ∨ x13 = 3 ∨ x13 = 4 ∨ x13 = 5 ∨ x13 = 6 ∨ x13 = 7 ∨ x13 = 8 := by omega
  rcases hx with rfl | rfl | rfl | rfl | rfl | rfl | rfl | rfl | rfl
  all_goals
    subst_vars
    simp [Day.loP_iff, Day.upF, Day.sm, wrap64] at *
    omega
theorem lpure_1500 (as : List A) (e : Nat → A) (h1 : as = (List.range 24).map e) (h2 : (t_1500 as).1 = true) (H : FactsQ T e g_L1500.defs) : ObsAll e g_L1500.obs ∧
      (∀ pc ls, some (V 24, [V 0, V 1, V 2, V 3, V 4, V 5, V 6, V 7, V 8, V 9, V 10, V 11, V 12, V 42, V 14, V 15, V 34, V 35, V 36, V 37, V 38, V 39, V 40, V 41]) = some (pc, ls) → (pc.ev e).bool = true → (t_1500 (ls.map (L.ev e))).1 = true ∧ (t_1500 (ls.map (L.ev e))).2 = (t_1500 as).2 ∧ m_1500 (ls.map (L.ev e)) < m_1500 as) ∧
      ∀ x ∈ ([(V 25, [some (V 16), some (V 17), some (V 18), some (V 19), some (V 20), some (V 21), some (V 22), some (V 23)])] : List (L × List (Option L))), (x.1.ev e).bool = true → ∀ (j : Nat) l, x.2[j]? = some (some l) → Teq (lp_1500.tags.getD j .any) (l.ev e) ((t_1500 as).2.getD j (.i 0)) := by
  subst h1
  obtain ⟨ho, h⟩ := lpureQ_1500 e H h2
  refine ⟨⟨ho.1, ho.2.1, ho.2.2, trivial⟩, fun pc ls hb hpc => ?_, ?_⟩
  · injection hb with hb
    injection hb with h3 h4
    subst h3 h4
    have h := h.1 hpc
    refine ⟨h.1, ?_, h.2.2⟩
    have h5 := h.2.1
    show ([.i (Day.upF (e 0).int (e 42).int 0 (e 34).int), .i (Day.upF (e 0).int (e 42).int 1 (e 35).int), .i (Day.upF (e 0).int (e 42).int 2 (e 36).int), .i (Day.upF (e 0).int (e 42).int 3 (e 37).int), .i (Day.upF (e 0).int (e 42).int 4 (e 38).int), .i (Day.upF (e 0).int (e 42).int 5 (e 39).int), .i (Day.upF (e 0).int (e 42).int 6 (e 40).int), .i (Day.upF (e 0).int (e 42).int 7 (e 41).int)] : List A) = [.i (Day.upF (e 0).int (e 13).int 0 (e 16).int), .i (Day.upF (e 0).int (e 13).int 1 (e 17).int), .i (Day.upF (e 0).int (e 13).int 2 (e 18).int), .i (Day.upF (e 0).int (e 13).int 3 (e 19).int), .i (Day.upF (e 0).int (e 13).int 4 (e 20).int), .i (Day.upF (e 0).int (e 13).int 5 (e 21).int), .i (Day.upF (e 0).int (e 13).int 6 (e 22).int), .i (Day.upF (e 0).int (e 13).int 7 (e 23).int)]
    obtain ⟨z0, z1, z2, z3, z4, z5, z6, z7⟩ := h5
    simp only [z0, z1, z2, z3, z4, z5, z6, z7]
  · intro x hx hpc j l hj
    simp only [List.mem_cons, List.not_mem_nil, or_false] at hx
    rcases hx with rfl
    · have h := h.2 hpc
      obtain ⟨z0, z1, z2, z3, z4, z5, z6, z7⟩ := h
      match j, hj with
      | 0, hj => injection hj with hj; injection hj with hj; subst hj; exact z0
      | 1, hj => injection hj with hj; injection hj with hj; subst hj; exact z1
      | 2, hj => injection hj with hj; injection hj with hj; subst hj; exact z2
      | 3, hj => injection hj with hj; injection hj with hj; subst hj; exact z3
      | 4, hj => injection hj with hj; injection hj with hj; subst hj; exact z4
      | 5, hj => injection hj with hj; injection hj with hj; subst hj; exact z5
      | 6, hj => injection hj with hj; injection hj with hj; subst hj; exact z6
      | 7, hj => injection hj with hj; injection hj with hj; subst hj; exact z7
      | _ + 8, hj => cases hj
def g_ref11_Tick : G := ⟨66, [⟨65, .iteB, [V 16, V 16, V 15]⟩, ⟨64, .iteI, [V 16, V 38, N 0]⟩, ⟨63, .iteI, [V 16, V 35, N 0]⟩, ⟨62, .iteI, [V 16, V 32, N 0]⟩, ⟨61, .iteI, [V 16, V 9, N 0]⟩, ⟨60, .iteI, [V 16, V 25, N 0]⟩, ⟨59, .iteI, [V 16, V 24, N 0]⟩, ⟨58, .iteI, [V 16, V 23, N 0]⟩, ⟨57, .iteI, [V 16, V 22, N 0]⟩, ⟨56, .iteI, [V 16, V 21, N 0]⟩, ⟨55, .iteI, [V 16, V 20, N 0]⟩, ⟨54, .iteI, [V 16, V 19, N 0]⟩, ⟨53, .iteI, [V 16, V 18, N 0]⟩, ⟨52, .iteI, [V 16, V 38, V 12]⟩, ⟨51, .iteI, [V 16, V 35, V 11]⟩, ⟨50, .iteI, [V 16, V 32, V 10]⟩, ⟨49, .iteI, [V 16, V 25, V 8]⟩, ⟨48, .iteI, [V 16, V 24, V 7]⟩, ⟨47, .iteI, [V 16, V 23, V 6]⟩, ⟨46, .iteI, [V 16, V 22, V 5]⟩, ⟨45, .iteI, [V 16, V 21, V 4]⟩, ⟨44, .iteI, [V 16, V 20, V 3]⟩, ⟨43, .iteI, [V 16, V 19, V 2]⟩, ⟨42, .iteI, [V 16, V 18, V 1]⟩, ⟨41, .iteI, [V 16, N 0, N 1]⟩, ⟨40, .not, [V 16]⟩, ⟨39, .imp, [V 16, V 37]⟩, ⟨37, (.call 36), [V 0, V 12]⟩, ⟨36, .imp, [V 16, V 34]⟩, ⟨34, (.call 149), [V 11]⟩, ⟨33, .imp, [V 16, V 31]⟩, ⟨31, (.call 148), [V 10, V 30]⟩, ⟨30, (.ar .add .i64), [V 28, N 1]⟩, ⟨29, .imp, [V 16, V 27]⟩, ⟨27, (.call 52), [V 0]⟩, ⟨26, .imp, [V 16, V 17]⟩, ⟨17, (.call 1500), [V 0, V 1, V 2, V 3, V 4, V 5, V 6, V 7, V 8, V 9, V 10, V 11, V 12, N 0, V 14, V 15, V 1, V 2, V 3, V 4, V 5, V 6, V 7, V 8]⟩, ⟨16, .not, [V 15]⟩, ⟨15, .not, [V 14]⟩, ⟨13, (.call 97), [V 0, V 1, V 2, V 3, V 4, V 5, V 6, V 7, V 8, V 9, V 10, V 11, V 12]⟩], [V 39, V 36, V 33, V 29, V 26, V 13], []⟩
theorem pure_ref11_Tick (e : Nat → A) (H : FactsQ T e g_ref11_Tick.defs) (hp : (Day.HB.i64 (Day.HB.mk [(e 1).int, (e 2).int, (e 3).int, (e 4).int, (e 5).int, (e 6).int, (e 7).int, (e 8).int] (e 9).int (e 10).int (e 11).int (e 12).int)) = true) :
    ((e 39).bool = true ∧ (e 36).bool = true ∧ (e 33).bool = true ∧ (e 29).bool = true ∧ (e 26).bool = true ∧ (e 13).bool = true) ∧ (((Day.tickH (e 0).int (Day.HB.mk [(e 1).int, (e 2).int, (e 3).int, (e 4).int, (e 5).int, (e 6).int, (e 7).int, (e 8).int] (e 9).int (e 10).int (e 11).int (e 12).int))).a 0 = (e 53).int ∧ ((Day.tickH (e 0).int (Day.HB.mk [(e 1).int, (e 2).int, (e 3).int, (e 4).int, (e 5).int, (e 6).int, (e 7).int, (e 8).int] (e 9).int (e 10).int (e 11).int (e 12).int))).a 1 = (e 54).int ∧ ((Day.tickH (e 0).int (Day.HB.mk [(e 1).int, (e 2).int, (e 3).int, (e 4).int, (e 5).int, (e 6).int, (e 7).int, (e 8).int] (e 9).int (e 10).int (e 11).int (e 12).int))).a 2 = (e 55).int ∧ ((Day.tickH (e 0).int (Day.HB.mk [(e 1).int, (e 2).int, (e 3).int, (e 4).int, (e 5).int, (e 6).int, (e 7).int, (e 8).int] (e 9).int (e 10).int (e 11).int (e 12).int))).a 3 = (e 56).int ∧ ((Day.tickH (e 0).int (Day.HB.mk [(e 1).int, (e 2).int, (e 3).int, (e 4).int, (e 5).int, (e 6).int, (e 7).int, (e 8).int] (e 9).int (e 10).int (e 11).int (e 12).int))).a 4 = (e 57).int ∧ ((Day.tickH (e 0).int (Day.HB.mk [(e 1).int, (e 2).int, (e 3).int, (e 4).int, (e 5).int, (e 6).int, (e 7).int, (e 8).int] (e 9).int (e 10).int (e 11).int (e 12).int))).a 5 = (e 58).int ∧ ((Day.tickH (e 0).int (Day.HB.mk [(e 1).int, (e 2).int, (e 3).int, (e 4).int, (e 5).int, (e 6).int, (e 7).int, (e 8).int] (e 9).int (e 10).int (e 11).int (e 12).int))).a 6 = (e 59).int ∧ ((Day.tickH (e 0).int (Day.HB.mk [(e 1).int, (e 2).int, (e 3).int, (e 4).int, (e 5).int, (e 6).int, (e 7).int, (e 8).int] (e 9).int (e 10).int (e 11).int (e 12).int))).a 7 = (e 60).int ∧ ((Day.tickH (e 0).int (Day.HB.mk [(e 1).int, (e 2).int, (e 3).int, (e 4).int, (e 5).int, (e 6).int, (e 7).int, (e 8).int] (e 9).int (e 10).int (e 11).int (e 12).int))).port = (e 61).int ∧ ((Day.tickH (e 0).int (Day.HB.mk [(e 1).int, (e 2).int, (e 3).int, (e 4).int, (e 5).int, (e 6).int, (e 7).int, (e 8).int] (e 9).int (e 10).int (e 11).int (e 12).int))).age = (e 62).int ∧ ((Day.tickH (e 0).int (Day.HB.mk [(e 1).int, (e 2).int, (e 3).int, (e 4).int, (e 5).int, (e 6).int, (e 7).int, (e 8).int] (e 9).int (e 10).int (e 11).int (e 12).int))).hold = (e 63).int ∧ ((Day.tickH (e 0).int (Day.HB.mk [(e 1).int, (e 2).int, (e 3).int, (e 4).int, (e 5).int, (e 6).int, (e 7).int, (e 8).int] (e 9).int (e 10).int (e 11).int (e 12).int))).pos = (e 64).int ∧ Day.argH (e 0).int (Day.HB.mk [(e 1).int, (e 2).int, (e 3).int, (e 4).int, (e 5).int, (e 6).int, (e 7).int, (e 8).int] (e 9).int (e 10).int (e 11).int (e 12).int) = (e 41).int) := by
  simp only [g_ref11_Tick, FactsQ, Def.q, updQ, L.ev_var, L.ev_n, L.ev_t, L.ev_e, L.ev, A.int_i, A.bool_b, A.str_v, A.els_l, List.map_cons, List.map_nil, Nat.zero_add, Nat.add_zero, and_true, true_and, Nat.reduceAdd, Nat.one_mul] at H
  simp only [arI, dvI, btI, cmpI, ifQ, updV, ltQ, and_true, true_and] at H
  obtain ⟨q65, ⟨q64, -⟩, ⟨q63, -⟩, ⟨q62, -⟩, ⟨q61, -⟩, ⟨q60, -⟩, ⟨q59, -⟩, ⟨q58, -⟩, ⟨q57, -⟩, ⟨q56, -⟩, ⟨q55, -⟩, ⟨q54, -⟩, ⟨q53, -⟩, ⟨q52, -⟩, ⟨q51, -⟩, ⟨q50, -⟩, ⟨q49, -⟩, ⟨q48, -⟩, ⟨q47, -⟩, ⟨q46, -⟩, ⟨q45, -⟩, ⟨q44, -⟩, ⟨q43, -⟩, ⟨q42, -⟩, ⟨q41, -⟩, q40, q39, q37, q36, q34, q33, q31, ⟨q30, -⟩, q29, q27, q26, q17, q16, q15, q13⟩ := H
  replace q37 := out_ref05_Next q37
  obtain ⟨q37, q38⟩ := q37
  replace q34 := out_ref04_Down q34
  obtain ⟨q34, q35⟩ := q34
  replace q31 := out_ref04_Up q31
  obtain ⟨q31, q32⟩ := q31
  replace q27 := out_ref03_Block q27
  obtain ⟨q27, q28⟩ := q27
  replace q17 := out_L1500 q17
  obtain ⟨q17, q18, q19, q20, q21, q22, q23, q24, q25⟩ := q17
  replace q13 := out_ref11_Right q13
  obtain ⟨q13, q14⟩ := q13
  simp only [L.ev_var, L.ev_n, L.ev_t, L.ev_e, L.ev, A.int_i, A.bool_b, A.str_v] at q37 q38 q34 q35 q31 q32 q27 q28 q17 q18 q19 q20 q21 q22 q23 q24 q25 q13 q14
  generalize (e 0).int = x0 at *
  generalize (e 1).int = x1 at *
  generalize (e 2).int = x2 at *
  generalize (e 3).int = x3 at *
  generalize (e 4).int = x4 at *
  generalize (e 5).int = x5 at *
  generalize (e 6).int = x6 at *
  generalize (e 7).int = x7 at *
  generalize (e 8).int = x8 at *
  generalize (e 9).int = x9 at *
  generalize (e 10).int = x10 at *
  generalize (e 11).int = x11 at *
  generalize (e 12).int = x12 at *
  generalize (e 13).bool = v13 at *
  generalize (e 14).bool = v14 at *
  generalize (e 15).bool = v15 at *
  generalize (e 16).bool = v16 at *
  generalize (e 17).bool = v17 at *
  generalize (e 18).int = v18 at *
  generalize (e 19).int = v19 at *
  generalize (e 20).int = v20 at *
  generalize (e 21).int = v21 at *
  generalize (e 22).int = v22 at *
  generalize (e 23).int = v23 at *
  generalize (e 24).int = v24 at *
  generalize (e 25).int = v25 at *
  generalize (e 26).bool = v26 at *
  generalize (e 27).bool = v27 at *
  generalize (e 28).int = v28 at *
  generalize (e 29).bool = v29 at *
  generalize (e 30).int = v30 at *
  generalize (e 31).bool = v31 at *
  generalize (e 32).int = v32 at *
  generalize (e 33).bool = v33 at *
  generalize (e 34).bool = v34 at *
  generalize (e 35).int = v35 at *
  generalize (e 36).bool = v36 at *
  generalize (e 37).bool = v37 at *
  generalize (e 38).int = v38 at *
  generalize (e 39).bool = v39 at *
  generalize (e 40).bool = v40 at *
  generalize (e 41).int = v41 at *
  generalize (e 42).int = v42 at *
  generalize (e 43).int = v43 at *
  generalize (e 44).int = v44 at *
  generalize (e 45).int = v45 at *
  generalize (e 46).int = v46 at *
  generalize (e 47).int = v47 at *
  generalize (e 48).int = v48 at *
  generalize (e 49).int = v49 at *
  generalize (e 50).int = v50 at *
  generalize (e 51).int = v51 at *
  generalize (e 52).int = v52 at *
  generalize (e 53).int = v53 at *
  generalize (e 54).int = v54 at *
  generalize (e 55).int = v55 at *
  generalize (e 56).int = v56 at *
  generalize (e 57).int = v57 at *
  generalize (e 58).int = v58 at *
  generalize (e 59).int = v59 at *
  generalize (e 60).int = v60 at *
  generalize (e 61).int = v61 at *
  generalize (e 62).int = v62 at *
  generalize (e 63).int = v63 at *
  generalize (e 64).int = v64 at *
  generalize (e 65).bool = v65 at *
  generalize hH : (Day.HB.mk [x1, x2, x3, x4, x5, x6, x7, x8] x9 x10 x11 x12) = h at *
  have g0 : x1 = h.a 0 ∧ x2 = h.a 1 ∧ x3 = h.a 2 ∧ x4 = h.a 3 ∧ x5 = h.a 4 ∧ x6 = h.a 5 ∧ x7 = h.a 6 ∧ x8 = h.a 7 ∧ x9 = h.port ∧ x10 = h.age ∧ x11 = h.hold ∧ x12 = h.pos := by subst hH; simp [Day.HB.a]
  obtain ⟨a1, a2, a3, a4, a5, a6, a7, a8, a9, a10, a11, a12⟩ := g0
  cases hr : Day.rightH x0 h with
  | false =>
    rw [hr] at q14
    clear hH
    subst_vars
    simp [Day.tickH, Day.argH, hr, Day.noHB, Day.HB.a]
  | true =>
    have hn := Day.right_le hr
    have hbd := Day.hub_bounds hr
    have hR : Day.right x0 = true := by simp [Day.right, hn]
    rw [hr] at q14
    have w : IntKind.wrap .i64 (2 * x0 + 1) = 2 * x0 + 1 := wrap64 (by omega) (by omega)
    have u (a : Int) (j : Int) (hj : 0 ≤ j) : Day.upF x0 0 j a = if j < x0 then Day.upR a x0 else a := by simp [Day.upF, hj]
    have m0 (a : Int) (j : Nat) (h : 0 ≤ a ∧ a ≤ Day.mostA x0 j) : Day.upR a (Day.mostA x0 j) = if (j : Int) < x0 then Day.upR a x0 else a := by
      unfold Day.mostA at *
      split <;> rename_i c
      · simp
      · simp only [c, if_false] at h
        have : a = 0 := by omega
        simp [Day.upR, this]
    have hm : ∀ j : Nat, j < 8 → 0 ≤ h.a j ∧ h.a j ≤ Day.mostA x0 j := Day.hub_most hr
    clear hH
    subst_vars
    simp [Day.tickH, Day.argH, hr, hp, Day.HB.a, Day.ages8, u, Day.times, Day.loP, Day.sm, hR, w, hn, Day.i64, Day.slotP, Day.modP, Day.nextR]
    have b := fun (j : Nat) (hj : j < 8) => m0 (h.a j) j (hm j hj)
    simp only [Day.HB.a, List.getD_eq_getElem?_getD] at b
    refine ⟨by omega, by simpa using b 0 (by decide), by simpa using b 1 (by decide), by simpa using b 2 (by decide), by simpa using b 3 (by decide), by simpa using b 4 (by decide), by simpa using b 5 (by decide), by simpa using b 6 (by decide), by simpa using b 7 (by decide)⟩
end Rx.S
namespace Rx.S
open Go Rx
set_option maxRecDepth 100000
set_option maxHeartbeats 1000000
set_option linter.unusedVariables false
set_option linter.unusedSimpArgs false
def lp_1520 : Lp := ⟨101, [false, true, false, true, true], 1520, 16, 1, 1, ⟨frS 27 [(0, .pv (.one (.k (.int .i64 (V 0))))), (1, .pv (.agg [.k (.int .i64 (V 1)), .k (.int .i64 (V 2)), .k (.int .i64 (V 3)), .k (.int .i64 (V 4)), .k (.int .i64 (V 5)), .k (.int .i64 (V 6)), .k (.int .i64 (V 7)), .k (.int .i64 (V 8)), .k (.int .i64 (V 9)), .k (.int .i64 (V 10)), .k (.int .i64 (V 11)), .k (.int .i64 (V 12))])), (2, .pv (.one (.k (.int .i64 (V 13))))), (4, .pv (.one (.k (.ptr 0 0)))), (6, .pv (.one (.k (.int .i64 (N 0))))), (7, .pv (.one (.k (.int .i64 (V 14))))), (8, .pv (.one (.k (.int .i64 (V 15)))))], [⟨true, 77, 12, [.k (.int .i64 (V 1)), .k (.int .i64 (V 2)), .k (.int .i64 (V 3)), .k (.int .i64 (V 4)), .k (.int .i64 (V 5)), .k (.int .i64 (V 6)), .k (.int .i64 (V 7)), .k (.int .i64 (V 8)), .k (.int .i64 (V 9)), .k (.int .i64 (V 10)), .k (.int .i64 (V 11)), .k (.int .i64 (V 12))], none⟩], B true⟩, [(.exit 0, ⟨frS 27 [(1, .pv (.agg [.k (.int .i64 (V 1)), .k (.int .i64 (V 2)), .k (.int .i64 (V 3)), .k (.int .i64 (V 4)), .k (.int .i64 (V 5)), .k (.int .i64 (V 6)), .k (.int .i64 (V 7)), .k (.int .i64 (V 8)), .k (.int .i64 (V 9)), .k (.int .i64 (V 10)), .k (.int .i64 (V 11)), .k (.int .i64 (V 12))])), (6, .pv (.one (.k (.int .i64 (N 0))))), (7, .pv (.one (.k (.int .i64 (V 16)))))], [⟨true, 77, 12, [.k (.int .i64 (V 1)), .k (.int .i64 (V 2)), .k (.int .i64 (V 3)), .k (.int .i64 (V 4)), .k (.int .i64 (V 5)), .k (.int .i64 (V 6)), .k (.int .i64 (V 7)), .k (.int .i64 (V 8)), .k (.int .i64 (V 9)), .k (.int .i64 (V 10)), .k (.int .i64 (V 11)), .k (.int .i64 (V 12))], none⟩], B true⟩)], [true, true, true, true, true, true, true, true, true, true, true, true, true, true, false, false], [.i]⟩
def g_L1520 : G := ⟨30, [⟨29, (.ar .add .i64), [V 15, N 1]⟩, ⟨28, .iteI, [V 22, V 27, V 14]⟩, ⟨27, (.ar .add .i64), [V 14, N 1]⟩, ⟨26, .and, [V 19, V 24]⟩, ⟨25, .and, [V 19, V 22]⟩, ⟨24, .not, [V 22]⟩, ⟨23, .imp, [V 19, V 21]⟩, ⟨21, (.call 150), [V 0, V 1, V 2, V 3, V 4, V 5, V 6, V 7, V 8, V 9, V 10, V 11, V 12, V 15, V 13]⟩, ⟨20, .not, [V 19]⟩, ⟨19, .iteB, [V 17, V 18, B false]⟩, ⟨18, (.cmp .lss), [V 15, V 0]⟩, ⟨16, (.call 97), [V 0, V 1, V 2, V 3, V 4, V 5, V 6, V 7, V 8, V 9, V 10, V 11, V 12]⟩], [V 23, V 16], []⟩
def m_1520 (al : List A) : Nat := ((gi al 0) - (gi al 15)).toNat
theorem lpureQ_1520 (e : Nat → A) (H : FactsQ T e g_L1520.defs) (hp : (Day.votesP (e 0).int (Day.HB.mk [(e 1).int, (e 2).int, (e 3).int, (e 4).int, (e 5).int, (e 6).int, (e 7).int, (e 8).int] (e 9).int (e 10).int (e 11).int (e 12).int) (e 15).int (e 14).int) = true) :
    ((e 23).bool = true ∧ (e 16).bool = true) ∧ ((e 19).bool = true → (Day.votesP (e 0).int (Day.HB.mk [(e 1).int, (e 2).int, (e 3).int, (e 4).int, (e 5).int, (e 6).int, (e 7).int, (e 8).int] (e 9).int (e 10).int (e 11).int (e 12).int) (e 29).int (e 28).int) = true ∧ (Day.votesF (e 0).int (Day.HB.mk [(e 1).int, (e 2).int, (e 3).int, (e 4).int, (e 5).int, (e 6).int, (e 7).int, (e 8).int] (e 9).int (e 10).int (e 11).int (e 12).int) (e 13).int (e 29).int (e 28).int = Day.votesF (e 0).int (Day.HB.mk [(e 1).int, (e 2).int, (e 3).int, (e 4).int, (e 5).int, (e 6).int, (e 7).int, (e 8).int] (e 9).int (e 10).int (e 11).int (e 12).int) (e 13).int (e 15).int (e 14).int) ∧ ((e 0).int - (e 29).int).toNat < ((e 0).int - (e 15).int).toNat) ∧ ((e 20).bool = true → (e 14).int = Day.votesF (e 0).int (Day.HB.mk [(e 1).int, (e 2).int, (e 3).int, (e 4).int, (e 5).int, (e 6).int, (e 7).int, (e 8).int] (e 9).int (e 10).int (e 11).int (e 12).int) (e 13).int (e 15).int (e 14).int) := by
  simp only [g_L1520, FactsQ, Def.q, updQ, L.ev_var, L.ev_n, L.ev_t, L.ev_e, L.ev, A.int_i, A.bool_b, A.str_v, A.els_l, List.map_cons, List.map_nil, Nat.zero_add, Nat.add_zero, and_true, true_and, Nat.reduceAdd, Nat.one_mul] at H
  simp only [arI, dvI, btI, cmpI, ifQ, updV, ltQ, and_true, true_and] at H
  obtain ⟨⟨q29, -⟩, ⟨q28, -⟩, ⟨q27, -⟩, q26, q25, q24, q23, q21, q20, q19, q18, q16⟩ := H
  replace q21 := out_ref11_votes q21
  obtain ⟨q21, q22⟩ := q21
  replace q16 := out_ref11_Right q16
  obtain ⟨q16, q17⟩ := q16
  simp only [L.ev_var, L.ev_n, L.ev_t, L.ev_e, L.ev, A.int_i, A.bool_b, A.str_v] at q21 q22 q16 q17
  generalize (e 0).int = x0 at *
  generalize (e 1).int = x1 at *
  generalize (e 2).int = x2 at *
  generalize (e 3).int = x3 at *
  generalize (e 4).int = x4 at *
  generalize (e 5).int = x5 at *
  generalize (e 6).int = x6 at *
  generalize (e 7).int = x7 at *
  generalize (e 8).int = x8 at *
  generalize (e 9).int = x9 at *
  generalize (e 10).int = x10 at *
  generalize (e 11).int = x11 at *
  generalize (e 12).int = x12 at *
  generalize (e 13).int = x13 at *
  generalize (e 14).int = x14 at *
  generalize (e 15).int = x15 at *
  generalize (e 16).bool = v16 at *
  generalize (e 17).bool = v17 at *
  generalize (e 18).bool = v18 at *
  generalize (e 19).bool = v19 at *
  generalize (e 20).bool = v20 at *
  generalize (e 21).bool = v21 at *
  generalize (e 22).bool = v22 at *
  generalize (e 23).bool = v23 at *
  generalize (e 24).bool = v24 at *
  generalize (e 25).bool = v25 at *
  generalize (e 26).bool = v26 at *
  generalize (e 27).int = v27 at *
  generalize (e 28).int = v28 at *
  generalize (e 29).int = v29 at *
  generalize (Day.HB.mk [x1, x2, x3, x4, x5, x6, x7, x8] x9 x10 x11 x12) = h at *
  cases hr : Day.rightH x0 h with
  | false => simp_all [Day.votesP, Day.votesF]
  | true =>
    have hn := Day.right_le hr
    simp only [Day.votesP, hr, Bool.not_true, Bool.false_or, Bool.and_eq_true, Day.inR_iff] at hp
    obtain ⟨hp1, hp2⟩ := hp
    have w1 : IntKind.wrap .i64 (x14 + 1) = x14 + 1 := wrap64 (by omega) (by omega)
    have w2 : IntKind.wrap .i64 (x15 + 1) = x15 + 1 := wrap64 (by omega) (by omega)
    by_cases hlt : x15 < x0
    · have e := Day.cntF_step h x13 ⟨hp1.1, hlt⟩ hn.2
      rw [hr] at q17
      subst_vars
      simp only [hlt, hr, w1, w2, Day.votesP, Day.votesF, Day.ltR, Bool.not_true, Bool.false_or, Bool.and_eq_true, Day.inR_iff, decide_true, if_true, e]
      have h2 : x15 + 1 ≤ x0 := by omega
      cases Day.voteB x0 h x15.toNat x13
      · simp [hp1.1, h2]
        omega
      · simp [hp1.1, h2]
        omega
    · have e := Day.cntF_end h x13 (show x0 ≤ x15 by omega)
      rw [hr] at q17
      subst_vars
      simp [hlt, hr, Day.votesF, e]
theorem lpure_1520 (as : List A) (e : Nat → A) (h1 : as = (List.range 16).map e) (h2 : (t_1520 as).1 = true) (H : FactsQ T e g_L1520.defs) : ObsAll e g_L1520.obs ∧
      (∀ pc ls, some (V 19, [V 0, V 1, V 2, V 3, V 4, V 5, V 6, V 7, V 8, V 9, V 10, V 11, V 12, V 13, V 28, V 29]) = some (pc, ls) → (pc.ev e).bool = true → (t_1520 (ls.map (L.ev e))).1 = true ∧ (t_1520 (ls.map (L.ev e))).2 = (t_1520 as).2 ∧ m_1520 (ls.map (L.ev e)) < m_1520 as) ∧
      ∀ x ∈ ([(V 20, [some (V 14)])] : List (L × List (Option L))), (x.1.ev e).bool = true → ∀ (j : Nat) l, x.2[j]? = some (some l) → Teq (lp_1520.tags.getD j .any) (l.ev e) ((t_1520 as).2.getD j (.i 0)) := by
  subst h1
  obtain ⟨ho, h⟩ := lpureQ_1520 e H h2
  refine ⟨⟨ho.1, ho.2, trivial⟩, fun pc ls hb hpc => ?_, ?_⟩
  · injection hb with hb
    injection hb with h3 h4
    subst h3 h4
    have h := h.1 hpc
    refine ⟨h.1, ?_, h.2.2⟩
    have h5 := h.2.1
    show ([.i (Day.votesF (e 0).int (Day.HB.mk [(e 1).int, (e 2).int, (e 3).int, (e 4).int, (e 5).int, (e 6).int, (e 7).int, (e 8).int] (e 9).int (e 10).int (e 11).int (e 12).int) (e 13).int (e 29).int (e 28).int)] : List A) = [.i (Day.votesF (e 0).int (Day.HB.mk [(e 1).int, (e 2).int, (e 3).int, (e 4).int, (e 5).int, (e 6).int, (e 7).int, (e 8).int] (e 9).int (e 10).int (e 11).int (e 12).int) (e 13).int (e 15).int (e 14).int)]
    rw [h5]
  · intro x hx hpc j l hj
    simp only [List.mem_cons, List.not_mem_nil, or_false] at hx
    rcases hx with rfl
    · have h := h.2 hpc
      have z0 := h
      match j, hj with
      | 0, hj => injection hj with hj; injection hj with hj; subst hj; exact z0
      | _ + 1, hj => cases hj
def g_ref11_Votes : G := ⟨16, [⟨14, (.call 1520), [V 0, V 1, V 2, V 3, V 4, V 5, V 6, V 7, V 8, V 9, V 10, V 11, V 12, V 13, N 0, N 0]⟩], [V 14], []⟩
theorem pure_ref11_Votes (e : Nat → A) (H : FactsQ T e g_ref11_Votes.defs) (hp : (true) = true) :
    ((e 14).bool = true) ∧ (Day.votesH (e 0).int (Day.HB.mk [(e 1).int, (e 2).int, (e 3).int, (e 4).int, (e 5).int, (e 6).int, (e 7).int, (e 8).int] (e 9).int (e 10).int (e 11).int (e 12).int) (e 13).int = (e 15).int) := by
  simp only [g_ref11_Votes, FactsQ, Def.q, updQ, L.ev_var, L.ev_n, L.ev_t, L.ev_e, L.ev, A.int_i, A.bool_b, A.str_v, A.els_l, List.map_cons, List.map_nil, Nat.zero_add, Nat.add_zero, and_true, true_and, Nat.reduceAdd, Nat.one_mul] at H
  have q14 := H
  replace q14 := out_L1520 q14
  obtain ⟨q14, q15⟩ := q14
  simp only [L.ev_var, L.ev_n, L.ev_t, L.ev_e, L.ev, A.int_i, A.bool_b, A.str_v] at q14 q15
  generalize (e 0).int = x0 at *
  generalize (e 1).int = x1 at *
  generalize (e 2).int = x2 at *
  generalize (e 3).int = x3 at *
  generalize (e 4).int = x4 at *
  generalize (e 5).int = x5 at *
  generalize (e 6).int = x6 at *
  generalize (e 7).int = x7 at *
  generalize (e 8).int = x8 at *
  generalize (e 9).int = x9 at *
  generalize (e 10).int = x10 at *
  generalize (e 11).int = x11 at *
  generalize (e 12).int = x12 at *
  generalize (e 13).int = x13 at *
  generalize (e 14).bool = v14 at *
  generalize (e 15).int = v15 at *
  generalize (Day.HB.mk [x1, x2, x3, x4, x5, x6, x7, x8] x9 x10 x11 x12) = h at *
  subst_vars
  cases hr : Day.rightH x0 h with
  | false => simp [Day.votesH, Day.votesF, Day.votesP, hr]
  | true =>
    have hn := Day.right_le hr
    simp [Day.votesH, Day.votesF, Day.votesP, hr, Day.cntF_zero, Day.inR]
    omega
end Rx.S
namespace Rx.S
open Go Rx
set_option maxRecDepth 100000
set_option maxHeartbeats 1000000
set_option linter.unusedVariables false
set_option linter.unusedSimpArgs false
def g_ref11_votes : G := ⟨41, [⟨40, .iteB, [V 25, B true, V 39]⟩, ⟨39, .iteB, [V 33, V 38, B false]⟩, ⟨38, (.cmp .eql), [V 36, V 14]⟩, ⟨37, .imp, [V 34, V 35]⟩, ⟨35, (.call 38), [V 0, V 13, V 10]⟩, ⟨34, .and, [V 33, V 26]⟩, ⟨33, .iteB, [V 27, V 32, B false]⟩, ⟨32, (.cmp .lss), [V 10, V 30]⟩, ⟨31, .imp, [V 28, V 29]⟩, ⟨29, (.call 52), [V 0]⟩, ⟨28, .and, [V 27, V 26]⟩, ⟨27, (.cmp .eql), [V 13, V 9]⟩, ⟨26, .not, [V 25]⟩, ⟨25, .iteB, [V 19, V 24, B false]⟩, ⟨24, (.cmp .eql), [V 22, V 14]⟩, ⟨23, .imp, [V 19, V 21]⟩, ⟨21, (.call 38), [V 0, V 13, V 18]⟩, ⟨20, .imp, [V 19, V 17]⟩, ⟨19, (.cmp .lss), [V 18, V 0]⟩, ⟨18, .sel, [V 13, V 1, V 2, V 3, V 4, V 5, V 6, V 7, V 8]⟩, ⟨17, .and, [V 15, V 16]⟩, ⟨16, (.cmp .lss), [V 13, N 8]⟩, ⟨15, (.cmp .leq), [N 0, V 13]⟩], [V 37, V 31, V 23, V 20, V 17], []⟩
theorem pure_ref11_votes (e : Nat → A) (H : FactsQ T e g_ref11_votes.defs) (hp : (Day.rightH (e 0).int (Day.HB.mk [(e 1).int, (e 2).int, (e 3).int, (e 4).int, (e 5).int, (e 6).int, (e 7).int, (e 8).int] (e 9).int (e 10).int (e 11).int (e 12).int) && Day.ltR (e 13).int (e 0).int) = true) :
    ((e 37).bool = true ∧ (e 31).bool = true ∧ (e 23).bool = true ∧ (e 20).bool = true ∧ (e 17).bool = true) ∧ (Day.voteB (e 0).int (Day.HB.mk [(e 1).int, (e 2).int, (e 3).int, (e 4).int, (e 5).int, (e 6).int, (e 7).int, (e 8).int] (e 9).int (e 10).int (e 11).int (e 12).int) ((e 13).int).toNat (e 14).int = (e 40).bool) := by
  simp only [g_ref11_votes, FactsQ, Def.q, updQ, L.ev_var, L.ev_n, L.ev_t, L.ev_e, L.ev, A.int_i, A.bool_b, A.str_v, A.els_l, List.map_cons, List.map_nil, Nat.zero_add, Nat.add_zero, and_true, true_and, Nat.reduceAdd, Nat.one_mul] at H
  simp only [arI, dvI, btI, cmpI, ifQ, updV, ltQ, and_true, true_and] at H
  obtain ⟨q40, q39, q38, q37, q35, q34, q33, q32, q31, q29, q28, q27, q26, q25, q24, q23, q21, q20, q19, q18, q17, q16, q15⟩ := H
  replace q35 := out_ref05_At q35
  obtain ⟨q35, q36⟩ := q35
  replace q29 := out_ref03_Block q29
  obtain ⟨q29, q30⟩ := q29
  replace q21 := out_ref05_At q21
  obtain ⟨q21, q22⟩ := q21
  simp only [L.ev_var, L.ev_n, L.ev_t, L.ev_e, L.ev, A.int_i, A.bool_b, A.str_v] at q35 q36 q29 q30 q21 q22
  generalize (e 0).int = x0 at *
  generalize (e 1).int = x1 at *
  generalize (e 2).int = x2 at *
  generalize (e 3).int = x3 at *
  generalize (e 4).int = x4 at *
  generalize (e 5).int = x5 at *
  generalize (e 6).int = x6 at *
  generalize (e 7).int = x7 at *
  generalize (e 8).int = x8 at *
  generalize (e 9).int = x9 at *
  generalize (e 10).int = x10 at *
  generalize (e 11).int = x11 at *
  generalize (e 12).int = x12 at *
  generalize (e 13).int = x13 at *
  generalize (e 14).int = x14 at *
  generalize (e 15).bool = v15 at *
  generalize (e 16).bool = v16 at *
  generalize (e 17).bool = v17 at *
  generalize (e 18).int = v18 at *
  generalize (e 19).bool = v19 at *
  generalize (e 20).bool = v20 at *
  generalize (e 21).bool = v21 at *
  generalize (e 22).int = v22 at *
  generalize (e 23).bool = v23 at *
  generalize (e 24).bool = v24 at *
  generalize (e 25).bool = v25 at *
  generalize (e 26).bool = v26 at *
  generalize (e 27).bool = v27 at *
  generalize (e 28).bool = v28 at *
  generalize (e 29).bool = v29 at *
  generalize (e 30).int = v30 at *
  generalize (e 31).bool = v31 at *
  generalize (e 32).bool = v32 at *
  generalize (e 33).bool = v33 at *
  generalize (e 34).bool = v34 at *
  generalize (e 35).bool = v35 at *
  generalize (e 36).int = v36 at *
  generalize (e 37).bool = v37 at *
  generalize (e 38).bool = v38 at *
  generalize (e 39).bool = v39 at *
  generalize (e 40).bool = v40 at *
  simp only [Bool.and_eq_true, Day.ltR_iff] at hp
  obtain ⟨hr, hv⟩ := hp
  replace q18 : v18 = ((Day.HB.mk [x1, x2, x3, x4, x5, x6, x7, x8] x9 x10 x11 x12)).a x13.toNat := q18
  replace q27 : v27 = (x13 == ((Day.HB.mk [x1, x2, x3, x4, x5, x6, x7, x8] x9 x10 x11 x12)).port) := q27
  replace q32 : v32 = decide (((Day.HB.mk [x1, x2, x3, x4, x5, x6, x7, x8] x9 x10 x11 x12)).age < v30) := q32
  replace q35 : v35 = Day.atP x0 x13 ((Day.HB.mk [x1, x2, x3, x4, x5, x6, x7, x8] x9 x10 x11 x12)).age := q35
  replace q36 : v36 = Day.atR x0 x13 ((Day.HB.mk [x1, x2, x3, x4, x5, x6, x7, x8] x9 x10 x11 x12)).age := q36
  generalize (Day.HB.mk [x1, x2, x3, x4, x5, x6, x7, x8] x9 x10 x11 x12) = h at *
  have hn := Day.right_le hr
  have hbd := Day.hub_bounds hr
  have hR : Day.right x0 = true := by simp [Day.right, hn]
  have ha := Day.a_bounds hr hv
  have e1 := Day.atR_eq (b := h.a x13.toNat) hn hv (by omega)
  have e2 := Day.atR_eq (b := h.age) hn hv (by omega)
  have hB := Day.voteB_eq (v := x14) hr hv
  have h30 : v30 = 2 * x0 := by rw [q30]; simp [Day.times, hR]
  clear q30
  have h8 : x13 < 8 := by omega
  rw [← q18] at *
  subst_vars
  simp [hB, e1, e2, hv, h8, Bool.and_assoc]
  grind
end Rx.S
namespace Rx.S
open Go Rx
set_option maxRecDepth 100000
set_option maxHeartbeats 1000000
set_option linter.unusedVariables false
set_option linter.unusedSimpArgs false
def lp_1530 : Lp := ⟨99, [false, true, false, true, true], 1530, 15, 1, 1, ⟨frS 37 [(0, .pv (.one (.k (.int .i64 (V 0))))), (1, .pv (.agg [.k (.int .i64 (V 1)), .k (.int .i64 (V 2)), .k (.int .i64 (V 3)), .k (.int .i64 (V 4)), .k (.int .i64 (V 5)), .k (.int .i64 (V 6)), .k (.int .i64 (V 7)), .k (.int .i64 (V 8)), .k (.int .i64 (V 9)), .k (.int .i64 (V 10)), .k (.int .i64 (V 11)), .k (.int .i64 (V 12))])), (3, .pv (.one (.k (.ptr 0 0)))), (4, .pv (.one (.k (.int .i64 (N 0))))), (5, .pv (.one (.k (.int .i64 (N 0))))), (6, .pv (.one (.k (.int .i64 (V 13))))), (7, .pv (.one (.k (.int .i64 (V 14)))))], [⟨true, 77, 12, [.k (.int .i64 (V 1)), .k (.int .i64 (V 2)), .k (.int .i64 (V 3)), .k (.int .i64 (V 4)), .k (.int .i64 (V 5)), .k (.int .i64 (V 6)), .k (.int .i64 (V 7)), .k (.int .i64 (V 8)), .k (.int .i64 (V 9)), .k (.int .i64 (V 10)), .k (.int .i64 (V 11)), .k (.int .i64 (V 12))], none⟩], B true⟩, [(.exit 0, ⟨frS 37 [(0, .pv (.one (.k (.int .i64 (V 0))))), (1, .pv (.agg [.k (.int .i64 (V 1)), .k (.int .i64 (V 2)), .k (.int .i64 (V 3)), .k (.int .i64 (V 4)), .k (.int .i64 (V 5)), .k (.int .i64 (V 6)), .k (.int .i64 (V 7)), .k (.int .i64 (V 8)), .k (.int .i64 (V 9)), .k (.int .i64 (V 10)), .k (.int .i64 (V 11)), .k (.int .i64 (V 12))])), (3, .pv (.one (.k (.ptr 0 0)))), (4, .pv (.one (.k (.int .i64 (N 0))))), (5, .pv (.one (.k (.int .i64 (N 0))))), (6, .pv (.one (.k (.int .i64 (V 15)))))], [⟨true, 77, 12, [.k (.int .i64 (V 1)), .k (.int .i64 (V 2)), .k (.int .i64 (V 3)), .k (.int .i64 (V 4)), .k (.int .i64 (V 5)), .k (.int .i64 (V 6)), .k (.int .i64 (V 7)), .k (.int .i64 (V 8)), .k (.int .i64 (V 9)), .k (.int .i64 (V 10)), .k (.int .i64 (V 11)), .k (.int .i64 (V 12))], none⟩], B true⟩)], [true, true, true, true, true, true, true, true, true, true, true, true, true, false, false], [.i]⟩
def g_L1530 : G := ⟨32, [⟨31, (.ar .add .i64), [V 14, N 1]⟩, ⟨30, .iteI, [V 26, V 14, V 13]⟩, ⟨29, .and, [V 18, V 27]⟩, ⟨28, .and, [V 18, V 26]⟩, ⟨27, .not, [V 26]⟩, ⟨26, (.cmp .gtr), [V 21, V 24]⟩, ⟨25, .imp, [V 18, V 23]⟩, ⟨23, (.call 101), [V 0, V 1, V 2, V 3, V 4, V 5, V 6, V 7, V 8, V 9, V 10, V 11, V 12, V 13]⟩, ⟨22, .imp, [V 18, V 20]⟩, ⟨20, (.call 101), [V 0, V 1, V 2, V 3, V 4, V 5, V 6, V 7, V 8, V 9, V 10, V 11, V 12, V 14]⟩, ⟨19, .not, [V 18]⟩, ⟨18, .iteB, [V 16, V 17, B false]⟩, ⟨17, (.cmp .lss), [V 14, V 0]⟩, ⟨15, (.call 97), [V 0, V 1, V 2, V 3, V 4, V 5, V 6, V 7, V 8, V 9, V 10, V 11, V 12]⟩], [V 25, V 22, V 15], []⟩
def m_1530 (al : List A) : Nat := ((gi al 0) - (gi al 14)).toNat
theorem lpureQ_1530 (e : Nat → A) (H : FactsQ T e g_L1530.defs) (hp : (Day.bestP (e 0).int (Day.HB.mk [(e 1).int, (e 2).int, (e 3).int, (e 4).int, (e 5).int, (e 6).int, (e 7).int, (e 8).int] (e 9).int (e 10).int (e 11).int (e 12).int) (e 14).int) = true) :
    ((e 25).bool = true ∧ (e 22).bool = true ∧ (e 15).bool = true) ∧ ((e 18).bool = true → (Day.bestP (e 0).int (Day.HB.mk [(e 1).int, (e 2).int, (e 3).int, (e 4).int, (e 5).int, (e 6).int, (e 7).int, (e 8).int] (e 9).int (e 10).int (e 11).int (e 12).int) (e 31).int) = true ∧ (Day.bestU (e 0).int (Day.HB.mk [(e 1).int, (e 2).int, (e 3).int, (e 4).int, (e 5).int, (e 6).int, (e 7).int, (e 8).int] (e 9).int (e 10).int (e 11).int (e 12).int) (e 31).int (e 30).int = Day.bestU (e 0).int (Day.HB.mk [(e 1).int, (e 2).int, (e 3).int, (e 4).int, (e 5).int, (e 6).int, (e 7).int, (e 8).int] (e 9).int (e 10).int (e 11).int (e 12).int) (e 14).int (e 13).int) ∧ ((e 0).int - (e 31).int).toNat < ((e 0).int - (e 14).int).toNat) ∧ ((e 19).bool = true → (e 13).int = Day.bestU (e 0).int (Day.HB.mk [(e 1).int, (e 2).int, (e 3).int, (e 4).int, (e 5).int, (e 6).int, (e 7).int, (e 8).int] (e 9).int (e 10).int (e 11).int (e 12).int) (e 14).int (e 13).int) := by
  simp only [g_L1530, FactsQ, Def.q, updQ, L.ev_var, L.ev_n, L.ev_t, L.ev_e, L.ev, A.int_i, A.bool_b, A.str_v, A.els_l, List.map_cons, List.map_nil, Nat.zero_add, Nat.add_zero, and_true, true_and, Nat.reduceAdd, Nat.one_mul] at H
  simp only [arI, dvI, btI, cmpI, ifQ, updV, ltQ, and_true, true_and] at H
  obtain ⟨⟨q31, -⟩, ⟨q30, -⟩, q29, q28, q27, q26, q25, q23, q22, q20, q19, q18, q17, q15⟩ := H
  replace q23 := out_ref11_Votes q23
  obtain ⟨q23, q24⟩ := q23
  replace q20 := out_ref11_Votes q20
  obtain ⟨q20, q21⟩ := q20
  replace q15 := out_ref11_Right q15
  obtain ⟨q15, q16⟩ := q15
  simp only [L.ev_var, L.ev_n, L.ev_t, L.ev_e, L.ev, A.int_i, A.bool_b, A.str_v] at q23 q24 q20 q21 q15 q16
  generalize (e 0).int = x0 at *
  generalize (e 1).int = x1 at *
  generalize (e 2).int = x2 at *
  generalize (e 3).int = x3 at *
  generalize (e 4).int = x4 at *
  generalize (e 5).int = x5 at *
  generalize (e 6).int = x6 at *
  generalize (e 7).int = x7 at *
  generalize (e 8).int = x8 at *
  generalize (e 9).int = x9 at *
  generalize (e 10).int = x10 at *
  generalize (e 11).int = x11 at *
  generalize (e 12).int = x12 at *
  generalize (e 13).int = x13 at *
  generalize (e 14).int = x14 at *
  generalize (e 15).bool = v15 at *
  generalize (e 16).bool = v16 at *
  generalize (e 17).bool = v17 at *
  generalize (e 18).bool = v18 at *
  generalize (e 19).bool = v19 at *
  generalize (e 20).bool = v20 at *
  generalize (e 21).int = v21 at *
  generalize (e 22).bool = v22 at *
  generalize (e 23).bool = v23 at *
  generalize (e 24).int = v24 at *
  generalize (e 25).bool = v25 at *
  generalize (e 26).bool = v26 at *
  generalize (e 27).bool = v27 at *
  generalize (e 28).bool = v28 at *
  generalize (e 29).bool = v29 at *
  generalize (e 30).int = v30 at *
  generalize (e 31).int = v31 at *
  generalize (Day.HB.mk [x1, x2, x3, x4, x5, x6, x7, x8] x9 x10 x11 x12) = h at *
  cases hr : Day.rightH x0 h with
  | false => simp_all [Day.bestP, Day.bestU]
  | true =>
    have hn := Day.right_le hr
    simp only [Day.bestP, hr, Bool.not_true, Bool.false_or, Day.inR_iff] at hp
    have w2 : IntKind.wrap .i64 (x14 + 1) = x14 + 1 := wrap64 (by omega) (by omega)
    by_cases hlt : x14 < x0
    · have e := Day.bestT_step h x13 ⟨hp.1, hlt⟩ hn.2
      rw [hr] at q16
      subst_vars
      simp only [hlt, hr, w2, Day.bestP, Day.bestU, Bool.not_true, Bool.false_or, Day.inR_iff, decide_true, if_true, e, Day.bestStep, Day.votesH, true_and, gt_iff_lt, decide_eq_true_eq]
      simp
      omega
    · have e := Day.bestT_end h x13 (show x0 ≤ x14 by omega)
      rw [hr] at q16
      subst_vars
      simp [hlt, hr, Day.bestU, e]
theorem lpure_1530 (as : List A) (e : Nat → A) (h1 : as = (List.range 15).map e) (h2 : (t_1530 as).1 = true) (H : FactsQ T e g_L1530.defs) : ObsAll e g_L1530.obs ∧
      (∀ pc ls, some (V 18, [V 0, V 1, V 2, V 3, V 4, V 5, V 6, V 7, V 8, V 9, V 10, V 11, V 12, V 30, V 31]) = some (pc, ls) → (pc.ev e).bool = true → (t_1530 (ls.map (L.ev e))).1 = true ∧ (t_1530 (ls.map (L.ev e))).2 = (t_1530 as).2 ∧ m_1530 (ls.map (L.ev e)) < m_1530 as) ∧
      ∀ x ∈ ([(V 19, [some (V 13)])] : List (L × List (Option L))), (x.1.ev e).bool = true → ∀ (j : Nat) l, x.2[j]? = some (some l) → Teq (lp_1530.tags.getD j .any) (l.ev e) ((t_1530 as).2.getD j (.i 0)) := by
  subst h1
  obtain ⟨ho, h⟩ := lpureQ_1530 e H h2
  refine ⟨⟨ho.1, ho.2.1, ho.2.2, trivial⟩, fun pc ls hb hpc => ?_, ?_⟩
  · injection hb with hb
    injection hb with h3 h4
    subst h3 h4
    have h := h.1 hpc
    refine ⟨h.1, ?_, h.2.2⟩
    have h5 := h.2.1
    show ([.i (Day.bestU (e 0).int (Day.HB.mk [(e 1).int, (e 2).int, (e 3).int, (e 4).int, (e 5).int, (e 6).int, (e 7).int, (e 8).int] (e 9).int (e 10).int (e 11).int (e 12).int) (e 31).int (e 30).int)] : List A) = [.i (Day.bestU (e 0).int (Day.HB.mk [(e 1).int, (e 2).int, (e 3).int, (e 4).int, (e 5).int, (e 6).int, (e 7).int, (e 8).int] (e 9).int (e 10).int (e 11).int (e 12).int) (e 14).int (e 13).int)]
    rw [h5]
  · intro x hx hpc j l hj
    simp only [List.mem_cons, List.not_mem_nil, or_false] at hx
    rcases hx with rfl
    · have h := h.2 hpc
      have z0 := h
      match j, hj with
      | 0, hj => injection hj with hj; injection hj with hj; subst hj; exact z0
      | _ + 1, hj => cases hj
def g_ref11_Best : G := ⟨26, [⟨25, .iteB, [V 18, V 18, V 17]⟩, ⟨24, .iteI, [V 18, V 20, N 0]⟩, ⟨23, .iteI, [V 18, V 14, N 0]⟩, ⟨22, .not, [V 18]⟩, ⟨21, .imp, [V 18, V 19]⟩, ⟨19, (.call 101), [V 0, V 1, V 2, V 3, V 4, V 5, V 6, V 7, V 8, V 9, V 10, V 11, V 12, V 14]⟩, ⟨18, .not, [V 17]⟩, ⟨17, .not, [V 16]⟩, ⟨15, (.call 97), [V 0, V 1, V 2, V 3, V 4, V 5, V 6, V 7, V 8, V 9, V 10, V 11, V 12]⟩, ⟨13, (.call 1530), [V 0, V 1, V 2, V 3, V 4, V 5, V 6, V 7, V 8, V 9, V 10, V 11, V 12, N 0, N 0]⟩], [V 21, V 15, V 13], []⟩
theorem pure_ref11_Best (e : Nat → A) (H : FactsQ T e g_ref11_Best.defs) (hp : (true) = true) :
    ((e 21).bool = true ∧ (e 15).bool = true ∧ (e 13).bool = true) ∧ (Day.bestH (e 0).int (Day.HB.mk [(e 1).int, (e 2).int, (e 3).int, (e 4).int, (e 5).int, (e 6).int, (e 7).int, (e 8).int] (e 9).int (e 10).int (e 11).int (e 12).int) = (e 23).int ∧ Day.bestK (e 0).int (Day.HB.mk [(e 1).int, (e 2).int, (e 3).int, (e 4).int, (e 5).int, (e 6).int, (e 7).int, (e 8).int] (e 9).int (e 10).int (e 11).int (e 12).int) = (e 24).int) := by
  simp only [g_ref11_Best, FactsQ, Def.q, updQ, L.ev_var, L.ev_n, L.ev_t, L.ev_e, L.ev, A.int_i, A.bool_b, A.str_v, A.els_l, List.map_cons, List.map_nil, Nat.zero_add, Nat.add_zero, and_true, true_and, Nat.reduceAdd, Nat.one_mul] at H
  simp only [arI, dvI, btI, cmpI, ifQ, updV, ltQ, and_true, true_and] at H
  obtain ⟨q25, ⟨q24, -⟩, ⟨q23, -⟩, q22, q21, q19, q18, q17, q15, q13⟩ := H
  replace q19 := out_ref11_Votes q19
  obtain ⟨q19, q20⟩ := q19
  replace q15 := out_ref11_Right q15
  obtain ⟨q15, q16⟩ := q15
  replace q13 := out_L1530 q13
  obtain ⟨q13, q14⟩ := q13
  simp only [L.ev_var, L.ev_n, L.ev_t, L.ev_e, L.ev, A.int_i, A.bool_b, A.str_v] at q19 q20 q15 q16 q13 q14
  generalize (e 0).int = x0 at *
  generalize (e 1).int = x1 at *
  generalize (e 2).int = x2 at *
  generalize (e 3).int = x3 at *
  generalize (e 4).int = x4 at *
  generalize (e 5).int = x5 at *
  generalize (e 6).int = x6 at *
  generalize (e 7).int = x7 at *
  generalize (e 8).int = x8 at *
  generalize (e 9).int = x9 at *
  generalize (e 10).int = x10 at *
  generalize (e 11).int = x11 at *
  generalize (e 12).int = x12 at *
  generalize (e 13).bool = v13 at *
  generalize (e 14).int = v14 at *
  generalize (e 15).bool = v15 at *
  generalize (e 16).bool = v16 at *
  generalize (e 17).bool = v17 at *
  generalize (e 18).bool = v18 at *
  generalize (e 19).bool = v19 at *
  generalize (e 20).int = v20 at *
  generalize (e 21).bool = v21 at *
  generalize (e 22).bool = v22 at *
  generalize (e 23).int = v23 at *
  generalize (e 24).int = v24 at *
  generalize (e 25).bool = v25 at *
  generalize (Day.HB.mk [x1, x2, x3, x4, x5, x6, x7, x8] x9 x10 x11 x12) = h at *
  cases hr : Day.rightH x0 h with
  | false =>
    rw [hr] at q16
    subst_vars
    simp [Day.bestH, Day.bestK, Day.bestP, hr]
  | true =>
    have hn := Day.right_le hr
    rw [hr] at q16
    subst_vars
    simp [Day.bestH, Day.bestK, Day.bestU, Day.bestP, hr, Day.bestT_zero, Day.inR, Day.votesH]
    omega
end Rx.S
namespace Rx.S
open Go Rx
set_option maxRecDepth 100000
set_option maxHeartbeats 1000000
set_option linter.unusedVariables false
set_option linter.unusedSimpArgs false
def g_vote_Votes : G := ⟨36, [⟨35, .iteB, [V 23, V 23, V 22]⟩, ⟨34, .iteI, [V 23, V 32, N 0]⟩, ⟨33, .not, [V 23]⟩, ⟨32, (.pix 0 1), [V 25, V 13]⟩, ⟨31, .imp, [V 23, V 30]⟩, ⟨30, .and, [V 28, V 29]⟩, ⟨29, (.cmp .lss), [V 13, V 26]⟩, ⟨28, (.cmp .leq), [N 0, V 13]⟩, ⟨27, .imp, [V 23, V 24]⟩, ⟨24, (.call 144), [V 0, V 1, V 2, V 3, V 4, V 5, V 6, V 7, V 8, V 9, V 10, V 11, V 12]⟩, ⟨23, .not, [V 22]⟩, ⟨22, .iteB, [V 19, B true, V 21]⟩, ⟨21, (.cmp .geq), [V 13, V 0]⟩, ⟨20, .not, [V 19]⟩, ⟨19, .iteB, [V 16, B true, V 18]⟩, ⟨18, (.cmp .lss), [V 13, N 0]⟩, ⟨17, .not, [V 16]⟩, ⟨16, .not, [V 15]⟩, ⟨14, (.call 96), [V 0, V 1, V 2, V 3, V 4, V 5, V 6, V 7, V 8, V 9, V 10, V 11, V 12]⟩], [V 31, V 27, V 14], []⟩
theorem pure_vote_Votes (e : Nat → A) (H : FactsQ T e g_vote_Votes.defs) (hp : (Day.HB.i64 (Day.HB.mk [(e 1).int, (e 2).int, (e 3).int, (e 4).int, (e 5).int, (e 6).int, (e 7).int, (e 8).int] (e 9).int (e 10).int (e 11).int (e 12).int)) = true) :
    ((e 31).bool = true ∧ (e 27).bool = true ∧ (e 14).bool = true) ∧ (Day.votesH (e 0).int (Day.HB.mk [(e 1).int, (e 2).int, (e 3).int, (e 4).int, (e 5).int, (e 6).int, (e 7).int, (e 8).int] (e 9).int (e 10).int (e 11).int (e 12).int) (e 13).int = (e 34).int) := by
  simp only [g_vote_Votes, FactsQ, Def.q, updQ, L.ev_var, L.ev_n, L.ev_t, L.ev_e, L.ev, A.int_i, A.bool_b, A.str_v, A.els_l, List.map_cons, List.map_nil, Nat.zero_add, Nat.add_zero, and_true, true_and, Nat.reduceAdd, Nat.one_mul] at H
  simp only [arI, dvI, btI, cmpI, ifQ, updV, ltQ, and_true, true_and] at H
  obtain ⟨q35, ⟨q34, -⟩, q33, q32, q31, q30, q29, q28, q27, q24, q23, q22, q21, q20, q19, q18, q17, q16, q14⟩ := H
  replace q24 := out_vote_counts q24
  obtain ⟨q24, q25, q26⟩ := q24
  replace q14 := out_vote_Right q14
  obtain ⟨q14, q15⟩ := q14
  simp only [L.ev_var, L.ev_n, L.ev_t, L.ev_e, L.ev, A.int_i, A.bool_b, A.str_v] at q24 q25 q26 q14 q15
  generalize (e 0).int = x0 at *
  generalize (e 1).int = x1 at *
  generalize (e 2).int = x2 at *
  generalize (e 3).int = x3 at *
  generalize (e 4).int = x4 at *
  generalize (e 5).int = x5 at *
  generalize (e 6).int = x6 at *
  generalize (e 7).int = x7 at *
  generalize (e 8).int = x8 at *
  generalize (e 9).int = x9 at *
  generalize (e 10).int = x10 at *
  generalize (e 11).int = x11 at *
  generalize (e 12).int = x12 at *
  generalize (e 13).int = x13 at *
  generalize (e 14).bool = v14 at *
  generalize (e 15).bool = v15 at *
  generalize (e 16).bool = v16 at *
  generalize (e 17).bool = v17 at *
  generalize (e 18).bool = v18 at *
  generalize (e 19).bool = v19 at *
  generalize (e 20).bool = v20 at *
  generalize (e 21).bool = v21 at *
  generalize (e 22).bool = v22 at *
  generalize (e 23).bool = v23 at *
  generalize (e 24).bool = v24 at *
  generalize e 25 = v25 at *
  generalize (e 26).int = v26 at *
  generalize (e 27).bool = v27 at *
  generalize (e 28).bool = v28 at *
  generalize (e 29).bool = v29 at *
  generalize (e 30).bool = v30 at *
  generalize (e 31).bool = v31 at *
  generalize (e 33).bool = v33 at *
  generalize (e 34).int = v34 at *
  generalize (e 35).bool = v35 at *
  replace q32 := congrArg A.int q32
  generalize (e 32).int = v32 at *
  generalize (Day.HB.mk [x1, x2, x3, x4, x5, x6, x7, x8] x9 x10 x11 x12) = h at *
  cases hr : Day.rightH x0 h with
  | false =>
    rw [hr] at q15
    subst_vars
    simp [Day.votesH, hr, hp]
  | true =>
    rw [hr] at q15 q24
    by_cases hv : 0 ≤ x13 ∧ x13 < x0
    · have hg := Day.cntL_get hr hv
      have hl := Day.cntL_length hr
      have n1 : ¬ x13 < 0 := by omega
      have n2 : ¬ x0 ≤ x13 := by omega
      subst_vars
      rw [hl]
      simp only [hg, Day.votesH, hr, if_true]
      simp [hp, n1, n2, hv]
    · have e0 : Day.cntH x0 h x13 = 0 := Day.cntH_out hr hv
      have n1 : x13 < 0 ∨ x0 ≤ x13 := by omega
      subst_vars
      rcases n1 with n1 | n1 <;> simp [Day.votesH, hr, hp, n1, e0]
end Rx.S
namespace Rx.S
open Go Rx
set_option maxRecDepth 100000
set_option maxHeartbeats 1000000
set_option linter.unusedVariables false
set_option linter.unusedSimpArgs false
def lp_1540 : Lp := ⟨144, [false, true, false, true, true], 1540, 15, 1, 2, ⟨frS 61 [(0, .pv (.one (.k (.int .i64 (V 0))))), (1, .pv (.agg [.k (.int .i64 (V 1)), .k (.int .i64 (V 2)), .k (.int .i64 (V 3)), .k (.int .i64 (V 4)), .k (.int .i64 (V 5)), .k (.int .i64 (V 6)), .k (.int .i64 (V 7)), .k (.int .i64 (V 8)), .k (.int .i64 (V 9)), .k (.int .i64 (V 10)), .k (.int .i64 (V 11)), .k (.int .i64 (V 12))])), (3, .pv (.one (.k (.ptr 0 0)))), (4, .pv (.one (.k (.nilslc)))), (5, .pv (.one (.k (.lsl 1 (V 0))))), (9, .pv (.one (.k (.int .i64 (V 0))))), (10, .pv (.one (.k (.lsl 1 (V 0))))), (11, .pv (.one (.k (.int .i64 (V 0))))), (12, .pv (.one (.k (.int .i64 (V 13)))))], [⟨true, 77, 12, [.k (.int .i64 (V 1)), .k (.int .i64 (V 2)), .k (.int .i64 (V 3)), .k (.int .i64 (V 4)), .k (.int .i64 (V 5)), .k (.int .i64 (V 6)), .k (.int .i64 (V 7)), .k (.int .i64 (V 8)), .k (.int .i64 (V 9)), .k (.int .i64 (V 10)), .k (.int .i64 (V 11)), .k (.int .i64 (V 12))], none⟩, ⟨false, 0, 0, [], some ⟨true, 3, [.int .i64], V 14, V 0⟩⟩], B true⟩, [(.exit 0, ⟨frS 61 [(0, .pv (.one (.k (.int .i64 (V 0))))), (1, .pv (.agg [.k (.int .i64 (V 1)), .k (.int .i64 (V 2)), .k (.int .i64 (V 3)), .k (.int .i64 (V 4)), .k (.int .i64 (V 5)), .k (.int .i64 (V 6)), .k (.int .i64 (V 7)), .k (.int .i64 (V 8)), .k (.int .i64 (V 9)), .k (.int .i64 (V 10)), .k (.int .i64 (V 11)), .k (.int .i64 (V 12))])), (4, .pv (.one (.k (.nilslc)))), (5, .pv (.one (.k (.lsl 1 (V 0))))), (9, .pv (.one (.k (.int .i64 (V 0))))), (10, .pv (.one (.k (.lsl 1 (V 0)))))], [⟨true, 77, 12, [.k (.int .i64 (V 1)), .k (.int .i64 (V 2)), .k (.int .i64 (V 3)), .k (.int .i64 (V 4)), .k (.int .i64 (V 5)), .k (.int .i64 (V 6)), .k (.int .i64 (V 7)), .k (.int .i64 (V 8)), .k (.int .i64 (V 9)), .k (.int .i64 (V 10)), .k (.int .i64 (V 11)), .k (.int .i64 (V 12))], none⟩, ⟨false, 0, 0, [], some ⟨true, 3, [.int .i64], V 15, V 0⟩⟩], B true⟩)], [true, true, true, true, true, true, true, true, true, true, true, true, true, false, false], [.any]⟩
def g_L1540 : G := ⟨75, [⟨74, .and, [V 72, V 16]⟩, ⟨73, .and, [V 15, V 70]⟩, ⟨72, .not, [V 15]⟩, ⟨71, (.ar .add .i64), [V 13, N 1]⟩, ⟨70, .iteB, [V 51, V 51, V 68]⟩, ⟨69, .iteA, [V 51, V 66, V 38]⟩, ⟨68, .and, [V 67, V 50]⟩, ⟨67, .not, [V 51]⟩, ⟨66, .iteA, [V 55, V 65, V 38]⟩, ⟨65, (.pset 0 1), [V 38, V 53, V 64]⟩, ⟨64, (.ar .add .i64), [V 63, N 1]⟩, ⟨63, (.pix 0 1), [V 38, V 53]⟩, ⟨62, .imp, [V 57, V 61]⟩, ⟨61, .and, [V 59, V 60]⟩, ⟨60, (.cmp .lss), [V 53, V 0]⟩, ⟨59, (.cmp .leq), [N 0, V 53]⟩, ⟨58, .and, [V 51, V 56]⟩, ⟨57, .and, [V 51, V 55]⟩, ⟨56, .not, [V 55]⟩, ⟨55, (.cmp .neq), [V 53, V 37]⟩, ⟨54, .imp, [V 51, V 52]⟩, ⟨52, (.call 37), [V 0, V 13, V 10]⟩, ⟨51, .and, [V 47, V 49]⟩, ⟨50, .and, [V 46, V 48]⟩, ⟨49, .and, [V 15, V 47]⟩, ⟨48, .and, [V 15, V 46]⟩, ⟨47, .not, [V 46]⟩, ⟨46, .iteB, [V 39, B true, V 45]⟩, ⟨45, (.cmp .geq), [V 10, V 43]⟩, ⟨44, .imp, [V 41, V 42]⟩, ⟨42, (.call 44), [V 0]⟩, ⟨41, .and, [V 15, V 40]⟩, ⟨40, .not, [V 39]⟩, ⟨39, (.cmp .neq), [V 13, V 9]⟩, ⟨38, .iteA, [V 22, V 36, V 14]⟩, ⟨37, .iteI, [V 22, V 28, N (-1)]⟩, ⟨36, (.pset 0 1), [V 14, V 28, V 35]⟩, ⟨35, (.ar .add .i64), [V 34, N 1]⟩, ⟨34, (.pix 0 1), [V 14, V 28]⟩, ⟨33, .imp, [V 24, V 32]⟩, ⟨32, .and, [V 30, V 31]⟩, ⟨31, (.cmp .lss), [V 28, V 0]⟩, ⟨30, (.cmp .leq), [N 0, V 28]⟩, ⟨29, .imp, [V 24, V 27]⟩, ⟨27, (.call 37), [V 0, V 13, V 21]⟩, ⟨26, .imp, [V 24, V 19]⟩, ⟨25, .and, [V 15, V 23]⟩, ⟨24, .and, [V 15, V 22]⟩, ⟨23, .not, [V 22]⟩, ⟨22, (.cmp .lss), [V 21, V 0]⟩, ⟨21, .sel, [V 13, V 1, V 2, V 3, V 4, V 5, V 6, V 7, V 8]⟩, ⟨20, .imp, [V 15, V 19]⟩, ⟨19, .and, [V 17, V 18]⟩, ⟨18, (.cmp .lss), [V 13, N 8]⟩, ⟨17, (.cmp .leq), [N 0, V 13]⟩, ⟨16, .not, [V 15]⟩, ⟨15, (.cmp .lss), [V 13, V 0]⟩], [V 62, V 62, V 54, V 44, V 33, V 33, V 29, V 26, V 20], []⟩
def m_1540 (al : List A) : Nat := ((gi al 0) - (gi al 13)).toNat
theorem lpureQ_1540 (e : Nat → A) (H : FactsQ T e g_L1540.defs) (hp : (Day.countsP (e 0).int (Day.HB.mk [(e 1).int, (e 2).int, (e 3).int, (e 4).int, (e 5).int, (e 6).int, (e 7).int, (e 8).int] (e 9).int (e 10).int (e 11).int (e 12).int) (e 13).int (e 14)) = true) :
    ((e 62).bool = true ∧ (e 62).bool = true ∧ (e 54).bool = true ∧ (e 44).bool = true ∧ (e 33).bool = true ∧ (e 33).bool = true ∧ (e 29).bool = true ∧ (e 26).bool = true ∧ (e 20).bool = true) ∧ ((e 73).bool = true → (Day.countsP (e 0).int (Day.HB.mk [(e 1).int, (e 2).int, (e 3).int, (e 4).int, (e 5).int, (e 6).int, (e 7).int, (e 8).int] (e 9).int (e 10).int (e 11).int (e 12).int) (e 71).int (e 69)) = true ∧ (Day.ofIls (Day.cntsF (e 0).int (Day.HB.mk [(e 1).int, (e 2).int, (e 3).int, (e 4).int, (e 5).int, (e 6).int, (e 7).int, (e 8).int] (e 9).int (e 10).int (e 11).int (e 12).int) (e 71).int (e 69)) = Day.ofIls (Day.cntsF (e 0).int (Day.HB.mk [(e 1).int, (e 2).int, (e 3).int, (e 4).int, (e 5).int, (e 6).int, (e 7).int, (e 8).int] (e 9).int (e 10).int (e 11).int (e 12).int) (e 13).int (e 14))) ∧ ((e 0).int - (e 71).int).toNat < ((e 0).int - (e 13).int).toNat) ∧ ((e 74).bool = true → (e 14) = Day.ofIls (Day.cntsF (e 0).int (Day.HB.mk [(e 1).int, (e 2).int, (e 3).int, (e 4).int, (e 5).int, (e 6).int, (e 7).int, (e 8).int] (e 9).int (e 10).int (e 11).int (e 12).int) (e 13).int (e 14))) := by
  simp only [g_L1540, FactsQ, Def.q, updQ, L.ev_var, L.ev_n, L.ev_t, L.ev_e, L.ev, A.int_i, A.bool_b, A.str_v, A.els_l, List.map_cons, List.map_nil, Nat.zero_add, Nat.add_zero, and_true, true_and, Nat.reduceAdd, Nat.one_mul] at H
  simp only [arI, dvI, btI, cmpI, ifQ, updV, ltQ, and_true, true_and] at H
  obtain ⟨q74, q73, q72, ⟨q71, -⟩, q70, q69, q68, q67, q66, q65, ⟨q64, k64⟩, q63, q62, q61, q60, q59, q58, q57, q56, q55, q54, q52, q51, q50, q49, q48, q47, q46, q45, q44, q42, q41, q40, q39, q38, ⟨q37, -⟩, q36, ⟨q35, k35⟩, q34, q33, q32, q31, q30, q29, q27, q26, q25, q24, q23, q22, q21, q20, q19, q18, q17, q16, q15⟩ := H
  replace q52 := out_ring_At q52
  obtain ⟨q52, q53⟩ := q52
  replace q42 := out_conf_Block q42
  obtain ⟨q42, q43⟩ := q42
  replace q27 := out_ring_At q27
  obtain ⟨q27, q28⟩ := q27
  unfold isI at k35 k64
  simp only [L.ev_var, L.ev_n, L.ev_t, L.ev_e, L.ev, A.int_i, A.bool_b, A.str_v] at q52 q53 q42 q43 q27 q28
  generalize (e 0).int = x0 at *
  generalize (e 1).int = x1 at *
  generalize (e 2).int = x2 at *
  generalize (e 3).int = x3 at *
  generalize (e 4).int = x4 at *
  generalize (e 5).int = x5 at *
  generalize (e 6).int = x6 at *
  generalize (e 7).int = x7 at *
  generalize (e 8).int = x8 at *
  generalize (e 9).int = x9 at *
  generalize (e 10).int = x10 at *
  generalize (e 11).int = x11 at *
  generalize (e 12).int = x12 at *
  generalize (e 13).int = x13 at *
  generalize e 14 = x14 at *
  generalize (e 15).bool = v15 at *
  generalize (e 16).bool = v16 at *
  generalize (e 17).bool = v17 at *
  generalize (e 18).bool = v18 at *
  generalize (e 19).bool = v19 at *
  generalize (e 20).bool = v20 at *
  generalize (e 21).int = v21 at *
  generalize (e 22).bool = v22 at *
  generalize (e 23).bool = v23 at *
  generalize (e 24).bool = v24 at *
  generalize (e 25).bool = v25 at *
  generalize (e 26).bool = v26 at *
  generalize (e 27).bool = v27 at *
  generalize (e 28).int = v28 at *
  generalize (e 29).bool = v29 at *
  generalize (e 30).bool = v30 at *
  generalize (e 31).bool = v31 at *
  generalize (e 32).bool = v32 at *
  generalize (e 33).bool = v33 at *
  generalize (e 35).int = v35 at *
  generalize e 36 = v36 at *
  generalize (e 37).int = v37 at *
  generalize e 38 = v38 at *
  generalize (e 39).bool = v39 at *
  generalize (e 40).bool = v40 at *
  generalize (e 41).bool = v41 at *
  generalize (e 42).bool = v42 at *
  generalize (e 43).int = v43 at *
  generalize (e 44).bool = v44 at *
  generalize (e 45).bool = v45 at *
  generalize (e 46).bool = v46 at *
  generalize (e 47).bool = v47 at *
  generalize (e 48).bool = v48 at *
  generalize (e 49).bool = v49 at *
  generalize (e 50).bool = v50 at *
  generalize (e 51).bool = v51 at *
  generalize (e 52).bool = v52 at *
  generalize (e 53).int = v53 at *
  generalize (e 54).bool = v54 at *
  generalize (e 55).bool = v55 at *
  generalize (e 56).bool = v56 at *
  generalize (e 57).bool = v57 at *
  generalize (e 58).bool = v58 at *
  generalize (e 59).bool = v59 at *
  generalize (e 60).bool = v60 at *
  generalize (e 61).bool = v61 at *
  generalize (e 62).bool = v62 at *
  generalize (e 64).int = v64 at *
  generalize e 65 = v65 at *
  generalize e 66 = v66 at *
  generalize (e 67).bool = v67 at *
  generalize (e 68).bool = v68 at *
  generalize e 69 = v69 at *
  generalize (e 70).bool = v70 at *
  generalize (e 71).int = v71 at *
  generalize (e 72).bool = v72 at *
  generalize (e 73).bool = v73 at *
  generalize (e 74).bool = v74 at *
  rw [k64] at q65
  rw [k35] at q36
  replace q34 := congrArg A.int q34
  generalize (e 34).int = v34 at *
  replace q63 := congrArg A.int q63
  generalize (e 63).int = v63 at *
  replace q21 : v21 = ((Day.HB.mk [x1, x2, x3, x4, x5, x6, x7, x8] x9 x10 x11 x12)).a x13.toNat := q21
  replace q39 : v39 = (x13 != ((Day.HB.mk [x1, x2, x3, x4, x5, x6, x7, x8] x9 x10 x11 x12)).port) := q39
  replace q45 : v45 = decide (((Day.HB.mk [x1, x2, x3, x4, x5, x6, x7, x8] x9 x10 x11 x12)).age ≥ v43) := q45
  replace q52 : v52 = Day.atP x0 x13 ((Day.HB.mk [x1, x2, x3, x4, x5, x6, x7, x8] x9 x10 x11 x12)).age := q52
  replace q53 : v53 = Day.atR x0 x13 ((Day.HB.mk [x1, x2, x3, x4, x5, x6, x7, x8] x9 x10 x11 x12)).age := q53
  generalize (Day.HB.mk [x1, x2, x3, x4, x5, x6, x7, x8] x9 x10 x11 x12) = h at *
  have hP := hp
  simp only [Day.countsP, Bool.and_eq_true, Day.inR_iff] at hp
  obtain ⟨⟨⟨hr, hp0⟩, hx⟩, hb⟩ := hp
  have hn := Day.right_le hr
  have hbd := Day.hub_bounds hr
  have hR : Day.right x0 = true := by simp [Day.right, hn]
  have h43 : v43 = 2 * x0 := by rw [q43]; simp [Day.times, hR]
  clear q43
  have w2 : IntKind.wrap .i64 (x13 + 1) = x13 + 1 := wrap64 (by omega) (by omega)
  by_cases hlt : x13 < x0
  · have ha := Day.a_bounds hr ⟨hp0.1, hlt⟩
    have m1 := Day.mod_lt (x := x13 + h.a x13.toNat) hn
    have m2 := Day.mod_lt (x := x13 + h.age) hn
    have e1 := Day.atR_eq (b := h.a x13.toNat) hn ⟨hp0.1, hlt⟩ (by omega)
    have e2 := Day.atR_eq (b := h.age) hn ⟨hp0.1, hlt⟩ (by omega)
    have s1 : v37 = if h.a x13.toNat < x0 then (x13 + h.a x13.toNat) % x0 else -1 := by
      rw [q37, q22, q28, q21]; simp [Day.atR]
    have s2 : v38 = if h.a x13.toNat < x0 then Day.incA x14 ((x13 + h.a x13.toNat) % x0) else x14 := by
      rw [q38, q36, q35, q34, q22, q28, q21]; simp [Day.incA, Day.atR]
    have s3 : v69 = if x13 = h.port ∧ h.age < 2 * x0 ∧ (x13 + h.age) % x0 ≠ v37 then Day.incA v38 ((x13 + h.age) % x0) else v38 := by
      rw [q69, q51, q49, q47, q46, q45, q39, q15, q66, q65, q64, q63, q55, q53, h43]
      by_cases c1 : x13 = h.port
      · by_cases c2 : h.age < 2 * x0
        · have hl2 : h.port < x0 := c1 ▸ hlt
          simp [c1, c2, Day.incA, Day.atR, hl2]
        · have c3 : 2 * x0 ≤ h.age := by omega
          simp [c1, c2, c3]
      · simp [c1]
    have st := Day.counts_step hP hlt s1 s2 s3
    have o62 : v62 = true := by rw [q62, q61, q60, q59, q53, e2.2]; simp [m2.1, m2.2]
    have o54 : v54 = true := by rw [q54, q52, e2.1]; simp
    have o44 : v44 = true := by rw [q44, q42]; simp
    have o33 : v33 = true := by rw [q33, q32, q31, q30, q28, q21]; simp [Day.atR, m1.1, m1.2]
    have o29 : v29 = true := by rw [q29, q27, q21, e1.1]; simp
    have o26 : v26 = true := by rw [q26, q19, q18, q17]; simp; omega
    have o20 : v20 = true := by rw [q20, q19, q18, q17]; simp; omega
    refine ⟨by simp only [o62, o54, o44, o33, o29, o26, o20, and_self], fun hb => ⟨?_, ?_, ?_⟩, fun hb => ?_⟩
    · rw [q71, w2]; exact st.1
    · rw [q71, w2, st.2]
    · rw [q71, w2]; omega
    · rw [q74, q72, q15] at hb; simp [hlt] at hb
  · have q15 : v15 = false := by rw [q15]; simp [hlt]
    have o62 : v62 = true := by rw [q62, q57, q51, q49, q15]; simp
    have o54 : v54 = true := by rw [q54, q51, q49, q15]; simp
    have o44 : v44 = true := by rw [q44, q42]; simp
    have o33 : v33 = true := by rw [q33, q24, q15]; simp
    have o29 : v29 = true := by rw [q29, q24, q15]; simp
    have o26 : v26 = true := by rw [q26, q24, q15]; simp
    have o20 : v20 = true := by rw [q20, q15]; simp
    refine ⟨by simp only [o62, o54, o44, o33, o29, o26, o20, and_self], fun hb => ?_, fun hb => Day.counts_end hP hlt⟩
    rw [q73, q15] at hb; simp at hb
theorem lpure_1540 (as : List A) (e : Nat → A) (h1 : as = (List.range 15).map e) (h2 : (t_1540 as).1 = true) (H : FactsQ T e g_L1540.defs) : ObsAll e g_L1540.obs ∧
      (∀ pc ls, some (V 73, [V 0, V 1, V 2, V 3, V 4, V 5, V 6, V 7, V 8, V 9, V 10, V 11, V 12, V 71, V 69]) = some (pc, ls) → (pc.ev e).bool = true → (t_1540 (ls.map (L.ev e))).1 = true ∧ (t_1540 (ls.map (L.ev e))).2 = (t_1540 as).2 ∧ m_1540 (ls.map (L.ev e)) < m_1540 as) ∧
      ∀ x ∈ ([(V 74, [some (V 14)])] : List (L × List (Option L))), (x.1.ev e).bool = true → ∀ (j : Nat) l, x.2[j]? = some (some l) → Teq (lp_1540.tags.getD j .any) (l.ev e) ((t_1540 as).2.getD j (.i 0)) := by
  subst h1
  obtain ⟨ho, h⟩ := lpureQ_1540 e H h2
  refine ⟨⟨ho.1, ho.2.1, ho.2.2.1, ho.2.2.2.1, ho.2.2.2.2.1, ho.2.2.2.2.2.1, ho.2.2.2.2.2.2.1, ho.2.2.2.2.2.2.2.1, ho.2.2.2.2.2.2.2.2, trivial⟩, fun pc ls hb hpc => ?_, ?_⟩
  · injection hb with hb
    injection hb with h3 h4
    subst h3 h4
    have h := h.1 hpc
    refine ⟨h.1, ?_, h.2.2⟩
    have h5 := h.2.1
    show ([Day.ofIls (Day.cntsF (e 0).int (Day.HB.mk [(e 1).int, (e 2).int, (e 3).int, (e 4).int, (e 5).int, (e 6).int, (e 7).int, (e 8).int] (e 9).int (e 10).int (e 11).int (e 12).int) (e 71).int (e 69))] : List A) = [Day.ofIls (Day.cntsF (e 0).int (Day.HB.mk [(e 1).int, (e 2).int, (e 3).int, (e 4).int, (e 5).int, (e 6).int, (e 7).int, (e 8).int] (e 9).int (e 10).int (e 11).int (e 12).int) (e 13).int (e 14))]
    rw [h5]
  · intro x hx hpc j l hj
    simp only [List.mem_cons, List.not_mem_nil, or_false] at hx
    rcases hx with rfl
    · have h := h.2 hpc
      have z0 := h
      match j, hj with
      | 0, hj => injection hj with hj; injection hj with hj; subst hj; exact z0
      | _ + 1, hj => cases hj
def g_vote_counts : G := ⟨19, [⟨17, (.call 1540), [V 0, V 1, V 2, V 3, V 4, V 5, V 6, V 7, V 8, V 9, V 10, V 11, V 12, N 0, V 16]⟩, ⟨16, .rep, [V 0, N 0]⟩, ⟨15, .and, [V 13, V 14]⟩, ⟨14, (.cmp .lss), [V 0, N 1000001]⟩, ⟨13, (.cmp .leq), [N 0, V 0]⟩], [V 17, V 15], []⟩
theorem pure_vote_counts (e : Nat → A) (H : FactsQ T e g_vote_counts.defs) (hp : (Day.rightH (e 0).int (Day.HB.mk [(e 1).int, (e 2).int, (e 3).int, (e 4).int, (e 5).int, (e 6).int, (e 7).int, (e 8).int] (e 9).int (e 10).int (e 11).int (e 12).int)) = true) :
    ((e 17).bool = true ∧ (e 15).bool = true) ∧ (Day.ofIls ((Day.cntL (e 0).int (Day.HB.mk [(e 1).int, (e 2).int, (e 3).int, (e 4).int, (e 5).int, (e 6).int, (e 7).int, (e 8).int] (e 9).int (e 10).int (e 11).int (e 12).int))) = (e 18) ∧ (((Day.cntL (e 0).int (Day.HB.mk [(e 1).int, (e 2).int, (e 3).int, (e 4).int, (e 5).int, (e 6).int, (e 7).int, (e 8).int] (e 9).int (e 10).int (e 11).int (e 12).int))).length : Int) = (e 0).int) := by
  simp only [g_vote_counts, FactsQ, Def.q, updQ, L.ev_var, L.ev_n, L.ev_t, L.ev_e, L.ev, A.int_i, A.bool_b, A.str_v, A.els_l, List.map_cons, List.map_nil, Nat.zero_add, Nat.add_zero, and_true, true_and, Nat.reduceAdd, Nat.one_mul] at H
  simp only [arI, dvI, btI, cmpI, ifQ, updV, ltQ, and_true, true_and] at H
  obtain ⟨q17, q16, q15, q14, q13⟩ := H
  replace q17 := out_L1540 q17
  obtain ⟨q17, q18⟩ := q17
  simp only [L.ev_var, L.ev_n, L.ev_t, L.ev_e, L.ev, A.int_i, A.bool_b, A.str_v] at q17 q18
  generalize (e 0).int = x0 at *
  generalize (e 1).int = x1 at *
  generalize (e 2).int = x2 at *
  generalize (e 3).int = x3 at *
  generalize (e 4).int = x4 at *
  generalize (e 5).int = x5 at *
  generalize (e 6).int = x6 at *
  generalize (e 7).int = x7 at *
  generalize (e 8).int = x8 at *
  generalize (e 9).int = x9 at *
  generalize (e 10).int = x10 at *
  generalize (e 11).int = x11 at *
  generalize (e 12).int = x12 at *
  generalize (e 13).bool = v13 at *
  generalize (e 14).bool = v14 at *
  generalize (e 15).bool = v15 at *
  generalize e 16 = v16 at *
  generalize (e 17).bool = v17 at *
  generalize e 18 = v18 at *
  generalize (Day.HB.mk [x1, x2, x3, x4, x5, x6, x7, x8] x9 x10 x11 x12) = h at *
  have hn := Day.right_le hp
  have hz := Day.counts_zero hp
  subst_vars
  rw [hz.2]
  refine ⟨⟨hz.1, by simp; omega⟩, rfl, Day.cntL_length hp⟩
end Rx.S
namespace Rx.S
open Go Rx
set_option maxRecDepth 100000
set_option maxHeartbeats 1000000
set_option linter.unusedVariables false
set_option linter.unusedSimpArgs false
def lp_1560 : Lp := ⟨145, [false, true, false, true, true, true], 1560, 18, 1, 2, ⟨frS 25 [(0, .pv (.one (.k (.lsl 1 (V 0))))), (2, .pv (.one (.k (.int .i64 (N 0))))), (3, .pv (.one (.k (.int .i64 (V 1))))), (4, .pv (.one (.k (.int .i64 (V 2))))), (5, .pv (.one (.k (.lsl 1 (V 0))))), (6, .pv (.one (.k (.int .i64 (V 0))))), (7, .pv (.one (.k (.bool (V 3))))), (9, .pv (.one (.k (.lsl 1 (V 0))))), (10, .pv (.one (.k (.lptr 1 0 1 (N 0) (V 0))))), (11, .pv (.one (.k (.int .i64 (V 4)))))], [⟨true, 77, 12, [.k (.int .i64 (V 5)), .k (.int .i64 (V 6)), .k (.int .i64 (V 7)), .k (.int .i64 (V 8)), .k (.int .i64 (V 9)), .k (.int .i64 (V 10)), .k (.int .i64 (V 11)), .k (.int .i64 (V 12)), .k (.int .i64 (V 13)), .k (.int .i64 (V 14)), .k (.int .i64 (V 15)), .k (.int .i64 (V 16))], none⟩, ⟨false, 0, 0, [], some ⟨true, 3, [.int .i64], V 17, V 0⟩⟩], B true⟩, [(.exit 0, ⟨frS 25 [(0, .pv (.one (.k (.lsl 1 (V 0))))), (2, .pv (.one (.k (.int .i64 (N 0))))), (3, .pv (.one (.k (.int .i64 (V 18))))), (5, .pv (.one (.k (.lsl 1 (V 0))))), (6, .pv (.one (.k (.int .i64 (V 0))))), (7, .pv (.one (.k (.bool (V 3))))), (9, .pv (.one (.k (.lsl 1 (V 0))))), (10, .pv (.one (.k (.lptr 1 0 1 (N 0) (V 0))))), (11, .pv (.one (.k (.int .i64 (V 4)))))], [⟨true, 77, 12, [.k (.int .i64 (V 5)), .k (.int .i64 (V 6)), .k (.int .i64 (V 7)), .k (.int .i64 (V 8)), .k (.int .i64 (V 9)), .k (.int .i64 (V 10)), .k (.int .i64 (V 11)), .k (.int .i64 (V 12)), .k (.int .i64 (V 13)), .k (.int .i64 (V 14)), .k (.int .i64 (V 15)), .k (.int .i64 (V 16))], none⟩, ⟨false, 0, 0, [], some ⟨true, 3, [.int .i64], V 17, V 0⟩⟩], B true⟩)], [true, false, false, true, true, true, true, true, true, true, true, true, true, true, true, true, true, true], [.i]⟩
def g_L1560 : G := ⟨26, [⟨25, (.ar .add .i64), [V 2, N 1]⟩, ⟨24, .mx, [V 1, V 23]⟩, ⟨23, (.pix 0 1), [V 17, V 2]⟩, ⟨22, .imp, [V 18, V 21]⟩, ⟨21, .and, [V 20, V 18]⟩, ⟨20, (.cmp .leq), [N 0, V 2]⟩, ⟨19, .not, [V 18]⟩, ⟨18, (.cmp .lss), [V 2, V 0]⟩], [V 22], []⟩
def m_1560 (al : List A) : Nat := ((gi al 0) - (gi al 2)).toNat
theorem lpureQ_1560 (e : Nat → A) (H : FactsQ T e g_L1560.defs) (hp : (Day.listP (e 0).int (e 2).int (e 17)) = true) :
    ((e 22).bool = true) ∧ ((e 18).bool = true → (Day.listP (e 0).int (e 25).int (e 17)) = true ∧ (Day.maxF (e 24).int (e 25).int (e 17) = Day.maxF (e 1).int (e 2).int (e 17)) ∧ ((e 0).int - (e 25).int).toNat < ((e 0).int - (e 2).int).toNat) ∧ ((e 19).bool = true → (e 1).int = Day.maxF (e 1).int (e 2).int (e 17)) := by
  simp only [g_L1560, FactsQ, Def.q, updQ, L.ev_var, L.ev_n, L.ev_t, L.ev_e, L.ev, A.int_i, A.bool_b, A.str_v, A.els_l, List.map_cons, List.map_nil, Nat.zero_add, Nat.add_zero, and_true, true_and, Nat.reduceAdd, Nat.one_mul] at H
  simp only [arI, dvI, btI, cmpI, ifQ, updV, ltQ, and_true, true_and] at H
  obtain ⟨⟨q25, -⟩, q24, q23, q22, q21, q20, q19, q18⟩ := H
  generalize (e 0).int = x0 at *
  generalize (e 1).int = x1 at *
  generalize (e 2).int = x2 at *
  generalize (e 3).int = x3 at *
  generalize (e 4).int = x4 at *
  generalize (e 5).int = x5 at *
  generalize (e 6).int = x6 at *
  generalize (e 7).int = x7 at *
  generalize (e 8).int = x8 at *
  generalize (e 9).int = x9 at *
  generalize (e 10).int = x10 at *
  generalize (e 11).int = x11 at *
  generalize (e 12).int = x12 at *
  generalize (e 13).int = x13 at *
  generalize (e 14).int = x14 at *
  generalize (e 15).int = x15 at *
  generalize (e 16).int = x16 at *
  generalize e 17 = x17 at *
  generalize (e 18).bool = v18 at *
  generalize (e 19).bool = v19 at *
  generalize (e 20).bool = v20 at *
  generalize (e 21).bool = v21 at *
  generalize (e 22).bool = v22 at *
  generalize (e 24).int = v24 at *
  generalize (e 25).int = v25 at *
  replace q23 := congrArg A.int q23
  generalize (e 23).int = v23 at *
  by_cases hlt : x2 < x0
  · have h1 := Day.listP_step hp hlt
    have w2 : IntKind.wrap .i64 (x2 + 1) = x2 + 1 := wrap64 (by omega) (by omega)
    have e := Day.maxF_step (m := x1) hp hlt
    subst_vars
    simp [hlt, w2, h1.1, h1.2, e]
    omega
  · have e := Day.maxF_end (m := x1) hp hlt
    subst_vars
    simp [hlt, e]
theorem lpure_1560 (as : List A) (e : Nat → A) (h1 : as = (List.range 18).map e) (h2 : (t_1560 as).1 = true) (H : FactsQ T e g_L1560.defs) : ObsAll e g_L1560.obs ∧
      (∀ pc ls, some (V 18, [V 0, V 24, V 25, V 3, V 4, V 5, V 6, V 7, V 8, V 9, V 10, V 11, V 12, V 13, V 14, V 15, V 16, V 17]) = some (pc, ls) → (pc.ev e).bool = true → (t_1560 (ls.map (L.ev e))).1 = true ∧ (t_1560 (ls.map (L.ev e))).2 = (t_1560 as).2 ∧ m_1560 (ls.map (L.ev e)) < m_1560 as) ∧
      ∀ x ∈ ([(V 19, [some (V 1)])] : List (L × List (Option L))), (x.1.ev e).bool = true → ∀ (j : Nat) l, x.2[j]? = some (some l) → Teq (lp_1560.tags.getD j .any) (l.ev e) ((t_1560 as).2.getD j (.i 0)) := by
  subst h1
  obtain ⟨ho, h⟩ := lpureQ_1560 e H h2
  refine ⟨⟨ho, trivial⟩, fun pc ls hb hpc => ?_, ?_⟩
  · injection hb with hb
    injection hb with h3 h4
    subst h3 h4
    have h := h.1 hpc
    refine ⟨h.1, ?_, h.2.2⟩
    have h5 := h.2.1
    show ([.i (Day.maxF (e 24).int (e 25).int (e 17))] : List A) = [.i (Day.maxF (e 1).int (e 2).int (e 17))]
    rw [h5]
  · intro x hx hpc j l hj
    simp only [List.mem_cons, List.not_mem_nil, or_false] at hx
    rcases hx with rfl
    · have h := h.2 hpc
      have z0 := h
      match j, hj with
      | 0, hj => injection hj with hj; injection hj with hj; subst hj; exact z0
      | _ + 1, hj => cases hj
def lp_1561 : Lp := ⟨146, [false, true, false, true], 1561, 16, 3, 2, ⟨frS 19 [(0, .pv (.one (.k (.lsl 1 (V 0))))), (1, .pv (.one (.k (.int .i64 (V 1))))), (4, .pv (.one (.k (.int .i64 (N 0))))), (6, .pv (.one (.k (.lsl 1 (V 0))))), (7, .pv (.one (.k (.int .i64 (V 0))))), (8, .pv (.one (.k (.int .i64 (V 2)))))], [⟨true, 77, 12, [.k (.int .i64 (V 3)), .k (.int .i64 (V 4)), .k (.int .i64 (V 5)), .k (.int .i64 (V 6)), .k (.int .i64 (V 7)), .k (.int .i64 (V 8)), .k (.int .i64 (V 9)), .k (.int .i64 (V 10)), .k (.int .i64 (V 11)), .k (.int .i64 (V 12)), .k (.int .i64 (V 13)), .k (.int .i64 (V 14))], none⟩, ⟨false, 0, 0, [], some ⟨true, 3, [.int .i64], V 15, V 0⟩⟩], B true⟩, [(.ret, ⟨frS 19 [(0, .pv (.one (.k (.lsl 1 (V 0))))), (4, .pv (.one (.k (.int .i64 (V 16))))), (6, .pv (.one (.k (.lsl 1 (V 0)))))], [⟨true, 77, 12, [.k (.int .i64 (V 3)), .k (.int .i64 (V 4)), .k (.int .i64 (V 5)), .k (.int .i64 (V 6)), .k (.int .i64 (V 7)), .k (.int .i64 (V 8)), .k (.int .i64 (V 9)), .k (.int .i64 (V 10)), .k (.int .i64 (V 11)), .k (.int .i64 (V 12)), .k (.int .i64 (V 13)), .k (.int .i64 (V 14))], none⟩, ⟨false, 0, 0, [], some ⟨true, 3, [.int .i64], V 15, V 0⟩⟩], V 17⟩), (.exit 0, ⟨frS 19 [(0, .pv (.one (.k (.lsl 1 (V 0))))), (4, .pv (.one (.k (.int .i64 (N 0))))), (6, .pv (.one (.k (.lsl 1 (V 0)))))], [⟨true, 77, 12, [.k (.int .i64 (V 3)), .k (.int .i64 (V 4)), .k (.int .i64 (V 5)), .k (.int .i64 (V 6)), .k (.int .i64 (V 7)), .k (.int .i64 (V 8)), .k (.int .i64 (V 9)), .k (.int .i64 (V 10)), .k (.int .i64 (V 11)), .k (.int .i64 (V 12)), .k (.int .i64 (V 13)), .k (.int .i64 (V 14))], none⟩, ⟨false, 0, 0, [], some ⟨true, 3, [.int .i64], V 15, V 0⟩⟩], V 18⟩)], [true, true, false, true, true, true, true, true, true, true, true, true, true, true, true, true], [.i, .b, .b]⟩
def g_L1561 : G := ⟨33, [⟨32, .and, [V 16, V 30]⟩, ⟨31, .and, [V 16, V 27]⟩, ⟨30, .and, [V 29, V 26]⟩, ⟨29, .not, [V 27]⟩, ⟨28, (.ar .add .i64), [V 2, N 1]⟩, ⟨27, .and, [V 23, V 25]⟩, ⟨26, .and, [V 22, V 24]⟩, ⟨25, .and, [V 16, V 23]⟩, ⟨24, .and, [V 16, V 22]⟩, ⟨23, .not, [V 22]⟩, ⟨22, (.cmp .eql), [V 1, V 21]⟩, ⟨21, (.pix 0 1), [V 15, V 2]⟩, ⟨20, .imp, [V 16, V 19]⟩, ⟨19, .and, [V 18, V 16]⟩, ⟨18, (.cmp .leq), [N 0, V 2]⟩, ⟨17, .not, [V 16]⟩, ⟨16, (.cmp .lss), [V 2, V 0]⟩], [V 20], []⟩
def m_1561 (al : List A) : Nat := ((gi al 0) - (gi al 2)).toNat
theorem lpureQ_1561 (e : Nat → A) (H : FactsQ T e g_L1561.defs) (hp : (Day.listP (e 0).int (e 2).int (e 15)) = true) :
    ((e 20).bool = true) ∧ ((e 31).bool = true → (Day.listP (e 0).int (e 28).int (e 15)) = true ∧ (Day.idxF (e 1).int (e 28).int (e 15) = Day.idxF (e 1).int (e 2).int (e 15) ∧ Day.hasF (e 1).int (e 28).int (e 15) = Day.hasF (e 1).int (e 2).int (e 15) ∧ (!Day.hasF (e 1).int (e 28).int (e 15)) = (!Day.hasF (e 1).int (e 2).int (e 15))) ∧ ((e 0).int - (e 28).int).toNat < ((e 0).int - (e 2).int).toNat) ∧ ((e 32).bool = true → (e 2).int = Day.idxF (e 1).int (e 2).int (e 15) ∧ true = Day.hasF (e 1).int (e 2).int (e 15)) ∧ ((e 17).bool = true → true = (!Day.hasF (e 1).int (e 2).int (e 15))) := by
  simp only [g_L1561, FactsQ, Def.q, updQ, L.ev_var, L.ev_n, L.ev_t, L.ev_e, L.ev, A.int_i, A.bool_b, A.str_v, A.els_l, List.map_cons, List.map_nil, Nat.zero_add, Nat.add_zero, and_true, true_and, Nat.reduceAdd, Nat.one_mul] at H
  simp only [arI, dvI, btI, cmpI, ifQ, updV, ltQ, and_true, true_and] at H
  obtain ⟨q32, q31, q30, q29, ⟨q28, -⟩, q27, q26, q25, q24, q23, q22, q21, q20, q19, q18, q17, q16⟩ := H
  generalize (e 0).int = x0 at *
  generalize (e 1).int = x1 at *
  generalize (e 2).int = x2 at *
  generalize (e 3).int = x3 at *
  generalize (e 4).int = x4 at *
  generalize (e 5).int = x5 at *
  generalize (e 6).int = x6 at *
  generalize (e 7).int = x7 at *
  generalize (e 8).int = x8 at *
  generalize (e 9).int = x9 at *
  generalize (e 10).int = x10 at *
  generalize (e 11).int = x11 at *
  generalize (e 12).int = x12 at *
  generalize (e 13).int = x13 at *
  generalize (e 14).int = x14 at *
  generalize e 15 = x15 at *
  generalize (e 16).bool = v16 at *
  generalize (e 17).bool = v17 at *
  generalize (e 18).bool = v18 at *
  generalize (e 19).bool = v19 at *
  generalize (e 20).bool = v20 at *
  generalize (e 22).bool = v22 at *
  generalize (e 23).bool = v23 at *
  generalize (e 24).bool = v24 at *
  generalize (e 25).bool = v25 at *
  generalize (e 26).bool = v26 at *
  generalize (e 27).bool = v27 at *
  generalize (e 28).int = v28 at *
  generalize (e 29).bool = v29 at *
  generalize (e 30).bool = v30 at *
  generalize (e 31).bool = v31 at *
  generalize (e 32).bool = v32 at *
  replace q21 := congrArg A.int q21
  generalize (e 21).int = v21 at *
  by_cases hlt : x2 < x0
  · have h1 := Day.listP_step hp hlt
    have w2 : IntKind.wrap .i64 (x2 + 1) = x2 + 1 := wrap64 (by omega) (by omega)
    have e := Day.idxF_step (m := x1) hp hlt
    have e2 := Day.hasF_step (m := x1) hp hlt
    rw [← q21] at e e2
    subst_vars
    simp only [hlt, w2, h1.1, h1.2, e, e2]
    generalize (x15.els.getD x2.toNat (.i 0)).int = c
    by_cases hc : x1 = c
    · subst hc; simp [h1.2]
    · have hc2 : ¬ c = x1 := fun h => hc h.symm
      simp [hc, hc2, h1.2]
      omega
  · have e2 := Day.hasF_end (m := x1) hp hlt
    subst_vars
    simp [hlt, e2]
theorem lpure_1561 (as : List A) (e : Nat → A) (h1 : as = (List.range 16).map e) (h2 : (t_1561 as).1 = true) (H : FactsQ T e g_L1561.defs) : ObsAll e g_L1561.obs ∧
      (∀ pc ls, some (V 31, [V 0, V 1, V 28, V 3, V 4, V 5, V 6, V 7, V 8, V 9, V 10, V 11, V 12, V 13, V 14, V 15]) = some (pc, ls) → (pc.ev e).bool = true → (t_1561 (ls.map (L.ev e))).1 = true ∧ (t_1561 (ls.map (L.ev e))).2 = (t_1561 as).2 ∧ m_1561 (ls.map (L.ev e)) < m_1561 as) ∧
      ∀ x ∈ ([(V 32, [some (V 2), some (B true), none]), (V 17, [none, none, some (B true)])] : List (L × List (Option L))), (x.1.ev e).bool = true → ∀ (j : Nat) l, x.2[j]? = some (some l) → Teq (lp_1561.tags.getD j .any) (l.ev e) ((t_1561 as).2.getD j (.i 0)) := by
  subst h1
  obtain ⟨ho, h⟩ := lpureQ_1561 e H h2
  refine ⟨⟨ho, trivial⟩, fun pc ls hb hpc => ?_, ?_⟩
  · injection hb with hb
    injection hb with h3 h4
    subst h3 h4
    have h := h.1 hpc
    refine ⟨h.1, ?_, h.2.2⟩
    have h5 := h.2.1
    show ([.i (Day.idxF (e 1).int (e 28).int (e 15)), .b (Day.hasF (e 1).int (e 28).int (e 15)), .b ((!Day.hasF (e 1).int (e 28).int (e 15)))] : List A) = [.i (Day.idxF (e 1).int (e 2).int (e 15)), .b (Day.hasF (e 1).int (e 2).int (e 15)), .b ((!Day.hasF (e 1).int (e 2).int (e 15)))]
    obtain ⟨z0, z1, z2⟩ := h5
    simp only [z0, z1, z2]
  · intro x hx hpc j l hj
    simp only [List.mem_cons, List.not_mem_nil, or_false] at hx
    rcases hx with rfl | rfl
    · have h := h.2.1 hpc
      obtain ⟨z0, z1⟩ := h
      match j, hj with
      | 0, hj => injection hj with hj; injection hj with hj; subst hj; exact z0
      | 1, hj => injection hj with hj; injection hj with hj; subst hj; exact z1
      | 2, hj => injection hj with hj; cases hj
      | _ + 3, hj => cases hj
    · have h := h.2.2 hpc
      have z2 := h
      match j, hj with
      | 0, hj => injection hj with hj; cases hj
      | 1, hj => injection hj with hj; cases hj
      | 2, hj => injection hj with hj; injection hj with hj; subst hj; exact z2
      | _ + 3, hj => cases hj
def g_vote_Best : G := ⟨49, [⟨48, .iteB, [V 16, V 16, V 15]⟩, ⟨47, .iteI, [V 16, V 30, N 0]⟩, ⟨46, .iteI, [V 16, V 43, N 0]⟩, ⟨45, .not, [V 16]⟩, ⟨44, .iteB, [V 41, V 41, V 40]⟩, ⟨43, .iteI, [V 41, N (-1), V 33]⟩, ⟨42, .not, [V 41]⟩, ⟨41, .and, [V 16, V 35]⟩, ⟨40, .and, [V 16, V 34]⟩, ⟨39, .imp, [V 16, V 38]⟩, ⟨38, .not, [V 37]⟩, ⟨37, .and, [V 34, V 35]⟩, ⟨36, .imp, [V 16, V 32]⟩, ⟨32, (.call 1561), [V 19, V 30, N 0, V 1, V 2, V 3, V 4, V 5, V 6, V 7, V 8, V 9, V 10, V 11, V 12, V 18]⟩, ⟨31, .imp, [V 16, V 29]⟩, ⟨29, (.call 1560), [V 19, V 28, N 1, V 21, V 28, V 1, V 2, V 3, V 4, V 5, V 6, V 7, V 8, V 9, V 10, V 11, V 12, V 18]⟩, ⟨28, (.pix 0 1), [V 18, N 0]⟩, ⟨27, .imp, [V 16, V 26]⟩, ⟨26, (.cmp .lss), [N 0, V 19]⟩, ⟨25, .imp, [V 23, B false]⟩, ⟨24, .and, [V 16, V 22]⟩, ⟨23, .and, [V 16, V 21]⟩, ⟨22, .not, [V 21]⟩, ⟨21, (.cmp .lss), [V 19, N 1]⟩, ⟨20, .imp, [V 16, V 17]⟩, ⟨17, (.call 144), [V 0, V 1, V 2, V 3, V 4, V 5, V 6, V 7, V 8, V 9, V 10, V 11, V 12]⟩, ⟨16, .not, [V 15]⟩, ⟨15, .not, [V 14]⟩, ⟨13, (.call 96), [V 0, V 1, V 2, V 3, V 4, V 5, V 6, V 7, V 8, V 9, V 10, V 11, V 12]⟩], [V 39, V 36, V 31, V 27, V 25, V 20, V 13], []⟩
theorem pure_vote_Best (e : Nat → A) (H : FactsQ T e g_vote_Best.defs) (hp : (Day.HB.i64 (Day.HB.mk [(e 1).int, (e 2).int, (e 3).int, (e 4).int, (e 5).int, (e 6).int, (e 7).int, (e 8).int] (e 9).int (e 10).int (e 11).int (e 12).int)) = true) :
    ((e 39).bool = true ∧ (e 36).bool = true ∧ (e 31).bool = true ∧ (e 27).bool = true ∧ (e 25).bool = true ∧ (e 20).bool = true ∧ (e 13).bool = true) ∧ (Day.bestH (e 0).int (Day.HB.mk [(e 1).int, (e 2).int, (e 3).int, (e 4).int, (e 5).int, (e 6).int, (e 7).int, (e 8).int] (e 9).int (e 10).int (e 11).int (e 12).int) = (e 46).int ∧ Day.bestK (e 0).int (Day.HB.mk [(e 1).int, (e 2).int, (e 3).int, (e 4).int, (e 5).int, (e 6).int, (e 7).int, (e 8).int] (e 9).int (e 10).int (e 11).int (e 12).int) = (e 47).int) := by
  simp only [g_vote_Best, FactsQ, Def.q, updQ, L.ev_var, L.ev_n, L.ev_t, L.ev_e, L.ev, A.int_i, A.bool_b, A.str_v, A.els_l, List.map_cons, List.map_nil, Nat.zero_add, Nat.add_zero, and_true, true_and, Nat.reduceAdd, Nat.one_mul] at H
  simp only [arI, dvI, btI, cmpI, ifQ, updV, ltQ, and_true, true_and] at H
  obtain ⟨q48, ⟨q47, -⟩, ⟨q46, -⟩, q45, q44, ⟨q43, -⟩, q42, q41, q40, q39, q38, q37, q36, q32, q31, q29, q28, q27, q26, q25, q24, q23, q22, q21, q20, q17, q16, q15, q13⟩ := H
  replace q32 := out_L1561 q32
  obtain ⟨q32, q33, q34, q35⟩ := q32
  replace q29 := out_L1560 q29
  obtain ⟨q29, q30⟩ := q29
  replace q17 := out_vote_counts q17
  obtain ⟨q17, q18, q19⟩ := q17
  replace q13 := out_vote_Right q13
  obtain ⟨q13, q14⟩ := q13
  simp only [L.ev_var, L.ev_n, L.ev_t, L.ev_e, L.ev, A.int_i, A.bool_b, A.str_v] at q32 q33 q34 q35 q29 q30 q17 q18 q19 q13 q14
  generalize (e 0).int = x0 at *
  generalize (e 1).int = x1 at *
  generalize (e 2).int = x2 at *
  generalize (e 3).int = x3 at *
  generalize (e 4).int = x4 at *
  generalize (e 5).int = x5 at *
  generalize (e 6).int = x6 at *
  generalize (e 7).int = x7 at *
  generalize (e 8).int = x8 at *
  generalize (e 9).int = x9 at *
  generalize (e 10).int = x10 at *
  generalize (e 11).int = x11 at *
  generalize (e 12).int = x12 at *
  generalize (e 13).bool = v13 at *
  generalize (e 14).bool = v14 at *
  generalize (e 15).bool = v15 at *
  generalize (e 16).bool = v16 at *
  generalize (e 17).bool = v17 at *
  generalize e 18 = v18 at *
  generalize (e 19).int = v19 at *
  generalize (e 20).bool = v20 at *
  generalize (e 21).bool = v21 at *
  generalize (e 22).bool = v22 at *
  generalize (e 23).bool = v23 at *
  generalize (e 24).bool = v24 at *
  generalize (e 25).bool = v25 at *
  generalize (e 26).bool = v26 at *
  generalize (e 27).bool = v27 at *
  generalize (e 29).bool = v29 at *
  generalize (e 30).int = v30 at *
  generalize (e 31).bool = v31 at *
  generalize (e 32).bool = v32 at *
  generalize (e 33).int = v33 at *
  generalize (e 34).bool = v34 at *
  generalize (e 35).bool = v35 at *
  generalize (e 36).bool = v36 at *
  generalize (e 37).bool = v37 at *
  generalize (e 38).bool = v38 at *
  generalize (e 39).bool = v39 at *
  generalize (e 40).bool = v40 at *
  generalize (e 41).bool = v41 at *
  generalize (e 42).bool = v42 at *
  generalize (e 43).int = v43 at *
  generalize (e 44).bool = v44 at *
  generalize (e 45).bool = v45 at *
  generalize (e 46).int = v46 at *
  generalize (e 47).int = v47 at *
  generalize (e 48).bool = v48 at *
  replace q28 := congrArg A.int q28
  generalize (e 28).int = v28 at *
  generalize (Day.HB.mk [x1, x2, x3, x4, x5, x6, x7, x8] x9 x10 x11 x12) = h at *
  cases hr : Day.rightH x0 h with
  | false =>
    rw [hr] at q14
    have e16 : v16 = false := by rw [q16, q15, q14]; rfl
    have e23 : v23 = false := by rw [q23, e16]; rfl
    rw [q39, q36, q31, q27, q25, q20, q13, q46, q47, e16, e23]
    simp [Day.bestH, Day.bestK, hr, hp]
  | true =>
    rw [hr] at q14 q17
    have hn := Day.right_le hr
    have hl := Day.cntL_length hr
    obtain ⟨b1, b2, b3⟩ := Day.best_counts hr
    rw [hl] at q19
    have h1 := Day.cntL_P hr (i := 1) (by omega)
    have h0 := Day.cntL_P hr (i := 0) (by omega)
    have e30 : v30 = Day.bestK x0 h := by rw [q30, q28, q18]; exact b1
    have e33 : v33 = Day.bestH x0 h := by rw [q33, e30, q18]; exact b2
    have e34 : v34 = true := by rw [q34, e30, q18]; exact b3
    have e35 : v35 = false := by rw [q35, e30, q18]; simp [b3]
    have e16 : v16 = true := by rw [q16, q15, q14]; rfl
    have e29 : v29 = true := by rw [q29, q19, q18]; exact h1
    have e32 : v32 = true := by rw [q32, q19, q18]; exact h0
    have e41 : v41 = false := by rw [q41, e35]; simp
    refine ⟨⟨?_, ?_, ?_, ?_, ?_, ?_, ?_⟩, ?_, ?_⟩
    · rw [q39, q38, q37, e35]; simp
    · rw [q36, e32]; simp
    · rw [q31, e29]; simp
    · rw [q27, q26, q19]; simp; omega
    · rw [q25, q23, q21, q19]; simp; omega
    · rw [q20, q17]; simp
    · rw [q13]; exact hp
    · rw [q46, e16, q43, e41, e33]; simp
    · rw [q47, e16, e30]; simp
end Rx.S
