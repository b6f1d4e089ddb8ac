import Derived.Test.YtjipnabidebgbaaHXt
set_option linter.unusedVariables false
set_option linter.unusedSimpArgs false
namespace Rx.S
open Go Rx
set_option maxRecDepth 100000
set_option maxHeartbeats 1000000
def g_law13_HubTells : G := ⟨182, [⟨181, .iteB, [V 18, V 178, V 17]⟩, ⟨180, .iteB, [V 18, V 177, V 20]⟩, ⟨179, .not, [V 18]⟩, ⟨178, .iteB, [V 139, V 139, V 138]⟩, ⟨177, .iteB, [V 139, V 175, B false]⟩, ⟨176, .not, [V 139]⟩, ⟨175, .iteB, [V 172, V 174, B false]⟩, ⟨174, (.cmp .eql), [V 37, V 54]⟩, ⟨173, .and, [V 139, V 172]⟩, ⟨172, .iteB, [V 167, V 170, B false]⟩, ⟨171, .imp, [V 168, V 169]⟩, ⟨169, (.call 123), [V 35, V 36, V 52, V 53]⟩, ⟨168, .and, [V 139, V 167]⟩, ⟨167, .iteB, [V 141, V 166, B false]⟩, ⟨166, .and, [V 165, V 164]⟩, ⟨165, (.cmp .eql), [V 23, V 40]⟩, ⟨164, .and, [V 163, V 162]⟩, ⟨163, (.cmp .eql), [V 24, V 41]⟩, ⟨162, .and, [V 161, V 160]⟩, ⟨161, (.cmp .eql), [V 25, V 42]⟩, ⟨160, .and, [V 159, V 158]⟩, ⟨159, (.cmp .eql), [V 26, V 43]⟩, ⟨158, .and, [V 157, V 156]⟩, ⟨157, (.cmp .eql), [V 27, V 44]⟩, ⟨156, .and, [V 155, V 154]⟩, ⟨155, (.cmp .eql), [V 28, V 45]⟩, ⟨154, .and, [V 153, V 152]⟩, ⟨153, (.cmp .eql), [V 29, V 46]⟩, ⟨152, .and, [V 151, V 150]⟩, ⟨151, (.cmp .eql), [V 30, V 47]⟩, ⟨150, .and, [V 149, V 148]⟩, ⟨149, (.cmp .eql), [V 31, V 48]⟩, ⟨148, .and, [V 147, V 146]⟩, ⟨147, (.cmp .eql), [V 32, V 49]⟩, ⟨146, .and, [V 145, V 144]⟩, ⟨145, (.cmp .eql), [V 33, V 50]⟩, ⟨144, (.cmp .eql), [V 34, V 51]⟩, ⟨143, .and, [V 139, V 141]⟩, ⟨142, .imp, [V 139, V 140]⟩, ⟨140, (.call 118), []⟩, ⟨139, .iteB, [V 56, V 137, V 59]⟩, ⟨138, .and, [V 56, V 136]⟩, ⟨137, .and, [V 133, V 135]⟩, ⟨136, .and, [V 132, V 134]⟩, ⟨135, .and, [V 58, V 133]⟩, ⟨134, .and, [V 58, V 132]⟩, ⟨133, .not, [V 132]⟩, ⟨132, .iteB, [V 128, B true, V 131]⟩, ⟨131, (.cmp .neq), [V 79, V 96]⟩, ⟨130, .and, [V 58, V 129]⟩, ⟨129, .not, [V 128]⟩, ⟨128, .iteB, [V 121, B true, V 127]⟩, ⟨127, .not, [V 126]⟩, ⟨126, .and, [V 125, V 124]⟩, ⟨125, (.cmp .eql), [V 77, V 94]⟩, ⟨124, (.cmp .eql), [V 78, V 95]⟩, ⟨123, .and, [V 58, V 122]⟩, ⟨122, .not, [V 121]⟩, ⟨121, .not, [V 120]⟩, ⟨120, .and, [V 119, V 118]⟩, ⟨119, (.cmp .eql), [V 65, V 82]⟩, ⟨118, .and, [V 117, V 116]⟩, ⟨117, (.cmp .eql), [V 66, V 83]⟩, ⟨116, .and, [V 115, V 114]⟩, ⟨115, (.cmp .eql), [V 67, V 84]⟩, ⟨114, .and, [V 113, V 112]⟩, ⟨113, (.cmp .eql), [V 68, V 85]⟩, ⟨112, .and, [V 111, V 110]⟩, ⟨111, (.cmp .eql), [V 69, V 86]⟩, ⟨110, .and, [V 109, V 108]⟩, ⟨109, (.cmp .eql), [V 70, V 87]⟩, ⟨108, .and, [V 107, V 106]⟩, ⟨107, (.cmp .eql), [V 71, V 88]⟩, ⟨106, .and, [V 105, V 104]⟩, ⟨105, (.cmp .eql), [V 72, V 89]⟩, ⟨104, .and, [V 103, V 102]⟩, ⟨103, (.cmp .eql), [V 73, V 90]⟩, ⟨102, .and, [V 101, V 100]⟩, ⟨101, (.cmp .eql), [V 74, V 91]⟩, ⟨100, .and, [V 99, V 98]⟩, ⟨99, (.cmp .eql), [V 75, V 92]⟩, ⟨98, (.cmp .eql), [V 76, V 93]⟩, ⟨97, .imp, [V 58, V 81]⟩, ⟨81, (.call 122), [V 0, V 1, V 2, V 3, V 4, V 5, V 6, V 7, V 8, V 9, V 10, V 11, V 12, V 62, V 63]⟩, ⟨80, .imp, [V 58, V 64]⟩, ⟨64, (.call 119), [V 0, V 1, V 2, V 3, V 4, V 5, V 6, V 7, V 8, V 9, V 10, V 11, V 12, V 62, V 63]⟩, ⟨63, (.lln 2), [V 62]⟩, ⟨62, (.pix 0 1), [V 13, N 0]⟩, ⟨61, .imp, [V 58, V 60]⟩, ⟨60, (.cmp .lss), [N 0, V 14]⟩, ⟨59, .and, [V 18, V 57]⟩, ⟨58, .and, [V 18, V 56]⟩, ⟨57, .not, [V 56]⟩, ⟨56, (.cmp .gtr), [V 14, N 0]⟩, ⟨55, .imp, [V 18, V 39]⟩, ⟨39, (.call 121), [V 0, V 1, V 2, V 3, V 4, V 5, V 6, V 7, V 8, V 9, V 10, V 11, V 12, V 13, V 14]⟩, ⟨38, .imp, [V 18, V 22]⟩, ⟨22, (.call 120), [V 0, V 1, V 2, V 3, V 4, V 5, V 6, V 7, V 8, V 9, V 10, V 11, V 12, V 13, V 14]⟩, ⟨21, .imp, [V 17, V 19]⟩, ⟨19, (.call 118), []⟩, ⟨18, .not, [V 17]⟩, ⟨17, .not, [V 16]⟩, ⟨15, (.call 117), [V 13, V 14, N 100]⟩], [V 171, V 142, V 97, V 61, V 80, V 61, V 55, V 38, V 21, V 15], []⟩
theorem pure_law13_HubTells (e : Nat → A) (H : FactsQ T e g_law13_HubTells.defs) : ∀ z0, z0 = (Day.HB.mk [(e 1).int, (e 2).int, (e 3).int, (e 4).int, (e 5).int, (e 6).int, (e 7).int, (e 8).int] (e 9).int (e 10).int (e 11).int (e 12).int) → (Day.i64 (e 0).int && Day.HB.i64 z0 && Day.Ts.ok (Day.Ts.mk (e 13) (e 14).int)) = true →
  ((e 171).bool = true ∧ (e 142).bool = true ∧ (e 97).bool = true ∧ (e 61).bool = true ∧ (e 80).bool = true ∧ (e 61).bool = true ∧ (e 55).bool = true ∧ (e 38).bool = true ∧ (e 21).bool = true ∧ (e 15).bool = true) ∧ (true = (e 180).bool) := by
 intro z0 hz0 hp
 subst hz0
 simp only [g_law13_HubTells, FactsQ, Def.q, updQ, L.ev_var, L.ev_n, L.ev_t, L.ev_e, L.ev, A.int_i, A.bool_b, A.str_v, A.els_l, List.map_cons, List.map_nil, Nat.zero_add, Nat.add_zero, and_true, true_and, Nat.reduceAdd, Nat.one_mul] at H
 simp only [arI, dvI, btI, cmpI, shI, ifQ, updV, ltQ, and_true, true_and] at H
 obtain ⟨q181, q180, q179, q178, q177, q176, q175, q174, q173, q172, q171, q169, q168, q167, q166, q165, q164, q163, q162, q161, q160, q159, q158, q157, q156, q155, q154, q153, q152, q151, q150, q149, q148, q147, q146, q145, q144, q143, q142, q140, q139, q138, q137, q136, q135, q134, q133, q132, q131, q130, q129, q128, q127, q126, q125, q124, q123, q122, q121, q120, q119, q118, q117, q116, q115, q114, q113, q112, q111, q110, q109, q108, q107, q106, q105, q104, q103, q102, q101, q100, q99, q98, q97, q81, q80, q64, q63, q62, q61, q60, q59, q58, q57, q56, q55, q39, q38, q22, q21, q19, q18, q17, q15⟩ := H
 replace q169 := out_ref10_Same q169
 obtain ⟨q169, q170⟩ := q169
 replace q140 := out_law13_awake q140
 obtain ⟨q140, q141⟩ := q140
 replace q81 := out_ref13_Step q81 _ rfl _ rfl
 obtain ⟨q81, q82, q83, q84, q85, q86, q87, q88, q89, q90, q91, q92, q93, q94, q95, q96⟩ := q81
 replace q64 := out_hub_Step q64 _ rfl _ rfl
 obtain ⟨q64, q65, q66, q67, q68, q69, q70, q71, q72, q73, q74, q75, q76, q77, q78, q79⟩ := q64
 replace q39 := out_ref13_Run q39 _ rfl _ rfl
 obtain ⟨q39, q40, q41, q42, q43, q44, q45, q46, q47, q48, q49, q50, q51, q52, q53, q54⟩ := q39
 replace q22 := out_hub_Run q22 _ rfl _ rfl
 obtain ⟨q22, q23, q24, q25, q26, q27, q28, q29, q30, q31, q32, q33, q34, q35, q36, q37⟩ := q22
 replace q19 := out_law13_awake q19
 obtain ⟨q19, q20⟩ := q19
 replace q15 := out_ref13_Few q15
 obtain ⟨q15, q16⟩ := q15
 simp only [L.ev_var, L.ev_n, L.ev_t, L.ev_e, L.ev, A.int_i, A.bool_b, A.str_v] at q169 q170 q140 q141 q81 q82 q83 q84 q85 q86 q87 q88 q89 q90 q91 q92 q93 q94 q95 q96 q64 q65 q66 q67 q68 q69 q70 q71 q72 q73 q74 q75 q76 q77 q78 q79 q39 q40 q41 q42 q43 q44 q45 q46 q47 q48 q49 q50 q51 q52 q53 q54 q22 q23 q24 q25 q26 q27 q28 q29 q30 q31 q32 q33 q34 q35 q36 q37 q19 q20 q15 q16
 generalize (e 0).int = x0, (e 1).int = x1, (e 2).int = x2, (e 3).int = x3, (e 4).int = x4, (e 5).int = x5, (e 6).int = x6, (e 7).int = x7, (e 8).int = x8, (e 9).int = x9, (e 10).int = x10, (e 11).int = x11, (e 12).int = x12, e 13 = x13, (e 14).int = x14, (e 15).bool = v15, (e 16).bool = v16, (e 17).bool = v17, (e 18).bool = v18, (e 19).bool = v19, (e 20).bool = v20, (e 21).bool = v21, (e 22).bool = v22, (e 23).int = v23, (e 24).int = v24, (e 25).int = v25, (e 26).int = v26, (e 27).int = v27, (e 28).int = v28, (e 29).int = v29, (e 30).int = v30, (e 31).int = v31, (e 32).int = v32, (e 33).int = v33, (e 34).int = v34, e 35 = v35, (e 36).int = v36, (e 37).int = v37, (e 38).bool = v38, (e 39).bool = v39, (e 40).int = v40, (e 41).int = v41, (e 42).int = v42, (e 43).int = v43, (e 44).int = v44, (e 45).int = v45, (e 46).int = v46, (e 47).int = v47, (e 48).int = v48, (e 49).int = v49, (e 50).int = v50, (e 51).int = v51, e 52 = v52, (e 53).int = v53, (e 54).int = v54, (e 55).bool = v55, (e 56).bool = v56, (e 57).bool = v57, (e 58).bool = v58, (e 59).bool = v59, (e 60).bool = v60, (e 61).bool = v61, (e 63).int = v63, (e 64).bool = v64, (e 65).int = v65, (e 66).int = v66, (e 67).int = v67, (e 68).int = v68, (e 69).int = v69, (e 70).int = v70, (e 71).int = v71, (e 72).int = v72, (e 73).int = v73, (e 74).int = v74, (e 75).int = v75, (e 76).int = v76, (e 77).int = v77, (e 78).int = v78, (e 79).int = v79, (e 80).bool = v80, (e 81).bool = v81, (e 82).int = v82, (e 83).int = v83, (e 84).int = v84, (e 85).int = v85, (e 86).int = v86, (e 87).int = v87, (e 88).int = v88, (e 89).int = v89, (e 90).int = v90, (e 91).int = v91, (e 92).int = v92, (e 93).int = v93, (e 94).int = v94, (e 95).int = v95, (e 96).int = v96, (e 97).bool = v97, (e 98).bool = v98, (e 99).bool = v99, (e 100).bool = v100, (e 101).bool = v101, (e 102).bool = v102, (e 103).bool = v103, (e 104).bool = v104, (e 105).bool = v105, (e 106).bool = v106, (e 107).bool = v107, (e 108).bool = v108, (e 109).bool = v109, (e 110).bool = v110, (e 111).bool = v111, (e 112).bool = v112, (e 113).bool = v113, (e 114).bool = v114, (e 115).bool = v115, (e 116).bool = v116, (e 117).bool = v117, (e 118).bool = v118, (e 119).bool = v119, (e 120).bool = v120, (e 121).bool = v121, (e 122).bool = v122, (e 123).bool = v123, (e 124).bool = v124, (e 125).bool = v125, (e 126).bool = v126, (e 127).bool = v127, (e 128).bool = v128, (e 129).bool = v129, (e 130).bool = v130, (e 131).bool = v131, (e 132).bool = v132, (e 133).bool = v133, (e 134).bool = v134, (e 135).bool = v135, (e 136).bool = v136, (e 137).bool = v137, (e 138).bool = v138, (e 139).bool = v139, (e 140).bool = v140, (e 141).bool = v141, (e 142).bool = v142, (e 143).bool = v143, (e 144).bool = v144, (e 145).bool = v145, (e 146).bool = v146, (e 147).bool = v147, (e 148).bool = v148, (e 149).bool = v149, (e 150).bool = v150, (e 151).bool = v151, (e 152).bool = v152, (e 153).bool = v153, (e 154).bool = v154, (e 155).bool = v155, (e 156).bool = v156, (e 157).bool = v157, (e 158).bool = v158, (e 159).bool = v159, (e 160).bool = v160, (e 161).bool = v161, (e 162).bool = v162, (e 163).bool = v163, (e 164).bool = v164, (e 165).bool = v165, (e 166).bool = v166, (e 167).bool = v167, (e 168).bool = v168, (e 169).bool = v169, (e 170).bool = v170, (e 171).bool = v171, (e 172).bool = v172, (e 173).bool = v173, (e 174).bool = v174, (e 175).bool = v175, (e 176).bool = v176, (e 177).bool = v177, (e 178).bool = v178, (e 179).bool = v179, (e 180).bool = v180, (e 181).bool = v181, e 62 = v62 at *
 generalize hH : (Day.HB.mk [x1, x2, x3, x4, x5, x6, x7, x8] x9 x10 x11 x12) = h at *
 have g0 : x1 = h.a 0 ∧ x2 = h.a 1 ∧ x3 = h.a 2 ∧ x4 = h.a 3 ∧ x5 = h.a 4 ∧ x6 = h.a 5 ∧ x7 = h.a 6 ∧ x8 = h.a 7 ∧ x9 = h.port ∧ x10 = h.age ∧ x11 = h.hold ∧ x12 = h.pos := by subst hH; simp [Day.HB.a]
 obtain ⟨a1, a2, a3, a4, a5, a6, a7, a8, a9, a10, a11, a12⟩ := g0
 clear hH
 generalize hT : Day.Ts.mk x13 x14 = T at *
 have hn : x14 = T.n := by rw [← hT]
 have hat : Day.Ls.mk v62 v63 = T.at 0 := by rw [q63, q62, ← hT]; rfl
 simp only [hat] at q64 q65 q66 q67 q68 q69 q70 q71 q72 q73 q74 q75 q76 q77 q78 q79 q81 q82 q83 q84 q85 q86 q87 q88 q89 q90 q91 q92 q93 q94 q95 q96
 clear hT hat q62 q63
 simp only [Bool.and_eq_true] at hp
 obtain ⟨⟨hn0, hi⟩, hok⟩ := hp
 have hok2 : 0 ≤ T.n ∧ T.n ≤ 9223372036854775807 := by simpa only [Day.Ts.ok, Bool.and_eq_true, decide_eq_true_eq] using hok
 have hsame := Day.sameL_refl (Day.Ls.mk (Day.runL x0 h T).1 (Day.runL x0 h T).2)
 have hok3 : Day.Ls.ok (Day.Ls.mk (Day.runL x0 h T).1 (Day.runL x0 h T).2) = true := by
  unfold Day.runL Day.Ls.ok
  split <;> simp <;> omega
 cases hF : Day.fewR T 100 with
 | false =>
  rw [hF] at q16
  subst_vars
  simp [hok]
 | true =>
  rw [hF] at q16
  by_cases c : 0 < T.n
  ·have hk := Day.few_ok hF (Int.le_refl 0) c
   subst_vars
   simp [hi, hok, hk, hF, c, hsame, hok3]
  ·subst_vars
   simp [hi, hok, hF, c, hsame, hok3]
end Rx.S
