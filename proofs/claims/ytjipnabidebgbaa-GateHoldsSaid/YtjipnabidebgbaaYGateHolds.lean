import Derived.Test.YtjipnabidebgbaaXt
set_option linter.unusedVariables false
set_option linter.unusedSimpArgs false
namespace Rx.S
open Go Rx
set_option maxRecDepth 100000
set_option maxHeartbeats 1000000
set_option linter.unusedVariables false
set_option linter.unusedSimpArgs false
def g_law12_GateHolds : G := ⟨174, [⟨173, .iteB, [V 31, V 170, V 30]⟩, ⟨172, .iteB, [V 31, V 169, V 33]⟩, ⟨171, .not, [V 31]⟩, ⟨170, .iteB, [V 64, V 167, V 63]⟩, ⟨169, .iteB, [V 64, V 166, B false]⟩, ⟨168, .not, [V 64]⟩, ⟨167, .iteB, [V 131, V 131, V 130]⟩, ⟨166, .iteB, [V 131, V 164, V 129]⟩, ⟨165, .not, [V 131]⟩, ⟨164, .iteB, [V 139, V 163, B false]⟩, ⟨163, .and, [V 162, V 161]⟩, ⟨162, (.cmp .eql), [V 36, V 1]⟩, ⟨161, .and, [V 160, V 159]⟩, ⟨160, (.cmp .eql), [V 37, V 2]⟩, ⟨159, .and, [V 158, V 157]⟩, ⟨158, (.cmp .eql), [V 38, V 3]⟩, ⟨157, .and, [V 156, V 155]⟩, ⟨156, (.cmp .eql), [V 39, V 4]⟩, ⟨155, .and, [V 154, V 153]⟩, ⟨154, (.cmp .eql), [V 40, V 5]⟩, ⟨153, .and, [V 152, V 151]⟩, ⟨152, (.cmp .eql), [V 41, V 6]⟩, ⟨151, .and, [V 150, V 149]⟩, ⟨150, (.cmp .eql), [V 42, V 7]⟩, ⟨149, .and, [V 148, V 147]⟩, ⟨148, (.cmp .eql), [V 43, V 8]⟩, ⟨147, .and, [V 146, V 145]⟩, ⟨146, (.cmp .eql), [V 44, V 9]⟩, ⟨145, .and, [V 144, V 143]⟩, ⟨144, (.cmp .eql), [V 45, V 10]⟩, ⟨143, .and, [V 142, V 141]⟩, ⟨142, (.cmp .eql), [V 46, V 11]⟩, ⟨141, (.cmp .eql), [V 47, V 12]⟩, ⟨140, .and, [V 131, V 139]⟩, ⟨139, .iteB, [V 133, V 138, B false]⟩, ⟨138, .and, [V 137, V 136]⟩, ⟨137, (.cmp .eql), [V 48, N 0]⟩, ⟨136, (.cmp .eql), [V 49, N 0]⟩, ⟨135, .and, [V 131, V 133]⟩, ⟨134, .imp, [V 131, V 132]⟩, ⟨132, (.call 103), []⟩, ⟨131, .and, [V 66, V 128]⟩, ⟨130, .iteB, [V 65, V 67, V 127]⟩, ⟨129, .iteB, [V 65, V 95, V 126]⟩, ⟨128, .and, [V 97, V 99]⟩, ⟨127, .and, [V 96, V 98]⟩, ⟨126, .iteB, [V 123, V 125, B false]⟩, ⟨125, (.cmp .eql), [V 46, N 0]⟩, ⟨124, .and, [V 98, V 123]⟩, ⟨123, .iteB, [V 120, V 122, B false]⟩, ⟨122, (.cmp .eql), [V 45, N 0]⟩, ⟨121, .and, [V 98, V 120]⟩, ⟨120, .iteB, [V 117, V 119, B false]⟩, ⟨119, (.cmp .eql), [V 44, V 49]⟩, ⟨118, .and, [V 98, V 117]⟩, ⟨117, .iteB, [V 114, V 87, B false]⟩, ⟨116, .imp, [V 115, V 81]⟩, ⟨115, .and, [V 98, V 114]⟩, ⟨114, .iteB, [V 111, V 113, B false]⟩, ⟨113, (.cmp .lss), [V 49, V 17]⟩, ⟨112, .and, [V 98, V 111]⟩, ⟨111, .iteB, [V 108, V 110, B false]⟩, ⟨110, (.cmp .geq), [V 49, N 0]⟩, ⟨109, .and, [V 98, V 108]⟩, ⟨108, .iteB, [V 105, V 107, B false]⟩, ⟨107, (.cmp .gtr), [V 10, V 90]⟩, ⟨106, .and, [V 98, V 105]⟩, ⟨105, .iteB, [V 101, V 104, B false]⟩, ⟨104, (.cmp .eql), [V 11, N 0]⟩, ⟨103, .and, [V 98, V 101]⟩, ⟨102, .imp, [V 98, V 100]⟩, ⟨100, (.call 103), []⟩, ⟨99, .and, [V 68, V 97]⟩, ⟨98, .and, [V 68, V 96]⟩, ⟨97, .not, [V 96]⟩, ⟨96, (.cmp .eql), [V 48, N 1]⟩, ⟨95, .iteB, [V 92, V 94, B false]⟩, ⟨94, (.cmp .eql), [V 47, V 12]⟩, ⟨93, .and, [V 67, V 92]⟩, ⟨92, .iteB, [V 88, V 91, B false]⟩, ⟨91, (.cmp .eql), [V 46, V 90]⟩, ⟨90, (.ar .mul .i64), [N 2, V 17]⟩, ⟨89, .and, [V 67, V 88]⟩, ⟨88, .iteB, [V 77, V 87, B false]⟩, ⟨87, .and, [V 86, V 85]⟩, ⟨86, (.cmp .eql), [V 83, V 48]⟩, ⟨85, (.cmp .eql), [V 84, V 49]⟩, ⟨84, (.pix 1 2), [V 13, V 49]⟩, ⟨83, (.pix 0 2), [V 13, V 49]⟩, ⟨82, .imp, [V 78, V 81]⟩, ⟨81, .and, [V 79, V 80]⟩, ⟨80, (.cmp .lss), [V 49, V 14]⟩, ⟨79, (.cmp .leq), [N 0, V 49]⟩, ⟨78, .and, [V 67, V 77]⟩, ⟨77, .iteB, [V 74, V 76, B false]⟩, ⟨76, (.cmp .eql), [V 49, V 12]⟩, ⟨75, .and, [V 67, V 74]⟩, ⟨74, .iteB, [V 70, V 73, B false]⟩, ⟨73, (.cmp .gtr), [V 11, N 0]⟩, ⟨72, .and, [V 67, V 70]⟩, ⟨71, .imp, [V 67, V 69]⟩, ⟨69, (.call 103), []⟩, ⟨68, .and, [V 64, V 66]⟩, ⟨67, .and, [V 64, V 65]⟩, ⟨66, .not, [V 65]⟩, ⟨65, (.cmp .eql), [V 48, N 2]⟩, ⟨64, .and, [V 60, V 62]⟩, ⟨63, .and, [V 59, V 61]⟩, ⟨62, .and, [V 31, V 60]⟩, ⟨61, .and, [V 31, V 59]⟩, ⟨60, .not, [V 59]⟩, ⟨59, .iteB, [V 52, B true, V 58]⟩, ⟨58, .not, [V 56]⟩, ⟨57, .imp, [V 54, V 55]⟩, ⟨55, (.call 97), [V 17, V 36, V 37, V 38, V 39, V 40, V 41, V 42, V 43, V 44, V 45, V 46, V 47]⟩, ⟨54, .and, [V 31, V 53]⟩, ⟨53, .not, [V 52]⟩, ⟨52, (.cmp .neq), [V 50, N 0]⟩, ⟨51, .imp, [V 31, V 35]⟩, ⟨35, (.call 104), [V 17, V 1, V 2, V 3, V 4, V 5, V 6, V 7, V 8, V 9, V 10, V 11, V 12, V 13, V 14]⟩, ⟨34, .imp, [V 30, V 32]⟩, ⟨32, (.call 103), []⟩, ⟨31, .not, [V 30]⟩, ⟨30, .iteB, [V 24, B true, V 29]⟩, ⟨29, .not, [V 27]⟩, ⟨28, .imp, [V 25, V 26]⟩, ⟨26, (.call 102), [V 17, V 13, V 14]⟩, ⟨25, .not, [V 24]⟩, ⟨24, .iteB, [V 18, B true, V 23]⟩, ⟨23, .not, [V 21]⟩, ⟨22, .imp, [V 19, V 20]⟩, ⟨20, (.call 97), [V 17, V 1, V 2, V 3, V 4, V 5, V 6, V 7, V 8, V 9, V 10, V 11, V 12]⟩, ⟨19, .not, [V 18]⟩, ⟨18, (.cmp .gtr), [V 14, N 20]⟩, ⟨17, (.ar .add .i64), [N 3, V 16]⟩, ⟨16, (.conv .i64), [V 15]⟩, ⟨15, (.dv .rem .u8), [V 0, N 6]⟩], [V 134, V 116, V 102, V 82, V 71, V 57, V 51, V 34, V 28, V 22], []⟩
theorem pure_law12_GateHolds (e : Nat → A) (H : FactsQ T e g_law12_GateHolds.defs) (hp : (Day.u8 (e 0).int && Day.HB.i64 (Day.HB.mk [(e 1).int, (e 2).int, (e 3).int, (e 4).int, (e 5).int, (e 6).int, (e 7).int, (e 8).int] (e 9).int (e 10).int (e 11).int (e 12).int) && Day.Ls.ok (Day.Ls.mk (e 13) (e 14).int)) = true) :
    ((e 134).bool = true ∧ (e 116).bool = true ∧ (e 102).bool = true ∧ (e 82).bool = true ∧ (e 71).bool = true ∧ (e 57).bool = true ∧ (e 51).bool = true ∧ (e 34).bool = true ∧ (e 28).bool = true ∧ (e 22).bool = true) ∧ (true = (e 172).bool) := by
  simp only [g_law12_GateHolds, FactsQ, Def.q, updQ, L.ev_var, L.ev_n, L.ev_t, L.ev_e, L.ev, A.int_i, A.bool_b, A.str_v, A.els_l, List.map_cons, List.map_nil, Nat.zero_add, Nat.add_zero, and_true, true_and, Nat.reduceAdd, Nat.one_mul] at H
  simp only [arI, dvI, btI, cmpI, shI, ifQ, updV, ltQ, and_true, true_and] at H
  obtain ⟨q173, q172, q171, q170, q169, q168, q167, q166, q165, q164, q163, q162, q161, q160, q159, q158, q157, q156, q155, q154, q153, q152, q151, q150, q149, q148, q147, q146, q145, q144, q143, q142, q141, q140, q139, q138, q137, q136, q135, q134, q132, q131, q130, q129, q128, q127, q126, q125, q124, q123, q122, q121, q120, q119, q118, q117, q116, q115, q114, q113, q112, q111, q110, q109, q108, q107, q106, q105, q104, q103, q102, q100, q99, q98, q97, q96, q95, q94, q93, q92, q91, ⟨q90, -⟩, q89, q88, q87, q86, q85, q84, q83, q82, q81, q80, q79, q78, q77, q76, q75, q74, q73, q72, q71, q69, q68, q67, q66, q65, q64, q63, q62, q61, q60, q59, q58, q57, q55, q54, q53, q52, q51, q35, q34, q32, q31, q30, q29, q28, q26, q25, q24, q23, q22, q20, q19, q18, ⟨q17, -⟩, ⟨q16, -⟩, q15⟩ := H
  replace q132 := out_law12_awake q132
  obtain ⟨q132, q133⟩ := q132
  replace q100 := out_law12_awake q100
  obtain ⟨q100, q101⟩ := q100
  replace q69 := out_law12_awake q69
  obtain ⟨q69, q70⟩ := q69
  replace q55 := out_ref11_Right q55
  obtain ⟨q55, q56⟩ := q55
  replace q35 := out_gate_Relay q35
  obtain ⟨q35, q36, q37, q38, q39, q40, q41, q42, q43, q44, q45, q46, q47, q48, q49, q50⟩ := q35
  replace q32 := out_law12_awake q32
  obtain ⟨q32, q33⟩ := q32
  replace q26 := out_ref12_Fits q26
  obtain ⟨q26, q27⟩ := q26
  replace q20 := out_ref11_Right q20
  obtain ⟨q20, q21⟩ := q20
  simp only [L.ev_var, L.ev_n, L.ev_t, L.ev_e, L.ev, A.int_i, A.bool_b, A.str_v] at q132 q133 q100 q101 q69 q70 q55 q56 q35 q36 q37 q38 q39 q40 q41 q42 q43 q44 q45 q46 q47 q48 q49 q50 q32 q33 q26 q27 q20 q21
  generalize (e 0).int = x0, (e 1).int = x1, (e 2).int = x2, (e 3).int = x3, (e 4).int = x4, (e 5).int = x5, (e 6).int = x6, (e 7).int = x7, (e 8).int = x8, (e 9).int = x9, (e 10).int = x10, (e 11).int = x11, (e 12).int = x12, e 13 = x13, (e 14).int = x14, (e 15).int = v15, (e 16).int = v16, (e 17).int = v17, (e 18).bool = v18, (e 19).bool = v19, (e 20).bool = v20, (e 21).bool = v21, (e 22).bool = v22, (e 23).bool = v23, (e 24).bool = v24, (e 25).bool = v25, (e 26).bool = v26, (e 27).bool = v27, (e 28).bool = v28, (e 29).bool = v29, (e 30).bool = v30, (e 31).bool = v31, (e 32).bool = v32, (e 33).bool = v33, (e 34).bool = v34, (e 35).bool = v35, (e 36).int = v36, (e 37).int = v37, (e 38).int = v38, (e 39).int = v39, (e 40).int = v40, (e 41).int = v41, (e 42).int = v42, (e 43).int = v43, (e 44).int = v44, (e 45).int = v45, (e 46).int = v46, (e 47).int = v47, (e 48).int = v48, (e 49).int = v49, (e 50).int = v50, (e 51).bool = v51, (e 52).bool = v52, (e 53).bool = v53, (e 54).bool = v54, (e 55).bool = v55, (e 56).bool = v56, (e 57).bool = v57, (e 58).bool = v58, (e 59).bool = v59, (e 60).bool = v60, (e 61).bool = v61, (e 62).bool = v62, (e 63).bool = v63, (e 64).bool = v64, (e 65).bool = v65, (e 66).bool = v66, (e 67).bool = v67, (e 68).bool = v68, (e 69).bool = v69, (e 70).bool = v70, (e 71).bool = v71, (e 72).bool = v72, (e 73).bool = v73, (e 74).bool = v74, (e 75).bool = v75, (e 76).bool = v76, (e 77).bool = v77, (e 78).bool = v78, (e 79).bool = v79, (e 80).bool = v80, (e 81).bool = v81, (e 82).bool = v82, (e 85).bool = v85, (e 86).bool = v86, (e 87).bool = v87, (e 88).bool = v88, (e 89).bool = v89, (e 90).int = v90, (e 91).bool = v91, (e 92).bool = v92, (e 93).bool = v93, (e 94).bool = v94, (e 95).bool = v95, (e 96).bool = v96, (e 97).bool = v97, (e 98).bool = v98, (e 99).bool = v99, (e 100).bool = v100, (e 101).bool = v101, (e 102).bool = v102, (e 103).bool = v103, (e 104).bool = v104, (e 105).bool = v105, (e 106).bool = v106, (e 107).bool = v107, (e 108).bool = v108, (e 109).bool = v109, (e 110).bool = v110, (e 111).bool = v111, (e 112).bool = v112, (e 113).bool = v113, (e 114).bool = v114, (e 115).bool = v115, (e 116).bool = v116, (e 117).bool = v117, (e 118).bool = v118, (e 119).bool = v119, (e 120).bool = v120, (e 121).bool = v121, (e 122).bool = v122, (e 123).bool = v123, (e 124).bool = v124, (e 125).bool = v125, (e 126).bool = v126, (e 127).bool = v127, (e 128).bool = v128, (e 129).bool = v129, (e 130).bool = v130, (e 131).bool = v131, (e 132).bool = v132, (e 133).bool = v133, (e 134).bool = v134, (e 135).bool = v135, (e 136).bool = v136, (e 137).bool = v137, (e 138).bool = v138, (e 139).bool = v139, (e 140).bool = v140, (e 141).bool = v141, (e 142).bool = v142, (e 143).bool = v143, (e 144).bool = v144, (e 145).bool = v145, (e 146).bool = v146, (e 147).bool = v147, (e 148).bool = v148, (e 149).bool = v149, (e 150).bool = v150, (e 151).bool = v151, (e 152).bool = v152, (e 153).bool = v153, (e 154).bool = v154, (e 155).bool = v155, (e 156).bool = v156, (e 157).bool = v157, (e 158).bool = v158, (e 159).bool = v159, (e 160).bool = v160, (e 161).bool = v161, (e 162).bool = v162, (e 163).bool = v163, (e 164).bool = v164, (e 165).bool = v165, (e 166).bool = v166, (e 167).bool = v167, (e 168).bool = v168, (e 169).bool = v169, (e 170).bool = v170, (e 171).bool = v171, (e 172).bool = v172, (e 173).bool = v173 at *
  replace q83 := congrArg A.int q83
  generalize (e 83).int = v83 at *
  replace q84 := congrArg A.int q84
  generalize (e 84).int = v84 at *
  simp only [Bool.and_eq_true] at hp
  obtain ⟨⟨hx, hi⟩, hok⟩ := hp
  obtain ⟨em, hR⟩ := Day.u8m_eq hx q15 q16 q17
  clear q15 q16 q17 em
  generalize hH : (Day.HB.mk [x1, x2, x3, x4, x5, x6, x7, x8] x9 x10 x11 x12) = h at *
  have g0 : x1 = h.a 0 ∧ x2 = h.a 1 ∧ x3 = h.a 2 ∧ x4 = h.a 3 ∧ x5 = h.a 4 ∧ x6 = h.a 5 ∧ x7 = h.a 6 ∧ x8 = h.a 7 ∧ x9 = h.port ∧ x10 = h.age ∧ x11 = h.hold ∧ x12 = h.pos := by subst hH; simp [Day.HB.a]
  obtain ⟨a1, a2, a3, a4, a5, a6, a7, a8, a9, a10, a11, a12⟩ := g0
  clear hH
  generalize hq : Day.Ls.mk x13 x14 = q at *
  have hn0 : x14 = q.n := by rw [← hq]
  have hk : ∀ p, q.k p = (x13.els.getD (2 * p.toNat) (.i 0)).int := fun p => by rw [← hq]; rfl
  have hd : ∀ p, q.d p = (x13.els.getD (1 + 2 * p.toNat) (.i 0)).int := fun p => by rw [← hq]; rfl
  clear hq
  rw [← hk] at q83
  rw [← hd] at q84
  clear hk hd
  cases hr : Day.rightH v17 h with
  | false =>
    rw [hr] at q21
    subst_vars
    simp
  | true =>
    rw [hr] at q21
    cases hf : Day.fitsR v17 q with
    | false =>
      rw [hf] at q27
      subst_vars
      simp [hok]
    | true =>
      rw [hf] at q27
      obtain ⟨f1, f2, f3⟩ := Day.fits_n hf
      have hb := Day.right_all hr
      have hr2 := Day.relay_right hr hf
      have hmk := Day.mk_HB (Day.relayH v17 h q) (Day.len_relay _ _ _)
      rw [← q36, ← q37, ← q38, ← q39, ← q40, ← q41, ← q42, ← q43, ← q44, ← q45, ← q46, ← q47] at hmk
      simp only [hmk, hr2] at q56
      clear hmk
      rw [Day.gateE_fits.2 ⟨hr, hf⟩] at q50
      have n20 : ¬ 20 < x14 := by omega
      have w : IntKind.wrap .i64 (2 * v17) = 2 * v17 := wrap64 (by omega) (by omega)
      rw [w] at q90
      have e18 : v18 = false := by rw [q18]; simp [n20]
      clear q18 n20 w
      rcases Day.relay_cases hr hf with ⟨c1, c2, c3, c4, c5⟩ | ⟨c1, c2, p, p1, p2, p3, p4, p5, c4, c5⟩ | ⟨c4, c5, c6, c7⟩
      · simp only [c4, c5] at q36 q37 q38 q39 q40 q41 q42 q43 q44 q45 q46 q47 q48 q49
        subst_vars
        simp [hi, hok, hr2, c1, c2, c3, Day.ages8, Day.HB.a]
        try omega
      · simp only [c4, c5] at q36 q37 q38 q39 q40 q41 q42 q43 q44 q45 q46 q47 q48 q49
        subst_vars
        simp [hi, hok, hr2, c1, c2, p1, p2, p3, p4, Day.ages8, Day.HB.a]
        try omega
      · simp only [c4, c5] at q36 q37 q38 q39 q40 q41 q42 q43 q44 q45 q46 q47 q48 q49
        subst_vars
        simp [hi, hok, hr2, Day.sameH, Day.noFr, Day.ages8, Day.HB.a]
end Rx.S
