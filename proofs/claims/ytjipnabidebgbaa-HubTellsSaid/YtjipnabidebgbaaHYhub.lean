import Derived.Test.YtjipnabidebgbaaHXc
import Derived.Test.YtjipnabidebgbaaHXt
set_option linter.unusedVariables false
set_option linter.unusedSimpArgs false
namespace Rx.S
open Go Rx
set_option maxRecDepth 100000
set_option maxHeartbeats 1000000
def g_hub_Step : G := ⟨167, [⟨166, .iteB, [V 30, V 136, V 29]⟩, ⟨165, .iteI, [V 30, V 135, N 0]⟩, ⟨164, .iteI, [V 30, V 134, N 0]⟩, ⟨163, .iteI, [V 30, V 133, N 0]⟩, ⟨162, .iteI, [V 30, V 132, N 0]⟩, ⟨161, .iteI, [V 30, V 131, N 0]⟩, ⟨160, .iteI, [V 30, V 130, N 0]⟩, ⟨159, .iteI, [V 30, V 129, N 0]⟩, ⟨158, .iteI, [V 30, V 128, N 0]⟩, ⟨157, .iteI, [V 30, V 127, N 0]⟩, ⟨156, .iteI, [V 30, V 126, N 0]⟩, ⟨155, .iteI, [V 30, V 125, N 0]⟩, ⟨154, .iteI, [V 30, V 124, N 0]⟩, ⟨153, .iteI, [V 30, V 123, N 0]⟩, ⟨152, .iteI, [V 30, V 122, N 0]⟩, ⟨151, .iteI, [V 30, V 121, V 27]⟩, ⟨150, .iteI, [V 30, V 120, V 26]⟩, ⟨149, .iteI, [V 30, V 119, V 25]⟩, ⟨148, .iteI, [V 30, V 118, V 24]⟩, ⟨147, .iteI, [V 30, V 117, V 23]⟩, ⟨146, .iteI, [V 30, V 116, V 22]⟩, ⟨145, .iteI, [V 30, V 115, V 21]⟩, ⟨144, .iteI, [V 30, V 114, V 20]⟩, ⟨143, .iteI, [V 30, V 113, V 19]⟩, ⟨142, .iteI, [V 30, V 112, V 18]⟩, ⟨141, .iteI, [V 30, V 111, V 17]⟩, ⟨140, .iteI, [V 30, V 110, V 16]⟩, ⟨139, .iteI, [V 30, V 109, V 28]⟩, ⟨138, .iteI, [V 30, V 108, V 28]⟩, ⟨137, .not, [V 30]⟩, ⟨136, .iteB, [V 51, V 106, V 50]⟩, ⟨135, .iteI, [V 51, V 105, N 0]⟩, ⟨134, .iteI, [V 51, V 104, N 0]⟩, ⟨133, .iteI, [V 51, V 103, N 0]⟩, ⟨132, .iteI, [V 51, V 102, N 0]⟩, ⟨131, .iteI, [V 51, V 101, N 0]⟩, ⟨130, .iteI, [V 51, V 100, N 0]⟩, ⟨129, .iteI, [V 51, V 99, N 0]⟩, ⟨128, .iteI, [V 51, V 98, N 0]⟩, ⟨127, .iteI, [V 51, V 97, N 0]⟩, ⟨126, .iteI, [V 51, V 96, N 0]⟩, ⟨125, .iteI, [V 51, V 95, N 0]⟩, ⟨124, .iteI, [V 51, V 94, N 0]⟩, ⟨123, .iteI, [V 51, V 93, N 0]⟩, ⟨122, .iteI, [V 51, V 92, N 0]⟩, ⟨121, .iteI, [V 51, V 64, V 43]⟩, ⟨120, .iteI, [V 51, V 63, V 42]⟩, ⟨119, .iteI, [V 51, V 62, V 41]⟩, ⟨118, .iteI, [V 51, V 61, V 40]⟩, ⟨117, .iteI, [V 51, V 60, V 39]⟩, ⟨116, .iteI, [V 51, V 59, V 38]⟩, ⟨115, .iteI, [V 51, V 58, V 37]⟩, ⟨114, .iteI, [V 51, V 57, V 36]⟩, ⟨113, .iteI, [V 51, V 56, V 35]⟩, ⟨112, .iteI, [V 51, V 55, V 34]⟩, ⟨111, .iteI, [V 51, V 54, V 33]⟩, ⟨110, .iteI, [V 51, V 53, V 32]⟩, ⟨109, .iteI, [V 51, V 65, V 44]⟩, ⟨108, .iteI, [V 51, V 91, V 44]⟩, ⟨107, .not, [V 51]⟩, ⟨106, .iteB, [V 72, V 72, V 71]⟩, ⟨105, .iteI, [V 72, V 87, N 0]⟩, ⟨104, .iteI, [V 72, V 86, N 0]⟩, ⟨103, .iteI, [V 72, V 85, N 0]⟩, ⟨102, .iteI, [V 72, V 84, N 0]⟩, ⟨101, .iteI, [V 72, V 83, N 0]⟩, ⟨100, .iteI, [V 72, V 82, N 0]⟩, ⟨99, .iteI, [V 72, V 81, N 0]⟩, ⟨98, .iteI, [V 72, V 80, N 0]⟩, ⟨97, .iteI, [V 72, V 79, N 0]⟩, ⟨96, .iteI, [V 72, V 78, N 0]⟩, ⟨95, .iteI, [V 72, V 77, N 0]⟩, ⟨94, .iteI, [V 72, V 76, N 0]⟩, ⟨93, .iteI, [V 72, V 75, N 0]⟩, ⟨92, .iteI, [V 72, V 74, N 0]⟩, ⟨91, .iteI, [V 72, V 88, V 65]⟩, ⟨90, .not, [V 72]⟩, ⟨89, .imp, [V 72, V 73]⟩, ⟨73, (.call 104), [V 0, V 53, V 54, V 55, V 56, V 57, V 58, V 59, V 60, V 61, V 62, V 63, V 64, V 13, V 14]⟩, ⟨72, .and, [V 68, V 70]⟩, ⟨71, .and, [V 67, V 69]⟩, ⟨70, .and, [V 51, V 68]⟩, ⟨69, .and, [V 51, V 67]⟩, ⟨68, .not, [V 67]⟩, ⟨67, (.cmp .neq), [V 65, N 0]⟩, ⟨66, .imp, [V 51, V 52]⟩, ⟨52, (.call 105), [V 0, V 32, V 33, V 34, V 35, V 36, V 37, V 38, V 39, V 40, V 41, V 42, V 43]⟩, ⟨51, .and, [V 47, V 49]⟩, ⟨50, .and, [V 46, V 48]⟩, ⟨49, .and, [V 30, V 47]⟩, ⟨48, .and, [V 30, V 46]⟩, ⟨47, .not, [V 46]⟩, ⟨46, (.cmp .neq), [V 44, N 0]⟩, ⟨45, .imp, [V 30, V 31]⟩, ⟨31, (.call 106), [V 0, V 16, V 17, V 18, V 19, V 20, V 21, V 22, V 23, V 24, V 25, V 26, V 27, V 13, V 14]⟩, ⟨30, .not, [V 29]⟩, ⟨29, (.cmp .neq), [V 28, N 0]⟩, ⟨15, (.call 90), [V 0, V 1, V 2, V 3, V 4, V 5, V 6, V 7, V 8, V 9, V 10, V 11, V 12]⟩], [V 89, V 66, V 45, V 15], []⟩
theorem pure_hub_Step (e : Nat → A) (H : FactsQ T e g_hub_Step.defs) : ∀ z0, z0 = (Day.HB.mk [(e 1).int, (e 2).int, (e 3).int, (e 4).int, (e 5).int, (e 6).int, (e 7).int, (e 8).int] (e 9).int (e 10).int (e 11).int (e 12).int) → ∀ r1, r1 = Day.hubH (e 0).int z0 (Day.Ls.mk (e 13) (e 14).int) → (Day.HB.i64 z0 && Day.Ls.ok (Day.Ls.mk (e 13) (e 14).int)) = true →
  ((e 89).bool = true ∧ (e 66).bool = true ∧ (e 45).bool = true ∧ (e 15).bool = true) ∧ (((r1)).a 0 = (e 152).int ∧ ((r1)).a 1 = (e 153).int ∧ ((r1)).a 2 = (e 154).int ∧ ((r1)).a 3 = (e 155).int ∧ ((r1)).a 4 = (e 156).int ∧ ((r1)).a 5 = (e 157).int ∧ ((r1)).a 6 = (e 158).int ∧ ((r1)).a 7 = (e 159).int ∧ ((r1)).port = (e 160).int ∧ ((r1)).age = (e 161).int ∧ ((r1)).hold = (e 162).int ∧ ((r1)).pos = (e 163).int ∧ ((Day.hubF (e 0).int z0 (Day.Ls.mk (e 13) (e 14).int))).kind = (e 164).int ∧ ((Day.hubF (e 0).int z0 (Day.Ls.mk (e 13) (e 14).int))).id = (e 165).int ∧ Day.gateE (e 0).int z0 (Day.Ls.mk (e 13) (e 14).int) = (e 138).int) := by
 intro z0 hz0 r1 hr1 hp
 subst hz0 hr1
 simp only [g_hub_Step, FactsQ, Def.q, updQ, L.ev_var, L.ev_n, L.ev_t, L.ev_e, L.ev, A.int_i, A.bool_b, A.str_v, A.els_l, List.map_cons, List.map_nil, Nat.zero_add, Nat.add_zero, and_true, true_and, Nat.reduceAdd, Nat.one_mul] at H
 simp only [arI, dvI, btI, cmpI, shI, ifQ, updV, ltQ, and_true, true_and] at H
 obtain ⟨q166, ⟨q165, -⟩, ⟨q164, -⟩, ⟨q163, -⟩, ⟨q162, -⟩, ⟨q161, -⟩, ⟨q160, -⟩, ⟨q159, -⟩, ⟨q158, -⟩, ⟨q157, -⟩, ⟨q156, -⟩, ⟨q155, -⟩, ⟨q154, -⟩, ⟨q153, -⟩, ⟨q152, -⟩, ⟨q151, -⟩, ⟨q150, -⟩, ⟨q149, -⟩, ⟨q148, -⟩, ⟨q147, -⟩, ⟨q146, -⟩, ⟨q145, -⟩, ⟨q144, -⟩, ⟨q143, -⟩, ⟨q142, -⟩, ⟨q141, -⟩, ⟨q140, -⟩, ⟨q139, -⟩, ⟨q138, -⟩, q137, q136, ⟨q135, -⟩, ⟨q134, -⟩, ⟨q133, -⟩, ⟨q132, -⟩, ⟨q131, -⟩, ⟨q130, -⟩, ⟨q129, -⟩, ⟨q128, -⟩, ⟨q127, -⟩, ⟨q126, -⟩, ⟨q125, -⟩, ⟨q124, -⟩, ⟨q123, -⟩, ⟨q122, -⟩, ⟨q121, -⟩, ⟨q120, -⟩, ⟨q119, -⟩, ⟨q118, -⟩, ⟨q117, -⟩, ⟨q116, -⟩, ⟨q115, -⟩, ⟨q114, -⟩, ⟨q113, -⟩, ⟨q112, -⟩, ⟨q111, -⟩, ⟨q110, -⟩, ⟨q109, -⟩, ⟨q108, -⟩, q107, q106, ⟨q105, -⟩, ⟨q104, -⟩, ⟨q103, -⟩, ⟨q102, -⟩, ⟨q101, -⟩, ⟨q100, -⟩, ⟨q99, -⟩, ⟨q98, -⟩, ⟨q97, -⟩, ⟨q96, -⟩, ⟨q95, -⟩, ⟨q94, -⟩, ⟨q93, -⟩, ⟨q92, -⟩, ⟨q91, -⟩, q90, q89, q73, q72, q71, q70, q69, q68, q67, q66, q52, q51, q50, q49, q48, q47, q46, q45, q31, q30, q29, q15⟩ := H
 replace q73 := out_gate_Relay q73 _ rfl _ rfl
 obtain ⟨q73, q74, q75, q76, q77, q78, q79, q80, q81, q82, q83, q84, q85, q86, q87, q88⟩ := q73
 replace q52 := out_gate_Settle q52 _ rfl _ rfl
 obtain ⟨q52, q53, q54, q55, q56, q57, q58, q59, q60, q61, q62, q63, q64, q65⟩ := q52
 replace q31 := out_gate_Note q31 _ rfl _ rfl
 obtain ⟨q31, q32, q33, q34, q35, q36, q37, q38, q39, q40, q41, q42, q43, q44⟩ := q31
 replace q15 := out_vote_Tick q15 _ rfl _ rfl
 obtain ⟨q15, q16, q17, q18, q19, q20, q21, q22, q23, q24, q25, q26, q27, q28⟩ := q15
 simp only [L.ev_var, L.ev_n, L.ev_t, L.ev_e, L.ev, A.int_i, A.bool_b, A.str_v] at q73 q74 q75 q76 q77 q78 q79 q80 q81 q82 q83 q84 q85 q86 q87 q88 q52 q53 q54 q55 q56 q57 q58 q59 q60 q61 q62 q63 q64 q65 q31 q32 q33 q34 q35 q36 q37 q38 q39 q40 q41 q42 q43 q44 q15 q16 q17 q18 q19 q20 q21 q22 q23 q24 q25 q26 q27 q28
 generalize (e 0).int = x0, (e 1).int = x1, (e 2).int = x2, (e 3).int = x3, (e 4).int = x4, (e 5).int = x5, (e 6).int = x6, (e 7).int = x7, (e 8).int = x8, (e 9).int = x9, (e 10).int = x10, (e 11).int = x11, (e 12).int = x12, e 13 = x13, (e 14).int = x14, (e 15).bool = v15, (e 16).int = v16, (e 17).int = v17, (e 18).int = v18, (e 19).int = v19, (e 20).int = v20, (e 21).int = v21, (e 22).int = v22, (e 23).int = v23, (e 24).int = v24, (e 25).int = v25, (e 26).int = v26, (e 27).int = v27, (e 28).int = v28, (e 29).bool = v29, (e 30).bool = v30, (e 31).bool = v31, (e 32).int = v32, (e 33).int = v33, (e 34).int = v34, (e 35).int = v35, (e 36).int = v36, (e 37).int = v37, (e 38).int = v38, (e 39).int = v39, (e 40).int = v40, (e 41).int = v41, (e 42).int = v42, (e 43).int = v43, (e 44).int = v44, (e 45).bool = v45, (e 46).bool = v46, (e 47).bool = v47, (e 48).bool = v48, (e 49).bool = v49, (e 50).bool = v50, (e 51).bool = v51, (e 52).bool = v52, (e 53).int = v53, (e 54).int = v54, (e 55).int = v55, (e 56).int = v56, (e 57).int = v57, (e 58).int = v58, (e 59).int = v59, (e 60).int = v60, (e 61).int = v61, (e 62).int = v62, (e 63).int = v63, (e 64).int = v64, (e 65).int = v65, (e 66).bool = v66, (e 67).bool = v67, (e 68).bool = v68, (e 69).bool = v69, (e 70).bool = v70, (e 71).bool = v71, (e 72).bool = v72, (e 73).bool = v73, (e 74).int = v74, (e 75).int = v75, (e 76).int = v76, (e 77).int = v77, (e 78).int = v78, (e 79).int = v79, (e 80).int = v80, (e 81).int = v81, (e 82).int = v82, (e 83).int = v83, (e 84).int = v84, (e 85).int = v85, (e 86).int = v86, (e 87).int = v87, (e 88).int = v88, (e 89).bool = v89, (e 90).bool = v90, (e 91).int = v91, (e 92).int = v92, (e 93).int = v93, (e 94).int = v94, (e 95).int = v95, (e 96).int = v96, (e 97).int = v97, (e 98).int = v98, (e 99).int = v99, (e 100).int = v100, (e 101).int = v101, (e 102).int = v102, (e 103).int = v103, (e 104).int = v104, (e 105).int = v105, (e 106).bool = v106, (e 107).bool = v107, (e 108).int = v108, (e 109).int = v109, (e 110).int = v110, (e 111).int = v111, (e 112).int = v112, (e 113).int = v113, (e 114).int = v114, (e 115).int = v115, (e 116).int = v116, (e 117).int = v117, (e 118).int = v118, (e 119).int = v119, (e 120).int = v120, (e 121).int = v121, (e 122).int = v122, (e 123).int = v123, (e 124).int = v124, (e 125).int = v125, (e 126).int = v126, (e 127).int = v127, (e 128).int = v128, (e 129).int = v129, (e 130).int = v130, (e 131).int = v131, (e 132).int = v132, (e 133).int = v133, (e 134).int = v134, (e 135).int = v135, (e 136).bool = v136, (e 137).bool = v137, (e 138).int = v138, (e 139).int = v139, (e 140).int = v140, (e 141).int = v141, (e 142).int = v142, (e 143).int = v143, (e 144).int = v144, (e 145).int = v145, (e 146).int = v146, (e 147).int = v147, (e 148).int = v148, (e 149).int = v149, (e 150).int = v150, (e 151).int = v151, (e 152).int = v152, (e 153).int = v153, (e 154).int = v154, (e 155).int = v155, (e 156).int = v156, (e 157).int = v157, (e 158).int = v158, (e 159).int = v159, (e 160).int = v160, (e 161).int = v161, (e 162).int = v162, (e 163).int = v163, (e 164).int = v164, (e 165).int = v165, (e 166).bool = v166 at *
 generalize hH : (Day.HB.mk [x1, x2, x3, x4, x5, x6, x7, x8] x9 x10 x11 x12) = h at *
 have g0 : x1 = h.a 0 ∧ x2 = h.a 1 ∧ x3 = h.a 2 ∧ x4 = h.a 3 ∧ x5 = h.a 4 ∧ x6 = h.a 5 ∧ x7 = h.a 6 ∧ x8 = h.a 7 ∧ x9 = h.port ∧ x10 = h.age ∧ x11 = h.hold ∧ x12 = h.pos := by subst hH; simp [Day.HB.a]
 obtain ⟨a1, a2, a3, a4, a5, a6, a7, a8, a9, a10, a11, a12⟩ := g0
 clear hH
 generalize hq : Day.Ls.mk x13 x14 = q at *
 have hn0 : x14 = q.n := by rw [← hq]
 have hk : ∀ p, q.k p = (x13.els.getD (2 * p.toNat) (.i 0)).int := fun p => by rw [← hq]; rfl
 have hd : ∀ p, q.d p = (x13.els.getD (1 + 2 * p.toNat) (.i 0)).int := fun p => by rw [← hq]; rfl
 clear hq
 simp only [Bool.and_eq_true] at hp
 obtain ⟨hi, hok⟩ := hp
 clear hk hd
 cases hr : Day.rightH x0 h with
 | false =>
  have hg : Day.gateE x0 h q = 1 := by simp [Day.gateE, hr]
  have hA : Day.argH x0 h = 1 := by simp [Day.argH, hr]
  rw [hA] at q28
  subst_vars
  simp [hi, hg, Day.hubH, Day.hubF, Day.noHB, Day.noFr, Day.HB.a]
 | true =>
  have ht := Day.tick_right hr
  have hmk := Day.mk_HB (Day.tickH x0 h) (Day.len_tick _ _)
  rw [← q16, ← q17, ← q18, ← q19, ← q20, ← q21, ← q22, ← q23, ← q24, ← q25, ← q26, ← q27] at hmk
  simp only [hmk] at q31 q32 q33 q34 q35 q36 q37 q38 q39 q40 q41 q42 q43 q44
  have hi2 := Day.right_i64 ht
  rw [Day.argH_right hr] at q28
  cases hf : Day.fitsR x0 q with
  | false =>
   have hg : Day.gateE x0 h q = 2 := by simp [Day.gateE, hr, hf]
   have hg2 : Day.gateE x0 (Day.tickH x0 h) q = 2 := by simp [Day.gateE, ht, hf]
   rw [hg2] at q44
   clear hmk
   subst_vars
   simp [hi, hok, hi2, hg, Day.hubH, Day.hubF, Day.noHB, Day.noFr, Day.HB.a]
  | true =>
   have hg := Day.gateE_fits.2 ⟨hr, hf⟩
   rw [Day.gateE_fits.2 ⟨ht, hf⟩] at q44
   have hnr := Day.note_right ht hf
   have hmk2 := Day.mk_HB (Day.noteH x0 (Day.tickH x0 h) q) (Day.len_note _ _ _)
   rw [← q32, ← q33, ← q34, ← q35, ← q36, ← q37, ← q38, ← q39, ← q40, ← q41, ← q42, ← q43] at hmk2
   simp only [hmk2] at q52 q53 q54 q55 q56 q57 q58 q59 q60 q61 q62 q63 q64 q65
   have hi3 := Day.right_i64 hnr
   rw [Day.argH_right hnr] at q65
   have hs := Day.settle_right hnr
   have hmk3 := Day.mk_HB (Day.settleH x0 (Day.noteH x0 (Day.tickH x0 h) q)) (Day.len_settle _ _)
   rw [← q53, ← q54, ← q55, ← q56, ← q57, ← q58, ← q59, ← q60, ← q61, ← q62, ← q63, ← q64] at hmk3
   simp only [hmk3] at q73 q74 q75 q76 q77 q78 q79 q80 q81 q82 q83 q84 q85 q86 q87 q88
   have hi4 := Day.right_i64 hs
   rw [Day.gateE_fits.2 ⟨hs, hf⟩] at q88
   clear hmk hmk2 hmk3
   subst_vars
   simp [hi, hok, hi2, hi3, hi4, hg, Day.hubH, Day.hubF, Day.midH]
def g_ref13_Step : G := ⟨148, [⟨147, .iteB, [V 18, V 118, V 17]⟩, ⟨146, .iteI, [V 18, V 117, N 0]⟩, ⟨145, .iteI, [V 18, V 116, N 0]⟩, ⟨144, .iteI, [V 18, V 115, N 0]⟩, ⟨143, .iteI, [V 18, V 114, N 0]⟩, ⟨142, .iteI, [V 18, V 113, N 0]⟩, ⟨141, .iteI, [V 18, V 112, N 0]⟩, ⟨140, .iteI, [V 18, V 111, N 0]⟩, ⟨139, .iteI, [V 18, V 110, N 0]⟩, ⟨138, .iteI, [V 18, V 109, N 0]⟩, ⟨137, .iteI, [V 18, V 108, N 0]⟩, ⟨136, .iteI, [V 18, V 107, N 0]⟩, ⟨135, .iteI, [V 18, V 106, N 0]⟩, ⟨134, .iteI, [V 18, V 105, N 0]⟩, ⟨133, .iteI, [V 18, V 104, N 0]⟩, ⟨132, .iteI, [V 18, V 103, V 12]⟩, ⟨131, .iteI, [V 18, V 102, V 11]⟩, ⟨130, .iteI, [V 18, V 101, V 10]⟩, ⟨129, .iteI, [V 18, V 100, V 9]⟩, ⟨128, .iteI, [V 18, V 99, V 8]⟩, ⟨127, .iteI, [V 18, V 98, V 7]⟩, ⟨126, .iteI, [V 18, V 97, V 6]⟩, ⟨125, .iteI, [V 18, V 96, V 5]⟩, ⟨124, .iteI, [V 18, V 95, V 4]⟩, ⟨123, .iteI, [V 18, V 94, V 3]⟩, ⟨122, .iteI, [V 18, V 93, V 2]⟩, ⟨121, .iteI, [V 18, V 92, V 1]⟩, ⟨120, .iteI, [V 18, V 91, N 1]⟩, ⟨119, .not, [V 18]⟩, ⟨118, .iteB, [V 27, V 27, V 26]⟩, ⟨117, .iteI, [V 27, V 87, N 0]⟩, ⟨116, .iteI, [V 27, V 86, N 0]⟩, ⟨115, .iteI, [V 27, V 85, N 0]⟩, ⟨114, .iteI, [V 27, V 84, N 0]⟩, ⟨113, .iteI, [V 27, V 83, N 0]⟩, ⟨112, .iteI, [V 27, V 82, N 0]⟩, ⟨111, .iteI, [V 27, V 81, N 0]⟩, ⟨110, .iteI, [V 27, V 80, N 0]⟩, ⟨109, .iteI, [V 27, V 79, N 0]⟩, ⟨108, .iteI, [V 27, V 78, N 0]⟩, ⟨107, .iteI, [V 27, V 77, N 0]⟩, ⟨106, .iteI, [V 27, V 76, N 0]⟩, ⟨105, .iteI, [V 27, V 75, N 0]⟩, ⟨104, .iteI, [V 27, V 74, N 0]⟩, ⟨103, .iteI, [V 27, V 70, V 12]⟩, ⟨102, .iteI, [V 27, V 69, V 11]⟩, ⟨101, .iteI, [V 27, V 68, V 10]⟩, ⟨100, .iteI, [V 27, V 67, V 9]⟩, ⟨99, .iteI, [V 27, V 66, V 8]⟩, ⟨98, .iteI, [V 27, V 65, V 7]⟩, ⟨97, .iteI, [V 27, V 64, V 6]⟩, ⟨96, .iteI, [V 27, V 63, V 5]⟩, ⟨95, .iteI, [V 27, V 62, V 4]⟩, ⟨94, .iteI, [V 27, V 61, V 3]⟩, ⟨93, .iteI, [V 27, V 60, V 2]⟩, ⟨92, .iteI, [V 27, V 59, V 1]⟩, ⟨91, .iteI, [V 27, V 88, N 2]⟩, ⟨90, .not, [V 27]⟩, ⟨89, .imp, [V 27, V 73]⟩, ⟨73, (.call 109), [V 0, V 59, V 60, V 61, V 62, V 63, V 64, V 65, V 66, V 67, V 68, V 69, V 70, V 13, V 14]⟩, ⟨72, .imp, [V 27, V 58]⟩, ⟨58, (.call 108), [V 0, V 44, V 45, V 46, V 47, V 48, V 49, V 50, V 51, V 52, V 53, V 54, V 55]⟩, ⟨57, .imp, [V 27, V 43]⟩, ⟨43, (.call 107), [V 0, V 29, V 30, V 31, V 32, V 33, V 34, V 35, V 36, V 37, V 38, V 39, V 40, V 13, V 14]⟩, ⟨42, .imp, [V 27, V 28]⟩, ⟨28, (.call 98), [V 0, V 1, V 2, V 3, V 4, V 5, V 6, V 7, V 8, V 9, V 10, V 11, V 12]⟩, ⟨27, .and, [V 23, V 25]⟩, ⟨26, .and, [V 22, V 24]⟩, ⟨25, .and, [V 18, V 23]⟩, ⟨24, .and, [V 18, V 22]⟩, ⟨23, .not, [V 22]⟩, ⟨22, .not, [V 20]⟩, ⟨21, .imp, [V 18, V 19]⟩, ⟨19, (.call 102), [V 0, V 13, V 14]⟩, ⟨18, .not, [V 17]⟩, ⟨17, .not, [V 16]⟩, ⟨15, (.call 97), [V 0, V 1, V 2, V 3, V 4, V 5, V 6, V 7, V 8, V 9, V 10, V 11, V 12]⟩], [V 89, V 72, V 57, V 42, V 21, V 15], []⟩
theorem pure_ref13_Step (e : Nat → A) (H : FactsQ T e g_ref13_Step.defs) : ∀ z0, z0 = (Day.HB.mk [(e 1).int, (e 2).int, (e 3).int, (e 4).int, (e 5).int, (e 6).int, (e 7).int, (e 8).int] (e 9).int (e 10).int (e 11).int (e 12).int) → ∀ r1, r1 = Day.hubH (e 0).int z0 (Day.Ls.mk (e 13) (e 14).int) → (Day.HB.i64 z0 && Day.Ls.ok (Day.Ls.mk (e 13) (e 14).int)) = true →
  ((e 89).bool = true ∧ (e 72).bool = true ∧ (e 57).bool = true ∧ (e 42).bool = true ∧ (e 21).bool = true ∧ (e 15).bool = true) ∧ (((r1)).a 0 = (e 133).int ∧ ((r1)).a 1 = (e 134).int ∧ ((r1)).a 2 = (e 135).int ∧ ((r1)).a 3 = (e 136).int ∧ ((r1)).a 4 = (e 137).int ∧ ((r1)).a 5 = (e 138).int ∧ ((r1)).a 6 = (e 139).int ∧ ((r1)).a 7 = (e 140).int ∧ ((r1)).port = (e 141).int ∧ ((r1)).age = (e 142).int ∧ ((r1)).hold = (e 143).int ∧ ((r1)).pos = (e 144).int ∧ ((Day.hubF (e 0).int z0 (Day.Ls.mk (e 13) (e 14).int))).kind = (e 145).int ∧ ((Day.hubF (e 0).int z0 (Day.Ls.mk (e 13) (e 14).int))).id = (e 146).int ∧ Day.gateE (e 0).int z0 (Day.Ls.mk (e 13) (e 14).int) = (e 120).int) := by
 intro z0 hz0 r1 hr1 hp
 subst hz0 hr1
 simp only [g_ref13_Step, FactsQ, Def.q, updQ, L.ev_var, L.ev_n, L.ev_t, L.ev_e, L.ev, A.int_i, A.bool_b, A.str_v, A.els_l, List.map_cons, List.map_nil, Nat.zero_add, Nat.add_zero, and_true, true_and, Nat.reduceAdd, Nat.one_mul] at H
 simp only [arI, dvI, btI, cmpI, shI, ifQ, updV, ltQ, and_true, true_and] at H
 obtain ⟨q147, ⟨q146, -⟩, ⟨q145, -⟩, ⟨q144, -⟩, ⟨q143, -⟩, ⟨q142, -⟩, ⟨q141, -⟩, ⟨q140, -⟩, ⟨q139, -⟩, ⟨q138, -⟩, ⟨q137, -⟩, ⟨q136, -⟩, ⟨q135, -⟩, ⟨q134, -⟩, ⟨q133, -⟩, ⟨q132, -⟩, ⟨q131, -⟩, ⟨q130, -⟩, ⟨q129, -⟩, ⟨q128, -⟩, ⟨q127, -⟩, ⟨q126, -⟩, ⟨q125, -⟩, ⟨q124, -⟩, ⟨q123, -⟩, ⟨q122, -⟩, ⟨q121, -⟩, ⟨q120, -⟩, q119, q118, ⟨q117, -⟩, ⟨q116, -⟩, ⟨q115, -⟩, ⟨q114, -⟩, ⟨q113, -⟩, ⟨q112, -⟩, ⟨q111, -⟩, ⟨q110, -⟩, ⟨q109, -⟩, ⟨q108, -⟩, ⟨q107, -⟩, ⟨q106, -⟩, ⟨q105, -⟩, ⟨q104, -⟩, ⟨q103, -⟩, ⟨q102, -⟩, ⟨q101, -⟩, ⟨q100, -⟩, ⟨q99, -⟩, ⟨q98, -⟩, ⟨q97, -⟩, ⟨q96, -⟩, ⟨q95, -⟩, ⟨q94, -⟩, ⟨q93, -⟩, ⟨q92, -⟩, ⟨q91, -⟩, q90, q89, q73, q72, q58, q57, q43, q42, q28, q27, q26, q25, q24, q23, q22, q21, q19, q18, q17, q15⟩ := H
 replace q73 := out_ref12_Relay q73 _ rfl _ rfl
 obtain ⟨q73, q74, q75, q76, q77, q78, q79, q80, q81, q82, q83, q84, q85, q86, q87, q88⟩ := q73
 replace q58 := out_ref12_Settle q58 _ rfl _ rfl
 obtain ⟨q58, q59, q60, q61, q62, q63, q64, q65, q66, q67, q68, q69, q70, q71⟩ := q58
 replace q43 := out_ref12_Note q43 _ rfl _ rfl
 obtain ⟨q43, q44, q45, q46, q47, q48, q49, q50, q51, q52, q53, q54, q55, q56⟩ := q43
 replace q28 := out_ref11_Tick q28 _ rfl _ rfl
 obtain ⟨q28, q29, q30, q31, q32, q33, q34, q35, q36, q37, q38, q39, q40, q41⟩ := q28
 replace q19 := out_ref12_Fits q19
 obtain ⟨q19, q20⟩ := q19
 replace q15 := out_ref11_Right q15 _ rfl
 obtain ⟨q15, q16⟩ := q15
 simp only [L.ev_var, L.ev_n, L.ev_t, L.ev_e, L.ev, A.int_i, A.bool_b, A.str_v] at q73 q74 q75 q76 q77 q78 q79 q80 q81 q82 q83 q84 q85 q86 q87 q88 q58 q59 q60 q61 q62 q63 q64 q65 q66 q67 q68 q69 q70 q71 q43 q44 q45 q46 q47 q48 q49 q50 q51 q52 q53 q54 q55 q56 q28 q29 q30 q31 q32 q33 q34 q35 q36 q37 q38 q39 q40 q41 q19 q20 q15 q16
 generalize (e 0).int = x0, (e 1).int = x1, (e 2).int = x2, (e 3).int = x3, (e 4).int = x4, (e 5).int = x5, (e 6).int = x6, (e 7).int = x7, (e 8).int = x8, (e 9).int = x9, (e 10).int = x10, (e 11).int = x11, (e 12).int = x12, e 13 = x13, (e 14).int = x14, (e 15).bool = v15, (e 16).bool = v16, (e 17).bool = v17, (e 18).bool = v18, (e 19).bool = v19, (e 20).bool = v20, (e 21).bool = v21, (e 22).bool = v22, (e 23).bool = v23, (e 24).bool = v24, (e 25).bool = v25, (e 26).bool = v26, (e 27).bool = v27, (e 28).bool = v28, (e 29).int = v29, (e 30).int = v30, (e 31).int = v31, (e 32).int = v32, (e 33).int = v33, (e 34).int = v34, (e 35).int = v35, (e 36).int = v36, (e 37).int = v37, (e 38).int = v38, (e 39).int = v39, (e 40).int = v40, (e 41).int = v41, (e 42).bool = v42, (e 43).bool = v43, (e 44).int = v44, (e 45).int = v45, (e 46).int = v46, (e 47).int = v47, (e 48).int = v48, (e 49).int = v49, (e 50).int = v50, (e 51).int = v51, (e 52).int = v52, (e 53).int = v53, (e 54).int = v54, (e 55).int = v55, (e 56).int = v56, (e 57).bool = v57, (e 58).bool = v58, (e 59).int = v59, (e 60).int = v60, (e 61).int = v61, (e 62).int = v62, (e 63).int = v63, (e 64).int = v64, (e 65).int = v65, (e 66).int = v66, (e 67).int = v67, (e 68).int = v68, (e 69).int = v69, (e 70).int = v70, (e 71).int = v71, (e 72).bool = v72, (e 73).bool = v73, (e 74).int = v74, (e 75).int = v75, (e 76).int = v76, (e 77).int = v77, (e 78).int = v78, (e 79).int = v79, (e 80).int = v80, (e 81).int = v81, (e 82).int = v82, (e 83).int = v83, (e 84).int = v84, (e 85).int = v85, (e 86).int = v86, (e 87).int = v87, (e 88).int = v88, (e 89).bool = v89, (e 90).bool = v90, (e 91).int = v91, (e 92).int = v92, (e 93).int = v93, (e 94).int = v94, (e 95).int = v95, (e 96).int = v96, (e 97).int = v97, (e 98).int = v98, (e 99).int = v99, (e 100).int = v100, (e 101).int = v101, (e 102).int = v102, (e 103).int = v103, (e 104).int = v104, (e 105).int = v105, (e 106).int = v106, (e 107).int = v107, (e 108).int = v108, (e 109).int = v109, (e 110).int = v110, (e 111).int = v111, (e 112).int = v112, (e 113).int = v113, (e 114).int = v114, (e 115).int = v115, (e 116).int = v116, (e 117).int = v117, (e 118).bool = v118, (e 119).bool = v119, (e 120).int = v120, (e 121).int = v121, (e 122).int = v122, (e 123).int = v123, (e 124).int = v124, (e 125).int = v125, (e 126).int = v126, (e 127).int = v127, (e 128).int = v128, (e 129).int = v129, (e 130).int = v130, (e 131).int = v131, (e 132).int = v132, (e 133).int = v133, (e 134).int = v134, (e 135).int = v135, (e 136).int = v136, (e 137).int = v137, (e 138).int = v138, (e 139).int = v139, (e 140).int = v140, (e 141).int = v141, (e 142).int = v142, (e 143).int = v143, (e 144).int = v144, (e 145).int = v145, (e 146).int = v146, (e 147).bool = v147 at *
 generalize hH : (Day.HB.mk [x1, x2, x3, x4, x5, x6, x7, x8] x9 x10 x11 x12) = h at *
 have g0 : x1 = h.a 0 ∧ x2 = h.a 1 ∧ x3 = h.a 2 ∧ x4 = h.a 3 ∧ x5 = h.a 4 ∧ x6 = h.a 5 ∧ x7 = h.a 6 ∧ x8 = h.a 7 ∧ x9 = h.port ∧ x10 = h.age ∧ x11 = h.hold ∧ x12 = h.pos := by subst hH; simp [Day.HB.a]
 obtain ⟨a1, a2, a3, a4, a5, a6, a7, a8, a9, a10, a11, a12⟩ := g0
 clear hH
 generalize hq : Day.Ls.mk x13 x14 = q at *
 have hn0 : x14 = q.n := by rw [← hq]
 have hk : ∀ p, q.k p = (x13.els.getD (2 * p.toNat) (.i 0)).int := fun p => by rw [← hq]; rfl
 have hd : ∀ p, q.d p = (x13.els.getD (1 + 2 * p.toNat) (.i 0)).int := fun p => by rw [← hq]; rfl
 clear hq
 simp only [Bool.and_eq_true] at hp
 obtain ⟨hi, hok⟩ := hp
 clear hk hd
 cases hr : Day.rightH x0 h with
 | false =>
  have hg : Day.gateE x0 h q = 1 := by simp [Day.gateE, hr]
  rw [hr] at q16
  subst_vars
  simp [hi, hok, hg, Day.hubH, Day.hubF, Day.noHB, Day.noFr, Day.HB.a]
 | true =>
  rw [hr] at q16
  cases hf : Day.fitsR x0 q with
  | false =>
   have hg : Day.gateE x0 h q = 2 := by simp [Day.gateE, hr, hf]
   rw [hf] at q20
   subst_vars
   simp [hi, hok, hg, Day.hubH, Day.hubF, Day.noHB, Day.noFr, Day.HB.a]
  | true =>
   rw [hf] at q20
   have ht := Day.tick_right hr
   have hmk := Day.mk_HB (Day.tickH x0 h) (Day.len_tick _ _)
   rw [← q29, ← q30, ← q31, ← q32, ← q33, ← q34, ← q35, ← q36, ← q37, ← q38, ← q39, ← q40] at hmk
   simp only [hmk] at q43 q44 q45 q46 q47 q48 q49 q50 q51 q52 q53 q54 q55 q56
   have hi2 := Day.right_i64 ht
   have hg := Day.gateE_fits.2 ⟨hr, hf⟩
   have hnr := Day.note_right ht hf
   have hmk2 := Day.mk_HB (Day.noteH x0 (Day.tickH x0 h) q) (Day.len_note _ _ _)
   rw [← q44, ← q45, ← q46, ← q47, ← q48, ← q49, ← q50, ← q51, ← q52, ← q53, ← q54, ← q55] at hmk2
   simp only [hmk2] at q58 q59 q60 q61 q62 q63 q64 q65 q66 q67 q68 q69 q70 q71
   have hi3 := Day.right_i64 hnr
   have hs := Day.settle_right hnr
   have hmk3 := Day.mk_HB (Day.settleH x0 (Day.noteH x0 (Day.tickH x0 h) q)) (Day.len_settle _ _)
   rw [← q59, ← q60, ← q61, ← q62, ← q63, ← q64, ← q65, ← q66, ← q67, ← q68, ← q69, ← q70] at hmk3
   simp only [hmk3] at q73 q74 q75 q76 q77 q78 q79 q80 q81 q82 q83 q84 q85 q86 q87 q88
   have hi4 := Day.right_i64 hs
   rw [Day.gateE_fits.2 ⟨hs, hf⟩] at q88
   clear hmk hmk2 hmk3
   subst_vars
   simp [hi, hok, hi2, hi3, hi4, hg, Day.hubH, Day.hubF, Day.midH]
def lp_1800 : Lp := ⟨120, [false, true, false, true, true, true], 1800, 31, 29, 4, ⟨frS 46 [(0, .pv (.one (.k (.int .i64 (V 0))))), (1, .pv (.agg [.k (.int .i64 (V 1)), .k (.int .i64 (V 2)), .k (.int .i64 (V 3)), .k (.int .i64 (V 4)), .k (.int .i64 (V 5)), .k (.int .i64 (V 6)), .k (.int .i64 (V 7)), .k (.int .i64 (V 8)), .k (.int .i64 (V 9)), .k (.int .i64 (V 10)), .k (.int .i64 (V 11)), .k (.int .i64 (V 12))])), (2, .pv (.one (.k (.fsl 0 (V 13))))), (4, .pv (.one (.k (.ptr 1 0)))), (6, .pv (.one (.k (.ptr 2 0)))), (7, .pv (.one (.k (.nilslc)))), (8, .pv (.one (.k (.int .i64 (N 0))))), (9, .pv (.one (.k (.lsl 3 (V 13))))), (13, .pv (.one (.k (.int .i64 (V 0))))), (14, .pv (.agg [.k (.int .i64 (V 1)), .k (.int .i64 (V 2)), .k (.int .i64 (V 3)), .k (.int .i64 (V 4)), .k (.int .i64 (V 5)), .k (.int .i64 (V 6)), .k (.int .i64 (V 7)), .k (.int .i64 (V 8)), .k (.int .i64 (V 9)), .k (.int .i64 (V 10)), .k (.int .i64 (V 11)), .k (.int .i64 (V 12))])), (15, .pv (.one (.k (.bool (V 14))))), (16, .pv (.one (.k (.bool (V 15))))), (18, .pv (.one (.k (.fsl 0 (V 13))))), (19, .pv (.one (.k (.int .i64 (V 13))))), (20, .pv (.one (.k (.lsl 3 (V 13))))), (21, .pv (.one (.k (.fsl 0 (V 13))))), (22, .pv (.one (.k (.int .i64 (V 13))))), (23, .pv (.one (.k (.int .i64 (V 16)))))], [⟨false, 0, 0, [], some ⟨false, 0, [.sl [.int .i64, .int .i64]], V 17, V 13⟩⟩, ⟨true, 77, 12, [.k (.int .i64 (V 18)), .k (.int .i64 (V 19)), .k (.int .i64 (V 20)), .k (.int .i64 (V 21)), .k (.int .i64 (V 22)), .k (.int .i64 (V 23)), .k (.int .i64 (V 24)), .k (.int .i64 (V 25)), .k (.int .i64 (V 26)), .k (.int .i64 (V 27)), .k (.int .i64 (V 28)), .k (.int .i64 (V 29))], none⟩, ⟨true, 77, 12, [.k (.int .i64 (N 0)), .k (.int .i64 (N 0)), .k (.int .i64 (N 0)), .k (.int .i64 (N 0)), .k (.int .i64 (N 0)), .k (.int .i64 (N 0)), .k (.int .i64 (N 0)), .k (.int .i64 (N 0)), .k (.int .i64 (N 0)), .k (.int .i64 (N 0)), .k (.int .i64 (N 0)), .k (.int .i64 (N 0))], none⟩, ⟨false, 0, 0, [], some ⟨true, 57, [.int .i64, .int .i64], V 30, V 13⟩⟩], B true⟩, [(.ret, ⟨frS 46 [(0, .pv (.one (.k (.int .i64 (V 0))))), (1, .pv (.agg [.k (.int .i64 (V 1)), .k (.int .i64 (V 2)), .k (.int .i64 (V 3)), .k (.int .i64 (V 4)), .k (.int .i64 (V 5)), .k (.int .i64 (V 6)), .k (.int .i64 (V 7)), .k (.int .i64 (V 8)), .k (.int .i64 (V 9)), .k (.int .i64 (V 10)), .k (.int .i64 (V 11)), .k (.int .i64 (V 12))])), (2, .pv (.one (.k (.fsl 0 (V 13))))), (4, .pv (.one (.k (.ptr 1 0)))), (6, .pv (.one (.k (.ptr 2 0)))), (7, .pv (.one (.k (.nilslc)))), (8, .pv (.one (.k (.int .i64 (V 31))))), (9, .pv (.one (.k (.lsl 3 (V 13))))), (13, .pv (.one (.k (.int .i64 (V 0))))), (14, .pv (.agg [.k (.int .i64 (V 1)), .k (.int .i64 (V 2)), .k (.int .i64 (V 3)), .k (.int .i64 (V 4)), .k (.int .i64 (V 5)), .k (.int .i64 (V 6)), .k (.int .i64 (V 7)), .k (.int .i64 (V 8)), .k (.int .i64 (V 9)), .k (.int .i64 (V 10)), .k (.int .i64 (V 11)), .k (.int .i64 (V 12))])), (15, .pv (.one (.k (.bool (V 14))))), (16, .pv (.one (.k (.bool (V 15))))), (18, .pv (.one (.k (.fsl 0 (V 13))))), (19, .pv (.one (.k (.int .i64 (V 13))))), (20, .pv (.one (.k (.lsl 3 (V 13))))), (21, .pv (.one (.k (.fsl 0 (V 13)))))], [⟨false, 0, 0, [], some ⟨false, 0, [.sl [.int .i64, .int .i64]], V 17, V 13⟩⟩, ⟨true, 77, 12, [.k (.int .i64 (V 32)), .k (.int .i64 (V 33)), .k (.int .i64 (V 34)), .k (.int .i64 (V 35)), .k (.int .i64 (V 36)), .k (.int .i64 (V 37)), .k (.int .i64 (V 38)), .k (.int .i64 (V 39)), .k (.int .i64 (V 40)), .k (.int .i64 (V 41)), .k (.int .i64 (V 42)), .k (.int .i64 (V 43))], none⟩, ⟨true, 77, 12, [.k (.int .i64 (N 0)), .k (.int .i64 (N 0)), .k (.int .i64 (N 0)), .k (.int .i64 (N 0)), .k (.int .i64 (N 0)), .k (.int .i64 (N 0)), .k (.int .i64 (N 0)), .k (.int .i64 (N 0)), .k (.int .i64 (N 0)), .k (.int .i64 (N 0)), .k (.int .i64 (N 0)), .k (.int .i64 (N 0))], none⟩, ⟨false, 0, 0, [], some ⟨true, 57, [.int .i64, .int .i64], V 44, V 13⟩⟩], V 45⟩), (.exit 0, ⟨frS 46 [(0, .pv (.one (.k (.int .i64 (V 0))))), (1, .pv (.agg [.k (.int .i64 (V 1)), .k (.int .i64 (V 2)), .k (.int .i64 (V 3)), .k (.int .i64 (V 4)), .k (.int .i64 (V 5)), .k (.int .i64 (V 6)), .k (.int .i64 (V 7)), .k (.int .i64 (V 8)), .k (.int .i64 (V 9)), .k (.int .i64 (V 10)), .k (.int .i64 (V 11)), .k (.int .i64 (V 12))])), (2, .pv (.one (.k (.fsl 0 (V 13))))), (4, .pv (.one (.k (.ptr 1 0)))), (6, .pv (.one (.k (.ptr 2 0)))), (7, .pv (.one (.k (.nilslc)))), (8, .pv (.one (.k (.int .i64 (N 0))))), (9, .pv (.one (.k (.lsl 3 (V 13))))), (13, .pv (.one (.k (.int .i64 (V 0))))), (14, .pv (.agg [.k (.int .i64 (V 1)), .k (.int .i64 (V 2)), .k (.int .i64 (V 3)), .k (.int .i64 (V 4)), .k (.int .i64 (V 5)), .k (.int .i64 (V 6)), .k (.int .i64 (V 7)), .k (.int .i64 (V 8)), .k (.int .i64 (V 9)), .k (.int .i64 (V 10)), .k (.int .i64 (V 11)), .k (.int .i64 (V 12))])), (15, .pv (.one (.k (.bool (V 14))))), (16, .pv (.one (.k (.bool (V 15))))), (18, .pv (.one (.k (.fsl 0 (V 13))))), (19, .pv (.one (.k (.int .i64 (V 13))))), (20, .pv (.one (.k (.lsl 3 (V 13))))), (21, .pv (.one (.k (.fsl 0 (V 13)))))], [⟨false, 0, 0, [], some ⟨false, 0, [.sl [.int .i64, .int .i64]], V 17, V 13⟩⟩, ⟨true, 77, 12, [.k (.int .i64 (V 46)), .k (.int .i64 (V 47)), .k (.int .i64 (V 48)), .k (.int .i64 (V 49)), .k (.int .i64 (V 50)), .k (.int .i64 (V 51)), .k (.int .i64 (V 52)), .k (.int .i64 (V 53)), .k (.int .i64 (V 54)), .k (.int .i64 (V 55)), .k (.int .i64 (V 56)), .k (.int .i64 (V 57))], none⟩, ⟨true, 77, 12, [.k (.int .i64 (N 0)), .k (.int .i64 (N 0)), .k (.int .i64 (N 0)), .k (.int .i64 (N 0)), .k (.int .i64 (N 0)), .k (.int .i64 (N 0)), .k (.int .i64 (N 0)), .k (.int .i64 (N 0)), .k (.int .i64 (N 0)), .k (.int .i64 (N 0)), .k (.int .i64 (N 0)), .k (.int .i64 (N 0))], none⟩, ⟨false, 0, 0, [], some ⟨true, 57, [.int .i64, .int .i64], V 58, V 13⟩⟩], V 59⟩)], [true, true, true, true, true, true, true, true, true, true, true, true, true, true, true, true, false, true, false, false, false, false, false, false, false, false, false, false, false, false, false], [.i, .i, .i, .i, .i, .i, .i, .i, .i, .i, .i, .i, .i, .any, .b, .i, .i, .i, .i, .i, .i, .i, .i, .i, .i, .i, .i, .any, .b]⟩
def g_L1800 : G := ⟨68, [⟨67, .and, [V 31, V 65]⟩, ⟨66, .and, [V 31, V 62]⟩, ⟨65, .and, [V 64, V 61]⟩, ⟨64, .not, [V 62]⟩, ⟨63, (.ar .add .i64), [V 16, N 1]⟩, ⟨62, .and, [V 58, V 60]⟩, ⟨61, .and, [V 57, V 59]⟩, ⟨60, .and, [V 31, V 58]⟩, ⟨59, .and, [V 31, V 57]⟩, ⟨58, .not, [V 57]⟩, ⟨57, (.cmp .neq), [V 53, N 0]⟩, ⟨56, (.pset 1 2), [V 55, V 16, V 52]⟩, ⟨55, (.pset 0 2), [V 30, V 16, V 51]⟩, ⟨54, .imp, [V 31, V 38]⟩, ⟨38, (.call 119), [V 0, V 18, V 19, V 20, V 21, V 22, V 23, V 24, V 25, V 26, V 27, V 28, V 29, V 36, V 37]⟩, ⟨37, (.lln 2), [V 36]⟩, ⟨36, (.pix 0 1), [V 17, V 16]⟩, ⟨35, .imp, [V 31, V 34]⟩, ⟨34, .and, [V 33, V 31]⟩, ⟨33, (.cmp .leq), [N 0, V 16]⟩, ⟨32, .not, [V 31]⟩, ⟨31, (.cmp .lss), [V 16, V 13]⟩], [V 35, V 54, V 35], []⟩
def m_1800 (al : List A) : Nat := (((Day.Ts.mk (ge al 17) (gi al 13))).n - (gi al 16)).toNat
theorem lpureQ_1800 (e : Nat → A) (H : FactsQ T e g_L1800.defs) : ∀ z0, z0 = (Day.HB.mk [(e 18).int, (e 19).int, (e 20).int, (e 21).int, (e 22).int, (e 23).int, (e 24).int, (e 25).int] (e 26).int (e 27).int (e 28).int (e 29).int) → ∀ r1, r1 = (Day.runGo (e 0).int (Day.Ts.mk (e 17) (e 13).int) (e 16).int z0 (e 30)).2.1 → ∀ y0, y0 = (Day.HB.mk [(e 39).int, (e 40).int, (e 41).int, (e 42).int, (e 43).int, (e 44).int, (e 45).int, (e 46).int] (e 47).int (e 48).int (e 49).int (e 50).int) → ∀ s1, s1 = (Day.runGo (e 0).int (Day.Ts.mk (e 17) (e 13).int) (e 63).int y0 (e 56)).2.1 → (Day.runP (e 0).int z0 (Day.Ts.mk (e 17) (e 13).int) (e 16).int (e 30)) = true →
  ((e 35).bool = true ∧ (e 54).bool = true ∧ (e 35).bool = true) ∧ ((e 66).bool = true → (Day.runP (e 0).int y0 (Day.Ts.mk (e 17) (e 13).int) (e 63).int (e 56)) = true ∧ ((Day.runGo (e 0).int (Day.Ts.mk (e 17) (e 13).int) (e 63).int y0 (e 56)).1 = (Day.runGo (e 0).int (Day.Ts.mk (e 17) (e 13).int) (e 16).int z0 (e 30)).1 ∧ ((s1)).a 0 = ((r1)).a 0 ∧ ((s1)).a 1 = ((r1)).a 1 ∧ ((s1)).a 2 = ((r1)).a 2 ∧ ((s1)).a 3 = ((r1)).a 3 ∧ ((s1)).a 4 = ((r1)).a 4 ∧ ((s1)).a 5 = ((r1)).a 5 ∧ ((s1)).a 6 = ((r1)).a 6 ∧ ((s1)).a 7 = ((r1)).a 7 ∧ ((s1)).port = ((r1)).port ∧ ((s1)).age = ((r1)).age ∧ ((s1)).hold = ((r1)).hold ∧ ((s1)).pos = ((r1)).pos ∧ (Day.runGo (e 0).int (Day.Ts.mk (e 17) (e 13).int) (e 63).int y0 (e 56)).2.2 = (Day.runGo (e 0).int (Day.Ts.mk (e 17) (e 13).int) (e 16).int z0 (e 30)).2.2 ∧ Day.neB (Day.runGo (e 0).int (Day.Ts.mk (e 17) (e 13).int) (e 63).int y0 (e 56)).1 0 = Day.neB (Day.runGo (e 0).int (Day.Ts.mk (e 17) (e 13).int) (e 16).int z0 (e 30)).1 0 ∧ ((s1)).a 0 = ((r1)).a 0 ∧ ((s1)).a 1 = ((r1)).a 1 ∧ ((s1)).a 2 = ((r1)).a 2 ∧ ((s1)).a 3 = ((r1)).a 3 ∧ ((s1)).a 4 = ((r1)).a 4 ∧ ((s1)).a 5 = ((r1)).a 5 ∧ ((s1)).a 6 = ((r1)).a 6 ∧ ((s1)).a 7 = ((r1)).a 7 ∧ ((s1)).port = ((r1)).port ∧ ((s1)).age = ((r1)).age ∧ ((s1)).hold = ((r1)).hold ∧ ((s1)).pos = ((r1)).pos ∧ (Day.runGo (e 0).int (Day.Ts.mk (e 17) (e 13).int) (e 63).int y0 (e 56)).2.2 = (Day.runGo (e 0).int (Day.Ts.mk (e 17) (e 13).int) (e 16).int z0 (e 30)).2.2 ∧ Day.eqB (Day.runGo (e 0).int (Day.Ts.mk (e 17) (e 13).int) (e 63).int y0 (e 56)).1 0 = Day.eqB (Day.runGo (e 0).int (Day.Ts.mk (e 17) (e 13).int) (e 16).int z0 (e 30)).1 0) ∧ (((Day.Ts.mk (e 17) (e 13).int)).n - (e 63).int).toNat < (((Day.Ts.mk (e 17) (e 13).int)).n - (e 16).int).toNat) ∧ ((e 67).bool = true → (e 53).int = (Day.runGo (e 0).int (Day.Ts.mk (e 17) (e 13).int) (e 16).int z0 (e 30)).1 ∧ (e 39).int = ((r1)).a 0 ∧ (e 40).int = ((r1)).a 1 ∧ (e 41).int = ((r1)).a 2 ∧ (e 42).int = ((r1)).a 3 ∧ (e 43).int = ((r1)).a 4 ∧ (e 44).int = ((r1)).a 5 ∧ (e 45).int = ((r1)).a 6 ∧ (e 46).int = ((r1)).a 7 ∧ (e 47).int = ((r1)).port ∧ (e 48).int = ((r1)).age ∧ (e 49).int = ((r1)).hold ∧ (e 50).int = ((r1)).pos ∧ (e 56) = (Day.runGo (e 0).int (Day.Ts.mk (e 17) (e 13).int) (e 16).int z0 (e 30)).2.2 ∧ true = Day.neB (Day.runGo (e 0).int (Day.Ts.mk (e 17) (e 13).int) (e 16).int z0 (e 30)).1 0) ∧ ((e 32).bool = true → (e 18).int = ((r1)).a 0 ∧ (e 19).int = ((r1)).a 1 ∧ (e 20).int = ((r1)).a 2 ∧ (e 21).int = ((r1)).a 3 ∧ (e 22).int = ((r1)).a 4 ∧ (e 23).int = ((r1)).a 5 ∧ (e 24).int = ((r1)).a 6 ∧ (e 25).int = ((r1)).a 7 ∧ (e 26).int = ((r1)).port ∧ (e 27).int = ((r1)).age ∧ (e 28).int = ((r1)).hold ∧ (e 29).int = ((r1)).pos ∧ (e 30) = (Day.runGo (e 0).int (Day.Ts.mk (e 17) (e 13).int) (e 16).int z0 (e 30)).2.2 ∧ true = Day.eqB (Day.runGo (e 0).int (Day.Ts.mk (e 17) (e 13).int) (e 16).int z0 (e 30)).1 0) := by
 intro z0 hz0 r1 hr1 y0 hy0 s1 hs1 hp
 subst hz0 hr1 hy0 hs1
 simp only [g_L1800, FactsQ, Def.q, updQ, L.ev_var, L.ev_n, L.ev_t, L.ev_e, L.ev, A.int_i, A.bool_b, A.str_v, A.els_l, List.map_cons, List.map_nil, Nat.zero_add, Nat.add_zero, and_true, true_and, Nat.reduceAdd, Nat.one_mul] at H
 simp only [arI, dvI, btI, cmpI, shI, ifQ, updV, ltQ, and_true, true_and] at H
 obtain ⟨q67, q66, q65, q64, ⟨q63, -⟩, q62, q61, q60, q59, q58, q57, q56, q55, q54, q38, q37, q36, q35, q34, q33, q32, q31⟩ := H
 obtain ⟨-, -, -, -, -, -, -, -, -, -, -, -, k51, k52, -⟩ := outI_hub_Step q38
 unfold isI at k51 k52
 replace q38 := out_hub_Step q38 _ rfl _ rfl
 obtain ⟨q38, q39, q40, q41, q42, q43, q44, q45, q46, q47, q48, q49, q50, q51, q52, q53⟩ := q38
 simp only [L.ev_var, L.ev_n, L.ev_t, L.ev_e, L.ev, A.int_i, A.bool_b, A.str_v] at q38 q39 q40 q41 q42 q43 q44 q45 q46 q47 q48 q49 q50 q51 q52 q53
 generalize (e 0).int = x0, (e 1).int = x1, (e 2).int = x2, (e 3).int = x3, (e 4).int = x4, (e 5).int = x5, (e 6).int = x6, (e 7).int = x7, (e 8).int = x8, (e 9).int = x9, (e 10).int = x10, (e 11).int = x11, (e 12).int = x12, (e 13).int = x13, (e 14).int = x14, (e 15).int = x15, (e 16).int = x16, e 17 = x17, (e 18).int = x18, (e 19).int = x19, (e 20).int = x20, (e 21).int = x21, (e 22).int = x22, (e 23).int = x23, (e 24).int = x24, (e 25).int = x25, (e 26).int = x26, (e 27).int = x27, (e 28).int = x28, (e 29).int = x29, e 30 = x30, (e 31).bool = v31, (e 32).bool = v32, (e 33).bool = v33, (e 34).bool = v34, (e 35).bool = v35, (e 37).int = v37, (e 38).bool = v38, (e 39).int = v39, (e 40).int = v40, (e 41).int = v41, (e 42).int = v42, (e 43).int = v43, (e 44).int = v44, (e 45).int = v45, (e 46).int = v46, (e 47).int = v47, (e 48).int = v48, (e 49).int = v49, (e 50).int = v50, (e 51).int = v51, (e 52).int = v52, (e 53).int = v53, (e 54).bool = v54, e 55 = v55, e 56 = v56, (e 57).bool = v57, (e 58).bool = v58, (e 59).bool = v59, (e 60).bool = v60, (e 61).bool = v61, (e 62).bool = v62, (e 63).int = v63, (e 64).bool = v64, (e 65).bool = v65, (e 66).bool = v66, (e 67).bool = v67 at *
 rw [k52] at q56
 rw [k51] at q55
 generalize e 36 = v36 at *
 generalize hH : (Day.HB.mk [x18, x19, x20, x21, x22, x23, x24, x25] x26 x27 x28 x29) = h at *
 have g0 : x18 = h.a 0 ∧ x19 = h.a 1 ∧ x20 = h.a 2 ∧ x21 = h.a 3 ∧ x22 = h.a 4 ∧ x23 = h.a 5 ∧ x24 = h.a 6 ∧ x25 = h.a 7 ∧ x26 = h.port ∧ x27 = h.age ∧ x28 = h.hold ∧ x29 = h.pos := by subst hH; simp [Day.HB.a]
 obtain ⟨a1, a2, a3, a4, a5, a6, a7, a8, a9, a10, a11, a12⟩ := g0
 clear hH
 generalize hT : Day.Ts.mk x17 x13 = T at *
 have hn : x13 = T.n := by rw [← hT]
 have hat : Day.Ls.mk v36 v37 = T.at x16 := by rw [q37, q36, ← hT]; rfl
 simp only [hat] at q38 q39 q40 q41 q42 q43 q44 q45 q46 q47 q48 q49 q50 q51 q52 q53
 clear hat hT q36 q37
 obtain ⟨hr, hF, hi, hN⟩ := Day.runP_all hp
 have hi64 := Day.right_i64 hr
 by_cases hlt : x16 < T.n
 ·have w : IntKind.wrap .i64 (x16 + 1) = x16 + 1 := wrap64 (by omega) (by omega)
  have hok := Day.few_ok hF hi.1 hlt
  rw [w] at q63
  have hx : v56 = Day.putF x30 x16 (Day.hubF x0 h (T.at x16)) := by rw [q56, q55, q51, q52]; rfl
  have e31 : v31 = true := by rw [q31, hn]; simp [hlt]
  by_cases hg : Day.gateE x0 h (T.at x16) = 0
  ·have st := Day.runGo_go (x := x30) hlt hg
   have hP := Day.runP_next hp hlt hg
   have hmk := Day.mk_HB (Day.hubH x0 h (T.at x16)) (Day.len_hub _ _ _)
   rw [← q39, ← q40, ← q41, ← q42, ← q43, ← q44, ← q45, ← q46, ← q47, ← q48, ← q49, ← q50] at hmk
   rw [hg] at q53
   rw [hmk, q63, hx, ← st]
   clear hmk st q31 q55 q56 hn q39 q40 q41 q42 q43 q44 q45 q46 q47 q48 q49 q50 q51 q52
   subst_vars
   simp [hi64, hok, hi, hP]
   omega
  ·have st := Day.runGo_bad (x := x30) hlt hg
   rw [← hx] at st
   rw [st]
   have h0 : (Day.gateE x0 h (T.at x16) == 0) = false := by simp [hg]
   have h1 : Day.neB (Day.gateE x0 h (T.at x16)) 0 = true := by simp [Day.neB, hg]
   clear st hx q31 q55 q56 hn
   subst_vars
   simp [hi64, hok, hi, hg, h0, h1]
 ·have st := Day.runGo_end (n := x0) (h := h) (x := x30) hlt
  have e31 : v31 = false := by rw [q31, hn]; simp [hlt]
  rw [st]
  clear st q31 hn q55 q56 q38 q39 q40 q41 q42 q43 q44 q45 q46 q47 q48 q49 q50 q51 q52 q53
  subst_vars
  simp [Day.eqB]
theorem lpure_1800 (as : List A) (e : Nat → A) (h1 : as = (List.range 31).map e) (h2 : (t_1800 as).1 = true) (H : FactsQ T e g_L1800.defs) : ObsAll e g_L1800.obs ∧
   (∀ pc ls, some (V 66, [V 0, V 1, V 2, V 3, V 4, V 5, V 6, V 7, V 8, V 9, V 10, V 11, V 12, V 13, V 14, V 15, V 63, V 17, V 39, V 40, V 41, V 42, V 43, V 44, V 45, V 46, V 47, V 48, V 49, V 50, V 56]) = some (pc, ls) → (pc.ev e).bool = true → (t_1800 (ls.map (L.ev e))).1 = true ∧ (t_1800 (ls.map (L.ev e))).2 = (t_1800 as).2 ∧ m_1800 (ls.map (L.ev e)) < m_1800 as) ∧
   ∀ x ∈ ([(V 67, [some (V 53), some (V 39), some (V 40), some (V 41), some (V 42), some (V 43), some (V 44), some (V 45), some (V 46), some (V 47), some (V 48), some (V 49), some (V 50), some (V 56), some (B true), none, none, none, none, none, none, none, none, none, none, none, none, none, none]), (V 32, [none, none, none, none, none, none, none, none, none, none, none, none, none, none, none, some (V 18), some (V 19), some (V 20), some (V 21), some (V 22), some (V 23), some (V 24), some (V 25), some (V 26), some (V 27), some (V 28), some (V 29), some (V 30), some (B true)])] : List (L × List (Option L))), (x.1.ev e).bool = true → ∀ (j : Nat) l, x.2[j]? = some (some l) → Teq (lp_1800.tags.getD j .any) (l.ev e) ((t_1800 as).2.getD j (.i 0)) := by
 subst h1
 obtain ⟨ho, h⟩ := lpureQ_1800 e H _ rfl _ rfl _ rfl _ rfl h2
 refine ⟨⟨ho.1, ho.2.1, ho.2.2, trivial⟩, fun pc ls hb hpc => ?_, ?_⟩
 ·injection hb with hb
  injection hb with h3 h4
  subst h3 h4
  have h := h.1 hpc
  refine ⟨h.1, ?_, h.2.2⟩
  have h5 := h.2.1
  obtain ⟨z0, z1, z2, z3, z4, z5, z6, z7, z8, z9, z10, z11, z12, z13, z14, z15, z16, z17, z18, z19, z20, z21, z22, z23, z24, z25, z26, z27, z28⟩ := h5
  exact (consI z0 (consI z1 (consI z2 (consI z3 (consI z4 (consI z5 (consI z6 (consI z7 (consI z8 (consI z9 (consI z10 (consI z11 (consI z12 (consL z13 (consB z14 (consI z15 (consI z16 (consI z17 (consI z18 (consI z19 (consI z20 (consI z21 (consI z22 (consI z23 (consI z24 (consI z25 (consI z26 (consL z27 (consB z28 rfl)))))))))))))))))))))))))))))
 ·intro x hx hpc j l hj
  simp only [List.mem_cons, List.not_mem_nil, or_false] at hx
  rcases hx with rfl | rfl
  ·have h := h.2.1 hpc
   obtain ⟨z0, z1, z2, z3, z4, z5, z6, z7, z8, z9, z10, z11, z12, z13, z14⟩ := h
   match j, hj with
   | 0, hj => cases hj; exact z0
   | 1, hj => cases hj; exact z1
   | 2, hj => cases hj; exact z2
   | 3, hj => cases hj; exact z3
   | 4, hj => cases hj; exact z4
   | 5, hj => cases hj; exact z5
   | 6, hj => cases hj; exact z6
   | 7, hj => cases hj; exact z7
   | 8, hj => cases hj; exact z8
   | 9, hj => cases hj; exact z9
   | 10, hj => cases hj; exact z10
   | 11, hj => cases hj; exact z11
   | 12, hj => cases hj; exact z12
   | 13, hj => cases hj; exact z13
   | 14, hj => cases hj; exact z14
   | 15, hj => cases hj
   | 16, hj => cases hj
   | 17, hj => cases hj
   | 18, hj => cases hj
   | 19, hj => cases hj
   | 20, hj => cases hj
   | 21, hj => cases hj
   | 22, hj => cases hj
   | 23, hj => cases hj
   | 24, hj => cases hj
   | 25, hj => cases hj
   | 26, hj => cases hj
   | 27, hj => cases hj
   | 28, hj => cases hj
   | _ + 29, hj => cases hj
  ·have h := h.2.2 hpc
   obtain ⟨z15, z16, z17, z18, z19, z20, z21, z22, z23, z24, z25, z26, z27, z28⟩ := h
   match j, hj with
   | 0, hj => cases hj
   | 1, hj => cases hj
   | 2, hj => cases hj
   | 3, hj => cases hj
   | 4, hj => cases hj
   | 5, hj => cases hj
   | 6, hj => cases hj
   | 7, hj => cases hj
   | 8, hj => cases hj
   | 9, hj => cases hj
   | 10, hj => cases hj
   | 11, hj => cases hj
   | 12, hj => cases hj
   | 13, hj => cases hj
   | 14, hj => cases hj
   | 15, hj => cases hj; exact z15
   | 16, hj => cases hj; exact z16
   | 17, hj => cases hj; exact z17
   | 18, hj => cases hj; exact z18
   | 19, hj => cases hj; exact z19
   | 20, hj => cases hj; exact z20
   | 21, hj => cases hj; exact z21
   | 22, hj => cases hj; exact z22
   | 23, hj => cases hj; exact z23
   | 24, hj => cases hj; exact z24
   | 25, hj => cases hj; exact z25
   | 26, hj => cases hj; exact z26
   | 27, hj => cases hj; exact z27
   | 28, hj => cases hj; exact z28
   | _ + 29, hj => cases hj
def g_hub_Run : G := ⟨118, [⟨117, .iteB, [V 18, V 88, V 17]⟩, ⟨116, .iteA, [V 18, V 87, .e]⟩, ⟨115, .iteI, [V 18, V 86, N 0]⟩, ⟨114, .iteI, [V 18, V 85, N 0]⟩, ⟨113, .iteI, [V 18, V 84, N 0]⟩, ⟨112, .iteI, [V 18, V 83, N 0]⟩, ⟨111, .iteI, [V 18, V 82, N 0]⟩, ⟨110, .iteI, [V 18, V 81, N 0]⟩, ⟨109, .iteI, [V 18, V 80, N 0]⟩, ⟨108, .iteI, [V 18, V 79, N 0]⟩, ⟨107, .iteI, [V 18, V 78, N 0]⟩, ⟨106, .iteI, [V 18, V 77, N 0]⟩, ⟨105, .iteI, [V 18, V 76, N 0]⟩, ⟨104, .iteI, [V 18, V 75, N 0]⟩, ⟨103, .iteI, [V 18, V 74, V 12]⟩, ⟨102, .iteI, [V 18, V 73, V 11]⟩, ⟨101, .iteI, [V 18, V 72, V 10]⟩, ⟨100, .iteI, [V 18, V 71, V 9]⟩, ⟨99, .iteI, [V 18, V 70, V 8]⟩, ⟨98, .iteI, [V 18, V 69, V 7]⟩, ⟨97, .iteI, [V 18, V 68, V 6]⟩, ⟨96, .iteI, [V 18, V 67, V 5]⟩, ⟨95, .iteI, [V 18, V 66, V 4]⟩, ⟨94, .iteI, [V 18, V 65, V 3]⟩, ⟨93, .iteI, [V 18, V 64, V 2]⟩, ⟨92, .iteI, [V 18, V 63, V 1]⟩, ⟨91, .iteI, [V 18, V 62, N 1]⟩, ⟨90, .iteI, [V 18, V 61, N 0]⟩, ⟨89, .not, [V 18]⟩, ⟨88, .iteB, [V 59, V 59, V 58]⟩, ⟨87, .iteA, [V 59, V 52, .e]⟩, ⟨86, .iteI, [V 59, V 51, N 0]⟩, ⟨85, .iteI, [V 59, V 50, N 0]⟩, ⟨84, .iteI, [V 59, V 49, N 0]⟩, ⟨83, .iteI, [V 59, V 48, N 0]⟩, ⟨82, .iteI, [V 59, V 47, N 0]⟩, ⟨81, .iteI, [V 59, V 46, N 0]⟩, ⟨80, .iteI, [V 59, V 45, N 0]⟩, ⟨79, .iteI, [V 59, V 44, N 0]⟩, ⟨78, .iteI, [V 59, V 43, N 0]⟩, ⟨77, .iteI, [V 59, V 42, N 0]⟩, ⟨76, .iteI, [V 59, V 41, N 0]⟩, ⟨75, .iteI, [V 59, V 40, N 0]⟩, ⟨74, .iteI, [V 59, V 51, V 37]⟩, ⟨73, .iteI, [V 59, V 50, V 36]⟩, ⟨72, .iteI, [V 59, V 49, V 35]⟩, ⟨71, .iteI, [V 59, V 48, V 34]⟩, ⟨70, .iteI, [V 59, V 47, V 33]⟩, ⟨69, .iteI, [V 59, V 46, V 32]⟩, ⟨68, .iteI, [V 59, V 45, V 31]⟩, ⟨67, .iteI, [V 59, V 44, V 30]⟩, ⟨66, .iteI, [V 59, V 43, V 29]⟩, ⟨65, .iteI, [V 59, V 42, V 28]⟩, ⟨64, .iteI, [V 59, V 41, V 27]⟩, ⟨63, .iteI, [V 59, V 40, V 26]⟩, ⟨62, .iteI, [V 59, N 0, V 25]⟩, ⟨61, .iteI, [V 59, V 14, N 0]⟩, ⟨60, .not, [V 59]⟩, ⟨59, .and, [V 18, V 53]⟩, ⟨58, .and, [V 18, V 39]⟩, ⟨57, .imp, [V 18, V 56]⟩, ⟨56, .not, [V 55]⟩, ⟨55, .and, [V 39, V 53]⟩, ⟨54, .imp, [V 18, V 24]⟩, ⟨24, (.call 1800), [V 0, V 1, V 2, V 3, V 4, V 5, V 6, V 7, V 8, V 9, V 10, V 11, V 12, V 14, V 16, V 17, N 0, V 13, V 1, V 2, V 3, V 4, V 5, V 6, V 7, V 8, V 9, V 10, V 11, V 12, V 23]⟩, ⟨23, .rep, [V 14, N 0, N 0]⟩, ⟨22, .imp, [V 18, V 21]⟩, ⟨21, .and, [V 19, V 20]⟩, ⟨20, (.cmp .lss), [V 14, N 1000001]⟩, ⟨19, (.cmp .leq), [N 0, V 14]⟩, ⟨18, .not, [V 17]⟩, ⟨17, .not, [V 16]⟩, ⟨15, (.call 96), [V 0, V 1, V 2, V 3, V 4, V 5, V 6, V 7, V 8, V 9, V 10, V 11, V 12]⟩], [V 57, V 54, V 22, V 15], []⟩
theorem pure_hub_Run (e : Nat → A) (H : FactsQ T e g_hub_Run.defs) : ∀ z0, z0 = (Day.HB.mk [(e 1).int, (e 2).int, (e 3).int, (e 4).int, (e 5).int, (e 6).int, (e 7).int, (e 8).int] (e 9).int (e 10).int (e 11).int (e 12).int) → ∀ r1, r1 = Day.runH (e 0).int z0 (Day.Ts.mk (e 13) (e 14).int) → (Day.HB.i64 z0 && (Day.Ts.ok (Day.Ts.mk (e 13) (e 14).int) && Day.fewR (Day.Ts.mk (e 13) (e 14).int) 100)) = true →
  ((e 57).bool = true ∧ (e 54).bool = true ∧ (e 22).bool = true ∧ (e 15).bool = true) ∧ (((r1)).a 0 = (e 104).int ∧ ((r1)).a 1 = (e 105).int ∧ ((r1)).a 2 = (e 106).int ∧ ((r1)).a 3 = (e 107).int ∧ ((r1)).a 4 = (e 108).int ∧ ((r1)).a 5 = (e 109).int ∧ ((r1)).a 6 = (e 110).int ∧ ((r1)).a 7 = (e 111).int ∧ ((r1)).port = (e 112).int ∧ ((r1)).age = (e 113).int ∧ ((r1)).hold = (e 114).int ∧ ((r1)).pos = (e 115).int ∧ ((Day.runL (e 0).int z0 (Day.Ts.mk (e 13) (e 14).int))).1 = (e 116) ∧ ((Day.runL (e 0).int z0 (Day.Ts.mk (e 13) (e 14).int))).2 = (e 90).int ∧ Day.runE (e 0).int z0 (Day.Ts.mk (e 13) (e 14).int) = (e 91).int) := by
 intro z0 hz0 r1 hr1 hp
 subst hz0 hr1
 simp only [g_hub_Run, FactsQ, Def.q, updQ, L.ev_var, L.ev_n, L.ev_t, L.ev_e, L.ev, A.int_i, A.bool_b, A.str_v, A.els_l, List.map_cons, List.map_nil, Nat.zero_add, Nat.add_zero, and_true, true_and, Nat.reduceAdd, Nat.one_mul] at H
 simp only [arI, dvI, btI, cmpI, shI, ifQ, updV, ltQ, and_true, true_and] at H
 obtain ⟨q117, q116, ⟨q115, -⟩, ⟨q114, -⟩, ⟨q113, -⟩, ⟨q112, -⟩, ⟨q111, -⟩, ⟨q110, -⟩, ⟨q109, -⟩, ⟨q108, -⟩, ⟨q107, -⟩, ⟨q106, -⟩, ⟨q105, -⟩, ⟨q104, -⟩, ⟨q103, -⟩, ⟨q102, -⟩, ⟨q101, -⟩, ⟨q100, -⟩, ⟨q99, -⟩, ⟨q98, -⟩, ⟨q97, -⟩, ⟨q96, -⟩, ⟨q95, -⟩, ⟨q94, -⟩, ⟨q93, -⟩, ⟨q92, -⟩, ⟨q91, -⟩, ⟨q90, -⟩, q89, q88, q87, ⟨q86, -⟩, ⟨q85, -⟩, ⟨q84, -⟩, ⟨q83, -⟩, ⟨q82, -⟩, ⟨q81, -⟩, ⟨q80, -⟩, ⟨q79, -⟩, ⟨q78, -⟩, ⟨q77, -⟩, ⟨q76, -⟩, ⟨q75, -⟩, ⟨q74, -⟩, ⟨q73, -⟩, ⟨q72, -⟩, ⟨q71, -⟩, ⟨q70, -⟩, ⟨q69, -⟩, ⟨q68, -⟩, ⟨q67, -⟩, ⟨q66, -⟩, ⟨q65, -⟩, ⟨q64, -⟩, ⟨q63, -⟩, ⟨q62, -⟩, ⟨q61, -⟩, q60, q59, q58, q57, q56, q55, q54, q24, q23, q22, q21, q20, q19, q18, q17, q15⟩ := H
 replace q24 := out_L1800 q24 _ rfl _ rfl
 obtain ⟨q24, q25, q26, q27, q28, q29, q30, q31, q32, q33, q34, q35, q36, q37, q38, q39, q40, q41, q42, q43, q44, q45, q46, q47, q48, q49, q50, q51, q52, q53⟩ := q24
 replace q15 := out_vote_Right q15 _ rfl
 obtain ⟨q15, q16⟩ := q15
 simp only [L.ev_var, L.ev_n, L.ev_t, L.ev_e, L.ev, A.int_i, A.bool_b, A.str_v] at q24 q25 q26 q27 q28 q29 q30 q31 q32 q33 q34 q35 q36 q37 q38 q39 q40 q41 q42 q43 q44 q45 q46 q47 q48 q49 q50 q51 q52 q53 q15 q16
 generalize (e 0).int = x0, (e 1).int = x1, (e 2).int = x2, (e 3).int = x3, (e 4).int = x4, (e 5).int = x5, (e 6).int = x6, (e 7).int = x7, (e 8).int = x8, (e 9).int = x9, (e 10).int = x10, (e 11).int = x11, (e 12).int = x12, e 13 = x13, (e 14).int = x14, (e 15).bool = v15, (e 16).bool = v16, (e 17).bool = v17, (e 18).bool = v18, (e 19).bool = v19, (e 20).bool = v20, (e 21).bool = v21, (e 22).bool = v22, e 23 = v23, (e 24).bool = v24, (e 25).int = v25, (e 26).int = v26, (e 27).int = v27, (e 28).int = v28, (e 29).int = v29, (e 30).int = v30, (e 31).int = v31, (e 32).int = v32, (e 33).int = v33, (e 34).int = v34, (e 35).int = v35, (e 36).int = v36, (e 37).int = v37, e 38 = v38, (e 39).bool = v39, (e 40).int = v40, (e 41).int = v41, (e 42).int = v42, (e 43).int = v43, (e 44).int = v44, (e 45).int = v45, (e 46).int = v46, (e 47).int = v47, (e 48).int = v48, (e 49).int = v49, (e 50).int = v50, (e 51).int = v51, e 52 = v52, (e 53).bool = v53, (e 54).bool = v54, (e 55).bool = v55, (e 56).bool = v56, (e 57).bool = v57, (e 58).bool = v58, (e 59).bool = v59, (e 60).bool = v60, (e 61).int = v61, (e 62).int = v62, (e 63).int = v63, (e 64).int = v64, (e 65).int = v65, (e 66).int = v66, (e 67).int = v67, (e 68).int = v68, (e 69).int = v69, (e 70).int = v70, (e 71).int = v71, (e 72).int = v72, (e 73).int = v73, (e 74).int = v74, (e 75).int = v75, (e 76).int = v76, (e 77).int = v77, (e 78).int = v78, (e 79).int = v79, (e 80).int = v80, (e 81).int = v81, (e 82).int = v82, (e 83).int = v83, (e 84).int = v84, (e 85).int = v85, (e 86).int = v86, e 87 = v87, (e 88).bool = v88, (e 89).bool = v89, (e 90).int = v90, (e 91).int = v91, (e 92).int = v92, (e 93).int = v93, (e 94).int = v94, (e 95).int = v95, (e 96).int = v96, (e 97).int = v97, (e 98).int = v98, (e 99).int = v99, (e 100).int = v100, (e 101).int = v101, (e 102).int = v102, (e 103).int = v103, (e 104).int = v104, (e 105).int = v105, (e 106).int = v106, (e 107).int = v107, (e 108).int = v108, (e 109).int = v109, (e 110).int = v110, (e 111).int = v111, (e 112).int = v112, (e 113).int = v113, (e 114).int = v114, (e 115).int = v115, e 116 = v116, (e 117).bool = v117 at *
 generalize hH : (Day.HB.mk [x1, x2, x3, x4, x5, x6, x7, x8] x9 x10 x11 x12) = h at *
 have g0 : x1 = h.a 0 ∧ x2 = h.a 1 ∧ x3 = h.a 2 ∧ x4 = h.a 3 ∧ x5 = h.a 4 ∧ x6 = h.a 5 ∧ x7 = h.a 6 ∧ x8 = h.a 7 ∧ x9 = h.port ∧ x10 = h.age ∧ x11 = h.hold ∧ x12 = h.pos := by subst hH; simp [Day.HB.a]
 obtain ⟨a1, a2, a3, a4, a5, a6, a7, a8, a9, a10, a11, a12⟩ := g0
 clear hH
 generalize hT : Day.Ts.mk x13 x14 = T at *
 have hn : x14 = T.n := by rw [← hT]
 clear hT
 simp only [Bool.and_eq_true] at hp
 obtain ⟨hi, hok, hF⟩ := hp
 have hok2 : 0 ≤ T.n := by simp only [Day.Ts.ok, Bool.and_eq_true, decide_eq_true_eq] at hok; exact hok.1
 have hN := Day.few_n hF
 have hz : v23 = Day.zerosF T.n := by rw [q23, hn]; rfl
 cases hr : Day.rightH x0 h with
 | false =>
  have hb : Day.runB x0 h T = false := by simp [Day.runB, hr]
  have he : Day.runE x0 h T = 1 := by simp [Day.runE, hr]
  rw [hr] at q16
  subst_vars
  simp [hi, hb, he, Day.runH, Day.runL, Day.noHB, Day.HB.a]
 | true =>
  have hP := Day.runP_start hr hF hok2
  have he : Day.runE x0 h T = (Day.runGo x0 T 0 h (Day.zerosF T.n)).1 := by simp [Day.runE, hr]
  have hb : Day.runB x0 h T = Day.eqB (Day.runGo x0 T 0 h (Day.zerosF T.n)).1 0 := by simp [Day.runB, hr, he]
  rw [hr] at q16
  simp only [hz] at q24 q25 q26 q27 q28 q29 q30 q31 q32 q33 q34 q35 q36 q37 q38 q39 q40 q41 q42 q43 q44 q45 q46 q47 q48 q49 q50 q51 q52 q53
  rw [hP] at q24
  unfold Day.runH Day.runL
  rw [he, hb]
  clear he hb hz q23 hP
  generalize Day.runGo x0 T 0 h (Day.zerosF T.n) = r at *
  obtain ⟨r1, r2, r3⟩ := r
  by_cases c : r1 = 0
  ·subst_vars
   simp [hi, hok2, Day.eqB, Day.neB]
   omega
  ·have c0 : Day.eqB r1 0 = false := by simp [Day.eqB, c]
   have c1 : Day.neB r1 0 = true := by simp [Day.neB, c]
   simp only [c0, c1] at *
   subst_vars
   simp [hi, hok2, Day.noHB, Day.HB.a]
   omega
def lp_1810 : Lp := ⟨121, [false, true, false, true, true, true], 1810, 32, 31, 3, ⟨frS 47 [(0, .pv (.one (.k (.int .i64 (V 0))))), (1, .pv (.agg [.k (.int .i64 (V 1)), .k (.int .i64 (V 2)), .k (.int .i64 (V 3)), .k (.int .i64 (V 4)), .k (.int .i64 (V 5)), .k (.int .i64 (V 6)), .k (.int .i64 (V 7)), .k (.int .i64 (V 8)), .k (.int .i64 (V 9)), .k (.int .i64 (V 10)), .k (.int .i64 (V 11)), .k (.int .i64 (V 12))])), (2, .pv (.one (.k (.fsl 0 (V 13))))), (4, .pv (.one (.k (.ptr 1 0)))), (6, .pv (.one (.k (.ptr 2 0)))), (7, .pv (.one (.k (.nilslc)))), (8, .pv (.one (.k (.int .i64 (N 0))))), (9, .pv (.one (.k (.lsl 3 (V 14))))), (10, .pv (.one (.k (.int .i64 (V 15))))), (14, .pv (.one (.k (.int .i64 (V 0))))), (15, .pv (.agg [.k (.int .i64 (V 1)), .k (.int .i64 (V 2)), .k (.int .i64 (V 3)), .k (.int .i64 (V 4)), .k (.int .i64 (V 5)), .k (.int .i64 (V 6)), .k (.int .i64 (V 7)), .k (.int .i64 (V 8)), .k (.int .i64 (V 9)), .k (.int .i64 (V 10)), .k (.int .i64 (V 11)), .k (.int .i64 (V 12))])), (16, .pv (.one (.k (.bool (V 16))))), (17, .pv (.one (.k (.bool (V 17)))))], [⟨false, 0, 0, [], some ⟨false, 0, [.sl [.int .i64, .int .i64]], V 18, V 13⟩⟩, ⟨true, 77, 12, [.k (.int .i64 (V 19)), .k (.int .i64 (V 20)), .k (.int .i64 (V 21)), .k (.int .i64 (V 22)), .k (.int .i64 (V 23)), .k (.int .i64 (V 24)), .k (.int .i64 (V 25)), .k (.int .i64 (V 26)), .k (.int .i64 (V 27)), .k (.int .i64 (V 28)), .k (.int .i64 (V 29)), .k (.int .i64 (V 30))], none⟩, ⟨true, 77, 12, [.k (.int .i64 (N 0)), .k (.int .i64 (N 0)), .k (.int .i64 (N 0)), .k (.int .i64 (N 0)), .k (.int .i64 (N 0)), .k (.int .i64 (N 0)), .k (.int .i64 (N 0)), .k (.int .i64 (N 0)), .k (.int .i64 (N 0)), .k (.int .i64 (N 0)), .k (.int .i64 (N 0)), .k (.int .i64 (N 0))], none⟩, ⟨false, 0, 0, [], some ⟨true, 57, [.int .i64, .int .i64], V 31, V 14⟩⟩], B true⟩, [(.ret, ⟨frS 47 [(0, .pv (.one (.k (.int .i64 (V 0))))), (1, .pv (.agg [.k (.int .i64 (V 1)), .k (.int .i64 (V 2)), .k (.int .i64 (V 3)), .k (.int .i64 (V 4)), .k (.int .i64 (V 5)), .k (.int .i64 (V 6)), .k (.int .i64 (V 7)), .k (.int .i64 (V 8)), .k (.int .i64 (V 9)), .k (.int .i64 (V 10)), .k (.int .i64 (V 11)), .k (.int .i64 (V 12))])), (4, .pv (.one (.k (.ptr 1 0)))), (6, .pv (.one (.k (.ptr 2 0)))), (7, .pv (.one (.k (.nilslc)))), (8, .pv (.one (.k (.int .i64 (V 32))))), (9, .pv (.one (.k (.lsl 3 (V 33))))), (14, .pv (.one (.k (.int .i64 (V 0))))), (15, .pv (.agg [.k (.int .i64 (V 1)), .k (.int .i64 (V 2)), .k (.int .i64 (V 3)), .k (.int .i64 (V 4)), .k (.int .i64 (V 5)), .k (.int .i64 (V 6)), .k (.int .i64 (V 7)), .k (.int .i64 (V 8)), .k (.int .i64 (V 9)), .k (.int .i64 (V 10)), .k (.int .i64 (V 11)), .k (.int .i64 (V 12))])), (16, .pv (.one (.k (.bool (V 16))))), (17, .pv (.one (.k (.bool (V 17)))))], [⟨false, 0, 0, [], some ⟨false, 0, [.sl [.int .i64, .int .i64]], V 18, V 13⟩⟩, ⟨true, 77, 12, [.k (.int .i64 (V 34)), .k (.int .i64 (V 35)), .k (.int .i64 (V 36)), .k (.int .i64 (V 37)), .k (.int .i64 (V 38)), .k (.int .i64 (V 39)), .k (.int .i64 (V 40)), .k (.int .i64 (V 41)), .k (.int .i64 (V 42)), .k (.int .i64 (V 43)), .k (.int .i64 (V 44)), .k (.int .i64 (V 45))], none⟩, ⟨true, 77, 12, [.k (.int .i64 (N 0)), .k (.int .i64 (N 0)), .k (.int .i64 (N 0)), .k (.int .i64 (N 0)), .k (.int .i64 (N 0)), .k (.int .i64 (N 0)), .k (.int .i64 (N 0)), .k (.int .i64 (N 0)), .k (.int .i64 (N 0)), .k (.int .i64 (N 0)), .k (.int .i64 (N 0)), .k (.int .i64 (N 0))], none⟩, ⟨false, 0, 0, [], some ⟨true, 57, [.int .i64, .int .i64], V 46, V 33⟩⟩], V 47⟩), (.exit 0, ⟨frS 47 [(0, .pv (.one (.k (.int .i64 (V 0))))), (1, .pv (.agg [.k (.int .i64 (V 1)), .k (.int .i64 (V 2)), .k (.int .i64 (V 3)), .k (.int .i64 (V 4)), .k (.int .i64 (V 5)), .k (.int .i64 (V 6)), .k (.int .i64 (V 7)), .k (.int .i64 (V 8)), .k (.int .i64 (V 9)), .k (.int .i64 (V 10)), .k (.int .i64 (V 11)), .k (.int .i64 (V 12))])), (4, .pv (.one (.k (.ptr 1 0)))), (6, .pv (.one (.k (.ptr 2 0)))), (7, .pv (.one (.k (.nilslc)))), (8, .pv (.one (.k (.int .i64 (N 0))))), (9, .pv (.one (.k (.lsl 3 (V 48))))), (14, .pv (.one (.k (.int .i64 (V 0))))), (15, .pv (.agg [.k (.int .i64 (V 1)), .k (.int .i64 (V 2)), .k (.int .i64 (V 3)), .k (.int .i64 (V 4)), .k (.int .i64 (V 5)), .k (.int .i64 (V 6)), .k (.int .i64 (V 7)), .k (.int .i64 (V 8)), .k (.int .i64 (V 9)), .k (.int .i64 (V 10)), .k (.int .i64 (V 11)), .k (.int .i64 (V 12))])), (16, .pv (.one (.k (.bool (V 16))))), (17, .pv (.one (.k (.bool (V 17)))))], [⟨false, 0, 0, [], some ⟨false, 0, [.sl [.int .i64, .int .i64]], V 18, V 13⟩⟩, ⟨true, 77, 12, [.k (.int .i64 (V 49)), .k (.int .i64 (V 50)), .k (.int .i64 (V 51)), .k (.int .i64 (V 52)), .k (.int .i64 (V 53)), .k (.int .i64 (V 54)), .k (.int .i64 (V 55)), .k (.int .i64 (V 56)), .k (.int .i64 (V 57)), .k (.int .i64 (V 58)), .k (.int .i64 (V 59)), .k (.int .i64 (V 60))], none⟩, ⟨true, 77, 12, [.k (.int .i64 (N 0)), .k (.int .i64 (N 0)), .k (.int .i64 (N 0)), .k (.int .i64 (N 0)), .k (.int .i64 (N 0)), .k (.int .i64 (N 0)), .k (.int .i64 (N 0)), .k (.int .i64 (N 0)), .k (.int .i64 (N 0)), .k (.int .i64 (N 0)), .k (.int .i64 (N 0)), .k (.int .i64 (N 0))], none⟩, ⟨false, 0, 0, [], some ⟨true, 57, [.int .i64, .int .i64], V 61, V 48⟩⟩], V 62⟩)], [true, true, true, true, true, true, true, true, true, true, true, true, true, true, false, false, true, true, true, false, false, false, false, false, false, false, false, false, false, false, false, false], [.i, .i, .i, .i, .i, .i, .i, .i, .i, .i, .i, .i, .i, .i, .any, .b, .i, .i, .i, .i, .i, .i, .i, .i, .i, .i, .i, .i, .i, .any, .b]⟩
def g_L1810 : G := ⟨75, [⟨74, .and, [V 32, V 72]⟩, ⟨73, .and, [V 32, V 61]⟩, ⟨72, .and, [V 69, V 70]⟩, ⟨71, (.ar .add .i64), [V 15, N 1]⟩, ⟨70, .and, [V 69, V 60]⟩, ⟨69, .not, [V 61]⟩, ⟨68, .imp, [V 61, V 67]⟩, ⟨67, .and, [V 65, V 66]⟩, ⟨66, (.cmp .lss), [V 64, N 1000001]⟩, ⟨65, (.cmp .leq), [N 0, V 64]⟩, ⟨64, (.lln 2), [V 63]⟩, ⟨63, .cat, [V 31, V 62]⟩, ⟨62, .mkl, [V 52, V 53]⟩, ⟨61, .and, [V 57, V 59]⟩, ⟨60, .and, [V 56, V 58]⟩, ⟨59, .and, [V 32, V 57]⟩, ⟨58, .and, [V 32, V 56]⟩, ⟨57, .not, [V 56]⟩, ⟨56, (.cmp .neq), [V 54, N 0]⟩, ⟨55, .imp, [V 32, V 39]⟩, ⟨39, (.call 122), [V 0, V 19, V 20, V 21, V 22, V 23, V 24, V 25, V 26, V 27, V 28, V 29, V 30, V 37, V 38]⟩, ⟨38, (.lln 2), [V 37]⟩, ⟨37, (.pix 0 1), [V 18, V 15]⟩, ⟨36, .imp, [V 32, V 35]⟩, ⟨35, .and, [V 34, V 32]⟩, ⟨34, (.cmp .leq), [N 0, V 15]⟩, ⟨33, .not, [V 32]⟩, ⟨32, (.cmp .lss), [V 15, V 13]⟩], [V 68, V 55, V 36], []⟩
def m_1810 (al : List A) : Nat := (((Day.Ts.mk (ge al 18) (gi al 13))).n - (gi al 15)).toNat
theorem lpureQ_1810 (e : Nat → A) (H : FactsQ T e g_L1810.defs) : ∀ z0, z0 = (Day.HB.mk [(e 19).int, (e 20).int, (e 21).int, (e 22).int, (e 23).int, (e 24).int, (e 25).int, (e 26).int] (e 27).int (e 28).int (e 29).int (e 30).int) → ∀ r1, r1 = (Day.refGo (e 0).int (Day.Ts.mk (e 18) (e 13).int) (e 15).int z0 (e 31)).2.1 → ∀ y0, y0 = (Day.HB.mk [(e 40).int, (e 41).int, (e 42).int, (e 43).int, (e 44).int, (e 45).int, (e 46).int, (e 47).int] (e 48).int (e 49).int (e 50).int (e 51).int) → ∀ s1, s1 = (Day.refGo (e 0).int (Day.Ts.mk (e 18) (e 13).int) (e 71).int y0 (e 63)).2.1 → (Day.refP (e 0).int z0 (Day.Ts.mk (e 18) (e 13).int) (e 15).int (e 31) && Day.eqB (e 14).int (Day.lenF (e 31))) = true →
  ((e 68).bool = true ∧ (e 55).bool = true ∧ (e 36).bool = true) ∧ ((e 73).bool = true → (Day.refP (e 0).int y0 (Day.Ts.mk (e 18) (e 13).int) (e 71).int (e 63) && Day.eqB (e 64).int (Day.lenF (e 63))) = true ∧ ((Day.refGo (e 0).int (Day.Ts.mk (e 18) (e 13).int) (e 71).int y0 (e 63)).1 = (Day.refGo (e 0).int (Day.Ts.mk (e 18) (e 13).int) (e 15).int z0 (e 31)).1 ∧ Day.lenF (Day.refGo (e 0).int (Day.Ts.mk (e 18) (e 13).int) (e 71).int y0 (e 63)).2.2 = Day.lenF (Day.refGo (e 0).int (Day.Ts.mk (e 18) (e 13).int) (e 15).int z0 (e 31)).2.2 ∧ ((s1)).a 0 = ((r1)).a 0 ∧ ((s1)).a 1 = ((r1)).a 1 ∧ ((s1)).a 2 = ((r1)).a 2 ∧ ((s1)).a 3 = ((r1)).a 3 ∧ ((s1)).a 4 = ((r1)).a 4 ∧ ((s1)).a 5 = ((r1)).a 5 ∧ ((s1)).a 6 = ((r1)).a 6 ∧ ((s1)).a 7 = ((r1)).a 7 ∧ ((s1)).port = ((r1)).port ∧ ((s1)).age = ((r1)).age ∧ ((s1)).hold = ((r1)).hold ∧ ((s1)).pos = ((r1)).pos ∧ (Day.refGo (e 0).int (Day.Ts.mk (e 18) (e 13).int) (e 71).int y0 (e 63)).2.2 = (Day.refGo (e 0).int (Day.Ts.mk (e 18) (e 13).int) (e 15).int z0 (e 31)).2.2 ∧ Day.neB (Day.refGo (e 0).int (Day.Ts.mk (e 18) (e 13).int) (e 71).int y0 (e 63)).1 0 = Day.neB (Day.refGo (e 0).int (Day.Ts.mk (e 18) (e 13).int) (e 15).int z0 (e 31)).1 0 ∧ Day.lenF (Day.refGo (e 0).int (Day.Ts.mk (e 18) (e 13).int) (e 71).int y0 (e 63)).2.2 = Day.lenF (Day.refGo (e 0).int (Day.Ts.mk (e 18) (e 13).int) (e 15).int z0 (e 31)).2.2 ∧ ((s1)).a 0 = ((r1)).a 0 ∧ ((s1)).a 1 = ((r1)).a 1 ∧ ((s1)).a 2 = ((r1)).a 2 ∧ ((s1)).a 3 = ((r1)).a 3 ∧ ((s1)).a 4 = ((r1)).a 4 ∧ ((s1)).a 5 = ((r1)).a 5 ∧ ((s1)).a 6 = ((r1)).a 6 ∧ ((s1)).a 7 = ((r1)).a 7 ∧ ((s1)).port = ((r1)).port ∧ ((s1)).age = ((r1)).age ∧ ((s1)).hold = ((r1)).hold ∧ ((s1)).pos = ((r1)).pos ∧ (Day.refGo (e 0).int (Day.Ts.mk (e 18) (e 13).int) (e 71).int y0 (e 63)).2.2 = (Day.refGo (e 0).int (Day.Ts.mk (e 18) (e 13).int) (e 15).int z0 (e 31)).2.2 ∧ Day.eqB (Day.refGo (e 0).int (Day.Ts.mk (e 18) (e 13).int) (e 71).int y0 (e 63)).1 0 = Day.eqB (Day.refGo (e 0).int (Day.Ts.mk (e 18) (e 13).int) (e 15).int z0 (e 31)).1 0) ∧ (((Day.Ts.mk (e 18) (e 13).int)).n - (e 71).int).toNat < (((Day.Ts.mk (e 18) (e 13).int)).n - (e 15).int).toNat) ∧ ((e 74).bool = true → (e 54).int = (Day.refGo (e 0).int (Day.Ts.mk (e 18) (e 13).int) (e 15).int z0 (e 31)).1 ∧ (e 14).int = Day.lenF (Day.refGo (e 0).int (Day.Ts.mk (e 18) (e 13).int) (e 15).int z0 (e 31)).2.2 ∧ (e 19).int = ((r1)).a 0 ∧ (e 20).int = ((r1)).a 1 ∧ (e 21).int = ((r1)).a 2 ∧ (e 22).int = ((r1)).a 3 ∧ (e 23).int = ((r1)).a 4 ∧ (e 24).int = ((r1)).a 5 ∧ (e 25).int = ((r1)).a 6 ∧ (e 26).int = ((r1)).a 7 ∧ (e 27).int = ((r1)).port ∧ (e 28).int = ((r1)).age ∧ (e 29).int = ((r1)).hold ∧ (e 30).int = ((r1)).pos ∧ (e 31) = (Day.refGo (e 0).int (Day.Ts.mk (e 18) (e 13).int) (e 15).int z0 (e 31)).2.2 ∧ true = Day.neB (Day.refGo (e 0).int (Day.Ts.mk (e 18) (e 13).int) (e 15).int z0 (e 31)).1 0) ∧ ((e 33).bool = true → (e 14).int = Day.lenF (Day.refGo (e 0).int (Day.Ts.mk (e 18) (e 13).int) (e 15).int z0 (e 31)).2.2 ∧ (e 19).int = ((r1)).a 0 ∧ (e 20).int = ((r1)).a 1 ∧ (e 21).int = ((r1)).a 2 ∧ (e 22).int = ((r1)).a 3 ∧ (e 23).int = ((r1)).a 4 ∧ (e 24).int = ((r1)).a 5 ∧ (e 25).int = ((r1)).a 6 ∧ (e 26).int = ((r1)).a 7 ∧ (e 27).int = ((r1)).port ∧ (e 28).int = ((r1)).age ∧ (e 29).int = ((r1)).hold ∧ (e 30).int = ((r1)).pos ∧ (e 31) = (Day.refGo (e 0).int (Day.Ts.mk (e 18) (e 13).int) (e 15).int z0 (e 31)).2.2 ∧ true = Day.eqB (Day.refGo (e 0).int (Day.Ts.mk (e 18) (e 13).int) (e 15).int z0 (e 31)).1 0) := by
 intro z0 hz0 r1 hr1 y0 hy0 s1 hs1 hp
 subst hz0 hr1 hy0 hs1
 simp only [g_L1810, FactsQ, Def.q, updQ, L.ev_var, L.ev_n, L.ev_t, L.ev_e, L.ev, A.int_i, A.bool_b, A.str_v, A.els_l, List.map_cons, List.map_nil, Nat.zero_add, Nat.add_zero, and_true, true_and, Nat.reduceAdd, Nat.one_mul] at H
 simp only [arI, dvI, btI, cmpI, shI, ifQ, updV, ltQ, and_true, true_and] at H
 obtain ⟨q74, q73, q72, ⟨q71, -⟩, q70, q69, q68, q67, q66, q65, q64, q63, q62, q61, q60, q59, q58, q57, q56, q55, q39, q38, q37, q36, q35, q34, q33, q32⟩ := H
 obtain ⟨-, -, -, -, -, -, -, -, -, -, -, -, k52, k53, -⟩ := outI_ref13_Step q39
 unfold isI at k52 k53
 replace q39 := out_ref13_Step q39 _ rfl _ rfl
 obtain ⟨q39, q40, q41, q42, q43, q44, q45, q46, q47, q48, q49, q50, q51, q52, q53, q54⟩ := q39
 simp only [L.ev_var, L.ev_n, L.ev_t, L.ev_e, L.ev, A.int_i, A.bool_b, A.str_v] at q39 q40 q41 q42 q43 q44 q45 q46 q47 q48 q49 q50 q51 q52 q53 q54
 generalize (e 0).int = x0, (e 1).int = x1, (e 2).int = x2, (e 3).int = x3, (e 4).int = x4, (e 5).int = x5, (e 6).int = x6, (e 7).int = x7, (e 8).int = x8, (e 9).int = x9, (e 10).int = x10, (e 11).int = x11, (e 12).int = x12, (e 13).int = x13, (e 14).int = x14, (e 15).int = x15, (e 16).int = x16, (e 17).int = x17, e 18 = x18, (e 19).int = x19, (e 20).int = x20, (e 21).int = x21, (e 22).int = x22, (e 23).int = x23, (e 24).int = x24, (e 25).int = x25, (e 26).int = x26, (e 27).int = x27, (e 28).int = x28, (e 29).int = x29, (e 30).int = x30, e 31 = x31, (e 32).bool = v32, (e 33).bool = v33, (e 34).bool = v34, (e 35).bool = v35, (e 36).bool = v36, (e 38).int = v38, (e 39).bool = v39, (e 40).int = v40, (e 41).int = v41, (e 42).int = v42, (e 43).int = v43, (e 44).int = v44, (e 45).int = v45, (e 46).int = v46, (e 47).int = v47, (e 48).int = v48, (e 49).int = v49, (e 50).int = v50, (e 51).int = v51, (e 52).int = v52, (e 53).int = v53, (e 54).int = v54, (e 55).bool = v55, (e 56).bool = v56, (e 57).bool = v57, (e 58).bool = v58, (e 59).bool = v59, (e 60).bool = v60, (e 61).bool = v61, e 62 = v62, e 63 = v63, (e 64).int = v64, (e 65).bool = v65, (e 66).bool = v66, (e 67).bool = v67, (e 68).bool = v68, (e 69).bool = v69, (e 70).bool = v70, (e 71).int = v71, (e 72).bool = v72, (e 73).bool = v73, (e 74).bool = v74 at *
 rw [k52] at q62
 rw [k53] at q62
 generalize e 37 = v37 at *
 generalize hH : (Day.HB.mk [x19, x20, x21, x22, x23, x24, x25, x26] x27 x28 x29 x30) = h at *
 have g0 : x19 = h.a 0 ∧ x20 = h.a 1 ∧ x21 = h.a 2 ∧ x22 = h.a 3 ∧ x23 = h.a 4 ∧ x24 = h.a 5 ∧ x25 = h.a 6 ∧ x26 = h.a 7 ∧ x27 = h.port ∧ x28 = h.age ∧ x29 = h.hold ∧ x30 = h.pos := by subst hH; simp [Day.HB.a]
 obtain ⟨a1, a2, a3, a4, a5, a6, a7, a8, a9, a10, a11, a12⟩ := g0
 clear hH
 generalize hT : Day.Ts.mk x18 x13 = T at *
 have hn : x13 = T.n := by rw [← hT]
 have hat : Day.Ls.mk v37 v38 = T.at x15 := by rw [q38, q37, ← hT]; rfl
 simp only [hat] at q39 q40 q41 q42 q43 q44 q45 q46 q47 q48 q49 q50 q51 q52 q53 q54
 clear hat hT q37 q38
 simp only [Bool.and_eq_true] at hp
 obtain ⟨hp, hc⟩ := hp
 have hc : x14 = Day.lenF x31 := by simpa [Day.eqB] using hc
 obtain ⟨hr, hF, hi, hN, hl⟩ := Day.refP_all hp
 have hi64 := Day.right_i64 hr
 by_cases hlt : x15 < T.n
 ·have w : IntKind.wrap .i64 (x15 + 1) = x15 + 1 := wrap64 (by omega) (by omega)
  have hok := Day.few_ok hF hi.1 hlt
  rw [w] at q71
  have hx : v63 = Day.catF x31 (Day.hubF x0 h (T.at x15)) := by rw [q63, q62, q52, q53]; rfl
  have hlc := Day.lenF_cat (f := Day.hubF x0 h (T.at x15)) hl
  have hx2 : v64 = x15 + 1 := by rw [q64, hx]; exact hlc.2.2
  have e32 : v32 = true := by rw [q32, hn]; simp [hlt]
  by_cases hg : Day.gateE x0 h (T.at x15) = 0
  ·have st := Day.refGo_go (x := x31) hlt hg
   have hP := Day.refP_next hp hlt hg
   have hmk := Day.mk_HB (Day.hubH x0 h (T.at x15)) (Day.len_hub _ _ _)
   rw [← q40, ← q41, ← q42, ← q43, ← q44, ← q45, ← q46, ← q47, ← q48, ← q49, ← q50, ← q51] at hmk
   rw [hg] at q54
   have h0 : 0 ≤ x15 + 1 := by omega
   have h1 : x15 + 1 < 1000001 := by omega
   have hl3 := hlc.2.2
   rw [hmk, q71, hx, ← st]
   clear hmk st q32 q62 q63 q64 hn q40 q41 q42 q43 q44 q45 q46 q47 q48 q49 q50 q51 q52 q53 hlc
   subst_vars
   simp [hi64, hok, hi, hP, h0, h1, hl3, Day.eqB]
   omega
  ·have st := Day.refGo_bad (x := x31) hlt hg
   rw [st]
   have h0 : (Day.gateE x0 h (T.at x15) == 0) = false := by simp [hg]
   have h1 : Day.neB (Day.gateE x0 h (T.at x15)) 0 = true := by simp [Day.neB, hg]
   clear st hx hx2 q32 q62 q63 q64 hn
   subst_vars
   simp [hi64, hok, hi, hg, h0, h1]
 ·have st := Day.refGo_end (n := x0) (h := h) (x := x31) hlt
  have e32 : v32 = false := by rw [q32, hn]; simp [hlt]
  rw [st]
  clear st q32 hn q62 q63 q64 q39 q40 q41 q42 q43 q44 q45 q46 q47 q48 q49 q50 q51 q52 q53 q54
  subst_vars
  simp [Day.eqB]
theorem lpure_1810 (as : List A) (e : Nat → A) (h1 : as = (List.range 32).map e) (h2 : (t_1810 as).1 = true) (H : FactsQ T e g_L1810.defs) : ObsAll e g_L1810.obs ∧
   (∀ pc ls, some (V 73, [V 0, V 1, V 2, V 3, V 4, V 5, V 6, V 7, V 8, V 9, V 10, V 11, V 12, V 13, V 64, V 71, V 16, V 17, V 18, V 40, V 41, V 42, V 43, V 44, V 45, V 46, V 47, V 48, V 49, V 50, V 51, V 63]) = some (pc, ls) → (pc.ev e).bool = true → (t_1810 (ls.map (L.ev e))).1 = true ∧ (t_1810 (ls.map (L.ev e))).2 = (t_1810 as).2 ∧ m_1810 (ls.map (L.ev e)) < m_1810 as) ∧
   ∀ x ∈ ([(V 74, [some (V 54), some (V 14), some (V 19), some (V 20), some (V 21), some (V 22), some (V 23), some (V 24), some (V 25), some (V 26), some (V 27), some (V 28), some (V 29), some (V 30), some (V 31), some (B true), none, none, none, none, none, none, none, none, none, none, none, none, none, none, none]), (V 33, [none, none, none, none, none, none, none, none, none, none, none, none, none, none, none, none, some (V 14), some (V 19), some (V 20), some (V 21), some (V 22), some (V 23), some (V 24), some (V 25), some (V 26), some (V 27), some (V 28), some (V 29), some (V 30), some (V 31), some (B true)])] : List (L × List (Option L))), (x.1.ev e).bool = true → ∀ (j : Nat) l, x.2[j]? = some (some l) → Teq (lp_1810.tags.getD j .any) (l.ev e) ((t_1810 as).2.getD j (.i 0)) := by
 subst h1
 obtain ⟨ho, h⟩ := lpureQ_1810 e H _ rfl _ rfl _ rfl _ rfl h2
 refine ⟨⟨ho.1, ho.2.1, ho.2.2, trivial⟩, fun pc ls hb hpc => ?_, ?_⟩
 ·injection hb with hb
  injection hb with h3 h4
  subst h3 h4
  have h := h.1 hpc
  refine ⟨h.1, ?_, h.2.2⟩
  have h5 := h.2.1
  obtain ⟨z0, z1, z2, z3, z4, z5, z6, z7, z8, z9, z10, z11, z12, z13, z14, z15, z16, z17, z18, z19, z20, z21, z22, z23, z24, z25, z26, z27, z28, z29, z30⟩ := h5
  exact (consI z0 (consI z1 (consI z2 (consI z3 (consI z4 (consI z5 (consI z6 (consI z7 (consI z8 (consI z9 (consI z10 (consI z11 (consI z12 (consI z13 (consL z14 (consB z15 (consI z16 (consI z17 (consI z18 (consI z19 (consI z20 (consI z21 (consI z22 (consI z23 (consI z24 (consI z25 (consI z26 (consI z27 (consI z28 (consL z29 (consB z30 rfl)))))))))))))))))))))))))))))))
 ·intro x hx hpc j l hj
  simp only [List.mem_cons, List.not_mem_nil, or_false] at hx
  rcases hx with rfl | rfl
  ·have h := h.2.1 hpc
   obtain ⟨z0, z1, z2, z3, z4, z5, z6, z7, z8, z9, z10, z11, z12, z13, z14, z15⟩ := h
   match j, hj with
   | 0, hj => cases hj; exact z0
   | 1, hj => cases hj; exact z1
   | 2, hj => cases hj; exact z2
   | 3, hj => cases hj; exact z3
   | 4, hj => cases hj; exact z4
   | 5, hj => cases hj; exact z5
   | 6, hj => cases hj; exact z6
   | 7, hj => cases hj; exact z7
   | 8, hj => cases hj; exact z8
   | 9, hj => cases hj; exact z9
   | 10, hj => cases hj; exact z10
   | 11, hj => cases hj; exact z11
   | 12, hj => cases hj; exact z12
   | 13, hj => cases hj; exact z13
   | 14, hj => cases hj; exact z14
   | 15, hj => cases hj; exact z15
   | 16, hj => cases hj
   | 17, hj => cases hj
   | 18, hj => cases hj
   | 19, hj => cases hj
   | 20, hj => cases hj
   | 21, hj => cases hj
   | 22, hj => cases hj
   | 23, hj => cases hj
   | 24, hj => cases hj
   | 25, hj => cases hj
   | 26, hj => cases hj
   | 27, hj => cases hj
   | 28, hj => cases hj
   | 29, hj => cases hj
   | 30, hj => cases hj
   | _ + 31, hj => cases hj
  ·have h := h.2.2 hpc
   obtain ⟨z16, z17, z18, z19, z20, z21, z22, z23, z24, z25, z26, z27, z28, z29, z30⟩ := h
   match j, hj with
   | 0, hj => cases hj
   | 1, hj => cases hj
   | 2, hj => cases hj
   | 3, hj => cases hj
   | 4, hj => cases hj
   | 5, hj => cases hj
   | 6, hj => cases hj
   | 7, hj => cases hj
   | 8, hj => cases hj
   | 9, hj => cases hj
   | 10, hj => cases hj
   | 11, hj => cases hj
   | 12, hj => cases hj
   | 13, hj => cases hj
   | 14, hj => cases hj
   | 15, hj => cases hj
   | 16, hj => cases hj; exact z16
   | 17, hj => cases hj; exact z17
   | 18, hj => cases hj; exact z18
   | 19, hj => cases hj; exact z19
   | 20, hj => cases hj; exact z20
   | 21, hj => cases hj; exact z21
   | 22, hj => cases hj; exact z22
   | 23, hj => cases hj; exact z23
   | 24, hj => cases hj; exact z24
   | 25, hj => cases hj; exact z25
   | 26, hj => cases hj; exact z26
   | 27, hj => cases hj; exact z27
   | 28, hj => cases hj; exact z28
   | 29, hj => cases hj; exact z29
   | 30, hj => cases hj; exact z30
   | _ + 31, hj => cases hj
def g_ref13_Run : G := ⟨115, [⟨114, .iteB, [V 18, V 85, V 17]⟩, ⟨113, .iteA, [V 18, V 84, .e]⟩, ⟨112, .iteI, [V 18, V 83, N 0]⟩, ⟨111, .iteI, [V 18, V 82, N 0]⟩, ⟨110, .iteI, [V 18, V 81, N 0]⟩, ⟨109, .iteI, [V 18, V 80, N 0]⟩, ⟨108, .iteI, [V 18, V 79, N 0]⟩, ⟨107, .iteI, [V 18, V 78, N 0]⟩, ⟨106, .iteI, [V 18, V 77, N 0]⟩, ⟨105, .iteI, [V 18, V 76, N 0]⟩, ⟨104, .iteI, [V 18, V 75, N 0]⟩, ⟨103, .iteI, [V 18, V 74, N 0]⟩, ⟨102, .iteI, [V 18, V 73, N 0]⟩, ⟨101, .iteI, [V 18, V 72, N 0]⟩, ⟨100, .iteI, [V 18, V 71, V 12]⟩, ⟨99, .iteI, [V 18, V 70, V 11]⟩, ⟨98, .iteI, [V 18, V 69, V 10]⟩, ⟨97, .iteI, [V 18, V 68, V 9]⟩, ⟨96, .iteI, [V 18, V 67, V 8]⟩, ⟨95, .iteI, [V 18, V 66, V 7]⟩, ⟨94, .iteI, [V 18, V 65, V 6]⟩, ⟨93, .iteI, [V 18, V 64, V 5]⟩, ⟨92, .iteI, [V 18, V 63, V 4]⟩, ⟨91, .iteI, [V 18, V 62, V 3]⟩, ⟨90, .iteI, [V 18, V 61, V 2]⟩, ⟨89, .iteI, [V 18, V 60, V 1]⟩, ⟨88, .iteI, [V 18, V 59, N 1]⟩, ⟨87, .iteI, [V 18, V 58, N 0]⟩, ⟨86, .not, [V 18]⟩, ⟨85, .iteB, [V 56, V 56, V 55]⟩, ⟨84, .iteA, [V 56, V 49, .e]⟩, ⟨83, .iteI, [V 56, V 48, N 0]⟩, ⟨82, .iteI, [V 56, V 47, N 0]⟩, ⟨81, .iteI, [V 56, V 46, N 0]⟩, ⟨80, .iteI, [V 56, V 45, N 0]⟩, ⟨79, .iteI, [V 56, V 44, N 0]⟩, ⟨78, .iteI, [V 56, V 43, N 0]⟩, ⟨77, .iteI, [V 56, V 42, N 0]⟩, ⟨76, .iteI, [V 56, V 41, N 0]⟩, ⟨75, .iteI, [V 56, V 40, N 0]⟩, ⟨74, .iteI, [V 56, V 39, N 0]⟩, ⟨73, .iteI, [V 56, V 38, N 0]⟩, ⟨72, .iteI, [V 56, V 37, N 0]⟩, ⟨71, .iteI, [V 56, V 48, V 33]⟩, ⟨70, .iteI, [V 56, V 47, V 32]⟩, ⟨69, .iteI, [V 56, V 46, V 31]⟩, ⟨68, .iteI, [V 56, V 45, V 30]⟩, ⟨67, .iteI, [V 56, V 44, V 29]⟩, ⟨66, .iteI, [V 56, V 43, V 28]⟩, ⟨65, .iteI, [V 56, V 42, V 27]⟩, ⟨64, .iteI, [V 56, V 41, V 26]⟩, ⟨63, .iteI, [V 56, V 40, V 25]⟩, ⟨62, .iteI, [V 56, V 39, V 24]⟩, ⟨61, .iteI, [V 56, V 38, V 23]⟩, ⟨60, .iteI, [V 56, V 37, V 22]⟩, ⟨59, .iteI, [V 56, N 0, V 20]⟩, ⟨58, .iteI, [V 56, V 36, N 0]⟩, ⟨57, .not, [V 56]⟩, ⟨56, .and, [V 18, V 50]⟩, ⟨55, .and, [V 18, V 35]⟩, ⟨54, .imp, [V 18, V 53]⟩, ⟨53, .not, [V 52]⟩, ⟨52, .and, [V 35, V 50]⟩, ⟨51, .imp, [V 18, V 19]⟩, ⟨19, (.call 1810), [V 0, V 1, V 2, V 3, V 4, V 5, V 6, V 7, V 8, V 9, V 10, V 11, V 12, V 14, N 0, N 0, V 16, V 17, V 13, V 1, V 2, V 3, V 4, V 5, V 6, V 7, V 8, V 9, V 10, V 11, V 12, .e]⟩, ⟨18, .not, [V 17]⟩, ⟨17, .not, [V 16]⟩, ⟨15, (.call 97), [V 0, V 1, V 2, V 3, V 4, V 5, V 6, V 7, V 8, V 9, V 10, V 11, V 12]⟩], [V 54, V 51, V 15], []⟩
theorem pure_ref13_Run (e : Nat → A) (H : FactsQ T e g_ref13_Run.defs) : ∀ z0, z0 = (Day.HB.mk [(e 1).int, (e 2).int, (e 3).int, (e 4).int, (e 5).int, (e 6).int, (e 7).int, (e 8).int] (e 9).int (e 10).int (e 11).int (e 12).int) → ∀ r1, r1 = Day.runH (e 0).int z0 (Day.Ts.mk (e 13) (e 14).int) → (Day.HB.i64 z0 && (Day.Ts.ok (Day.Ts.mk (e 13) (e 14).int) && Day.fewR (Day.Ts.mk (e 13) (e 14).int) 100)) = true →
  ((e 54).bool = true ∧ (e 51).bool = true ∧ (e 15).bool = true) ∧ (((r1)).a 0 = (e 101).int ∧ ((r1)).a 1 = (e 102).int ∧ ((r1)).a 2 = (e 103).int ∧ ((r1)).a 3 = (e 104).int ∧ ((r1)).a 4 = (e 105).int ∧ ((r1)).a 5 = (e 106).int ∧ ((r1)).a 6 = (e 107).int ∧ ((r1)).a 7 = (e 108).int ∧ ((r1)).port = (e 109).int ∧ ((r1)).age = (e 110).int ∧ ((r1)).hold = (e 111).int ∧ ((r1)).pos = (e 112).int ∧ ((Day.runL (e 0).int z0 (Day.Ts.mk (e 13) (e 14).int))).1 = (e 113) ∧ ((Day.runL (e 0).int z0 (Day.Ts.mk (e 13) (e 14).int))).2 = (e 87).int ∧ Day.runE (e 0).int z0 (Day.Ts.mk (e 13) (e 14).int) = (e 88).int) := by
 intro z0 hz0 r1 hr1 hp
 subst hz0 hr1
 simp only [g_ref13_Run, FactsQ, Def.q, updQ, L.ev_var, L.ev_n, L.ev_t, L.ev_e, L.ev, A.int_i, A.bool_b, A.str_v, A.els_l, List.map_cons, List.map_nil, Nat.zero_add, Nat.add_zero, and_true, true_and, Nat.reduceAdd, Nat.one_mul] at H
 simp only [arI, dvI, btI, cmpI, shI, ifQ, updV, ltQ, and_true, true_and] at H
 obtain ⟨q114, q113, ⟨q112, -⟩, ⟨q111, -⟩, ⟨q110, -⟩, ⟨q109, -⟩, ⟨q108, -⟩, ⟨q107, -⟩, ⟨q106, -⟩, ⟨q105, -⟩, ⟨q104, -⟩, ⟨q103, -⟩, ⟨q102, -⟩, ⟨q101, -⟩, ⟨q100, -⟩, ⟨q99, -⟩, ⟨q98, -⟩, ⟨q97, -⟩, ⟨q96, -⟩, ⟨q95, -⟩, ⟨q94, -⟩, ⟨q93, -⟩, ⟨q92, -⟩, ⟨q91, -⟩, ⟨q90, -⟩, ⟨q89, -⟩, ⟨q88, -⟩, ⟨q87, -⟩, q86, q85, q84, ⟨q83, -⟩, ⟨q82, -⟩, ⟨q81, -⟩, ⟨q80, -⟩, ⟨q79, -⟩, ⟨q78, -⟩, ⟨q77, -⟩, ⟨q76, -⟩, ⟨q75, -⟩, ⟨q74, -⟩, ⟨q73, -⟩, ⟨q72, -⟩, ⟨q71, -⟩, ⟨q70, -⟩, ⟨q69, -⟩, ⟨q68, -⟩, ⟨q67, -⟩, ⟨q66, -⟩, ⟨q65, -⟩, ⟨q64, -⟩, ⟨q63, -⟩, ⟨q62, -⟩, ⟨q61, -⟩, ⟨q60, -⟩, ⟨q59, -⟩, ⟨q58, -⟩, q57, q56, q55, q54, q53, q52, q51, q19, q18, q17, q15⟩ := H
 replace q19 := out_L1810 q19 _ rfl _ rfl
 obtain ⟨q19, q20, q21, q22, q23, q24, q25, q26, q27, q28, q29, q30, q31, q32, q33, q34, q35, q36, q37, q38, q39, q40, q41, q42, q43, q44, q45, q46, q47, q48, q49, q50⟩ := q19
 replace q15 := out_ref11_Right q15 _ rfl
 obtain ⟨q15, q16⟩ := q15
 simp only [L.ev_var, L.ev_n, L.ev_t, L.ev_e, L.ev, A.int_i, A.bool_b, A.str_v] at q19 q20 q21 q22 q23 q24 q25 q26 q27 q28 q29 q30 q31 q32 q33 q34 q35 q36 q37 q38 q39 q40 q41 q42 q43 q44 q45 q46 q47 q48 q49 q50 q15 q16
 generalize (e 0).int = x0, (e 1).int = x1, (e 2).int = x2, (e 3).int = x3, (e 4).int = x4, (e 5).int = x5, (e 6).int = x6, (e 7).int = x7, (e 8).int = x8, (e 9).int = x9, (e 10).int = x10, (e 11).int = x11, (e 12).int = x12, e 13 = x13, (e 14).int = x14, (e 15).bool = v15, (e 16).bool = v16, (e 17).bool = v17, (e 18).bool = v18, (e 19).bool = v19, (e 20).int = v20, (e 21).int = v21, (e 22).int = v22, (e 23).int = v23, (e 24).int = v24, (e 25).int = v25, (e 26).int = v26, (e 27).int = v27, (e 28).int = v28, (e 29).int = v29, (e 30).int = v30, (e 31).int = v31, (e 32).int = v32, (e 33).int = v33, e 34 = v34, (e 35).bool = v35, (e 36).int = v36, (e 37).int = v37, (e 38).int = v38, (e 39).int = v39, (e 40).int = v40, (e 41).int = v41, (e 42).int = v42, (e 43).int = v43, (e 44).int = v44, (e 45).int = v45, (e 46).int = v46, (e 47).int = v47, (e 48).int = v48, e 49 = v49, (e 50).bool = v50, (e 51).bool = v51, (e 52).bool = v52, (e 53).bool = v53, (e 54).bool = v54, (e 55).bool = v55, (e 56).bool = v56, (e 57).bool = v57, (e 58).int = v58, (e 59).int = v59, (e 60).int = v60, (e 61).int = v61, (e 62).int = v62, (e 63).int = v63, (e 64).int = v64, (e 65).int = v65, (e 66).int = v66, (e 67).int = v67, (e 68).int = v68, (e 69).int = v69, (e 70).int = v70, (e 71).int = v71, (e 72).int = v72, (e 73).int = v73, (e 74).int = v74, (e 75).int = v75, (e 76).int = v76, (e 77).int = v77, (e 78).int = v78, (e 79).int = v79, (e 80).int = v80, (e 81).int = v81, (e 82).int = v82, (e 83).int = v83, e 84 = v84, (e 85).bool = v85, (e 86).bool = v86, (e 87).int = v87, (e 88).int = v88, (e 89).int = v89, (e 90).int = v90, (e 91).int = v91, (e 92).int = v92, (e 93).int = v93, (e 94).int = v94, (e 95).int = v95, (e 96).int = v96, (e 97).int = v97, (e 98).int = v98, (e 99).int = v99, (e 100).int = v100, (e 101).int = v101, (e 102).int = v102, (e 103).int = v103, (e 104).int = v104, (e 105).int = v105, (e 106).int = v106, (e 107).int = v107, (e 108).int = v108, (e 109).int = v109, (e 110).int = v110, (e 111).int = v111, (e 112).int = v112, e 113 = v113, (e 114).bool = v114 at *
 generalize hH : (Day.HB.mk [x1, x2, x3, x4, x5, x6, x7, x8] x9 x10 x11 x12) = h at *
 have g0 : x1 = h.a 0 ∧ x2 = h.a 1 ∧ x3 = h.a 2 ∧ x4 = h.a 3 ∧ x5 = h.a 4 ∧ x6 = h.a 5 ∧ x7 = h.a 6 ∧ x8 = h.a 7 ∧ x9 = h.port ∧ x10 = h.age ∧ x11 = h.hold ∧ x12 = h.pos := by subst hH; simp [Day.HB.a]
 obtain ⟨a1, a2, a3, a4, a5, a6, a7, a8, a9, a10, a11, a12⟩ := g0
 clear hH
 generalize hT : Day.Ts.mk x13 x14 = T at *
 have hn : x14 = T.n := by rw [← hT]
 clear hT
 simp only [Bool.and_eq_true] at hp
 obtain ⟨hi, hok, hF⟩ := hp
 have hok2 : 0 ≤ T.n := by simp only [Day.Ts.ok, Bool.and_eq_true, decide_eq_true_eq] at hok; exact hok.1
 have hN := Day.few_n hF
 cases hr : Day.rightH x0 h with
 | false =>
  have hb : Day.runB x0 h T = false := by simp [Day.runB, hr]
  have he : Day.runE x0 h T = 1 := by simp [Day.runE, hr]
  rw [hr] at q16
  subst_vars
  simp [hi, hb, he, Day.runH, Day.runL, Day.noHB, Day.HB.a]
 | true =>
  have hP := Day.refP_start hr hF hok2
  have he : Day.runE x0 h T = (Day.runGo x0 T 0 h (Day.zerosF T.n)).1 := by simp [Day.runE, hr]
  have hb : Day.runB x0 h T = Day.eqB (Day.runGo x0 T 0 h (Day.zerosF T.n)).1 0 := by simp [Day.runB, hr, he]
  rw [hr] at q16
  have hs := Day.run_ref (n := x0) (h := h) hok2
  have hl : Day.eqB 0 (Day.lenF (.l [])) = true := by simp [Day.eqB, Day.lenF, A.els]
  rw [hP, hl] at q19
  unfold Day.runH Day.runL
  rw [he, hb]
  clear he hb hP hl
  generalize Day.runGo x0 T 0 h (Day.zerosF T.n) = r at *
  generalize Day.refGo x0 T 0 h (A.l []) = s at *
  obtain ⟨r1, r2, r3⟩ := r
  obtain ⟨s1, s2, s3⟩ := s
  obtain ⟨h1, h2⟩ := hs
  simp only at h1 h2
  subst h1
  by_cases c : s1 = 0
  ·obtain ⟨rfl, rfl, h4⟩ := h2 c
   simp only [h4] at q21 q36
   subst_vars
   simp [hi, hok2, Day.eqB, Day.neB]
  ·have c0 : Day.eqB s1 0 = false := by simp [Day.eqB, c]
   have c1 : Day.neB s1 0 = true := by simp [Day.neB, c]
   simp only [c0, c1] at *
   clear h2
   subst_vars
   simp [hi, hok2, Day.noHB, Day.HB.a]
def lp_1820 : Lp := ⟨117, [false, true, false, true, true], 1820, 5, 2, 1, ⟨frS 22 [(0, .pv (.one (.k (.fsl 0 (V 0))))), (1, .pv (.one (.k (.int .i64 (V 1))))), (4, .pv (.one (.k (.bool (B false))))), (5, .pv (.one (.k (.int .i64 (V 2))))), (6, .pv (.one (.k (.fsl 0 (V 0))))), (7, .pv (.one (.k (.int .i64 (V 0))))), (8, .pv (.one (.k (.int .i64 (V 1))))), (9, .pv (.one (.k (.bool (V 3)))))], [⟨false, 0, 0, [], some ⟨false, 0, [.sl [.int .i64, .int .i64]], V 4, V 0⟩⟩], B true⟩, [(.ret, ⟨frS 22 [(0, .pv (.one (.k (.fsl 0 (V 0))))), (1, .pv (.one (.k (.int .i64 (V 1))))), (4, .pv (.one (.k (.bool (B false))))), (6, .pv (.one (.k (.fsl 0 (V 0))))), (7, .pv (.one (.k (.int .i64 (V 0))))), (8, .pv (.one (.k (.int .i64 (V 1))))), (9, .pv (.one (.k (.bool (V 3)))))], [⟨false, 0, 0, [], some ⟨false, 0, [.sl [.int .i64, .int .i64]], V 4, V 0⟩⟩], V 5⟩), (.exit 0, ⟨frS 22 [(0, .pv (.one (.k (.fsl 0 (V 0))))), (1, .pv (.one (.k (.int .i64 (V 1))))), (4, .pv (.one (.k (.bool (B false))))), (6, .pv (.one (.k (.fsl 0 (V 0))))), (7, .pv (.one (.k (.int .i64 (V 0))))), (8, .pv (.one (.k (.int .i64 (V 1))))), (9, .pv (.one (.k (.bool (V 3)))))], [⟨false, 0, 0, [], some ⟨false, 0, [.sl [.int .i64, .int .i64]], V 4, V 0⟩⟩], V 6⟩)], [true, true, false, true, true], [.b, .b]⟩
def g_L1820 : G := ⟨23, [⟨22, .and, [V 5, V 20]⟩, ⟨21, .and, [V 5, V 17]⟩, ⟨20, .and, [V 19, V 16]⟩, ⟨19, .not, [V 17]⟩, ⟨18, (.ar .add .i64), [V 2, N 1]⟩, ⟨17, .and, [V 13, V 15]⟩, ⟨16, .and, [V 12, V 14]⟩, ⟨15, .and, [V 5, V 13]⟩, ⟨14, .and, [V 5, V 12]⟩, ⟨13, .not, [V 12]⟩, ⟨12, (.cmp .gtr), [V 11, N 20]⟩, ⟨11, (.lln 2), [V 10]⟩, ⟨10, (.pix 0 1), [V 4, V 2]⟩, ⟨9, .imp, [V 5, V 8]⟩, ⟨8, .and, [V 7, V 5]⟩, ⟨7, (.cmp .leq), [N 0, V 2]⟩, ⟨6, .not, [V 5]⟩, ⟨5, (.cmp .lss), [V 2, V 0]⟩], [V 9], []⟩
def m_1820 (al : List A) : Nat := (((Day.Ts.mk (ge al 4) (gi al 0))).n - (gi al 2)).toNat
theorem lpureQ_1820 (e : Nat → A) (H : FactsQ T e g_L1820.defs) (hp : (Day.Ts.ok (Day.Ts.mk (e 4) (e 0).int) && Day.inR (e 2).int ((Day.Ts.mk (e 4) (e 0).int)).n) = true) :
  ((e 9).bool = true) ∧ ((e 21).bool = true → (Day.Ts.ok (Day.Ts.mk (e 4) (e 0).int) && Day.inR (e 18).int ((Day.Ts.mk (e 4) (e 0).int)).n) = true ∧ ((!Day.allF (Day.shortB (Day.Ts.mk (e 4) (e 0).int) 20) (e 18).int ((Day.Ts.mk (e 4) (e 0).int)).n) = (!Day.allF (Day.shortB (Day.Ts.mk (e 4) (e 0).int) 20) (e 2).int ((Day.Ts.mk (e 4) (e 0).int)).n) ∧ Day.allF (Day.shortB (Day.Ts.mk (e 4) (e 0).int) 20) (e 18).int ((Day.Ts.mk (e 4) (e 0).int)).n = Day.allF (Day.shortB (Day.Ts.mk (e 4) (e 0).int) 20) (e 2).int ((Day.Ts.mk (e 4) (e 0).int)).n) ∧ (((Day.Ts.mk (e 4) (e 0).int)).n - (e 18).int).toNat < (((Day.Ts.mk (e 4) (e 0).int)).n - (e 2).int).toNat) ∧ ((e 22).bool = true → true = (!Day.allF (Day.shortB (Day.Ts.mk (e 4) (e 0).int) 20) (e 2).int ((Day.Ts.mk (e 4) (e 0).int)).n)) ∧ ((e 6).bool = true → true = Day.allF (Day.shortB (Day.Ts.mk (e 4) (e 0).int) 20) (e 2).int ((Day.Ts.mk (e 4) (e 0).int)).n) := by
 simp only [g_L1820, FactsQ, Def.q, updQ, L.ev_var, L.ev_n, L.ev_t, L.ev_e, L.ev, A.int_i, A.bool_b, A.str_v, A.els_l, List.map_cons, List.map_nil, Nat.zero_add, Nat.add_zero, and_true, true_and, Nat.reduceAdd, Nat.one_mul] at H
 simp only [arI, dvI, btI, cmpI, shI, ifQ, updV, ltQ, and_true, true_and] at H
 obtain ⟨q22, q21, q20, q19, ⟨q18, -⟩, q17, q16, q15, q14, q13, q12, q11, q10, q9, q8, q7, q6, q5⟩ := H
 generalize (e 0).int = x0, (e 1).int = x1, (e 2).int = x2, (e 3).int = x3, e 4 = x4, (e 5).bool = v5, (e 6).bool = v6, (e 7).bool = v7, (e 8).bool = v8, (e 9).bool = v9, (e 11).int = v11, (e 12).bool = v12, (e 13).bool = v13, (e 14).bool = v14, (e 15).bool = v15, (e 16).bool = v16, (e 17).bool = v17, (e 18).int = v18, (e 19).bool = v19, (e 20).bool = v20, (e 21).bool = v21, (e 22).bool = v22, e 10 = v10 at *
 generalize hT : Day.Ts.mk x4 x0 = T at *
 have hn : x0 = T.n := by rw [← hT]
 have hat : v11 = (T.at x2).n := by rw [q11, q10, ← hT]; rfl
 clear hT q10 q11
 simp only [Bool.and_eq_true, Day.inR_iff, Day.Ts.ok, decide_eq_true_eq] at hp ⊢
 by_cases hlt : x2 < T.n
 ·have st := Day.allF_step (f := Day.shortB T 20) hlt
  have w : IntKind.wrap .i64 (x2 + 1) = x2 + 1 := wrap64 (by omega) (by omega)
  have fb : v12 = !Day.shortB T 20 x2 := by
   rw [q12, hat]
   simp only [Day.shortB, Day.leB]
   rw [← decide_not]
   exact decide_eq_decide.2 (by omega)
  clear q12 hat
  subst_vars
  simp only [st, w]
  cases Day.shortB T 20 x2 <;> simp [hlt, hp] <;> omega
 ·have st := Day.allF_end (f := Day.shortB T 20) hlt
  clear hat q12
  subst_vars
  simp [st, hlt, hp]
theorem lpure_1820 (as : List A) (e : Nat → A) (h1 : as = (List.range 5).map e) (h2 : (t_1820 as).1 = true) (H : FactsQ T e g_L1820.defs) : ObsAll e g_L1820.obs ∧
   (∀ pc ls, some (V 21, [V 0, V 1, V 18, V 3, V 4]) = some (pc, ls) → (pc.ev e).bool = true → (t_1820 (ls.map (L.ev e))).1 = true ∧ (t_1820 (ls.map (L.ev e))).2 = (t_1820 as).2 ∧ m_1820 (ls.map (L.ev e)) < m_1820 as) ∧
   ∀ x ∈ ([(V 22, [some (B true), none]), (V 6, [none, some (B true)])] : List (L × List (Option L))), (x.1.ev e).bool = true → ∀ (j : Nat) l, x.2[j]? = some (some l) → Teq (lp_1820.tags.getD j .any) (l.ev e) ((t_1820 as).2.getD j (.i 0)) := by
 subst h1
 obtain ⟨ho, h⟩ := lpureQ_1820 e H h2
 refine ⟨⟨ho, trivial⟩, fun pc ls hb hpc => ?_, ?_⟩
 ·injection hb with hb
  injection hb with h3 h4
  subst h3 h4
  have h := h.1 hpc
  refine ⟨h.1, ?_, h.2.2⟩
  have h5 := h.2.1
  obtain ⟨z0, z1⟩ := h5
  exact (consB z0 (consB z1 rfl))
 ·intro x hx hpc j l hj
  simp only [List.mem_cons, List.not_mem_nil, or_false] at hx
  rcases hx with rfl | rfl
  ·have h := h.2.1 hpc
   have z0 := h
   match j, hj with
   | 0, hj => cases hj; exact z0
   | 1, hj => cases hj
   | _ + 2, hj => cases hj
  ·have h := h.2.2 hpc
   have z1 := h
   match j, hj with
   | 0, hj => cases hj
   | 1, hj => cases hj; exact z1
   | _ + 2, hj => cases hj
def g_ref13_Few : G := ⟨20, [⟨19, .iteB, [V 4, V 16, V 3]⟩, ⟨18, .iteB, [V 4, V 15, B false]⟩, ⟨17, .not, [V 4]⟩, ⟨16, .iteB, [V 13, V 13, V 12]⟩, ⟨15, .iteB, [V 13, B true, B false]⟩, ⟨14, .not, [V 13]⟩, ⟨13, .and, [V 4, V 7]⟩, ⟨12, .and, [V 4, V 6]⟩, ⟨11, .imp, [V 4, V 10]⟩, ⟨10, .not, [V 9]⟩, ⟨9, .and, [V 6, V 7]⟩, ⟨8, .imp, [V 4, V 5]⟩, ⟨5, (.call 1820), [V 1, V 2, N 0, V 3, V 0]⟩, ⟨4, .not, [V 3]⟩, ⟨3, (.cmp .gtr), [V 1, V 2]⟩], [V 11, V 8], []⟩
theorem pure_ref13_Few (e : Nat → A) (H : FactsQ T e g_ref13_Few.defs) (hp : (Day.Ts.ok (Day.Ts.mk (e 0) (e 1).int)) = true) :
  ((e 11).bool = true ∧ (e 8).bool = true) ∧ (Day.fewR (Day.Ts.mk (e 0) (e 1).int) (e 2).int = (e 18).bool) := by
 simp only [g_ref13_Few, FactsQ, Def.q, updQ, L.ev_var, L.ev_n, L.ev_t, L.ev_e, L.ev, A.int_i, A.bool_b, A.str_v, A.els_l, List.map_cons, List.map_nil, Nat.zero_add, Nat.add_zero, and_true, true_and, Nat.reduceAdd, Nat.one_mul] at H
 simp only [arI, dvI, btI, cmpI, shI, ifQ, updV, ltQ, and_true, true_and] at H
 obtain ⟨q19, q18, q17, q16, q15, q14, q13, q12, q11, q10, q9, q8, q5, q4, q3⟩ := H
 replace q5 := out_L1820 q5
 obtain ⟨q5, q6, q7⟩ := q5
 simp only [L.ev_var, L.ev_n, L.ev_t, L.ev_e, L.ev, A.int_i, A.bool_b, A.str_v] at q5 q6 q7
 generalize e 0 = x0, (e 1).int = x1, (e 2).int = x2, (e 3).bool = v3, (e 4).bool = v4, (e 5).bool = v5, (e 6).bool = v6, (e 7).bool = v7, (e 8).bool = v8, (e 9).bool = v9, (e 10).bool = v10, (e 11).bool = v11, (e 12).bool = v12, (e 13).bool = v13, (e 14).bool = v14, (e 15).bool = v15, (e 16).bool = v16, (e 17).bool = v17, (e 18).bool = v18, (e 19).bool = v19 at *
 generalize hT : Day.Ts.mk x0 x1 = T at *
 have hn : x1 = T.n := by rw [← hT]
 clear hT
 have hI : Day.inR 0 T.n = true := by
  simp only [Day.Ts.ok, Bool.and_eq_true, decide_eq_true_eq] at hp
  rw [Day.inR_iff]; omega
 by_cases c : x2 < T.n
 ·have c2 : Day.leB T.n x2 = false := by simp [Day.leB, c]
  subst_vars
  simp [hp, hI, c, c2, Day.fewR]
 ·have c2 : Day.leB T.n x2 = true := by simp [Day.leB]; omega
  subst_vars
  simp only [hp, hI, Day.fewR, c2]
  cases Day.allF (Day.shortB T 20) 0 T.n <;> simp [c]
end Rx.S
