import Derived.Test.YtngghkhjejkelabKXc
import Derived.Test.YtngghkhjejkelabKXt
set_option linter.unusedVariables false
set_option linter.unusedSimpArgs false
namespace Rx.S
open Go Rx
set_option maxRecDepth 100000
set_option maxHeartbeats 1000000
def g_hub_Step : G := ⟨167, [⟨166, .iteB, [V 30, V 136, V 29]⟩, ⟨165, .iteI, [V 30, V 135, N 0]⟩, ⟨164, .iteI, [V 30, V 134, N 0]⟩, ⟨163, .iteI, [V 30, V 133, N 0]⟩, ⟨162, .iteI, [V 30, V 132, N 0]⟩, ⟨161, .iteI, [V 30, V 131, N 0]⟩, ⟨160, .iteI, [V 30, V 130, N 0]⟩, ⟨159, .iteI, [V 30, V 129, N 0]⟩, ⟨158, .iteI, [V 30, V 128, N 0]⟩, ⟨157, .iteI, [V 30, V 127, N 0]⟩, ⟨156, .iteI, [V 30, V 126, N 0]⟩, ⟨155, .iteI, [V 30, V 125, N 0]⟩, ⟨154, .iteI, [V 30, V 124, N 0]⟩, ⟨153, .iteI, [V 30, V 123, N 0]⟩, ⟨152, .iteI, [V 30, V 122, N 0]⟩, ⟨151, .iteI, [V 30, V 121, V 27]⟩, ⟨150, .iteI, [V 30, V 120, V 26]⟩, ⟨149, .iteI, [V 30, V 119, V 25]⟩, ⟨148, .iteI, [V 30, V 118, V 24]⟩, ⟨147, .iteI, [V 30, V 117, V 23]⟩, ⟨146, .iteI, [V 30, V 116, V 22]⟩, ⟨145, .iteI, [V 30, V 115, V 21]⟩, ⟨144, .iteI, [V 30, V 114, V 20]⟩, ⟨143, .iteI, [V 30, V 113, V 19]⟩, ⟨142, .iteI, [V 30, V 112, V 18]⟩, ⟨141, .iteI, [V 30, V 111, V 17]⟩, ⟨140, .iteI, [V 30, V 110, V 16]⟩, ⟨139, .iteI, [V 30, V 109, V 28]⟩, ⟨138, .iteI, [V 30, V 108, V 28]⟩, ⟨137, .not, [V 30]⟩, ⟨136, .iteB, [V 51, V 106, V 50]⟩, ⟨135, .iteI, [V 51, V 105, N 0]⟩, ⟨134, .iteI, [V 51, V 104, N 0]⟩, ⟨133, .iteI, [V 51, V 103, N 0]⟩, ⟨132, .iteI, [V 51, V 102, N 0]⟩, ⟨131, .iteI, [V 51, V 101, N 0]⟩, ⟨130, .iteI, [V 51, V 100, N 0]⟩, ⟨129, .iteI, [V 51, V 99, N 0]⟩, ⟨128, .iteI, [V 51, V 98, N 0]⟩, ⟨127, .iteI, [V 51, V 97, N 0]⟩, ⟨126, .iteI, [V 51, V 96, N 0]⟩, ⟨125, .iteI, [V 51, V 95, N 0]⟩, ⟨124, .iteI, [V 51, V 94, N 0]⟩, ⟨123, .iteI, [V 51, V 93, N 0]⟩, ⟨122, .iteI, [V 51, V 92, N 0]⟩, ⟨121, .iteI, [V 51, V 64, V 43]⟩, ⟨120, .iteI, [V 51, V 63, V 42]⟩, ⟨119, .iteI, [V 51, V 62, V 41]⟩, ⟨118, .iteI, [V 51, V 61, V 40]⟩, ⟨117, .iteI, [V 51, V 60, V 39]⟩, ⟨116, .iteI, [V 51, V 59, V 38]⟩, ⟨115, .iteI, [V 51, V 58, V 37]⟩, ⟨114, .iteI, [V 51, V 57, V 36]⟩, ⟨113, .iteI, [V 51, V 56, V 35]⟩, ⟨112, .iteI, [V 51, V 55, V 34]⟩, ⟨111, .iteI, [V 51, V 54, V 33]⟩, ⟨110, .iteI, [V 51, V 53, V 32]⟩, ⟨109, .iteI, [V 51, V 65, V 44]⟩, ⟨108, .iteI, [V 51, V 91, V 44]⟩, ⟨107, .not, [V 51]⟩, ⟨106, .iteB, [V 72, V 72, V 71]⟩, ⟨105, .iteI, [V 72, V 87, N 0]⟩, ⟨104, .iteI, [V 72, V 86, N 0]⟩, ⟨103, .iteI, [V 72, V 85, N 0]⟩, ⟨102, .iteI, [V 72, V 84, N 0]⟩, ⟨101, .iteI, [V 72, V 83, N 0]⟩, ⟨100, .iteI, [V 72, V 82, N 0]⟩, ⟨99, .iteI, [V 72, V 81, N 0]⟩, ⟨98, .iteI, [V 72, V 80, N 0]⟩, ⟨97, .iteI, [V 72, V 79, N 0]⟩, ⟨96, .iteI, [V 72, V 78, N 0]⟩, ⟨95, .iteI, [V 72, V 77, N 0]⟩, ⟨94, .iteI, [V 72, V 76, N 0]⟩, ⟨93, .iteI, [V 72, V 75, N 0]⟩, ⟨92, .iteI, [V 72, V 74, N 0]⟩, ⟨91, .iteI, [V 72, V 88, V 65]⟩, ⟨90, .not, [V 72]⟩, ⟨89, .imp, [V 72, V 73]⟩, ⟨73, (.call 24), [V 0, V 53, V 54, V 55, V 56, V 57, V 58, V 59, V 60, V 61, V 62, V 63, V 64, V 13, V 14]⟩, ⟨72, .and, [V 68, V 70]⟩, ⟨71, .and, [V 67, V 69]⟩, ⟨70, .and, [V 51, V 68]⟩, ⟨69, .and, [V 51, V 67]⟩, ⟨68, .not, [V 67]⟩, ⟨67, (.cmp .neq), [V 65, N 0]⟩, ⟨66, .imp, [V 51, V 52]⟩, ⟨52, (.call 23), [V 0, V 32, V 33, V 34, V 35, V 36, V 37, V 38, V 39, V 40, V 41, V 42, V 43]⟩, ⟨51, .and, [V 47, V 49]⟩, ⟨50, .and, [V 46, V 48]⟩, ⟨49, .and, [V 30, V 47]⟩, ⟨48, .and, [V 30, V 46]⟩, ⟨47, .not, [V 46]⟩, ⟨46, (.cmp .neq), [V 44, N 0]⟩, ⟨45, .imp, [V 30, V 31]⟩, ⟨31, (.call 22), [V 0, V 16, V 17, V 18, V 19, V 20, V 21, V 22, V 23, V 24, V 25, V 26, V 27, V 13, V 14]⟩, ⟨30, .not, [V 29]⟩, ⟨29, (.cmp .neq), [V 28, N 0]⟩, ⟨15, (.call 21), [V 0, V 1, V 2, V 3, V 4, V 5, V 6, V 7, V 8, V 9, V 10, V 11, V 12]⟩], [V 89, V 66, V 45, V 15], []⟩
theorem pure_hub_Step (e : Nat → A) (H : FactsQ T e g_hub_Step.defs) : ∀ z0, z0 = (Day.HB.mk [(e 1).int, (e 2).int, (e 3).int, (e 4).int, (e 5).int, (e 6).int, (e 7).int, (e 8).int] (e 9).int (e 10).int (e 11).int (e 12).int) → ∀ r1, r1 = Day.hubH (e 0).int z0 (Day.Ls.mk (e 13) (e 14).int) → (Day.HB.i64 z0 && Day.Ls.ok (Day.Ls.mk (e 13) (e 14).int)) = true →
  ((e 89).bool = true ∧ (e 66).bool = true ∧ (e 45).bool = true ∧ (e 15).bool = true) ∧ (((r1)).a 0 = (e 152).int ∧ ((r1)).a 1 = (e 153).int ∧ ((r1)).a 2 = (e 154).int ∧ ((r1)).a 3 = (e 155).int ∧ ((r1)).a 4 = (e 156).int ∧ ((r1)).a 5 = (e 157).int ∧ ((r1)).a 6 = (e 158).int ∧ ((r1)).a 7 = (e 159).int ∧ ((r1)).port = (e 160).int ∧ ((r1)).age = (e 161).int ∧ ((r1)).hold = (e 162).int ∧ ((r1)).pos = (e 163).int ∧ ((Day.hubF (e 0).int z0 (Day.Ls.mk (e 13) (e 14).int))).kind = (e 164).int ∧ ((Day.hubF (e 0).int z0 (Day.Ls.mk (e 13) (e 14).int))).id = (e 165).int ∧ Day.gateE (e 0).int z0 (Day.Ls.mk (e 13) (e 14).int) = (e 138).int) := by
 intro z0 hz0 r1 hr1 hp
 subst hz0 hr1
 simp only [g_hub_Step, FactsQ, Def.q, updQ, L.ev_var, L.ev_n, L.ev_t, L.ev_e, L.ev, A.int_i, A.bool_b, A.str_v, A.els_l, List.map_cons, List.map_nil, Nat.zero_add, Nat.add_zero, and_true, true_and, Nat.reduceAdd, Nat.one_mul] at H
 simp only [arI, dvI, btI, cmpI, shI, ifQ, updV, ltQ, and_true, true_and] at H
 obtain ⟨q166, ⟨q165, -⟩, ⟨q164, -⟩, ⟨q163, -⟩, ⟨q162, -⟩, ⟨q161, -⟩, ⟨q160, -⟩, ⟨q159, -⟩, ⟨q158, -⟩, ⟨q157, -⟩, ⟨q156, -⟩, ⟨q155, -⟩, ⟨q154, -⟩, ⟨q153, -⟩, ⟨q152, -⟩, ⟨q151, -⟩, ⟨q150, -⟩, ⟨q149, -⟩, ⟨q148, -⟩, ⟨q147, -⟩, ⟨q146, -⟩, ⟨q145, -⟩, ⟨q144, -⟩, ⟨q143, -⟩, ⟨q142, -⟩, ⟨q141, -⟩, ⟨q140, -⟩, ⟨q139, -⟩, ⟨q138, -⟩, q137, q136, ⟨q135, -⟩, ⟨q134, -⟩, ⟨q133, -⟩, ⟨q132, -⟩, ⟨q131, -⟩, ⟨q130, -⟩, ⟨q129, -⟩, ⟨q128, -⟩, ⟨q127, -⟩, ⟨q126, -⟩, ⟨q125, -⟩, ⟨q124, -⟩, ⟨q123, -⟩, ⟨q122, -⟩, ⟨q121, -⟩, ⟨q120, -⟩, ⟨q119, -⟩, ⟨q118, -⟩, ⟨q117, -⟩, ⟨q116, -⟩, ⟨q115, -⟩, ⟨q114, -⟩, ⟨q113, -⟩, ⟨q112, -⟩, ⟨q111, -⟩, ⟨q110, -⟩, ⟨q109, -⟩, ⟨q108, -⟩, q107, q106, ⟨q105, -⟩, ⟨q104, -⟩, ⟨q103, -⟩, ⟨q102, -⟩, ⟨q101, -⟩, ⟨q100, -⟩, ⟨q99, -⟩, ⟨q98, -⟩, ⟨q97, -⟩, ⟨q96, -⟩, ⟨q95, -⟩, ⟨q94, -⟩, ⟨q93, -⟩, ⟨q92, -⟩, ⟨q91, -⟩, q90, q89, q73, q72, q71, q70, q69, q68, q67, q66, q52, q51, q50, q49, q48, q47, q46, q45, q31, q30, q29, q15⟩ := H
 replace q73 := out_gate_Relay q73 _ rfl _ rfl
 obtain ⟨q73, q74, q75, q76, q77, q78, q79, q80, q81, q82, q83, q84, q85, q86, q87, q88⟩ := q73
 replace q52 := out_gate_Settle q52 _ rfl _ rfl
 obtain ⟨q52, q53, q54, q55, q56, q57, q58, q59, q60, q61, q62, q63, q64, q65⟩ := q52
 replace q31 := out_gate_Note q31 _ rfl _ rfl
 obtain ⟨q31, q32, q33, q34, q35, q36, q37, q38, q39, q40, q41, q42, q43, q44⟩ := q31
 replace q15 := out_vote_Tick q15 _ rfl _ rfl
 obtain ⟨q15, q16, q17, q18, q19, q20, q21, q22, q23, q24, q25, q26, q27, q28⟩ := q15
 simp only [L.ev_var, L.ev_n, L.ev_t, L.ev_e, L.ev, A.int_i, A.bool_b, A.str_v] at q73 q74 q75 q76 q77 q78 q79 q80 q81 q82 q83 q84 q85 q86 q87 q88 q52 q53 q54 q55 q56 q57 q58 q59 q60 q61 q62 q63 q64 q65 q31 q32 q33 q34 q35 q36 q37 q38 q39 q40 q41 q42 q43 q44 q15 q16 q17 q18 q19 q20 q21 q22 q23 q24 q25 q26 q27 q28
 generalize (e 0).int = x0, (e 1).int = x1, (e 2).int = x2, (e 3).int = x3, (e 4).int = x4, (e 5).int = x5, (e 6).int = x6, (e 7).int = x7, (e 8).int = x8, (e 9).int = x9, (e 10).int = x10, (e 11).int = x11, (e 12).int = x12, e 13 = x13, (e 14).int = x14, (e 15).bool = v15, (e 16).int = v16, (e 17).int = v17, (e 18).int = v18, (e 19).int = v19, (e 20).int = v20, (e 21).int = v21, (e 22).int = v22, (e 23).int = v23, (e 24).int = v24, (e 25).int = v25, (e 26).int = v26, (e 27).int = v27, (e 28).int = v28, (e 29).bool = v29, (e 30).bool = v30, (e 31).bool = v31, (e 32).int = v32, (e 33).int = v33, (e 34).int = v34, (e 35).int = v35, (e 36).int = v36, (e 37).int = v37, (e 38).int = v38, (e 39).int = v39, (e 40).int = v40, (e 41).int = v41, (e 42).int = v42, (e 43).int = v43, (e 44).int = v44, (e 45).bool = v45, (e 46).bool = v46, (e 47).bool = v47, (e 48).bool = v48, (e 49).bool = v49, (e 50).bool = v50, (e 51).bool = v51, (e 52).bool = v52, (e 53).int = v53, (e 54).int = v54, (e 55).int = v55, (e 56).int = v56, (e 57).int = v57, (e 58).int = v58, (e 59).int = v59, (e 60).int = v60, (e 61).int = v61, (e 62).int = v62, (e 63).int = v63, (e 64).int = v64, (e 65).int = v65, (e 66).bool = v66, (e 67).bool = v67, (e 68).bool = v68, (e 69).bool = v69, (e 70).bool = v70, (e 71).bool = v71, (e 72).bool = v72, (e 73).bool = v73, (e 74).int = v74, (e 75).int = v75, (e 76).int = v76, (e 77).int = v77, (e 78).int = v78, (e 79).int = v79, (e 80).int = v80, (e 81).int = v81, (e 82).int = v82, (e 83).int = v83, (e 84).int = v84, (e 85).int = v85, (e 86).int = v86, (e 87).int = v87, (e 88).int = v88, (e 89).bool = v89, (e 90).bool = v90, (e 91).int = v91, (e 92).int = v92, (e 93).int = v93, (e 94).int = v94, (e 95).int = v95, (e 96).int = v96, (e 97).int = v97, (e 98).int = v98, (e 99).int = v99, (e 100).int = v100, (e 101).int = v101, (e 102).int = v102, (e 103).int = v103, (e 104).int = v104, (e 105).int = v105, (e 106).bool = v106, (e 107).bool = v107, (e 108).int = v108, (e 109).int = v109, (e 110).int = v110, (e 111).int = v111, (e 112).int = v112, (e 113).int = v113, (e 114).int = v114, (e 115).int = v115, (e 116).int = v116, (e 117).int = v117, (e 118).int = v118, (e 119).int = v119, (e 120).int = v120, (e 121).int = v121, (e 122).int = v122, (e 123).int = v123, (e 124).int = v124, (e 125).int = v125, (e 126).int = v126, (e 127).int = v127, (e 128).int = v128, (e 129).int = v129, (e 130).int = v130, (e 131).int = v131, (e 132).int = v132, (e 133).int = v133, (e 134).int = v134, (e 135).int = v135, (e 136).bool = v136, (e 137).bool = v137, (e 138).int = v138, (e 139).int = v139, (e 140).int = v140, (e 141).int = v141, (e 142).int = v142, (e 143).int = v143, (e 144).int = v144, (e 145).int = v145, (e 146).int = v146, (e 147).int = v147, (e 148).int = v148, (e 149).int = v149, (e 150).int = v150, (e 151).int = v151, (e 152).int = v152, (e 153).int = v153, (e 154).int = v154, (e 155).int = v155, (e 156).int = v156, (e 157).int = v157, (e 158).int = v158, (e 159).int = v159, (e 160).int = v160, (e 161).int = v161, (e 162).int = v162, (e 163).int = v163, (e 164).int = v164, (e 165).int = v165, (e 166).bool = v166 at *
 generalize hH : (Day.HB.mk [x1, x2, x3, x4, x5, x6, x7, x8] x9 x10 x11 x12) = h at *
 have g0 : x1 = h.a 0 ∧ x2 = h.a 1 ∧ x3 = h.a 2 ∧ x4 = h.a 3 ∧ x5 = h.a 4 ∧ x6 = h.a 5 ∧ x7 = h.a 6 ∧ x8 = h.a 7 ∧ x9 = h.port ∧ x10 = h.age ∧ x11 = h.hold ∧ x12 = h.pos := by subst hH; simp [Day.HB.a]
 obtain ⟨a1, a2, a3, a4, a5, a6, a7, a8, a9, a10, a11, a12⟩ := g0
 clear hH
 generalize hq : Day.Ls.mk x13 x14 = q at *
 have hn0 : x14 = q.n := by rw [← hq]
 have hk : ∀ p, q.k p = (x13.els.getD (2 * p.toNat) (.i 0)).int := fun p => by rw [← hq]; rfl
 have hd : ∀ p, q.d p = (x13.els.getD (1 + 2 * p.toNat) (.i 0)).int := fun p => by rw [← hq]; rfl
 clear hq
 simp only [Bool.and_eq_true] at hp
 obtain ⟨hi, hok⟩ := hp
 clear hk hd
 cases hr : Day.rightH x0 h with
 | false =>
  have hg : Day.gateE x0 h q = 1 := by simp [Day.gateE, hr]
  have hA : Day.argH x0 h = 1 := by simp [Day.argH, hr]
  rw [hA] at q28
  subst_vars
  simp [hi, hg, Day.hubH, Day.hubF, Day.noHB, Day.noFr, Day.HB.a]
 | true =>
  have ht := Day.tick_right hr
  have hmk := Day.mk_HB (Day.tickH x0 h) (Day.len_tick _ _)
  rw [← q16, ← q17, ← q18, ← q19, ← q20, ← q21, ← q22, ← q23, ← q24, ← q25, ← q26, ← q27] at hmk
  simp only [hmk] at q31 q32 q33 q34 q35 q36 q37 q38 q39 q40 q41 q42 q43 q44
  have hi2 := Day.right_i64 ht
  rw [Day.argH_right hr] at q28
  cases hf : Day.fitsR x0 q with
  | false =>
   have hg : Day.gateE x0 h q = 2 := by simp [Day.gateE, hr, hf]
   have hg2 : Day.gateE x0 (Day.tickH x0 h) q = 2 := by simp [Day.gateE, ht, hf]
   rw [hg2] at q44
   clear hmk
   subst_vars
   simp [hi, hok, hi2, hg, Day.hubH, Day.hubF, Day.noHB, Day.noFr, Day.HB.a]
  | true =>
   have hg := Day.gateE_fits.2 ⟨hr, hf⟩
   rw [Day.gateE_fits.2 ⟨ht, hf⟩] at q44
   have hnr := Day.note_right ht hf
   have hmk2 := Day.mk_HB (Day.noteH x0 (Day.tickH x0 h) q) (Day.len_note _ _ _)
   rw [← q32, ← q33, ← q34, ← q35, ← q36, ← q37, ← q38, ← q39, ← q40, ← q41, ← q42, ← q43] at hmk2
   simp only [hmk2] at q52 q53 q54 q55 q56 q57 q58 q59 q60 q61 q62 q63 q64 q65
   have hi3 := Day.right_i64 hnr
   rw [Day.argH_right hnr] at q65
   have hs := Day.settle_right hnr
   have hmk3 := Day.mk_HB (Day.settleH x0 (Day.noteH x0 (Day.tickH x0 h) q)) (Day.len_settle _ _)
   rw [← q53, ← q54, ← q55, ← q56, ← q57, ← q58, ← q59, ← q60, ← q61, ← q62, ← q63, ← q64] at hmk3
   simp only [hmk3] at q73 q74 q75 q76 q77 q78 q79 q80 q81 q82 q83 q84 q85 q86 q87 q88
   have hi4 := Day.right_i64 hs
   rw [Day.gateE_fits.2 ⟨hs, hf⟩] at q88
   clear hmk hmk2 hmk3
   subst_vars
   simp [hi, hok, hi2, hi3, hi4, hg, Day.hubH, Day.hubF, Day.midH]
def lp_1820 : Lp := ⟨7, [false, true, false, true, true], 1820, 5, 2, 1, ⟨frS 22 [(0, .pv (.one (.k (.fsl 0 (V 0))))), (1, .pv (.one (.k (.int .i64 (V 1))))), (4, .pv (.one (.k (.bool (B false))))), (5, .pv (.one (.k (.int .i64 (V 2))))), (6, .pv (.one (.k (.fsl 0 (V 0))))), (7, .pv (.one (.k (.int .i64 (V 0))))), (8, .pv (.one (.k (.int .i64 (V 1))))), (9, .pv (.one (.k (.bool (V 3)))))], [⟨false, 0, 0, [], some ⟨false, 0, [.sl [.int .i64, .int .i64]], V 4, V 0⟩⟩], B true⟩, [(.ret, ⟨frS 22 [(0, .pv (.one (.k (.fsl 0 (V 0))))), (1, .pv (.one (.k (.int .i64 (V 1))))), (4, .pv (.one (.k (.bool (B false))))), (6, .pv (.one (.k (.fsl 0 (V 0))))), (7, .pv (.one (.k (.int .i64 (V 0))))), (8, .pv (.one (.k (.int .i64 (V 1))))), (9, .pv (.one (.k (.bool (V 3)))))], [⟨false, 0, 0, [], some ⟨false, 0, [.sl [.int .i64, .int .i64]], V 4, V 0⟩⟩], V 5⟩), (.exit 0, ⟨frS 22 [(0, .pv (.one (.k (.fsl 0 (V 0))))), (1, .pv (.one (.k (.int .i64 (V 1))))), (4, .pv (.one (.k (.bool (B false))))), (6, .pv (.one (.k (.fsl 0 (V 0))))), (7, .pv (.one (.k (.int .i64 (V 0))))), (8, .pv (.one (.k (.int .i64 (V 1))))), (9, .pv (.one (.k (.bool (V 3)))))], [⟨false, 0, 0, [], some ⟨false, 0, [.sl [.int .i64, .int .i64]], V 4, V 0⟩⟩], V 6⟩)], [true, true, false, true, true], [.b, .b]⟩
def g_L1820 : G := ⟨23, [⟨22, .and, [V 5, V 20]⟩, ⟨21, .and, [V 5, V 17]⟩, ⟨20, .and, [V 19, V 16]⟩, ⟨19, .not, [V 17]⟩, ⟨18, (.ar .add .i64), [V 2, N 1]⟩, ⟨17, .and, [V 13, V 15]⟩, ⟨16, .and, [V 12, V 14]⟩, ⟨15, .and, [V 5, V 13]⟩, ⟨14, .and, [V 5, V 12]⟩, ⟨13, .not, [V 12]⟩, ⟨12, (.cmp .gtr), [V 11, N 20]⟩, ⟨11, (.lln 2), [V 10]⟩, ⟨10, (.pix 0 1), [V 4, V 2]⟩, ⟨9, .imp, [V 5, V 8]⟩, ⟨8, .and, [V 7, V 5]⟩, ⟨7, (.cmp .leq), [N 0, V 2]⟩, ⟨6, .not, [V 5]⟩, ⟨5, (.cmp .lss), [V 2, V 0]⟩], [V 9], []⟩
def m_1820 (al : List A) : Nat := (((Day.Ts.mk (ge al 4) (gi al 0))).n - (gi al 2)).toNat
theorem lpureQ_1820 (e : Nat → A) (H : FactsQ T e g_L1820.defs) (hp : (Day.Ts.ok (Day.Ts.mk (e 4) (e 0).int) && Day.inR (e 2).int ((Day.Ts.mk (e 4) (e 0).int)).n) = true) :
  ((e 9).bool = true) ∧ ((e 21).bool = true → (Day.Ts.ok (Day.Ts.mk (e 4) (e 0).int) && Day.inR (e 18).int ((Day.Ts.mk (e 4) (e 0).int)).n) = true ∧ ((!Day.allF (Day.shortB (Day.Ts.mk (e 4) (e 0).int) 20) (e 18).int ((Day.Ts.mk (e 4) (e 0).int)).n) = (!Day.allF (Day.shortB (Day.Ts.mk (e 4) (e 0).int) 20) (e 2).int ((Day.Ts.mk (e 4) (e 0).int)).n) ∧ Day.allF (Day.shortB (Day.Ts.mk (e 4) (e 0).int) 20) (e 18).int ((Day.Ts.mk (e 4) (e 0).int)).n = Day.allF (Day.shortB (Day.Ts.mk (e 4) (e 0).int) 20) (e 2).int ((Day.Ts.mk (e 4) (e 0).int)).n) ∧ (((Day.Ts.mk (e 4) (e 0).int)).n - (e 18).int).toNat < (((Day.Ts.mk (e 4) (e 0).int)).n - (e 2).int).toNat) ∧ ((e 22).bool = true → true = (!Day.allF (Day.shortB (Day.Ts.mk (e 4) (e 0).int) 20) (e 2).int ((Day.Ts.mk (e 4) (e 0).int)).n)) ∧ ((e 6).bool = true → true = Day.allF (Day.shortB (Day.Ts.mk (e 4) (e 0).int) 20) (e 2).int ((Day.Ts.mk (e 4) (e 0).int)).n) := by
 simp only [g_L1820, FactsQ, Def.q, updQ, L.ev_var, L.ev_n, L.ev_t, L.ev_e, L.ev, A.int_i, A.bool_b, A.str_v, A.els_l, List.map_cons, List.map_nil, Nat.zero_add, Nat.add_zero, and_true, true_and, Nat.reduceAdd, Nat.one_mul] at H
 simp only [arI, dvI, btI, cmpI, shI, ifQ, updV, ltQ, and_true, true_and] at H
 obtain ⟨q22, q21, q20, q19, ⟨q18, -⟩, q17, q16, q15, q14, q13, q12, q11, q10, q9, q8, q7, q6, q5⟩ := H
 generalize (e 0).int = x0, (e 1).int = x1, (e 2).int = x2, (e 3).int = x3, e 4 = x4, (e 5).bool = v5, (e 6).bool = v6, (e 7).bool = v7, (e 8).bool = v8, (e 9).bool = v9, (e 11).int = v11, (e 12).bool = v12, (e 13).bool = v13, (e 14).bool = v14, (e 15).bool = v15, (e 16).bool = v16, (e 17).bool = v17, (e 18).int = v18, (e 19).bool = v19, (e 20).bool = v20, (e 21).bool = v21, (e 22).bool = v22, e 10 = v10 at *
 generalize hT : Day.Ts.mk x4 x0 = T at *
 have hn : x0 = T.n := by rw [← hT]
 have hat : v11 = (T.at x2).n := by rw [q11, q10, ← hT]; rfl
 clear hT q10 q11
 simp only [Bool.and_eq_true, Day.inR_iff, Day.Ts.ok, decide_eq_true_eq] at hp ⊢
 by_cases hlt : x2 < T.n
 ·have st := Day.allF_step (f := Day.shortB T 20) hlt
  have w : IntKind.wrap .i64 (x2 + 1) = x2 + 1 := wrap64 (by omega) (by omega)
  have fb : v12 = !Day.shortB T 20 x2 := by
   rw [q12, hat]
   simp only [Day.shortB, Day.leB]
   rw [← decide_not]
   exact decide_eq_decide.2 (by omega)
  clear q12 hat
  subst_vars
  simp only [st, w]
  cases Day.shortB T 20 x2 <;> simp [hlt, hp] <;> omega
 ·have st := Day.allF_end (f := Day.shortB T 20) hlt
  clear hat q12
  subst_vars
  simp [st, hlt, hp]
theorem lpure_1820 (as : List A) (e : Nat → A) (h1 : as = (List.range 5).map e) (h2 : (t_1820 as).1 = true) (H : FactsQ T e g_L1820.defs) : ObsAll e g_L1820.obs ∧
   (∀ pc ls, some (V 21, [V 0, V 1, V 18, V 3, V 4]) = some (pc, ls) → (pc.ev e).bool = true → (t_1820 (ls.map (L.ev e))).1 = true ∧ (t_1820 (ls.map (L.ev e))).2 = (t_1820 as).2 ∧ m_1820 (ls.map (L.ev e)) < m_1820 as) ∧
   ∀ x ∈ ([(V 22, [some (B true), none]), (V 6, [none, some (B true)])] : List (L × List (Option L))), (x.1.ev e).bool = true → ∀ (j : Nat) l, x.2[j]? = some (some l) → Teq (lp_1820.tags.getD j .any) (l.ev e) ((t_1820 as).2.getD j (.i 0)) := by
 subst h1
 obtain ⟨ho, h⟩ := lpureQ_1820 e H h2
 refine ⟨⟨ho, trivial⟩, fun pc ls hb hpc => ?_, ?_⟩
 ·injection hb with hb
  injection hb with h3 h4
  subst h3 h4
  have h := h.1 hpc
  refine ⟨h.1, ?_, h.2.2⟩
  have h5 := h.2.1
  obtain ⟨z0, z1⟩ := h5
  exact (consB z0 (consB z1 rfl))
 ·intro x hx hpc j l hj
  simp only [List.mem_cons, List.not_mem_nil, or_false] at hx
  rcases hx with rfl | rfl
  ·have h := h.2.1 hpc
   have z0 := h
   match j, hj with
   | 0, hj => cases hj; exact z0
   | 1, hj => cases hj
   | _ + 2, hj => cases hj
  ·have h := h.2.2 hpc
   have z1 := h
   match j, hj with
   | 0, hj => cases hj
   | 1, hj => cases hj; exact z1
   | _ + 2, hj => cases hj
def g_ref13_Few : G := ⟨20, [⟨19, .iteB, [V 4, V 16, V 3]⟩, ⟨18, .iteB, [V 4, V 15, B false]⟩, ⟨17, .not, [V 4]⟩, ⟨16, .iteB, [V 13, V 13, V 12]⟩, ⟨15, .iteB, [V 13, B true, B false]⟩, ⟨14, .not, [V 13]⟩, ⟨13, .and, [V 4, V 7]⟩, ⟨12, .and, [V 4, V 6]⟩, ⟨11, .imp, [V 4, V 10]⟩, ⟨10, .not, [V 9]⟩, ⟨9, .and, [V 6, V 7]⟩, ⟨8, .imp, [V 4, V 5]⟩, ⟨5, (.call 1820), [V 1, V 2, N 0, V 3, V 0]⟩, ⟨4, .not, [V 3]⟩, ⟨3, (.cmp .gtr), [V 1, V 2]⟩], [V 11, V 8], []⟩
theorem pure_ref13_Few (e : Nat → A) (H : FactsQ T e g_ref13_Few.defs) (hp : (Day.Ts.ok (Day.Ts.mk (e 0) (e 1).int)) = true) :
  ((e 11).bool = true ∧ (e 8).bool = true) ∧ (Day.fewR (Day.Ts.mk (e 0) (e 1).int) (e 2).int = (e 18).bool) := by
 simp only [g_ref13_Few, FactsQ, Def.q, updQ, L.ev_var, L.ev_n, L.ev_t, L.ev_e, L.ev, A.int_i, A.bool_b, A.str_v, A.els_l, List.map_cons, List.map_nil, Nat.zero_add, Nat.add_zero, and_true, true_and, Nat.reduceAdd, Nat.one_mul] at H
 simp only [arI, dvI, btI, cmpI, shI, ifQ, updV, ltQ, and_true, true_and] at H
 obtain ⟨q19, q18, q17, q16, q15, q14, q13, q12, q11, q10, q9, q8, q5, q4, q3⟩ := H
 replace q5 := out_L1820 q5
 obtain ⟨q5, q6, q7⟩ := q5
 simp only [L.ev_var, L.ev_n, L.ev_t, L.ev_e, L.ev, A.int_i, A.bool_b, A.str_v] at q5 q6 q7
 generalize e 0 = x0, (e 1).int = x1, (e 2).int = x2, (e 3).bool = v3, (e 4).bool = v4, (e 5).bool = v5, (e 6).bool = v6, (e 7).bool = v7, (e 8).bool = v8, (e 9).bool = v9, (e 10).bool = v10, (e 11).bool = v11, (e 12).bool = v12, (e 13).bool = v13, (e 14).bool = v14, (e 15).bool = v15, (e 16).bool = v16, (e 17).bool = v17, (e 18).bool = v18, (e 19).bool = v19 at *
 generalize hT : Day.Ts.mk x0 x1 = T at *
 have hn : x1 = T.n := by rw [← hT]
 clear hT
 have hI : Day.inR 0 T.n = true := by
  simp only [Day.Ts.ok, Bool.and_eq_true, decide_eq_true_eq] at hp
  rw [Day.inR_iff]; omega
 by_cases c : x2 < T.n
 ·have c2 : Day.leB T.n x2 = false := by simp [Day.leB, c]
  subst_vars
  simp [hp, hI, c, c2, Day.fewR]
 ·have c2 : Day.leB T.n x2 = true := by simp [Day.leB]; omega
  subst_vars
  simp only [hp, hI, Day.fewR, c2]
  cases Day.allF (Day.shortB T 20) 0 T.n <;> simp [c]
end Rx.S
