import Derived.Test.YtngghkhjejkelabMXt
set_option linter.unusedVariables false
set_option linter.unusedSimpArgs false
namespace Rx.S
open Go Rx
set_option maxRecDepth 100000
set_option maxHeartbeats 1000000
def MT : G := ⟨167, [⟨166, .iteB, [V 30, V 136, V 29]⟩, ⟨165, .iteI, [V 30, V 135, N 0]⟩, ⟨164, .iteI, [V 30, V 134, N 0]⟩, ⟨163, .iteI, [V 30, V 133, N 0]⟩, ⟨162, .iteI, [V 30, V 132, N 0]⟩, ⟨161, .iteI, [V 30, V 131, N 0]⟩, ⟨160, .iteI, [V 30, V 130, N 0]⟩, ⟨159, .iteI, [V 30, V 129, N 0]⟩, ⟨158, .iteI, [V 30, V 128, N 0]⟩, ⟨157, .iteI, [V 30, V 127, N 0]⟩, ⟨156, .iteI, [V 30, V 126, N 0]⟩, ⟨155, .iteI, [V 30, V 125, N 0]⟩, ⟨154, .iteI, [V 30, V 124, N 0]⟩, ⟨153, .iteI, [V 30, V 123, N 0]⟩, ⟨152, .iteI, [V 30, V 122, N 0]⟩, ⟨151, .iteI, [V 30, V 121, V 27]⟩, ⟨150, .iteI, [V 30, V 120, V 26]⟩, ⟨149, .iteI, [V 30, V 119, V 25]⟩, ⟨148, .iteI, [V 30, V 118, V 24]⟩, ⟨147, .iteI, [V 30, V 117, V 23]⟩, ⟨146, .iteI, [V 30, V 116, V 22]⟩, ⟨145, .iteI, [V 30, V 115, V 21]⟩, ⟨144, .iteI, [V 30, V 114, V 20]⟩, ⟨143, .iteI, [V 30, V 113, V 19]⟩, ⟨142, .iteI, [V 30, V 112, V 18]⟩, ⟨141, .iteI, [V 30, V 111, V 17]⟩, ⟨140, .iteI, [V 30, V 110, V 16]⟩, ⟨139, .iteI, [V 30, V 109, V 28]⟩, ⟨138, .iteI, [V 30, V 108, V 28]⟩, ⟨137, .not, [V 30]⟩, ⟨136, .iteB, [V 51, V 106, V 50]⟩, ⟨135, .iteI, [V 51, V 105, N 0]⟩, ⟨134, .iteI, [V 51, V 104, N 0]⟩, ⟨133, .iteI, [V 51, V 103, N 0]⟩, ⟨132, .iteI, [V 51, V 102, N 0]⟩, ⟨131, .iteI, [V 51, V 101, N 0]⟩, ⟨130, .iteI, [V 51, V 100, N 0]⟩, ⟨129, .iteI, [V 51, V 99, N 0]⟩, ⟨128, .iteI, [V 51, V 98, N 0]⟩, ⟨127, .iteI, [V 51, V 97, N 0]⟩, ⟨126, .iteI, [V 51, V 96, N 0]⟩, ⟨125, .iteI, [V 51, V 95, N 0]⟩, ⟨124, .iteI, [V 51, V 94, N 0]⟩, ⟨123, .iteI, [V 51, V 93, N 0]⟩, ⟨122, .iteI, [V 51, V 92, N 0]⟩, ⟨121, .iteI, [V 51, V 64, V 43]⟩, ⟨120, .iteI, [V 51, V 63, V 42]⟩, ⟨119, .iteI, [V 51, V 62, V 41]⟩, ⟨118, .iteI, [V 51, V 61, V 40]⟩, ⟨117, .iteI, [V 51, V 60, V 39]⟩, ⟨116, .iteI, [V 51, V 59, V 38]⟩, ⟨115, .iteI, [V 51, V 58, V 37]⟩, ⟨114, .iteI, [V 51, V 57, V 36]⟩, ⟨113, .iteI, [V 51, V 56, V 35]⟩, ⟨112, .iteI, [V 51, V 55, V 34]⟩, ⟨111, .iteI, [V 51, V 54, V 33]⟩, ⟨110, .iteI, [V 51, V 53, V 32]⟩, ⟨109, .iteI, [V 51, V 65, V 44]⟩, ⟨108, .iteI, [V 51, V 91, V 44]⟩, ⟨107, .not, [V 51]⟩, ⟨106, .iteB, [V 72, V 72, V 71]⟩, ⟨105, .iteI, [V 72, V 87, N 0]⟩, ⟨104, .iteI, [V 72, V 86, N 0]⟩, ⟨103, .iteI, [V 72, V 85, N 0]⟩, ⟨102, .iteI, [V 72, V 84, N 0]⟩, ⟨101, .iteI, [V 72, V 83, N 0]⟩, ⟨100, .iteI, [V 72, V 82, N 0]⟩, ⟨99, .iteI, [V 72, V 81, N 0]⟩, ⟨98, .iteI, [V 72, V 80, N 0]⟩, ⟨97, .iteI, [V 72, V 79, N 0]⟩, ⟨96, .iteI, [V 72, V 78, N 0]⟩, ⟨95, .iteI, [V 72, V 77, N 0]⟩, ⟨94, .iteI, [V 72, V 76, N 0]⟩, ⟨93, .iteI, [V 72, V 75, N 0]⟩, ⟨92, .iteI, [V 72, V 74, N 0]⟩, ⟨91, .iteI, [V 72, V 88, V 65]⟩, ⟨90, .not, [V 72]⟩, ⟨89, .imp, [V 72, V 73]⟩, ⟨73, (.call 24), [V 0, V 53, V 54, V 55, V 56, V 57, V 58, V 59, V 60, V 61, V 62, V 63, V 64, V 13, V 14]⟩, ⟨72, .and, [V 68, V 70]⟩, ⟨71, .and, [V 67, V 69]⟩, ⟨70, .and, [V 51, V 68]⟩, ⟨69, .and, [V 51, V 67]⟩, ⟨68, .not, [V 67]⟩, ⟨67, (.cmp .neq), [V 65, N 0]⟩, ⟨66, .imp, [V 51, V 52]⟩, ⟨52, (.call 23), [V 0, V 32, V 33, V 34, V 35, V 36, V 37, V 38, V 39, V 40, V 41, V 42, V 43]⟩, ⟨51, .and, [V 47, V 49]⟩, ⟨50, .and, [V 46, V 48]⟩, ⟨49, .and, [V 30, V 47]⟩, ⟨48, .and, [V 30, V 46]⟩, ⟨47, .not, [V 46]⟩, ⟨46, (.cmp .neq), [V 44, N 0]⟩, ⟨45, .imp, [V 30, V 31]⟩, ⟨31, (.call 22), [V 0, V 16, V 17, V 18, V 19, V 20, V 21, V 22, V 23, V 24, V 25, V 26, V 27, V 13, V 14]⟩, ⟨30, .not, [V 29]⟩, ⟨29, (.cmp .neq), [V 28, N 0]⟩, ⟨15, (.call 21), [V 0, V 1, V 2, V 3, V 4, V 5, V 6, V 7, V 8, V 9, V 10, V 11, V 12]⟩], [V 89, V 66, V 45, V 15], []⟩
theorem UN (e : Nat → A) (H : Ac T e MT.defs) : ∀ z0, z0 = (Day.HB.mk [(e 1).int, (e 2).int, (e 3).int, (e 4).int, (e 5).int, (e 6).int, (e 7).int, (e 8).int] (e 9).int (e 10).int (e 11).int (e 12).int) → ∀ r1, r1 = Day.Nz (e 0).int z0 (Day.Ls.mk (e 13) (e 14).int) → (Day.HB.i64 z0 && Day.Ls.ok (Day.Ls.mk (e 13) (e 14).int)) = true →
  ((e 89).bool = true ∧ (e 66).bool = true ∧ (e 45).bool = true ∧ (e 15).bool = true) ∧ (((r1)).a 0 = (e 152).int ∧ ((r1)).a 1 = (e 153).int ∧ ((r1)).a 2 = (e 154).int ∧ ((r1)).a 3 = (e 155).int ∧ ((r1)).a 4 = (e 156).int ∧ ((r1)).a 5 = (e 157).int ∧ ((r1)).a 6 = (e 158).int ∧ ((r1)).a 7 = (e 159).int ∧ ((r1)).port = (e 160).int ∧ ((r1)).age = (e 161).int ∧ ((r1)).hold = (e 162).int ∧ ((r1)).pos = (e 163).int ∧ ((Day.H6 (e 0).int z0 (Day.Ls.mk (e 13) (e 14).int))).kind = (e 164).int ∧ ((Day.H6 (e 0).int z0 (Day.Ls.mk (e 13) (e 14).int))).id = (e 165).int ∧ Day.Bh (e 0).int z0 (Day.Ls.mk (e 13) (e 14).int) = (e 138).int) := by
 intro z0 hz0 r1 hr1 hp
 subst hz0 hr1
 simp only [MT, Ac, Def.q, Bc, L.Ae, L.Aq, L.AE, L.AF, L.ev, A.Ad, A.Ah, A.As, A.AJ, List.map_cons, List.map_nil, Nat.zero_add, Nat.add_zero, and_true, true_and, Nat.reduceAdd, Nat.one_mul] at H
 simp only [C0, C1, CN, A3, De, Dg, Bm, Dw, and_true, true_and] at H
 obtain ⟨q166, ⟨q165, -⟩, ⟨q164, -⟩, ⟨q163, -⟩, ⟨q162, -⟩, ⟨q161, -⟩, ⟨q160, -⟩, ⟨q159, -⟩, ⟨q158, -⟩, ⟨q157, -⟩, ⟨q156, -⟩, ⟨q155, -⟩, ⟨q154, -⟩, ⟨q153, -⟩, ⟨q152, -⟩, ⟨q151, -⟩, ⟨q150, -⟩, ⟨q149, -⟩, ⟨q148, -⟩, ⟨q147, -⟩, ⟨q146, -⟩, ⟨q145, -⟩, ⟨q144, -⟩, ⟨q143, -⟩, ⟨q142, -⟩, ⟨q141, -⟩, ⟨q140, -⟩, ⟨q139, -⟩, ⟨q138, -⟩, q137, q136, ⟨q135, -⟩, ⟨q134, -⟩, ⟨q133, -⟩, ⟨q132, -⟩, ⟨q131, -⟩, ⟨q130, -⟩, ⟨q129, -⟩, ⟨q128, -⟩, ⟨q127, -⟩, ⟨q126, -⟩, ⟨q125, -⟩, ⟨q124, -⟩, ⟨q123, -⟩, ⟨q122, -⟩, ⟨q121, -⟩, ⟨q120, -⟩, ⟨q119, -⟩, ⟨q118, -⟩, ⟨q117, -⟩, ⟨q116, -⟩, ⟨q115, -⟩, ⟨q114, -⟩, ⟨q113, -⟩, ⟨q112, -⟩, ⟨q111, -⟩, ⟨q110, -⟩, ⟨q109, -⟩, ⟨q108, -⟩, q107, q106, ⟨q105, -⟩, ⟨q104, -⟩, ⟨q103, -⟩, ⟨q102, -⟩, ⟨q101, -⟩, ⟨q100, -⟩, ⟨q99, -⟩, ⟨q98, -⟩, ⟨q97, -⟩, ⟨q96, -⟩, ⟨q95, -⟩, ⟨q94, -⟩, ⟨q93, -⟩, ⟨q92, -⟩, ⟨q91, -⟩, q90, q89, q73, q72, q71, q70, q69, q68, q67, q66, q52, q51, q50, q49, q48, q47, q46, q45, q31, q30, q29, q15⟩ := H
 replace q73 := Tg q73 _ rfl _ rfl
 obtain ⟨q73, q74, q75, q76, q77, q78, q79, q80, q81, q82, q83, q84, q85, q86, q87, q88⟩ := q73
 replace q52 := Qk q52 _ rfl _ rfl
 obtain ⟨q52, q53, q54, q55, q56, q57, q58, q59, q60, q61, q62, q63, q64, q65⟩ := q52
 replace q31 := UH q31 _ rfl _ rfl
 obtain ⟨q31, q32, q33, q34, q35, q36, q37, q38, q39, q40, q41, q42, q43, q44⟩ := q31
 replace q15 := UF q15 _ rfl _ rfl
 obtain ⟨q15, q16, q17, q18, q19, q20, q21, q22, q23, q24, q25, q26, q27, q28⟩ := q15
 simp only [L.Ae, L.Aq, L.AE, L.AF, L.ev, A.Ad, A.Ah, A.As] at q73 q74 q75 q76 q77 q78 q79 q80 q81 q82 q83 q84 q85 q86 q87 q88 q52 q53 q54 q55 q56 q57 q58 q59 q60 q61 q62 q63 q64 q65 q31 q32 q33 q34 q35 q36 q37 q38 q39 q40 q41 q42 q43 q44 q15 q16 q17 q18 q19 q20 q21 q22 q23 q24 q25 q26 q27 q28
 generalize (e 0).int = x0, (e 1).int = x1, (e 2).int = x2, (e 3).int = x3, (e 4).int = x4, (e 5).int = x5, (e 6).int = x6, (e 7).int = x7, (e 8).int = x8, (e 9).int = x9, (e 10).int = x10, (e 11).int = x11, (e 12).int = x12, e 13 = x13, (e 14).int = x14, (e 15).bool = v15, (e 16).int = v16, (e 17).int = v17, (e 18).int = v18, (e 19).int = v19, (e 20).int = v20, (e 21).int = v21, (e 22).int = v22, (e 23).int = v23, (e 24).int = v24, (e 25).int = v25, (e 26).int = v26, (e 27).int = v27, (e 28).int = v28, (e 29).bool = v29, (e 30).bool = v30, (e 31).bool = v31, (e 32).int = v32, (e 33).int = v33, (e 34).int = v34, (e 35).int = v35, (e 36).int = v36, (e 37).int = v37, (e 38).int = v38, (e 39).int = v39, (e 40).int = v40, (e 41).int = v41, (e 42).int = v42, (e 43).int = v43, (e 44).int = v44, (e 45).bool = v45, (e 46).bool = v46, (e 47).bool = v47, (e 48).bool = v48, (e 49).bool = v49, (e 50).bool = v50, (e 51).bool = v51, (e 52).bool = v52, (e 53).int = v53, (e 54).int = v54, (e 55).int = v55, (e 56).int = v56, (e 57).int = v57, (e 58).int = v58, (e 59).int = v59, (e 60).int = v60, (e 61).int = v61, (e 62).int = v62, (e 63).int = v63, (e 64).int = v64, (e 65).int = v65, (e 66).bool = v66, (e 67).bool = v67, (e 68).bool = v68, (e 69).bool = v69, (e 70).bool = v70, (e 71).bool = v71, (e 72).bool = v72, (e 73).bool = v73, (e 74).int = v74, (e 75).int = v75, (e 76).int = v76, (e 77).int = v77, (e 78).int = v78, (e 79).int = v79, (e 80).int = v80, (e 81).int = v81, (e 82).int = v82, (e 83).int = v83, (e 84).int = v84, (e 85).int = v85, (e 86).int = v86, (e 87).int = v87, (e 88).int = v88, (e 89).bool = v89, (e 90).bool = v90, (e 91).int = v91, (e 92).int = v92, (e 93).int = v93, (e 94).int = v94, (e 95).int = v95, (e 96).int = v96, (e 97).int = v97, (e 98).int = v98, (e 99).int = v99, (e 100).int = v100, (e 101).int = v101, (e 102).int = v102, (e 103).int = v103, (e 104).int = v104, (e 105).int = v105, (e 106).bool = v106, (e 107).bool = v107, (e 108).int = v108, (e 109).int = v109, (e 110).int = v110, (e 111).int = v111, (e 112).int = v112, (e 113).int = v113, (e 114).int = v114, (e 115).int = v115, (e 116).int = v116, (e 117).int = v117, (e 118).int = v118, (e 119).int = v119, (e 120).int = v120, (e 121).int = v121, (e 122).int = v122, (e 123).int = v123, (e 124).int = v124, (e 125).int = v125, (e 126).int = v126, (e 127).int = v127, (e 128).int = v128, (e 129).int = v129, (e 130).int = v130, (e 131).int = v131, (e 132).int = v132, (e 133).int = v133, (e 134).int = v134, (e 135).int = v135, (e 136).bool = v136, (e 137).bool = v137, (e 138).int = v138, (e 139).int = v139, (e 140).int = v140, (e 141).int = v141, (e 142).int = v142, (e 143).int = v143, (e 144).int = v144, (e 145).int = v145, (e 146).int = v146, (e 147).int = v147, (e 148).int = v148, (e 149).int = v149, (e 150).int = v150, (e 151).int = v151, (e 152).int = v152, (e 153).int = v153, (e 154).int = v154, (e 155).int = v155, (e 156).int = v156, (e 157).int = v157, (e 158).int = v158, (e 159).int = v159, (e 160).int = v160, (e 161).int = v161, (e 162).int = v162, (e 163).int = v163, (e 164).int = v164, (e 165).int = v165, (e 166).bool = v166 at *
 generalize hH : (Day.HB.mk [x1, x2, x3, x4, x5, x6, x7, x8] x9 x10 x11 x12) = h at *
 have g0 : x1 = h.a 0 ∧ x2 = h.a 1 ∧ x3 = h.a 2 ∧ x4 = h.a 3 ∧ x5 = h.a 4 ∧ x6 = h.a 5 ∧ x7 = h.a 6 ∧ x8 = h.a 7 ∧ x9 = h.port ∧ x10 = h.age ∧ x11 = h.hold ∧ x12 = h.pos := by subst hH; simp [Day.HB.a]
 obtain ⟨a1, a2, a3, a4, a5, a6, a7, a8, a9, a10, a11, a12⟩ := g0
 clear hH
 generalize hq : Day.Ls.mk x13 x14 = q at *
 have hn0 : x14 = q.n := by rw [← hq]
 have hk : ∀ p, q.k p = (x13.A5.getD (2 * p.toNat) (.i 0)).int := fun p => by rw [← hq]; rfl
 have hd : ∀ p, q.d p = (x13.A5.getD (1 + 2 * p.toNat) (.i 0)).int := fun p => by rw [← hq]; rfl
 clear hq
 simp only [Bool.and_eq_true] at hp
 obtain ⟨hi, hok⟩ := hp
 clear hk hd
 cases hr : Day.Ak x0 h with
 | false =>
  have hg : Day.Bh x0 h q = 1 := by simp [Day.Bh, hr]
  have hA : Day.BZ x0 h = 1 := by simp [Day.BZ, hr]
  rw [hA] at q28
  subst_vars
  simp [hi, hg, Day.Nz, Day.H6, Day.Bp, Day.B3, Day.HB.a]
 | true =>
  have ht := Day.Sx hr
  have hmk := Day.SL (Day.Bq x0 h) (Day.YG _ _)
  rw [← q16, ← q17, ← q18, ← q19, ← q20, ← q21, ← q22, ← q23, ← q24, ← q25, ← q26, ← q27] at hmk
  simp only [hmk] at q31 q32 q33 q34 q35 q36 q37 q38 q39 q40 q41 q42 q43 q44
  have hi2 := Day.Ed ht
  rw [Day.SC hr] at q28
  cases hf : Day.Cg x0 q with
  | false =>
   have hg : Day.Bh x0 h q = 2 := by simp [Day.Bh, hr, hf]
   have hg2 : Day.Bh x0 (Day.Bq x0 h) q = 2 := by simp [Day.Bh, ht, hf]
   rw [hg2] at q44
   clear hmk
   subst_vars
   simp [hi, hok, hi2, hg, Day.Nz, Day.H6, Day.Bp, Day.B3, Day.HB.a]
  | true =>
   have hg := Day.CI.2 ⟨hr, hf⟩
   rw [Day.CI.2 ⟨ht, hf⟩] at q44
   have hnr := Day.SK ht hf
   have hmk2 := Day.SL (Day.Ee x0 (Day.Bq x0 h) q) (Day.YF _ _ _)
   rw [← q32, ← q33, ← q34, ← q35, ← q36, ← q37, ← q38, ← q39, ← q40, ← q41, ← q42, ← q43] at hmk2
   simp only [hmk2] at q52 q53 q54 q55 q56 q57 q58 q59 q60 q61 q62 q63 q64 q65
   have hi3 := Day.Ed hnr
   rw [Day.SC hnr] at q65
   have hs := Day.Ny hnr
   have hmk3 := Day.SL (Day.BE x0 (Day.Ee x0 (Day.Bq x0 h) q)) (Day.SM _ _)
   rw [← q53, ← q54, ← q55, ← q56, ← q57, ← q58, ← q59, ← q60, ← q61, ← q62, ← q63, ← q64] at hmk3
   simp only [hmk3] at q73 q74 q75 q76 q77 q78 q79 q80 q81 q82 q83 q84 q85 q86 q87 q88
   have hi4 := Day.Ed hs
   rw [Day.CI.2 ⟨hs, hf⟩] at q88
   clear hmk hmk2 hmk3
   subst_vars
   simp [hi, hok, hi2, hi3, hi4, hg, Day.Nz, Day.H6, Day.Ae2]
def Jf : G := ⟨148, [⟨147, .iteB, [V 18, V 118, V 17]⟩, ⟨146, .iteI, [V 18, V 117, N 0]⟩, ⟨145, .iteI, [V 18, V 116, N 0]⟩, ⟨144, .iteI, [V 18, V 115, N 0]⟩, ⟨143, .iteI, [V 18, V 114, N 0]⟩, ⟨142, .iteI, [V 18, V 113, N 0]⟩, ⟨141, .iteI, [V 18, V 112, N 0]⟩, ⟨140, .iteI, [V 18, V 111, N 0]⟩, ⟨139, .iteI, [V 18, V 110, N 0]⟩, ⟨138, .iteI, [V 18, V 109, N 0]⟩, ⟨137, .iteI, [V 18, V 108, N 0]⟩, ⟨136, .iteI, [V 18, V 107, N 0]⟩, ⟨135, .iteI, [V 18, V 106, N 0]⟩, ⟨134, .iteI, [V 18, V 105, N 0]⟩, ⟨133, .iteI, [V 18, V 104, N 0]⟩, ⟨132, .iteI, [V 18, V 103, V 12]⟩, ⟨131, .iteI, [V 18, V 102, V 11]⟩, ⟨130, .iteI, [V 18, V 101, V 10]⟩, ⟨129, .iteI, [V 18, V 100, V 9]⟩, ⟨128, .iteI, [V 18, V 99, V 8]⟩, ⟨127, .iteI, [V 18, V 98, V 7]⟩, ⟨126, .iteI, [V 18, V 97, V 6]⟩, ⟨125, .iteI, [V 18, V 96, V 5]⟩, ⟨124, .iteI, [V 18, V 95, V 4]⟩, ⟨123, .iteI, [V 18, V 94, V 3]⟩, ⟨122, .iteI, [V 18, V 93, V 2]⟩, ⟨121, .iteI, [V 18, V 92, V 1]⟩, ⟨120, .iteI, [V 18, V 91, N 1]⟩, ⟨119, .not, [V 18]⟩, ⟨118, .iteB, [V 27, V 27, V 26]⟩, ⟨117, .iteI, [V 27, V 87, N 0]⟩, ⟨116, .iteI, [V 27, V 86, N 0]⟩, ⟨115, .iteI, [V 27, V 85, N 0]⟩, ⟨114, .iteI, [V 27, V 84, N 0]⟩, ⟨113, .iteI, [V 27, V 83, N 0]⟩, ⟨112, .iteI, [V 27, V 82, N 0]⟩, ⟨111, .iteI, [V 27, V 81, N 0]⟩, ⟨110, .iteI, [V 27, V 80, N 0]⟩, ⟨109, .iteI, [V 27, V 79, N 0]⟩, ⟨108, .iteI, [V 27, V 78, N 0]⟩, ⟨107, .iteI, [V 27, V 77, N 0]⟩, ⟨106, .iteI, [V 27, V 76, N 0]⟩, ⟨105, .iteI, [V 27, V 75, N 0]⟩, ⟨104, .iteI, [V 27, V 74, N 0]⟩, ⟨103, .iteI, [V 27, V 70, V 12]⟩, ⟨102, .iteI, [V 27, V 69, V 11]⟩, ⟨101, .iteI, [V 27, V 68, V 10]⟩, ⟨100, .iteI, [V 27, V 67, V 9]⟩, ⟨99, .iteI, [V 27, V 66, V 8]⟩, ⟨98, .iteI, [V 27, V 65, V 7]⟩, ⟨97, .iteI, [V 27, V 64, V 6]⟩, ⟨96, .iteI, [V 27, V 63, V 5]⟩, ⟨95, .iteI, [V 27, V 62, V 4]⟩, ⟨94, .iteI, [V 27, V 61, V 3]⟩, ⟨93, .iteI, [V 27, V 60, V 2]⟩, ⟨92, .iteI, [V 27, V 59, V 1]⟩, ⟨91, .iteI, [V 27, V 88, N 2]⟩, ⟨90, .not, [V 27]⟩, ⟨89, .imp, [V 27, V 73]⟩, ⟨73, (.call 48), [V 0, V 59, V 60, V 61, V 62, V 63, V 64, V 65, V 66, V 67, V 68, V 69, V 70, V 13, V 14]⟩, ⟨72, .imp, [V 27, V 58]⟩, ⟨58, (.call 47), [V 0, V 44, V 45, V 46, V 47, V 48, V 49, V 50, V 51, V 52, V 53, V 54, V 55]⟩, ⟨57, .imp, [V 27, V 43]⟩, ⟨43, (.call 46), [V 0, V 29, V 30, V 31, V 32, V 33, V 34, V 35, V 36, V 37, V 38, V 39, V 40, V 13, V 14]⟩, ⟨42, .imp, [V 27, V 28]⟩, ⟨28, (.call 45), [V 0, V 1, V 2, V 3, V 4, V 5, V 6, V 7, V 8, V 9, V 10, V 11, V 12]⟩, ⟨27, .and, [V 23, V 25]⟩, ⟨26, .and, [V 22, V 24]⟩, ⟨25, .and, [V 18, V 23]⟩, ⟨24, .and, [V 18, V 22]⟩, ⟨23, .not, [V 22]⟩, ⟨22, .not, [V 20]⟩, ⟨21, .imp, [V 18, V 19]⟩, ⟨19, (.call 10), [V 0, V 13, V 14]⟩, ⟨18, .not, [V 17]⟩, ⟨17, .not, [V 16]⟩, ⟨15, (.call 8), [V 0, V 1, V 2, V 3, V 4, V 5, V 6, V 7, V 8, V 9, V 10, V 11, V 12]⟩], [V 89, V 72, V 57, V 42, V 21, V 15], []⟩
theorem QS (e : Nat → A) (H : Ac T e Jf.defs) : ∀ z0, z0 = (Day.HB.mk [(e 1).int, (e 2).int, (e 3).int, (e 4).int, (e 5).int, (e 6).int, (e 7).int, (e 8).int] (e 9).int (e 10).int (e 11).int (e 12).int) → ∀ r1, r1 = Day.Nz (e 0).int z0 (Day.Ls.mk (e 13) (e 14).int) → (Day.HB.i64 z0 && Day.Ls.ok (Day.Ls.mk (e 13) (e 14).int)) = true →
  ((e 89).bool = true ∧ (e 72).bool = true ∧ (e 57).bool = true ∧ (e 42).bool = true ∧ (e 21).bool = true ∧ (e 15).bool = true) ∧ (((r1)).a 0 = (e 133).int ∧ ((r1)).a 1 = (e 134).int ∧ ((r1)).a 2 = (e 135).int ∧ ((r1)).a 3 = (e 136).int ∧ ((r1)).a 4 = (e 137).int ∧ ((r1)).a 5 = (e 138).int ∧ ((r1)).a 6 = (e 139).int ∧ ((r1)).a 7 = (e 140).int ∧ ((r1)).port = (e 141).int ∧ ((r1)).age = (e 142).int ∧ ((r1)).hold = (e 143).int ∧ ((r1)).pos = (e 144).int ∧ ((Day.H6 (e 0).int z0 (Day.Ls.mk (e 13) (e 14).int))).kind = (e 145).int ∧ ((Day.H6 (e 0).int z0 (Day.Ls.mk (e 13) (e 14).int))).id = (e 146).int ∧ Day.Bh (e 0).int z0 (Day.Ls.mk (e 13) (e 14).int) = (e 120).int) := by
 intro z0 hz0 r1 hr1 hp
 subst hz0 hr1
 simp only [Jf, Ac, Def.q, Bc, L.Ae, L.Aq, L.AE, L.AF, L.ev, A.Ad, A.Ah, A.As, A.AJ, List.map_cons, List.map_nil, Nat.zero_add, Nat.add_zero, and_true, true_and, Nat.reduceAdd, Nat.one_mul] at H
 simp only [C0, C1, CN, A3, De, Dg, Bm, Dw, and_true, true_and] at H
 obtain ⟨q147, ⟨q146, -⟩, ⟨q145, -⟩, ⟨q144, -⟩, ⟨q143, -⟩, ⟨q142, -⟩, ⟨q141, -⟩, ⟨q140, -⟩, ⟨q139, -⟩, ⟨q138, -⟩, ⟨q137, -⟩, ⟨q136, -⟩, ⟨q135, -⟩, ⟨q134, -⟩, ⟨q133, -⟩, ⟨q132, -⟩, ⟨q131, -⟩, ⟨q130, -⟩, ⟨q129, -⟩, ⟨q128, -⟩, ⟨q127, -⟩, ⟨q126, -⟩, ⟨q125, -⟩, ⟨q124, -⟩, ⟨q123, -⟩, ⟨q122, -⟩, ⟨q121, -⟩, ⟨q120, -⟩, q119, q118, ⟨q117, -⟩, ⟨q116, -⟩, ⟨q115, -⟩, ⟨q114, -⟩, ⟨q113, -⟩, ⟨q112, -⟩, ⟨q111, -⟩, ⟨q110, -⟩, ⟨q109, -⟩, ⟨q108, -⟩, ⟨q107, -⟩, ⟨q106, -⟩, ⟨q105, -⟩, ⟨q104, -⟩, ⟨q103, -⟩, ⟨q102, -⟩, ⟨q101, -⟩, ⟨q100, -⟩, ⟨q99, -⟩, ⟨q98, -⟩, ⟨q97, -⟩, ⟨q96, -⟩, ⟨q95, -⟩, ⟨q94, -⟩, ⟨q93, -⟩, ⟨q92, -⟩, ⟨q91, -⟩, q90, q89, q73, q72, q58, q57, q43, q42, q28, q27, q26, q25, q24, q23, q22, q21, q19, q18, q17, q15⟩ := H
 replace q73 := Ql q73 _ rfl _ rfl
 obtain ⟨q73, q74, q75, q76, q77, q78, q79, q80, q81, q82, q83, q84, q85, q86, q87, q88⟩ := q73
 replace q58 := OZ q58 _ rfl _ rfl
 obtain ⟨q58, q59, q60, q61, q62, q63, q64, q65, q66, q67, q68, q69, q70, q71⟩ := q58
 replace q43 := Td q43 _ rfl _ rfl
 obtain ⟨q43, q44, q45, q46, q47, q48, q49, q50, q51, q52, q53, q54, q55, q56⟩ := q43
 replace q28 := Ta q28 _ rfl _ rfl
 obtain ⟨q28, q29, q30, q31, q32, q33, q34, q35, q36, q37, q38, q39, q40, q41⟩ := q28
 replace q19 := Ev q19
 obtain ⟨q19, q20⟩ := q19
 replace q15 := By q15 _ rfl
 obtain ⟨q15, q16⟩ := q15
 simp only [L.Ae, L.Aq, L.AE, L.AF, L.ev, A.Ad, A.Ah, A.As] at q73 q74 q75 q76 q77 q78 q79 q80 q81 q82 q83 q84 q85 q86 q87 q88 q58 q59 q60 q61 q62 q63 q64 q65 q66 q67 q68 q69 q70 q71 q43 q44 q45 q46 q47 q48 q49 q50 q51 q52 q53 q54 q55 q56 q28 q29 q30 q31 q32 q33 q34 q35 q36 q37 q38 q39 q40 q41 q19 q20 q15 q16
 generalize (e 0).int = x0, (e 1).int = x1, (e 2).int = x2, (e 3).int = x3, (e 4).int = x4, (e 5).int = x5, (e 6).int = x6, (e 7).int = x7, (e 8).int = x8, (e 9).int = x9, (e 10).int = x10, (e 11).int = x11, (e 12).int = x12, e 13 = x13, (e 14).int = x14, (e 15).bool = v15, (e 16).bool = v16, (e 17).bool = v17, (e 18).bool = v18, (e 19).bool = v19, (e 20).bool = v20, (e 21).bool = v21, (e 22).bool = v22, (e 23).bool = v23, (e 24).bool = v24, (e 25).bool = v25, (e 26).bool = v26, (e 27).bool = v27, (e 28).bool = v28, (e 29).int = v29, (e 30).int = v30, (e 31).int = v31, (e 32).int = v32, (e 33).int = v33, (e 34).int = v34, (e 35).int = v35, (e 36).int = v36, (e 37).int = v37, (e 38).int = v38, (e 39).int = v39, (e 40).int = v40, (e 41).int = v41, (e 42).bool = v42, (e 43).bool = v43, (e 44).int = v44, (e 45).int = v45, (e 46).int = v46, (e 47).int = v47, (e 48).int = v48, (e 49).int = v49, (e 50).int = v50, (e 51).int = v51, (e 52).int = v52, (e 53).int = v53, (e 54).int = v54, (e 55).int = v55, (e 56).int = v56, (e 57).bool = v57, (e 58).bool = v58, (e 59).int = v59, (e 60).int = v60, (e 61).int = v61, (e 62).int = v62, (e 63).int = v63, (e 64).int = v64, (e 65).int = v65, (e 66).int = v66, (e 67).int = v67, (e 68).int = v68, (e 69).int = v69, (e 70).int = v70, (e 71).int = v71, (e 72).bool = v72, (e 73).bool = v73, (e 74).int = v74, (e 75).int = v75, (e 76).int = v76, (e 77).int = v77, (e 78).int = v78, (e 79).int = v79, (e 80).int = v80, (e 81).int = v81, (e 82).int = v82, (e 83).int = v83, (e 84).int = v84, (e 85).int = v85, (e 86).int = v86, (e 87).int = v87, (e 88).int = v88, (e 89).bool = v89, (e 90).bool = v90, (e 91).int = v91, (e 92).int = v92, (e 93).int = v93, (e 94).int = v94, (e 95).int = v95, (e 96).int = v96, (e 97).int = v97, (e 98).int = v98, (e 99).int = v99, (e 100).int = v100, (e 101).int = v101, (e 102).int = v102, (e 103).int = v103, (e 104).int = v104, (e 105).int = v105, (e 106).int = v106, (e 107).int = v107, (e 108).int = v108, (e 109).int = v109, (e 110).int = v110, (e 111).int = v111, (e 112).int = v112, (e 113).int = v113, (e 114).int = v114, (e 115).int = v115, (e 116).int = v116, (e 117).int = v117, (e 118).bool = v118, (e 119).bool = v119, (e 120).int = v120, (e 121).int = v121, (e 122).int = v122, (e 123).int = v123, (e 124).int = v124, (e 125).int = v125, (e 126).int = v126, (e 127).int = v127, (e 128).int = v128, (e 129).int = v129, (e 130).int = v130, (e 131).int = v131, (e 132).int = v132, (e 133).int = v133, (e 134).int = v134, (e 135).int = v135, (e 136).int = v136, (e 137).int = v137, (e 138).int = v138, (e 139).int = v139, (e 140).int = v140, (e 141).int = v141, (e 142).int = v142, (e 143).int = v143, (e 144).int = v144, (e 145).int = v145, (e 146).int = v146, (e 147).bool = v147 at *
 generalize hH : (Day.HB.mk [x1, x2, x3, x4, x5, x6, x7, x8] x9 x10 x11 x12) = h at *
 have g0 : x1 = h.a 0 ∧ x2 = h.a 1 ∧ x3 = h.a 2 ∧ x4 = h.a 3 ∧ x5 = h.a 4 ∧ x6 = h.a 5 ∧ x7 = h.a 6 ∧ x8 = h.a 7 ∧ x9 = h.port ∧ x10 = h.age ∧ x11 = h.hold ∧ x12 = h.pos := by subst hH; simp [Day.HB.a]
 obtain ⟨a1, a2, a3, a4, a5, a6, a7, a8, a9, a10, a11, a12⟩ := g0
 clear hH
 generalize hq : Day.Ls.mk x13 x14 = q at *
 have hn0 : x14 = q.n := by rw [← hq]
 have hk : ∀ p, q.k p = (x13.A5.getD (2 * p.toNat) (.i 0)).int := fun p => by rw [← hq]; rfl
 have hd : ∀ p, q.d p = (x13.A5.getD (1 + 2 * p.toNat) (.i 0)).int := fun p => by rw [← hq]; rfl
 clear hq
 simp only [Bool.and_eq_true] at hp
 obtain ⟨hi, hok⟩ := hp
 clear hk hd
 cases hr : Day.Ak x0 h with
 | false =>
  have hg : Day.Bh x0 h q = 1 := by simp [Day.Bh, hr]
  rw [hr] at q16
  subst_vars
  simp [hi, hok, hg, Day.Nz, Day.H6, Day.Bp, Day.B3, Day.HB.a]
 | true =>
  rw [hr] at q16
  cases hf : Day.Cg x0 q with
  | false =>
   have hg : Day.Bh x0 h q = 2 := by simp [Day.Bh, hr, hf]
   rw [hf] at q20
   subst_vars
   simp [hi, hok, hg, Day.Nz, Day.H6, Day.Bp, Day.B3, Day.HB.a]
  | true =>
   rw [hf] at q20
   have ht := Day.Sx hr
   have hmk := Day.SL (Day.Bq x0 h) (Day.YG _ _)
   rw [← q29, ← q30, ← q31, ← q32, ← q33, ← q34, ← q35, ← q36, ← q37, ← q38, ← q39, ← q40] at hmk
   simp only [hmk] at q43 q44 q45 q46 q47 q48 q49 q50 q51 q52 q53 q54 q55 q56
   have hi2 := Day.Ed ht
   have hg := Day.CI.2 ⟨hr, hf⟩
   have hnr := Day.SK ht hf
   have hmk2 := Day.SL (Day.Ee x0 (Day.Bq x0 h) q) (Day.YF _ _ _)
   rw [← q44, ← q45, ← q46, ← q47, ← q48, ← q49, ← q50, ← q51, ← q52, ← q53, ← q54, ← q55] at hmk2
   simp only [hmk2] at q58 q59 q60 q61 q62 q63 q64 q65 q66 q67 q68 q69 q70 q71
   have hi3 := Day.Ed hnr
   have hs := Day.Ny hnr
   have hmk3 := Day.SL (Day.BE x0 (Day.Ee x0 (Day.Bq x0 h) q)) (Day.SM _ _)
   rw [← q59, ← q60, ← q61, ← q62, ← q63, ← q64, ← q65, ← q66, ← q67, ← q68, ← q69, ← q70] at hmk3
   simp only [hmk3] at q73 q74 q75 q76 q77 q78 q79 q80 q81 q82 q83 q84 q85 q86 q87 q88
   have hi4 := Day.Ed hs
   rw [Day.CI.2 ⟨hs, hf⟩] at q88
   clear hmk hmk2 hmk3
   subst_vars
   simp [hi, hok, hi2, hi3, hi4, hg, Day.Nz, Day.H6, Day.Ae2]
end Rx.S
