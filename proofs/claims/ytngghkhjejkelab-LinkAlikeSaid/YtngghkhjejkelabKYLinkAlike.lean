import Derived.Test.YtngghkhjejkelabKXt
set_option linter.unusedVariables false
set_option linter.unusedSimpArgs false
namespace Rx.S
open Go Rx
set_option maxRecDepth 100000
set_option maxHeartbeats 1000000
def g_law14_LinkAlike : G := ⟨190, [⟨189, .iteB, [V 52, V 52, V 51]⟩, ⟨188, .iteB, [V 52, V 186, V 54]⟩, ⟨187, .not, [V 52]⟩, ⟨186, .iteB, [V 181, V 185, B false]⟩, ⟨185, .and, [V 184, V 183]⟩, ⟨184, (.cmp .eql), [V 112, V 114]⟩, ⟨183, (.cmp .eql), [V 113, V 115]⟩, ⟨182, .and, [V 52, V 181]⟩, ⟨181, .iteB, [V 156, V 180, B false]⟩, ⟨180, .and, [V 179, V 178]⟩, ⟨179, (.cmp .eql), [V 88, V 100]⟩, ⟨178, .and, [V 177, V 176]⟩, ⟨177, (.cmp .eql), [V 89, V 101]⟩, ⟨176, .and, [V 175, V 174]⟩, ⟨175, (.cmp .eql), [V 90, V 102]⟩, ⟨174, .and, [V 173, V 172]⟩, ⟨173, (.cmp .eql), [V 91, V 103]⟩, ⟨172, .and, [V 171, V 170]⟩, ⟨171, (.cmp .eql), [V 92, V 104]⟩, ⟨170, .and, [V 169, V 168]⟩, ⟨169, (.cmp .eql), [V 93, V 105]⟩, ⟨168, .and, [V 167, V 166]⟩, ⟨167, (.cmp .eql), [V 94, V 106]⟩, ⟨166, .and, [V 165, V 164]⟩, ⟨165, (.cmp .eql), [V 95, V 107]⟩, ⟨164, .and, [V 163, V 162]⟩, ⟨163, (.cmp .eql), [V 96, V 108]⟩, ⟨162, .and, [V 161, V 160]⟩, ⟨161, (.cmp .eql), [V 97, V 109]⟩, ⟨160, .and, [V 159, V 158]⟩, ⟨159, (.cmp .eql), [V 98, V 110]⟩, ⟨158, (.cmp .eql), [V 99, V 111]⟩, ⟨157, .and, [V 52, V 156]⟩, ⟨156, .iteB, [V 153, V 155, B false]⟩, ⟨155, (.cmp .eql), [V 116, N 0]⟩, ⟨154, .and, [V 52, V 153]⟩, ⟨153, .iteB, [V 148, V 152, B false]⟩, ⟨152, .and, [V 151, V 150]⟩, ⟨151, (.cmp .eql), [V 81, V 83]⟩, ⟨150, (.cmp .eql), [V 82, V 84]⟩, ⟨149, .and, [V 52, V 148]⟩, ⟨148, .iteB, [V 123, V 147, B false]⟩, ⟨147, .and, [V 146, V 145]⟩, ⟨146, (.cmp .eql), [V 57, V 69]⟩, ⟨145, .and, [V 144, V 143]⟩, ⟨144, (.cmp .eql), [V 58, V 70]⟩, ⟨143, .and, [V 142, V 141]⟩, ⟨142, (.cmp .eql), [V 59, V 71]⟩, ⟨141, .and, [V 140, V 139]⟩, ⟨140, (.cmp .eql), [V 60, V 72]⟩, ⟨139, .and, [V 138, V 137]⟩, ⟨138, (.cmp .eql), [V 61, V 73]⟩, ⟨137, .and, [V 136, V 135]⟩, ⟨136, (.cmp .eql), [V 62, V 74]⟩, ⟨135, .and, [V 134, V 133]⟩, ⟨134, (.cmp .eql), [V 63, V 75]⟩, ⟨133, .and, [V 132, V 131]⟩, ⟨132, (.cmp .eql), [V 64, V 76]⟩, ⟨131, .and, [V 130, V 129]⟩, ⟨130, (.cmp .eql), [V 65, V 77]⟩, ⟨129, .and, [V 128, V 127]⟩, ⟨128, (.cmp .eql), [V 66, V 78]⟩, ⟨127, .and, [V 126, V 125]⟩, ⟨126, (.cmp .eql), [V 67, V 79]⟩, ⟨125, (.cmp .eql), [V 68, V 80]⟩, ⟨124, .and, [V 52, V 123]⟩, ⟨123, .iteB, [V 119, V 122, B false]⟩, ⟨122, (.cmp .eql), [V 85, N 0]⟩, ⟨121, .and, [V 52, V 119]⟩, ⟨120, .imp, [V 52, V 118]⟩, ⟨118, (.call 12), []⟩, ⟨117, .imp, [V 52, V 87]⟩, ⟨87, (.call 13), [V 0, V 1, V 2, V 3, V 4, V 5, V 6, V 7, V 8, V 9, V 10, V 11, V 12, V 1, V 2, V 3, V 4, V 5, V 6, V 7, V 8, V 9, V 10, V 11, V 12, V 25, V 26, V 25, V 26, V 29, V 30]⟩, ⟨86, .imp, [V 52, V 56]⟩, ⟨56, (.call 13), [V 0, V 1, V 2, V 3, V 4, V 5, V 6, V 7, V 8, V 9, V 10, V 11, V 12, V 13, V 14, V 15, V 16, V 17, V 18, V 19, V 20, V 21, V 22, V 23, V 24, V 25, V 26, V 27, V 28, B true, B true]⟩, ⟨55, .imp, [V 51, V 53]⟩, ⟨53, (.call 12), []⟩, ⟨52, .not, [V 51]⟩, ⟨51, .iteB, [V 45, B true, V 50]⟩, ⟨50, .not, [V 48]⟩, ⟨49, .imp, [V 46, V 47]⟩, ⟨47, (.call 10), [V 0, V 27, V 28]⟩, ⟨46, .not, [V 45]⟩, ⟨45, .iteB, [V 39, B true, V 44]⟩, ⟨44, .not, [V 42]⟩, ⟨43, .imp, [V 40, V 41]⟩, ⟨41, (.call 10), [V 0, V 25, V 26]⟩, ⟨40, .not, [V 39]⟩, ⟨39, .iteB, [V 33, B true, V 38]⟩, ⟨38, .not, [V 36]⟩, ⟨37, .imp, [V 34, V 35]⟩, ⟨35, (.call 8), [V 0, V 13, V 14, V 15, V 16, V 17, V 18, V 19, V 20, V 21, V 22, V 23, V 24]⟩, ⟨34, .not, [V 33]⟩, ⟨33, .not, [V 32]⟩, ⟨31, (.call 8), [V 0, V 1, V 2, V 3, V 4, V 5, V 6, V 7, V 8, V 9, V 10, V 11, V 12]⟩], [V 120, V 117, V 86, V 55, V 49, V 43, V 37, V 31], []⟩
theorem pure_law14_LinkAlike (e : Nat → A) (H : FactsQ T e g_law14_LinkAlike.defs) : ∀ z0, z0 = (Day.HB.mk [(e 1).int, (e 2).int, (e 3).int, (e 4).int, (e 5).int, (e 6).int, (e 7).int, (e 8).int] (e 9).int (e 10).int (e 11).int (e 12).int) → ∀ z1, z1 = (Day.HB.mk [(e 13).int, (e 14).int, (e 15).int, (e 16).int, (e 17).int, (e 18).int, (e 19).int, (e 20).int] (e 21).int (e 22).int (e 23).int (e 24).int) → (Day.i64 (e 0).int && (Day.HB.i64 z0 && (Day.HB.i64 z1 && (Day.Ls.fok (Day.Ls.mk (e 25) (e 26).int) && Day.Ls.fok (Day.Ls.mk (e 27) (e 28).int))))) = true →
  ((e 120).bool = true ∧ (e 117).bool = true ∧ (e 86).bool = true ∧ (e 55).bool = true ∧ (e 49).bool = true ∧ (e 43).bool = true ∧ (e 37).bool = true ∧ (e 31).bool = true) ∧ (true = (e 188).bool) := by
 intro z0 hz0 z1 hz1 hp
 subst hz0 hz1
 simp only [g_law14_LinkAlike, FactsQ, Def.q, updQ, L.ev_var, L.ev_n, L.ev_t, L.ev_e, L.ev, A.int_i, A.bool_b, A.str_v, A.els_l, List.map_cons, List.map_nil, Nat.zero_add, Nat.add_zero, and_true, true_and, Nat.reduceAdd, Nat.one_mul] at H
 simp only [arI, dvI, btI, cmpI, shI, ifQ, updV, ltQ, and_true, true_and] at H
 obtain ⟨q189, q188, q187, q186, q185, q184, q183, q182, q181, q180, q179, q178, q177, q176, q175, q174, q173, q172, q171, q170, q169, q168, q167, q166, q165, q164, q163, q162, q161, q160, q159, q158, q157, q156, q155, q154, q153, q152, q151, q150, q149, q148, q147, q146, q145, q144, q143, q142, q141, q140, q139, q138, q137, q136, q135, q134, q133, q132, q131, q130, q129, q128, q127, q126, q125, q124, q123, q122, q121, q120, q118, q117, q87, q86, q56, q55, q53, q52, q51, q50, q49, q47, q46, q45, q44, q43, q41, q40, q39, q38, q37, q35, q34, q33, q31⟩ := H
 replace q118 := out_law14_awake q118
 obtain ⟨q118, q119⟩ := q118
 replace q87 := out_link_Step q87 _ rfl _ rfl _ rfl _ rfl
 obtain ⟨q87, q88, q89, q90, q91, q92, q93, q94, q95, q96, q97, q98, q99, q100, q101, q102, q103, q104, q105, q106, q107, q108, q109, q110, q111, q112, q113, q114, q115, q116⟩ := q87
 replace q56 := out_link_Step q56 _ rfl _ rfl _ rfl _ rfl
 obtain ⟨q56, q57, q58, q59, q60, q61, q62, q63, q64, q65, q66, q67, q68, q69, q70, q71, q72, q73, q74, q75, q76, q77, q78, q79, q80, q81, q82, q83, q84, q85⟩ := q56
 replace q53 := out_law14_awake q53
 obtain ⟨q53, q54⟩ := q53
 replace q47 := out_ref12_Fits q47
 obtain ⟨q47, q48⟩ := q47
 replace q41 := out_ref12_Fits q41
 obtain ⟨q41, q42⟩ := q41
 replace q35 := out_ref11_Right q35 _ rfl
 obtain ⟨q35, q36⟩ := q35
 replace q31 := out_ref11_Right q31 _ rfl
 obtain ⟨q31, q32⟩ := q31
 simp only [L.ev_var, L.ev_n, L.ev_t, L.ev_e, L.ev, A.int_i, A.bool_b, A.str_v] at q118 q119 q87 q88 q89 q90 q91 q92 q93 q94 q95 q96 q97 q98 q99 q100 q101 q102 q103 q104 q105 q106 q107 q108 q109 q110 q111 q112 q113 q114 q115 q116 q56 q57 q58 q59 q60 q61 q62 q63 q64 q65 q66 q67 q68 q69 q70 q71 q72 q73 q74 q75 q76 q77 q78 q79 q80 q81 q82 q83 q84 q85 q53 q54 q47 q48 q41 q42 q35 q36 q31 q32
 generalize (e 0).int = x0, (e 1).int = x1, (e 2).int = x2, (e 3).int = x3, (e 4).int = x4, (e 5).int = x5, (e 6).int = x6, (e 7).int = x7, (e 8).int = x8, (e 9).int = x9, (e 10).int = x10, (e 11).int = x11, (e 12).int = x12, (e 13).int = x13, (e 14).int = x14, (e 15).int = x15, (e 16).int = x16, (e 17).int = x17, (e 18).int = x18, (e 19).int = x19, (e 20).int = x20, (e 21).int = x21, (e 22).int = x22, (e 23).int = x23, (e 24).int = x24, e 25 = x25, (e 26).int = x26, e 27 = x27, (e 28).int = x28, (e 29).bool = x29, (e 30).bool = x30, (e 31).bool = v31, (e 32).bool = v32, (e 33).bool = v33, (e 34).bool = v34, (e 35).bool = v35, (e 36).bool = v36, (e 37).bool = v37, (e 38).bool = v38, (e 39).bool = v39, (e 40).bool = v40, (e 41).bool = v41, (e 42).bool = v42, (e 43).bool = v43, (e 44).bool = v44, (e 45).bool = v45, (e 46).bool = v46, (e 47).bool = v47, (e 48).bool = v48, (e 49).bool = v49, (e 50).bool = v50, (e 51).bool = v51, (e 52).bool = v52, (e 53).bool = v53, (e 54).bool = v54, (e 55).bool = v55, (e 56).bool = v56, (e 57).int = v57, (e 58).int = v58, (e 59).int = v59, (e 60).int = v60, (e 61).int = v61, (e 62).int = v62, (e 63).int = v63, (e 64).int = v64, (e 65).int = v65, (e 66).int = v66, (e 67).int = v67, (e 68).int = v68, (e 69).int = v69, (e 70).int = v70, (e 71).int = v71, (e 72).int = v72, (e 73).int = v73, (e 74).int = v74, (e 75).int = v75, (e 76).int = v76, (e 77).int = v77, (e 78).int = v78, (e 79).int = v79, (e 80).int = v80, (e 81).int = v81, (e 82).int = v82, (e 83).int = v83, (e 84).int = v84, (e 85).int = v85, (e 86).bool = v86, (e 87).bool = v87, (e 88).int = v88, (e 89).int = v89, (e 90).int = v90, (e 91).int = v91, (e 92).int = v92, (e 93).int = v93, (e 94).int = v94, (e 95).int = v95, (e 96).int = v96, (e 97).int = v97, (e 98).int = v98, (e 99).int = v99, (e 100).int = v100, (e 101).int = v101, (e 102).int = v102, (e 103).int = v103, (e 104).int = v104, (e 105).int = v105, (e 106).int = v106, (e 107).int = v107, (e 108).int = v108, (e 109).int = v109, (e 110).int = v110, (e 111).int = v111, (e 112).int = v112, (e 113).int = v113, (e 114).int = v114, (e 115).int = v115, (e 116).int = v116, (e 117).bool = v117, (e 118).bool = v118, (e 119).bool = v119, (e 120).bool = v120, (e 121).bool = v121, (e 122).bool = v122, (e 123).bool = v123, (e 124).bool = v124, (e 125).bool = v125, (e 126).bool = v126, (e 127).bool = v127, (e 128).bool = v128, (e 129).bool = v129, (e 130).bool = v130, (e 131).bool = v131, (e 132).bool = v132, (e 133).bool = v133, (e 134).bool = v134, (e 135).bool = v135, (e 136).bool = v136, (e 137).bool = v137, (e 138).bool = v138, (e 139).bool = v139, (e 140).bool = v140, (e 141).bool = v141, (e 142).bool = v142, (e 143).bool = v143, (e 144).bool = v144, (e 145).bool = v145, (e 146).bool = v146, (e 147).bool = v147, (e 148).bool = v148, (e 149).bool = v149, (e 150).bool = v150, (e 151).bool = v151, (e 152).bool = v152, (e 153).bool = v153, (e 154).bool = v154, (e 155).bool = v155, (e 156).bool = v156, (e 157).bool = v157, (e 158).bool = v158, (e 159).bool = v159, (e 160).bool = v160, (e 161).bool = v161, (e 162).bool = v162, (e 163).bool = v163, (e 164).bool = v164, (e 165).bool = v165, (e 166).bool = v166, (e 167).bool = v167, (e 168).bool = v168, (e 169).bool = v169, (e 170).bool = v170, (e 171).bool = v171, (e 172).bool = v172, (e 173).bool = v173, (e 174).bool = v174, (e 175).bool = v175, (e 176).bool = v176, (e 177).bool = v177, (e 178).bool = v178, (e 179).bool = v179, (e 180).bool = v180, (e 181).bool = v181, (e 182).bool = v182, (e 183).bool = v183, (e 184).bool = v184, (e 185).bool = v185, (e 186).bool = v186, (e 187).bool = v187, (e 188).bool = v188, (e 189).bool = v189 at *
 generalize hA : Day.HB.mk [x1, x2, x3, x4, x5, x6, x7, x8] x9 x10 x11 x12 = A at *
 generalize hB : Day.HB.mk [x13, x14, x15, x16, x17, x18, x19, x20] x21 x22 x23 x24 = B at *
 generalize hQ : Day.Ls.mk x25 x26 = Q at *
 generalize hR : Day.Ls.mk x27 x28 = R at *
 have hlA : A.ages.length = 8 := by rw [← hA]; rfl
 have hlB : B.ages.length = 8 := by rw [← hB]; rfl
 have hqn : x26 = Q.n := by rw [← hQ]
 have hrn : x28 = R.n := by rw [← hR]
 have hqx : x25 = Q.x := by rw [← hQ]
 have hrx : x27 = R.x := by rw [← hR]
 clear hA hB hQ hR
 simp only [Bool.and_eq_true] at hp
 obtain ⟨hn, hi0, hi1, hf0, hf1⟩ := hp
 obtain ⟨o1, o1'⟩ := Day.Ls.fok_iff.1 hf0
 obtain ⟨o2, o2'⟩ := Day.Ls.fok_iff.1 hf1
 have k1 : Q.ok = true := by simp [Day.Ls.ok, o1]
 have k2 : R.ok = true := by simp [Day.Ls.ok, o2]
 cases hr0 : Day.rightH x0 A with
 | false =>
  rw [hr0] at q32
  clear q57 q58 q59 q60 q61 q62 q63 q64 q65 q66 q67 q68 q69 q70 q71 q72 q73 q74 q75 q76 q77 q78 q79 q80 q81 q82 q83 q84 q85 q88 q89 q90 q91 q92 q93 q94 q95 q96 q97 q98 q99 q100 q101 q102 q103 q104 q105 q106 q107 q108 q109 q110 q111 q112 q113 q114 q115 q116
  subst_vars
  simp
 | true =>
  rw [hr0] at q32
  cases hr1 : Day.rightH x0 B with
  | false =>
   rw [hr1] at q36
   clear q57 q58 q59 q60 q61 q62 q63 q64 q65 q66 q67 q68 q69 q70 q71 q72 q73 q74 q75 q76 q77 q78 q79 q80 q81 q82 q83 q84 q85 q88 q89 q90 q91 q92 q93 q94 q95 q96 q97 q98 q99 q100 q101 q102 q103 q104 q105 q106 q107 q108 q109 q110 q111 q112 q113 q114 q115 q116
   subst_vars
   simp
  | true =>
   rw [hr1] at q36
   cases t0 : Day.fitsR x0 Q with
   | false =>
    rw [t0] at q42
    clear q57 q58 q59 q60 q61 q62 q63 q64 q65 q66 q67 q68 q69 q70 q71 q72 q73 q74 q75 q76 q77 q78 q79 q80 q81 q82 q83 q84 q85 q88 q89 q90 q91 q92 q93 q94 q95 q96 q97 q98 q99 q100 q101 q102 q103 q104 q105 q106 q107 q108 q109 q110 q111 q112 q113 q114 q115 q116
    subst_vars
    simp [k1]
   | true =>
    rw [t0] at q42
    cases t1 : Day.fitsR x0 R with
    | false =>
     rw [t1] at q48
     clear q57 q58 q59 q60 q61 q62 q63 q64 q65 q66 q67 q68 q69 q70 q71 q72 q73 q74 q75 q76 q77 q78 q79 q80 q81 q82 q83 q84 q85 q88 q89 q90 q91 q92 q93 q94 q95 q96 q97 q98 q99 q100 q101 q102 q103 q104 q105 q106 q107 q108 q109 q110 q111 q112 q113 q114 q115 q116
     subst_vars
     simp [k1, k2]
    | true =>
     rw [t1] at q48
     obtain ⟨n1, n2, n3⟩ := Day.fits_n t0
     have hE := Day.linkE_ok hr0 hr1 t0 t1
     have hE2 := Day.linkE_ok hr0 hr0 t0 t0
     have ss := fun d => Day.side_self (d := d) (q := Q) hf0 (by omega)
     simp only [hE, hE2, Day.linkH0, Day.linkH1, Day.linkF0, Day.linkF1, if_true, ss, show Day.pickH true A B = A from rfl, show Day.sideL true Q R R = Day.sideL true Q R Q from rfl, show ∀ d, Day.pickH d A A = A from fun d => by cases d <;> rfl] at q57 q58 q59 q60 q61 q62 q63 q64 q65 q66 q67 q68 q69 q70 q71 q72 q73 q74 q75 q76 q77 q78 q79 q80 q81 q82 q83 q84 q85 q88 q89 q90 q91 q92 q93 q94 q95 q96 q97 q98 q99 q100 q101 q102 q103 q104 q105 q106 q107 q108 q109 q110 q111 q112 q113 q114 q115 q116
     clear hqn hrn hqx hrx hlA hlB
     subst_vars
     simp [hi0, hi1, hf0, hf1, k1, k2]
end Rx.S
