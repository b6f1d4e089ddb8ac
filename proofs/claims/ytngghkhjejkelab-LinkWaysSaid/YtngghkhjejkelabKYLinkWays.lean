import Derived.Test.YtngghkhjejkelabKXt
set_option linter.unusedVariables false
set_option linter.unusedSimpArgs false
namespace Rx.S
open Go Rx
set_option maxRecDepth 100000
set_option maxHeartbeats 1000000
def g_law14_LinkWays : G := ⟨244, [⟨243, .iteB, [V 52, V 52, V 51]⟩, ⟨242, .iteB, [V 52, V 240, V 54]⟩, ⟨241, .not, [V 52]⟩, ⟨240, .iteB, [V 235, V 239, B false]⟩, ⟨239, .and, [V 238, V 237]⟩, ⟨238, (.cmp .eql), [V 112, V 163]⟩, ⟨237, (.cmp .eql), [V 113, V 164]⟩, ⟨236, .and, [V 52, V 235]⟩, ⟨235, .iteB, [V 210, V 234, B false]⟩, ⟨234, .and, [V 233, V 232]⟩, ⟨233, (.cmp .eql), [V 88, V 139]⟩, ⟨232, .and, [V 231, V 230]⟩, ⟨231, (.cmp .eql), [V 89, V 140]⟩, ⟨230, .and, [V 229, V 228]⟩, ⟨229, (.cmp .eql), [V 90, V 141]⟩, ⟨228, .and, [V 227, V 226]⟩, ⟨227, (.cmp .eql), [V 91, V 142]⟩, ⟨226, .and, [V 225, V 224]⟩, ⟨225, (.cmp .eql), [V 92, V 143]⟩, ⟨224, .and, [V 223, V 222]⟩, ⟨223, (.cmp .eql), [V 93, V 144]⟩, ⟨222, .and, [V 221, V 220]⟩, ⟨221, (.cmp .eql), [V 94, V 145]⟩, ⟨220, .and, [V 219, V 218]⟩, ⟨219, (.cmp .eql), [V 95, V 146]⟩, ⟨218, .and, [V 217, V 216]⟩, ⟨217, (.cmp .eql), [V 96, V 147]⟩, ⟨216, .and, [V 215, V 214]⟩, ⟨215, (.cmp .eql), [V 97, V 148]⟩, ⟨214, .and, [V 213, V 212]⟩, ⟨213, (.cmp .eql), [V 98, V 149]⟩, ⟨212, (.cmp .eql), [V 99, V 150]⟩, ⟨211, .and, [V 52, V 210]⟩, ⟨210, .iteB, [V 205, V 209, B false]⟩, ⟨209, .and, [V 208, V 207]⟩, ⟨208, (.cmp .eql), [V 81, V 112]⟩, ⟨207, (.cmp .eql), [V 82, V 113]⟩, ⟨206, .and, [V 52, V 205]⟩, ⟨205, .iteB, [V 180, V 204, B false]⟩, ⟨204, .and, [V 203, V 202]⟩, ⟨203, (.cmp .eql), [V 57, V 88]⟩, ⟨202, .and, [V 201, V 200]⟩, ⟨201, (.cmp .eql), [V 58, V 89]⟩, ⟨200, .and, [V 199, V 198]⟩, ⟨199, (.cmp .eql), [V 59, V 90]⟩, ⟨198, .and, [V 197, V 196]⟩, ⟨197, (.cmp .eql), [V 60, V 91]⟩, ⟨196, .and, [V 195, V 194]⟩, ⟨195, (.cmp .eql), [V 61, V 92]⟩, ⟨194, .and, [V 193, V 192]⟩, ⟨193, (.cmp .eql), [V 62, V 93]⟩, ⟨192, .and, [V 191, V 190]⟩, ⟨191, (.cmp .eql), [V 63, V 94]⟩, ⟨190, .and, [V 189, V 188]⟩, ⟨189, (.cmp .eql), [V 64, V 95]⟩, ⟨188, .and, [V 187, V 186]⟩, ⟨187, (.cmp .eql), [V 65, V 96]⟩, ⟨186, .and, [V 185, V 184]⟩, ⟨185, (.cmp .eql), [V 66, V 97]⟩, ⟨184, .and, [V 183, V 182]⟩, ⟨183, (.cmp .eql), [V 67, V 98]⟩, ⟨182, (.cmp .eql), [V 68, V 99]⟩, ⟨181, .and, [V 52, V 180]⟩, ⟨180, .iteB, [V 177, V 179, B false]⟩, ⟨179, (.cmp .eql), [V 167, N 0]⟩, ⟨178, .and, [V 52, V 177]⟩, ⟨177, .iteB, [V 174, V 176, B false]⟩, ⟨176, (.cmp .eql), [V 116, N 0]⟩, ⟨175, .and, [V 52, V 174]⟩, ⟨174, .iteB, [V 170, V 173, B false]⟩, ⟨173, (.cmp .eql), [V 85, N 0]⟩, ⟨172, .and, [V 52, V 170]⟩, ⟨171, .imp, [V 52, V 169]⟩, ⟨169, (.call 12), []⟩, ⟨168, .imp, [V 52, V 138]⟩, ⟨138, (.call 13), [V 0, V 1, V 2, V 3, V 4, V 5, V 6, V 7, V 8, V 9, V 10, V 11, V 12, V 124, V 125, V 126, V 127, V 128, V 129, V 130, V 131, V 132, V 133, V 134, V 135, V 25, V 26, V 122, V 0, B false, B false]⟩, ⟨137, .imp, [V 52, V 123]⟩, ⟨123, (.call 14), [V 0]⟩, ⟨122, .rep, [V 0, N 0, N 0]⟩, ⟨121, .imp, [V 52, V 120]⟩, ⟨120, .and, [V 118, V 119]⟩, ⟨119, (.cmp .lss), [V 0, N 1000001]⟩, ⟨118, (.cmp .leq), [N 0, V 0]⟩, ⟨117, .imp, [V 52, V 87]⟩, ⟨87, (.call 13), [V 0, V 1, V 2, V 3, V 4, V 5, V 6, V 7, V 8, V 9, V 10, V 11, V 12, V 13, V 14, V 15, V 16, V 17, V 18, V 19, V 20, V 21, V 22, V 23, V 24, V 25, V 26, V 27, V 28, B false, B false]⟩, ⟨86, .imp, [V 52, V 56]⟩, ⟨56, (.call 13), [V 0, V 1, V 2, V 3, V 4, V 5, V 6, V 7, V 8, V 9, V 10, V 11, V 12, V 13, V 14, V 15, V 16, V 17, V 18, V 19, V 20, V 21, V 22, V 23, V 24, V 25, V 26, V 27, V 28, B true, B false]⟩, ⟨55, .imp, [V 51, V 53]⟩, ⟨53, (.call 12), []⟩, ⟨52, .not, [V 51]⟩, ⟨51, .iteB, [V 45, B true, V 50]⟩, ⟨50, .not, [V 48]⟩, ⟨49, .imp, [V 46, V 47]⟩, ⟨47, (.call 10), [V 0, V 27, V 28]⟩, ⟨46, .not, [V 45]⟩, ⟨45, .iteB, [V 39, B true, V 44]⟩, ⟨44, .not, [V 42]⟩, ⟨43, .imp, [V 40, V 41]⟩, ⟨41, (.call 10), [V 0, V 25, V 26]⟩, ⟨40, .not, [V 39]⟩, ⟨39, .iteB, [V 33, B true, V 38]⟩, ⟨38, .not, [V 36]⟩, ⟨37, .imp, [V 34, V 35]⟩, ⟨35, (.call 8), [V 0, V 13, V 14, V 15, V 16, V 17, V 18, V 19, V 20, V 21, V 22, V 23, V 24]⟩, ⟨34, .not, [V 33]⟩, ⟨33, .not, [V 32]⟩, ⟨31, (.call 8), [V 0, V 1, V 2, V 3, V 4, V 5, V 6, V 7, V 8, V 9, V 10, V 11, V 12]⟩], [V 171, V 168, V 137, V 121, V 117, V 86, V 55, V 49, V 43, V 37, V 31], []⟩
theorem pure_law14_LinkWays (e : Nat → A) (H : FactsQ T e g_law14_LinkWays.defs) : ∀ z0, z0 = (Day.HB.mk [(e 1).int, (e 2).int, (e 3).int, (e 4).int, (e 5).int, (e 6).int, (e 7).int, (e 8).int] (e 9).int (e 10).int (e 11).int (e 12).int) → ∀ z1, z1 = (Day.HB.mk [(e 13).int, (e 14).int, (e 15).int, (e 16).int, (e 17).int, (e 18).int, (e 19).int, (e 20).int] (e 21).int (e 22).int (e 23).int (e 24).int) → (Day.i64 (e 0).int && (Day.HB.i64 z0 && (Day.HB.i64 z1 && (Day.Ls.fok (Day.Ls.mk (e 25) (e 26).int) && Day.Ls.fok (Day.Ls.mk (e 27) (e 28).int))))) = true →
  ((e 171).bool = true ∧ (e 168).bool = true ∧ (e 137).bool = true ∧ (e 121).bool = true ∧ (e 117).bool = true ∧ (e 86).bool = true ∧ (e 55).bool = true ∧ (e 49).bool = true ∧ (e 43).bool = true ∧ (e 37).bool = true ∧ (e 31).bool = true) ∧ (true = (e 242).bool) := by
 intro z0 hz0 z1 hz1 hp
 subst hz0 hz1
 simp only [g_law14_LinkWays, FactsQ, Def.q, updQ, L.ev_var, L.ev_n, L.ev_t, L.ev_e, L.ev, A.int_i, A.bool_b, A.str_v, A.els_l, List.map_cons, List.map_nil, Nat.zero_add, Nat.add_zero, and_true, true_and, Nat.reduceAdd, Nat.one_mul] at H
 simp only [arI, dvI, btI, cmpI, shI, ifQ, updV, ltQ, and_true, true_and] at H
 obtain ⟨q243, q242, q241, q240, q239, q238, q237, q236, q235, q234, q233, q232, q231, q230, q229, q228, q227, q226, q225, q224, q223, q222, q221, q220, q219, q218, q217, q216, q215, q214, q213, q212, q211, q210, q209, q208, q207, q206, q205, q204, q203, q202, q201, q200, q199, q198, q197, q196, q195, q194, q193, q192, q191, q190, q189, q188, q187, q186, q185, q184, q183, q182, q181, q180, q179, q178, q177, q176, q175, q174, q173, q172, q171, q169, q168, q138, q137, q123, q122, q121, q120, q119, q118, q117, q87, q86, q56, q55, q53, q52, q51, q50, q49, q47, q46, q45, q44, q43, q41, q40, q39, q38, q37, q35, q34, q33, q31⟩ := H
 replace q169 := out_law14_awake q169
 obtain ⟨q169, q170⟩ := q169
 replace q138 := out_link_Step q138 _ rfl _ rfl _ rfl _ rfl
 obtain ⟨q138, q139, q140, q141, q142, q143, q144, q145, q146, q147, q148, q149, q150, q151, q152, q153, q154, q155, q156, q157, q158, q159, q160, q161, q162, q163, q164, q165, q166, q167⟩ := q138
 replace q123 := out_ref11_Fresh q123 _ rfl
 obtain ⟨q123, q124, q125, q126, q127, q128, q129, q130, q131, q132, q133, q134, q135, q136⟩ := q123
 replace q87 := out_link_Step q87 _ rfl _ rfl _ rfl _ rfl
 obtain ⟨q87, q88, q89, q90, q91, q92, q93, q94, q95, q96, q97, q98, q99, q100, q101, q102, q103, q104, q105, q106, q107, q108, q109, q110, q111, q112, q113, q114, q115, q116⟩ := q87
 replace q56 := out_link_Step q56 _ rfl _ rfl _ rfl _ rfl
 obtain ⟨q56, q57, q58, q59, q60, q61, q62, q63, q64, q65, q66, q67, q68, q69, q70, q71, q72, q73, q74, q75, q76, q77, q78, q79, q80, q81, q82, q83, q84, q85⟩ := q56
 replace q53 := out_law14_awake q53
 obtain ⟨q53, q54⟩ := q53
 replace q47 := out_ref12_Fits q47
 obtain ⟨q47, q48⟩ := q47
 replace q41 := out_ref12_Fits q41
 obtain ⟨q41, q42⟩ := q41
 replace q35 := out_ref11_Right q35 _ rfl
 obtain ⟨q35, q36⟩ := q35
 replace q31 := out_ref11_Right q31 _ rfl
 obtain ⟨q31, q32⟩ := q31
 simp only [L.ev_var, L.ev_n, L.ev_t, L.ev_e, L.ev, A.int_i, A.bool_b, A.str_v] at q169 q170 q138 q139 q140 q141 q142 q143 q144 q145 q146 q147 q148 q149 q150 q151 q152 q153 q154 q155 q156 q157 q158 q159 q160 q161 q162 q163 q164 q165 q166 q167 q123 q124 q125 q126 q127 q128 q129 q130 q131 q132 q133 q134 q135 q136 q87 q88 q89 q90 q91 q92 q93 q94 q95 q96 q97 q98 q99 q100 q101 q102 q103 q104 q105 q106 q107 q108 q109 q110 q111 q112 q113 q114 q115 q116 q56 q57 q58 q59 q60 q61 q62 q63 q64 q65 q66 q67 q68 q69 q70 q71 q72 q73 q74 q75 q76 q77 q78 q79 q80 q81 q82 q83 q84 q85 q53 q54 q47 q48 q41 q42 q35 q36 q31 q32
 generalize (e 0).int = x0, (e 1).int = x1, (e 2).int = x2, (e 3).int = x3, (e 4).int = x4, (e 5).int = x5, (e 6).int = x6, (e 7).int = x7, (e 8).int = x8, (e 9).int = x9, (e 10).int = x10, (e 11).int = x11, (e 12).int = x12, (e 13).int = x13, (e 14).int = x14, (e 15).int = x15, (e 16).int = x16, (e 17).int = x17, (e 18).int = x18, (e 19).int = x19, (e 20).int = x20, (e 21).int = x21, (e 22).int = x22, (e 23).int = x23, (e 24).int = x24, e 25 = x25, (e 26).int = x26, e 27 = x27, (e 28).int = x28, (e 29).bool = x29, (e 30).bool = x30, (e 31).bool = v31, (e 32).bool = v32, (e 33).bool = v33, (e 34).bool = v34, (e 35).bool = v35, (e 36).bool = v36, (e 37).bool = v37, (e 38).bool = v38, (e 39).bool = v39, (e 40).bool = v40, (e 41).bool = v41, (e 42).bool = v42, (e 43).bool = v43, (e 44).bool = v44, (e 45).bool = v45, (e 46).bool = v46, (e 47).bool = v47, (e 48).bool = v48, (e 49).bool = v49, (e 50).bool = v50, (e 51).bool = v51, (e 52).bool = v52, (e 53).bool = v53, (e 54).bool = v54, (e 55).bool = v55, (e 56).bool = v56, (e 57).int = v57, (e 58).int = v58, (e 59).int = v59, (e 60).int = v60, (e 61).int = v61, (e 62).int = v62, (e 63).int = v63, (e 64).int = v64, (e 65).int = v65, (e 66).int = v66, (e 67).int = v67, (e 68).int = v68, (e 69).int = v69, (e 70).int = v70, (e 71).int = v71, (e 72).int = v72, (e 73).int = v73, (e 74).int = v74, (e 75).int = v75, (e 76).int = v76, (e 77).int = v77, (e 78).int = v78, (e 79).int = v79, (e 80).int = v80, (e 81).int = v81, (e 82).int = v82, (e 83).int = v83, (e 84).int = v84, (e 85).int = v85, (e 86).bool = v86, (e 87).bool = v87, (e 88).int = v88, (e 89).int = v89, (e 90).int = v90, (e 91).int = v91, (e 92).int = v92, (e 93).int = v93, (e 94).int = v94, (e 95).int = v95, (e 96).int = v96, (e 97).int = v97, (e 98).int = v98, (e 99).int = v99, (e 100).int = v100, (e 101).int = v101, (e 102).int = v102, (e 103).int = v103, (e 104).int = v104, (e 105).int = v105, (e 106).int = v106, (e 107).int = v107, (e 108).int = v108, (e 109).int = v109, (e 110).int = v110, (e 111).int = v111, (e 112).int = v112, (e 113).int = v113, (e 114).int = v114, (e 115).int = v115, (e 116).int = v116, (e 117).bool = v117, (e 118).bool = v118, (e 119).bool = v119, (e 120).bool = v120, (e 121).bool = v121, e 122 = v122, (e 123).bool = v123, (e 124).int = v124, (e 125).int = v125, (e 126).int = v126, (e 127).int = v127, (e 128).int = v128, (e 129).int = v129, (e 130).int = v130, (e 131).int = v131, (e 132).int = v132, (e 133).int = v133, (e 134).int = v134, (e 135).int = v135, (e 136).int = v136, (e 137).bool = v137, (e 138).bool = v138, (e 139).int = v139, (e 140).int = v140, (e 141).int = v141, (e 142).int = v142, (e 143).int = v143, (e 144).int = v144, (e 145).int = v145, (e 146).int = v146, (e 147).int = v147, (e 148).int = v148, (e 149).int = v149, (e 150).int = v150, (e 151).int = v151, (e 152).int = v152, (e 153).int = v153, (e 154).int = v154, (e 155).int = v155, (e 156).int = v156, (e 157).int = v157, (e 158).int = v158, (e 159).int = v159, (e 160).int = v160, (e 161).int = v161, (e 162).int = v162, (e 163).int = v163, (e 164).int = v164, (e 165).int = v165, (e 166).int = v166, (e 167).int = v167, (e 168).bool = v168, (e 169).bool = v169, (e 170).bool = v170, (e 171).bool = v171, (e 172).bool = v172, (e 173).bool = v173, (e 174).bool = v174, (e 175).bool = v175, (e 176).bool = v176, (e 177).bool = v177, (e 178).bool = v178, (e 179).bool = v179, (e 180).bool = v180, (e 181).bool = v181, (e 182).bool = v182, (e 183).bool = v183, (e 184).bool = v184, (e 185).bool = v185, (e 186).bool = v186, (e 187).bool = v187, (e 188).bool = v188, (e 189).bool = v189, (e 190).bool = v190, (e 191).bool = v191, (e 192).bool = v192, (e 193).bool = v193, (e 194).bool = v194, (e 195).bool = v195, (e 196).bool = v196, (e 197).bool = v197, (e 198).bool = v198, (e 199).bool = v199, (e 200).bool = v200, (e 201).bool = v201, (e 202).bool = v202, (e 203).bool = v203, (e 204).bool = v204, (e 205).bool = v205, (e 206).bool = v206, (e 207).bool = v207, (e 208).bool = v208, (e 209).bool = v209, (e 210).bool = v210, (e 211).bool = v211, (e 212).bool = v212, (e 213).bool = v213, (e 214).bool = v214, (e 215).bool = v215, (e 216).bool = v216, (e 217).bool = v217, (e 218).bool = v218, (e 219).bool = v219, (e 220).bool = v220, (e 221).bool = v221, (e 222).bool = v222, (e 223).bool = v223, (e 224).bool = v224, (e 225).bool = v225, (e 226).bool = v226, (e 227).bool = v227, (e 228).bool = v228, (e 229).bool = v229, (e 230).bool = v230, (e 231).bool = v231, (e 232).bool = v232, (e 233).bool = v233, (e 234).bool = v234, (e 235).bool = v235, (e 236).bool = v236, (e 237).bool = v237, (e 238).bool = v238, (e 239).bool = v239, (e 240).bool = v240, (e 241).bool = v241, (e 242).bool = v242, (e 243).bool = v243 at *
 generalize hA : Day.HB.mk [x1, x2, x3, x4, x5, x6, x7, x8] x9 x10 x11 x12 = A at *
 generalize hB : Day.HB.mk [x13, x14, x15, x16, x17, x18, x19, x20] x21 x22 x23 x24 = B at *
 generalize hQ : Day.Ls.mk x25 x26 = Q at *
 generalize hR : Day.Ls.mk x27 x28 = R at *
 have hlA : A.ages.length = 8 := by rw [← hA]; rfl
 have hlB : B.ages.length = 8 := by rw [← hB]; rfl
 have hqn : x26 = Q.n := by rw [← hQ]
 have hrn : x28 = R.n := by rw [← hR]
 have hqx : x25 = Q.x := by rw [← hQ]
 have hrx : x27 = R.x := by rw [← hR]
 clear hA hB hQ hR
 simp only [Bool.and_eq_true] at hp
 obtain ⟨hn, hi0, hi1, hf0, hf1⟩ := hp
 obtain ⟨o1, o1'⟩ := Day.Ls.fok_iff.1 hf0
 obtain ⟨o2, o2'⟩ := Day.Ls.fok_iff.1 hf1
 have k1 : Q.ok = true := by simp [Day.Ls.ok, o1]
 have k2 : R.ok = true := by simp [Day.Ls.ok, o2]
 cases hr0 : Day.rightH x0 A with
 | false =>
  rw [hr0] at q32
  clear q57 q58 q59 q60 q61 q62 q63 q64 q65 q66 q67 q68 q69 q70 q71 q72 q73 q74 q75 q76 q77 q78 q79 q80 q81 q82 q83 q84 q85 q88 q89 q90 q91 q92 q93 q94 q95 q96 q97 q98 q99 q100 q101 q102 q103 q104 q105 q106 q107 q108 q109 q110 q111 q112 q113 q114 q115 q116 q122 q124 q125 q126 q127 q128 q129 q130 q131 q132 q133 q134 q135 q136 q139 q140 q141 q142 q143 q144 q145 q146 q147 q148 q149 q150 q151 q152 q153 q154 q155 q156 q157 q158 q159 q160 q161 q162 q163 q164 q165 q166 q167
  subst_vars
  simp
 | true =>
  rw [hr0] at q32
  cases hr1 : Day.rightH x0 B with
  | false =>
   rw [hr1] at q36
   clear q57 q58 q59 q60 q61 q62 q63 q64 q65 q66 q67 q68 q69 q70 q71 q72 q73 q74 q75 q76 q77 q78 q79 q80 q81 q82 q83 q84 q85 q88 q89 q90 q91 q92 q93 q94 q95 q96 q97 q98 q99 q100 q101 q102 q103 q104 q105 q106 q107 q108 q109 q110 q111 q112 q113 q114 q115 q116 q122 q124 q125 q126 q127 q128 q129 q130 q131 q132 q133 q134 q135 q136 q139 q140 q141 q142 q143 q144 q145 q146 q147 q148 q149 q150 q151 q152 q153 q154 q155 q156 q157 q158 q159 q160 q161 q162 q163 q164 q165 q166 q167
   subst_vars
   simp
  | true =>
   rw [hr1] at q36
   cases t0 : Day.fitsR x0 Q with
   | false =>
    rw [t0] at q42
    clear q57 q58 q59 q60 q61 q62 q63 q64 q65 q66 q67 q68 q69 q70 q71 q72 q73 q74 q75 q76 q77 q78 q79 q80 q81 q82 q83 q84 q85 q88 q89 q90 q91 q92 q93 q94 q95 q96 q97 q98 q99 q100 q101 q102 q103 q104 q105 q106 q107 q108 q109 q110 q111 q112 q113 q114 q115 q116 q122 q124 q125 q126 q127 q128 q129 q130 q131 q132 q133 q134 q135 q136 q139 q140 q141 q142 q143 q144 q145 q146 q147 q148 q149 q150 q151 q152 q153 q154 q155 q156 q157 q158 q159 q160 q161 q162 q163 q164 q165 q166 q167
    subst_vars
    simp [k1]
   | true =>
    rw [t0] at q42
    cases t1 : Day.fitsR x0 R with
    | false =>
     rw [t1] at q48
     clear q57 q58 q59 q60 q61 q62 q63 q64 q65 q66 q67 q68 q69 q70 q71 q72 q73 q74 q75 q76 q77 q78 q79 q80 q81 q82 q83 q84 q85 q88 q89 q90 q91 q92 q93 q94 q95 q96 q97 q98 q99 q100 q101 q102 q103 q104 q105 q106 q107 q108 q109 q110 q111 q112 q113 q114 q115 q116 q122 q124 q125 q126 q127 q128 q129 q130 q131 q132 q133 q134 q135 q136 q139 q140 q141 q142 q143 q144 q145 q146 q147 q148 q149 q150 q151 q152 q153 q154 q155 q156 q157 q158 q159 q160 q161 q162 q163 q164 q165 q166 q167
     subst_vars
     simp [k1, k2]
    | true =>
     rw [t1] at q48
     obtain ⟨n1, n2, n3⟩ := Day.fits_n t0
     have hE := Day.linkE_ok hr0 hr1 t0 t1
     have hRt : Day.right x0 = true := by simp [Day.right, n2]
     have hfr := Day.fresh_right hRt
     have hz : v122 = Day.zerosF x0 := by rw [q122]; rfl
     have hzf := Day.quiet_fits (Day.zeros_quiet hRt)
     have hzo := Day.zeros_fok hRt
     have hmF := Day.mk_HB (Day.freshH x0) (by rw [Day.freshH, if_pos hRt]; rfl)
     rw [← q124, ← q125, ← q126, ← q127, ← q128, ← q129, ← q130, ← q131, ← q132, ← q133, ← q134, ← q135] at hmF
     rw [hz] at q138 q139 q140 q141 q142 q143 q144 q145 q146 q147 q148 q149 q150 q151 q152 q153 q154 q155 q156 q157 q158 q159 q160 q161 q162 q163 q164 q165 q166 q167
     simp only [hmF] at q138 q139 q140 q141 q142 q143 q144 q145 q146 q147 q148 q149 q150 q151 q152 q153 q154 q155 q156 q157 q158 q159 q160 q161 q162 q163 q164 q165 q166 q167
     have hE3 := Day.linkE_ok hr0 hfr t0 hzf
     have hif := Day.right_i64 hfr
     simp only [hE, hE3, Day.linkH0, Day.linkH1, Day.linkF0, Day.linkF1, if_true, show ∀ R, Day.sideL false Q R Q = Q from fun _ => rfl] at q57 q58 q59 q60 q61 q62 q63 q64 q65 q66 q67 q68 q69 q70 q71 q72 q73 q74 q75 q76 q77 q78 q79 q80 q81 q82 q83 q84 q85 q88 q89 q90 q91 q92 q93 q94 q95 q96 q97 q98 q99 q100 q101 q102 q103 q104 q105 q106 q107 q108 q109 q110 q111 q112 q113 q114 q115 q116 q139 q140 q141 q142 q143 q144 q145 q146 q147 q148 q149 q150 q151 q152 q153 q154 q155 q156 q157 q158 q159 q160 q161 q162 q163 q164 q165 q166 q167
     have o118 : v118 = true := by rw [q118]; simp; omega
     have o119 : v119 = true := by rw [q119]; simp; omega
     rw [o118, o119] at q120
     clear q124 q125 q126 q127 q128 q129 q130 q131 q132 q133 q134 q135 q118 q119 o118 o119 hz q122 hmF hqn hrn hqx hrx hlA hlB
     subst_vars
     simp [hi0, hi1, hf0, hf1, k1, k2, hif, hzo]
end Rx.S
