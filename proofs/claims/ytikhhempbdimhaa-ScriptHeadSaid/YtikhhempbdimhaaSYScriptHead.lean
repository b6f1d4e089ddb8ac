import Derived.Test.YtikhhempbdimhaaSXt
set_option linter.unusedVariables false
set_option linter.unusedSimpArgs false
namespace Rx.S
open Go Rx
set_option maxRecDepth 100000
set_option maxHeartbeats 1000000
def Dl : G := ⟨213, [⟨212, .iteB, [V 6, V 209, V 5]⟩, ⟨211, .iteB, [V 6, V 208, V 8]⟩, ⟨210, .not, [V 6]⟩, ⟨209, .iteB, [V 178, V 178, V 177]⟩, ⟨208, .iteB, [V 178, V 206, B false]⟩, ⟨207, .not, [V 178]⟩, ⟨206, .iteB, [V 180, V 205, B false]⟩, ⟨205, .iteB, [V 190, B true, V 204]⟩, ⟨204, .iteB, [V 199, V 203, B false]⟩, ⟨203, (.cmp .eql), [V 93, N 0]⟩, ⟨202, .and, [V 201, V 180]⟩, ⟨201, .and, [V 200, V 191]⟩, ⟨200, .and, [V 178, V 199]⟩, ⟨199, .iteB, [V 194, V 198, B false]⟩, ⟨198, (.cmp .eql), [V 88, V 86]⟩, ⟨197, .and, [V 196, V 180]⟩, ⟨196, .and, [V 195, V 191]⟩, ⟨195, .and, [V 178, V 194]⟩, ⟨194, .not, [V 91]⟩, ⟨193, .and, [V 192, V 180]⟩, ⟨192, .and, [V 178, V 191]⟩, ⟨191, .not, [V 190]⟩, ⟨190, .iteB, [V 186, V 189, B false]⟩, ⟨189, (.cmp .eql), [V 88, N 0]⟩, ⟨188, .and, [V 187, V 180]⟩, ⟨187, .and, [V 178, V 186]⟩, ⟨186, .iteB, [V 91, V 185, B false]⟩, ⟨185, (.cmp .eql), [V 93, V 86]⟩, ⟨184, .and, [V 183, V 180]⟩, ⟨183, .and, [V 178, V 91]⟩, ⟨182, .and, [V 178, V 180]⟩, ⟨181, .imp, [V 178, V 179]⟩, ⟨179, (.call 7), []⟩, ⟨178, .and, [V 174, V 176]⟩, ⟨177, .and, [V 173, V 175]⟩, ⟨176, .and, [V 6, V 174]⟩, ⟨175, .and, [V 6, V 173]⟩, ⟨174, .not, [V 173]⟩, ⟨173, .iteB, [V 169, B true, V 172]⟩, ⟨172, (.cmp .neq), [V 155, N 0]⟩, ⟨171, .and, [V 6, V 170]⟩, ⟨170, .not, [V 169]⟩, ⟨169, .iteB, [V 164, B true, V 168]⟩, ⟨168, .not, [V 167]⟩, ⟨167, .eqB, [V 91, V 127]⟩, ⟨166, .and, [V 6, V 165]⟩, ⟨165, .not, [V 164]⟩, ⟨164, .iteB, [V 157, B true, V 163]⟩, ⟨163, .not, [V 162]⟩, ⟨162, .and, [V 161, V 160]⟩, ⟨161, (.cmp .eql), [V 89, V 125]⟩, ⟨160, (.cmp .eql), [V 90, V 126]⟩, ⟨159, .and, [V 6, V 158]⟩, ⟨158, .not, [V 157]⟩, ⟨157, (.cmp .neq), [V 86, V 122]⟩, ⟨156, .imp, [V 6, V 121]⟩, ⟨121, (.call 9), [V 48]⟩, ⟨120, .imp, [V 6, V 85]⟩, ⟨85, (.call 9), [V 0]⟩, ⟨84, .imp, [V 6, V 49]⟩, ⟨49, (.call 9), [V 48]⟩, ⟨48, .ssub, [V 0, N 0, N 3]⟩, ⟨47, .imp, [V 6, V 46]⟩, ⟨46, (.cmp .leq), [N 3, V 1]⟩, ⟨45, .imp, [V 6, V 10]⟩, ⟨10, (.call 9), [V 0]⟩, ⟨9, .imp, [V 5, V 7]⟩, ⟨7, (.call 7), []⟩, ⟨6, .not, [V 5]⟩, ⟨5, .iteB, [V 2, B true, V 4]⟩, ⟨4, (.cmp .lss), [V 1, N 3]⟩, ⟨3, .not, [V 2]⟩, ⟨2, (.cmp .gtr), [V 1, N 3000]⟩, ⟨1, .slen, [V 0]⟩], [V 181, V 156, V 120, V 84, V 47, V 45, V 9], []⟩
theorem H5 (e : Nat → A) (H : Ab T e Dl.defs) (hp : (true) = true) :
  ((e 181).bool = true ∧ (e 156).bool = true ∧ (e 120).bool = true ∧ (e 84).bool = true ∧ (e 47).bool = true ∧ (e 45).bool = true ∧ (e 9).bool = true) ∧ (true = (e 211).bool) := by
 simp only [Dl, Ab, Def.q, BI, L.Ak, L.Aw, L.AS, L.AV, L.ev, A.Ai, A.Ao, A.AF, A.AT, List.map_cons, List.map_nil, Nat.zero_add, Nat.add_zero, and_true, true_and, Nat.reduceAdd, Nat.one_mul] at H
 simp only [D0, Ee, CW, Bg, Ef, Ey, BV, Fq, and_true, true_and] at H
 revert H
 simp only [and_imp]
 rintro q212 q211 q210 q209 q208 q207 q206 q205 q204 q203 q202 q201 q200 q199 q198 q197 q196 q195 q194 q193 q192 q191 q190 q189 q188 q187 q186 q185 q184 q183 q182 q181 q179 q178 q177 q176 q175 q174 q173 q172 q171 q170 q169 q168 q167 q166 q165 q164 q163 q162 q161 q160 q159 q158 q157 q156 q121 q120 q85 q84 q49 q48 q47 q46 q45 q10 q9 q7 q6 q5 q4 q3 q2 q1
 replace q179 := Dd q179
 obtain ⟨q179, q180⟩ := q179
 replace q121 := Cw q121 _ rfl
 obtain ⟨q121, q122, q123, q124, q125, q126, q127, q128, q129, q130, q131, q132, q133, q134, q135, q136, q137, q138, q139, q140, q141, q142, q143, q144, q145, q146, q147, q148, q149, q150, q151, q152, q153, q154, q155⟩ := q121
 replace q85 := Cw q85 _ rfl
 obtain ⟨q85, q86, q87, q88, q89, q90, q91, q92, q93, q94, q95, q96, q97, q98, q99, q100, q101, q102, q103, q104, q105, q106, q107, q108, q109, q110, q111, q112, q113, q114, q115, q116, q117, q118, q119⟩ := q85
 replace q49 := Cw q49 _ rfl
 obtain ⟨q49, q50, q51, q52, q53, q54, q55, q56, q57, q58, q59, q60, q61, q62, q63, q64, q65, q66, q67, q68, q69, q70, q71, q72, q73, q74, q75, q76, q77, q78, q79, q80, q81, q82, q83⟩ := q49
 replace q10 := Cw q10 _ rfl
 obtain ⟨q10, q11, q12, q13, q14, q15, q16, q17, q18, q19, q20, q21, q22, q23, q24, q25, q26, q27, q28, q29, q30, q31, q32, q33, q34, q35, q36, q37, q38, q39, q40, q41, q42, q43, q44⟩ := q10
 replace q7 := Dd q7
 obtain ⟨q7, q8⟩ := q7
 simp only [L.Ak, L.Aw, L.AS, L.AV, L.ev, A.Ai, A.Ao, A.AF] at q179 q180 q121 q122 q123 q124 q125 q126 q127 q128 q129 q130 q131 q132 q133 q134 q135 q136 q137 q138 q139 q140 q141 q142 q143 q144 q145 q146 q147 q148 q149 q150 q151 q152 q153 q154 q155 q85 q86 q87 q88 q89 q90 q91 q92 q93 q94 q95 q96 q97 q98 q99 q100 q101 q102 q103 q104 q105 q106 q107 q108 q109 q110 q111 q112 q113 q114 q115 q116 q117 q118 q119 q49 q50 q51 q52 q53 q54 q55 q56 q57 q58 q59 q60 q61 q62 q63 q64 q65 q66 q67 q68 q69 q70 q71 q72 q73 q74 q75 q76 q77 q78 q79 q80 q81 q82 q83 q10 q11 q12 q13 q14 q15 q16 q17 q18 q19 q20 q21 q22 q23 q24 q25 q26 q27 q28 q29 q30 q31 q32 q33 q34 q35 q36 q37 q38 q39 q40 q41 q42 q43 q44 q7 q8
 generalize (e 0).str = x0, (e 1).int = v1, (e 2).bool = v2, (e 3).bool = v3, (e 4).bool = v4, (e 5).bool = v5, (e 6).bool = v6, (e 7).bool = v7, (e 8).bool = v8, (e 9).bool = v9, (e 10).bool = v10, (e 11).int = v11, e 12 = v12, (e 13).int = v13, (e 14).int = v14, (e 15).int = v15, (e 16).bool = v16, e 17 = v17, (e 18).int = v18, (e 19).int = v19, (e 20).int = v20, (e 21).int = v21, (e 22).int = v22, (e 23).int = v23, (e 24).int = v24, (e 25).int = v25, (e 26).int = v26, (e 27).int = v27, (e 28).int = v28, (e 29).int = v29, (e 30).int = v30, (e 31).int = v31, (e 32).int = v32, (e 33).int = v33, (e 34).int = v34, (e 35).int = v35, (e 36).int = v36, (e 37).int = v37, (e 38).int = v38, (e 39).int = v39, (e 40).int = v40, (e 41).int = v41, (e 42).int = v42, e 43 = v43, (e 44).int = v44, (e 45).bool = v45, (e 46).bool = v46, (e 47).bool = v47, (e 48).str = v48, (e 49).bool = v49, (e 50).int = v50, e 51 = v51, (e 52).int = v52, (e 53).int = v53, (e 54).int = v54, (e 55).bool = v55, e 56 = v56, (e 57).int = v57, (e 58).int = v58, (e 59).int = v59, (e 60).int = v60, (e 61).int = v61, (e 62).int = v62, (e 63).int = v63, (e 64).int = v64, (e 65).int = v65, (e 66).int = v66, (e 67).int = v67, (e 68).int = v68, (e 69).int = v69, (e 70).int = v70, (e 71).int = v71, (e 72).int = v72, (e 73).int = v73, (e 74).int = v74, (e 75).int = v75, (e 76).int = v76, (e 77).int = v77, (e 78).int = v78, (e 79).int = v79, (e 80).int = v80, (e 81).int = v81, e 82 = v82, (e 83).int = v83, (e 84).bool = v84, (e 85).bool = v85, (e 86).int = v86, e 87 = v87, (e 88).int = v88, (e 89).int = v89, (e 90).int = v90, (e 91).bool = v91, e 92 = v92, (e 93).int = v93, (e 94).int = v94, (e 95).int = v95, (e 96).int = v96, (e 97).int = v97, (e 98).int = v98, (e 99).int = v99, (e 100).int = v100, (e 101).int = v101, (e 102).int = v102, (e 103).int = v103, (e 104).int = v104, (e 105).int = v105, (e 106).int = v106, (e 107).int = v107, (e 108).int = v108, (e 109).int = v109, (e 110).int = v110, (e 111).int = v111, (e 112).int = v112, (e 113).int = v113, (e 114).int = v114, (e 115).int = v115, (e 116).int = v116, (e 117).int = v117, e 118 = v118, (e 119).int = v119, (e 120).bool = v120, (e 121).bool = v121, (e 122).int = v122, e 123 = v123, (e 124).int = v124, (e 125).int = v125, (e 126).int = v126, (e 127).bool = v127, e 128 = v128, (e 129).int = v129, (e 130).int = v130, (e 131).int = v131, (e 132).int = v132, (e 133).int = v133, (e 134).int = v134, (e 135).int = v135, (e 136).int = v136, (e 137).int = v137, (e 138).int = v138, (e 139).int = v139, (e 140).int = v140, (e 141).int = v141, (e 142).int = v142, (e 143).int = v143, (e 144).int = v144, (e 145).int = v145, (e 146).int = v146, (e 147).int = v147, (e 148).int = v148, (e 149).int = v149, (e 150).int = v150, (e 151).int = v151, (e 152).int = v152, (e 153).int = v153, e 154 = v154, (e 155).int = v155, (e 156).bool = v156, (e 157).bool = v157, (e 158).bool = v158, (e 159).bool = v159, (e 160).bool = v160, (e 161).bool = v161, (e 162).bool = v162, (e 163).bool = v163, (e 164).bool = v164, (e 165).bool = v165, (e 166).bool = v166, (e 167).bool = v167, (e 168).bool = v168, (e 169).bool = v169, (e 170).bool = v170, (e 171).bool = v171, (e 172).bool = v172, (e 173).bool = v173, (e 174).bool = v174, (e 175).bool = v175, (e 176).bool = v176, (e 177).bool = v177, (e 178).bool = v178, (e 179).bool = v179, (e 180).bool = v180, (e 181).bool = v181, (e 182).bool = v182, (e 183).bool = v183, (e 184).bool = v184, (e 185).bool = v185, (e 186).bool = v186, (e 187).bool = v187, (e 188).bool = v188, (e 189).bool = v189, (e 190).bool = v190, (e 191).bool = v191, (e 192).bool = v192, (e 193).bool = v193, (e 194).bool = v194, (e 195).bool = v195, (e 196).bool = v196, (e 197).bool = v197, (e 198).bool = v198, (e 199).bool = v199, (e 200).bool = v200, (e 201).bool = v201, (e 202).bool = v202, (e 203).bool = v203, (e 204).bool = v204, (e 205).bool = v205, (e 206).bool = v206, (e 207).bool = v207, (e 208).bool = v208, (e 209).bool = v209, (e 210).bool = v210, (e 211).bool = v211, (e 212).bool = v212 at *
 have hs : v6 = true → 3 ≤ (x0.size : Int) ∧ (x0.size : Int) ≤ 3000 := fun h => by
  rw [q6, q5, q4, q2, q1] at h
  simp at h
  omega
 have e48 : v48 = x0.extract 0 3 := q48
 have h49 : v6 = true → Day.FC v48 = true := fun h => by
  have := Day.Aas (hs h).1
  rw [e48]
  unfold Day.FC
  rw [this]
  rfl
 have h10 : v6 = true → Day.FC x0 = true := fun h => by
  have := hs h
  unfold Day.FC
  exact decide_eq_true (by omega)
 refine ⟨⟨by rw [q181]; exact Day.BF q179, ?_, ?_, ?_, ?_, ?_, by rw [q9]; exact Day.BF q7⟩, ?_⟩
 ·rw [q156, q121]
  cases c : v6
  ·rfl
  ·exact Day.BF (h49 c)
 ·rw [q120, q85]
  cases c : v6
  ·rfl
  ·exact Day.BF (h10 c)
 ·rw [q84, q49]
  cases c : v6
  ·rfl
  ·exact Day.BF (h49 c)
 ·rw [q47, q46, q1]
  cases c : v6
  ·rfl
  ·exact Day.BF (decide_eq_true (hs c).1)
 ·rw [q45, q10]
  cases c : v6
  ·rfl
  ·exact Day.BF (h10 c)
 ·cases c : v6
  ·rw [q211, c]
   exact q8.symm
  ·obtain ⟨a1, a2, a3, a4, a5⟩ := Day.Ada (hs c).1
   rw [← e48] at a1 a2 a3 a4 a5
   have hr := Day.Abf (s := x0)
   rw [← q86, ← q88, ← q93] at hr
   have f1 : v122 = v86 := by rw [q122, q86]; exact a1
   have f2 : v125 = v89 := by rw [q125, q89]; exact a2
   have f3 : v126 = v90 := by rw [q126, q90]; exact a3
   have f4 : v127 = v91 := by rw [q127, q91]; exact a4
   have f5 : v155 = 0 := by rw [q155]; exact a5
   have f6 : v91 = Day.HZ x0 := by rw [q91]; rfl
   rw [← f6] at hr
   have g173 : v173 = false := by
    rw [q173, q169, q164, q157, q163, q162, q161, q160, q168, q167, q172, f1, f2, f3, f4, f5]
    simp
   have g178 : v178 = true := by rw [q178, q176, q174, g173, c]; rfl
   rw [q211, c, q208, g178, q206, q180, q205, q190, q186, q185, q189, q204, q199, q194, q198, q203]
   cases h : v91
   ·rw [h] at hr
    simp at hr
    simp [hr.1, hr.2]
   ·rw [h] at hr
    simp at hr
    simp [hr.1, hr.2]
end Rx.S
