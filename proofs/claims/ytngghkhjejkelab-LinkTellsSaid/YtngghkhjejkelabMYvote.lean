import Derived.Test.YtngghkhjejkelabMXc
import Derived.Test.YtngghkhjejkelabMXt
set_option linter.unusedVariables false
set_option linter.unusedSimpArgs false
namespace Rx.S
open Go Rx
set_option maxRecDepth 100000
set_option maxHeartbeats 1000000
def IP : G := ⟨52, [⟨51, .iteB, [V 27, V 50, B false]⟩, ⟨50, .and, [V 49, V 48]⟩, ⟨49, (.cmp .eql), [V 14, V 1]⟩, ⟨48, .and, [V 47, V 46]⟩, ⟨47, (.cmp .eql), [V 15, V 2]⟩, ⟨46, .and, [V 45, V 44]⟩, ⟨45, (.cmp .eql), [V 16, V 3]⟩, ⟨44, .and, [V 43, V 42]⟩, ⟨43, (.cmp .eql), [V 17, V 4]⟩, ⟨42, .and, [V 41, V 40]⟩, ⟨41, (.cmp .eql), [V 18, V 5]⟩, ⟨40, .and, [V 39, V 38]⟩, ⟨39, (.cmp .eql), [V 19, V 6]⟩, ⟨38, .and, [V 37, V 36]⟩, ⟨37, (.cmp .eql), [V 20, V 7]⟩, ⟨36, .and, [V 35, V 34]⟩, ⟨35, (.cmp .eql), [V 21, V 8]⟩, ⟨34, .and, [V 33, V 32]⟩, ⟨33, (.cmp .eql), [V 22, V 9]⟩, ⟨32, .and, [V 31, V 30]⟩, ⟨31, (.cmp .eql), [V 23, V 10]⟩, ⟨30, .and, [V 29, V 28]⟩, ⟨29, (.cmp .eql), [V 24, V 11]⟩, ⟨28, (.cmp .eql), [V 25, V 12]⟩, ⟨27, (.cmp .eql), [V 26, N 0]⟩, ⟨13, (.call 30), [V 0, V 1, V 2, V 3, V 4, V 5, V 6, V 7, V 8, V 9, V 10, V 11, V 12]⟩], [V 13], []⟩
theorem Qn (e : Nat → A) (H : Ac T e IP.defs) : ∀ z0, z0 = (Day.HB.mk [(e 1).int, (e 2).int, (e 3).int, (e 4).int, (e 5).int, (e 6).int, (e 7).int, (e 8).int] (e 9).int (e 10).int (e 11).int (e 12).int) → (Day.HB.i64 z0) = true →
  ((e 13).bool = true) ∧ (Day.Ak (e 0).int z0 = (e 51).bool) := by
 intro z0 hz0 hp
 subst hz0
 simp only [IP, Ac, Def.q, Bc, L.Ae, L.Aq, L.AE, L.AF, L.ev, A.Ad, A.Ah, A.As, A.AJ, List.map_cons, List.map_nil, Nat.zero_add, Nat.add_zero, and_true, true_and, Nat.reduceAdd, Nat.one_mul] at H
 simp only [C0, C1, CN, A3, De, Dg, Bm, Dw, and_true, true_and] at H
 obtain ⟨q51, q50, q49, q48, q47, q46, q45, q44, q43, q42, q41, q40, q39, q38, q37, q36, q35, q34, q33, q32, q31, q30, q29, q28, q27, q13⟩ := H
 replace q13 := Gr q13 _ rfl _ rfl
 obtain ⟨q13, q14, q15, q16, q17, q18, q19, q20, q21, q22, q23, q24, q25, q26⟩ := q13
 simp only [L.Ae, L.Aq, L.AE, L.AF, L.ev, A.Ad, A.Ah, A.As] at q13 q14 q15 q16 q17 q18 q19 q20 q21 q22 q23 q24 q25 q26
 generalize (e 0).int = x0, (e 1).int = x1, (e 2).int = x2, (e 3).int = x3, (e 4).int = x4, (e 5).int = x5, (e 6).int = x6, (e 7).int = x7, (e 8).int = x8, (e 9).int = x9, (e 10).int = x10, (e 11).int = x11, (e 12).int = x12, (e 13).bool = v13, (e 14).int = v14, (e 15).int = v15, (e 16).int = v16, (e 17).int = v17, (e 18).int = v18, (e 19).int = v19, (e 20).int = v20, (e 21).int = v21, (e 22).int = v22, (e 23).int = v23, (e 24).int = v24, (e 25).int = v25, (e 26).int = v26, (e 27).bool = v27, (e 28).bool = v28, (e 29).bool = v29, (e 30).bool = v30, (e 31).bool = v31, (e 32).bool = v32, (e 33).bool = v33, (e 34).bool = v34, (e 35).bool = v35, (e 36).bool = v36, (e 37).bool = v37, (e 38).bool = v38, (e 39).bool = v39, (e 40).bool = v40, (e 41).bool = v41, (e 42).bool = v42, (e 43).bool = v43, (e 44).bool = v44, (e 45).bool = v45, (e 46).bool = v46, (e 47).bool = v47, (e 48).bool = v48, (e 49).bool = v49, (e 50).bool = v50, (e 51).bool = v51 at *
 refine ⟨by rw [q13]; exact hp, ?_⟩
 cases hr : Day.right x0 with
 | false =>
  have h1 : Day.Ak x0 ⟨[x1, x2, x3, x4, x5, x6, x7, x8], x9, x10, x11, x12⟩ = false := by simp [Day.Ak, hr]
  simp [*, Day.BV, hr, h1]
 | true =>
  have e := Day.Yq x0 ⟨[x1, x2, x3, x4, x5, x6, x7, x8], x9, x10, x11, x12⟩ hr
  rw [Bool.eq_iff_iff, e]
  clear e hp
  subst_vars
  generalize Day.AB x0 ⟨[x1, x2, x3, x4, x5, x6, x7, x8], x9, x10, x11, x12⟩ = c
  simp [Day.BV, hr, Day.HB.a, and_assoc]
def IQ : G := ⟨127, [⟨126, .iteB, [V 16, V 16, V 15]⟩, ⟨125, .iteI, [V 16, V 98, N 0]⟩, ⟨124, .iteI, [V 16, V 68, N 0]⟩, ⟨123, .iteI, [V 16, V 65, N 0]⟩, ⟨122, .iteI, [V 16, V 95, N 0]⟩, ⟨121, .iteI, [V 16, V 92, N 0]⟩, ⟨120, .iteI, [V 16, V 89, N 0]⟩, ⟨119, .iteI, [V 16, V 86, N 0]⟩, ⟨118, .iteI, [V 16, V 83, N 0]⟩, ⟨117, .iteI, [V 16, V 80, N 0]⟩, ⟨116, .iteI, [V 16, V 77, N 0]⟩, ⟨115, .iteI, [V 16, V 74, N 0]⟩, ⟨114, .iteI, [V 16, V 71, N 0]⟩, ⟨113, .iteI, [V 16, V 98, V 12]⟩, ⟨112, .iteI, [V 16, V 68, V 11]⟩, ⟨111, .iteI, [V 16, V 65, V 10]⟩, ⟨110, .iteI, [V 16, V 95, V 9]⟩, ⟨109, .iteI, [V 16, V 92, V 8]⟩, ⟨108, .iteI, [V 16, V 89, V 7]⟩, ⟨107, .iteI, [V 16, V 86, V 6]⟩, ⟨106, .iteI, [V 16, V 83, V 5]⟩, ⟨105, .iteI, [V 16, V 80, V 4]⟩, ⟨104, .iteI, [V 16, V 77, V 3]⟩, ⟨103, .iteI, [V 16, V 74, V 2]⟩, ⟨102, .iteI, [V 16, V 71, V 1]⟩, ⟨101, .iteI, [V 16, N 0, N 1]⟩, ⟨100, .not, [V 16]⟩, ⟨99, .imp, [V 16, V 97]⟩, ⟨97, (.call 50), [V 0, V 12]⟩, ⟨96, .imp, [V 16, V 94]⟩, ⟨94, (.call 50), [V 0, V 9]⟩, ⟨93, .imp, [V 16, V 91]⟩, ⟨91, (.call 49), [V 8, N 0, V 63]⟩, ⟨90, .imp, [V 16, V 88]⟩, ⟨88, (.call 49), [V 7, N 0, V 58]⟩, ⟨87, .imp, [V 16, V 85]⟩, ⟨85, (.call 49), [V 6, N 0, V 53]⟩, ⟨84, .imp, [V 16, V 82]⟩, ⟨82, (.call 49), [V 5, N 0, V 48]⟩, ⟨81, .imp, [V 16, V 79]⟩, ⟨79, (.call 49), [V 4, N 0, V 43]⟩, ⟨78, .imp, [V 16, V 76]⟩, ⟨76, (.call 49), [V 3, N 0, V 38]⟩, ⟨75, .imp, [V 16, V 73]⟩, ⟨73, (.call 49), [V 2, N 0, V 33]⟩, ⟨72, .imp, [V 16, V 70]⟩, ⟨70, (.call 49), [V 1, N 0, V 28]⟩, ⟨69, .imp, [V 16, V 67]⟩, ⟨67, (.call 49), [V 11, N 0, V 22]⟩, ⟨66, .imp, [V 16, V 64]⟩, ⟨64, (.call 49), [V 10, N 0, V 20]⟩, ⟨63, .iteI, [V 59, V 0, N 0]⟩, ⟨62, .and, [V 16, V 60]⟩, ⟨61, .and, [V 16, V 59]⟩, ⟨60, .not, [V 59]⟩, ⟨59, (.cmp .lss), [N 7, V 0]⟩, ⟨58, .iteI, [V 54, V 0, N 0]⟩, ⟨57, .and, [V 16, V 55]⟩, ⟨56, .and, [V 16, V 54]⟩, ⟨55, .not, [V 54]⟩, ⟨54, (.cmp .lss), [N 6, V 0]⟩, ⟨53, .iteI, [V 49, V 0, N 0]⟩, ⟨52, .and, [V 16, V 50]⟩, ⟨51, .and, [V 16, V 49]⟩, ⟨50, .not, [V 49]⟩, ⟨49, (.cmp .lss), [N 5, V 0]⟩, ⟨48, .iteI, [V 44, V 0, N 0]⟩, ⟨47, .and, [V 16, V 45]⟩, ⟨46, .and, [V 16, V 44]⟩, ⟨45, .not, [V 44]⟩, ⟨44, (.cmp .lss), [N 4, V 0]⟩, ⟨43, .iteI, [V 39, V 0, N 0]⟩, ⟨42, .and, [V 16, V 40]⟩, ⟨41, .and, [V 16, V 39]⟩, ⟨40, .not, [V 39]⟩, ⟨39, (.cmp .lss), [N 3, V 0]⟩, ⟨38, .iteI, [V 34, V 0, N 0]⟩, ⟨37, .and, [V 16, V 35]⟩, ⟨36, .and, [V 16, V 34]⟩, ⟨35, .not, [V 34]⟩, ⟨34, (.cmp .lss), [N 2, V 0]⟩, ⟨33, .iteI, [V 29, V 0, N 0]⟩, ⟨32, .and, [V 16, V 30]⟩, ⟨31, .and, [V 16, V 29]⟩, ⟨30, .not, [V 29]⟩, ⟨29, (.cmp .lss), [N 1, V 0]⟩, ⟨28, .iteI, [V 24, V 0, N 0]⟩, ⟨27, .and, [V 16, V 25]⟩, ⟨26, .and, [V 16, V 24]⟩, ⟨25, .not, [V 24]⟩, ⟨24, (.cmp .lss), [N 0, V 0]⟩, ⟨23, .imp, [V 16, V 21]⟩, ⟨21, (.call 40), [V 0]⟩, ⟨20, (.ar .add .i64), [V 18, N 1]⟩, ⟨19, .imp, [V 16, V 17]⟩, ⟨17, (.call 40), [V 0]⟩, ⟨16, .not, [V 15]⟩, ⟨15, .not, [V 14]⟩, ⟨13, (.call 43), [V 0]⟩], [V 99, V 96, V 93, V 90, V 87, V 84, V 81, V 78, V 75, V 72, V 69, V 66, V 23, V 19, V 13], []⟩
theorem Qo (e : Nat → A) (H : Ac T e IQ.defs) : ∀ z0, z0 = (Day.HB.mk [(e 1).int, (e 2).int, (e 3).int, (e 4).int, (e 5).int, (e 6).int, (e 7).int, (e 8).int] (e 9).int (e 10).int (e 11).int (e 12).int) → ∀ r1, r1 = Day.AB (e 0).int z0 → (Day.HB.i64 z0) = true →
  ((e 99).bool = true ∧ (e 96).bool = true ∧ (e 93).bool = true ∧ (e 90).bool = true ∧ (e 87).bool = true ∧ (e 84).bool = true ∧ (e 81).bool = true ∧ (e 78).bool = true ∧ (e 75).bool = true ∧ (e 72).bool = true ∧ (e 69).bool = true ∧ (e 66).bool = true ∧ (e 23).bool = true ∧ (e 19).bool = true ∧ (e 13).bool = true) ∧ (((r1)).a 0 = (e 114).int ∧ ((r1)).a 1 = (e 115).int ∧ ((r1)).a 2 = (e 116).int ∧ ((r1)).a 3 = (e 117).int ∧ ((r1)).a 4 = (e 118).int ∧ ((r1)).a 5 = (e 119).int ∧ ((r1)).a 6 = (e 120).int ∧ ((r1)).a 7 = (e 121).int ∧ ((r1)).port = (e 122).int ∧ ((r1)).age = (e 123).int ∧ ((r1)).hold = (e 124).int ∧ ((r1)).pos = (e 125).int ∧ Day.BV (e 0).int = (e 101).int) := by
 intro z0 hz0 r1 hr1 hp
 subst hz0 hr1
 simp only [IQ, Ac, Def.q, Bc, L.Ae, L.Aq, L.AE, L.AF, L.ev, A.Ad, A.Ah, A.As, A.AJ, List.map_cons, List.map_nil, Nat.zero_add, Nat.add_zero, and_true, true_and, Nat.reduceAdd, Nat.one_mul] at H
 simp only [C0, C1, CN, A3, De, Dg, Bm, Dw, and_true, true_and] at H
 obtain ⟨q126, ⟨q125, -⟩, ⟨q124, -⟩, ⟨q123, -⟩, ⟨q122, -⟩, ⟨q121, -⟩, ⟨q120, -⟩, ⟨q119, -⟩, ⟨q118, -⟩, ⟨q117, -⟩, ⟨q116, -⟩, ⟨q115, -⟩, ⟨q114, -⟩, ⟨q113, -⟩, ⟨q112, -⟩, ⟨q111, -⟩, ⟨q110, -⟩, ⟨q109, -⟩, ⟨q108, -⟩, ⟨q107, -⟩, ⟨q106, -⟩, ⟨q105, -⟩, ⟨q104, -⟩, ⟨q103, -⟩, ⟨q102, -⟩, ⟨q101, -⟩, q100, q99, q97, q96, q94, q93, q91, q90, q88, q87, q85, q84, q82, q81, q79, q78, q76, q75, q73, q72, q70, q69, q67, q66, q64, ⟨q63, -⟩, q62, q61, q60, q59, ⟨q58, -⟩, q57, q56, q55, q54, ⟨q53, -⟩, q52, q51, q50, q49, ⟨q48, -⟩, q47, q46, q45, q44, ⟨q43, -⟩, q42, q41, q40, q39, ⟨q38, -⟩, q37, q36, q35, q34, ⟨q33, -⟩, q32, q31, q30, q29, ⟨q28, -⟩, q27, q26, q25, q24, q23, q21, ⟨q20, -⟩, q19, q17, q16, q15, q13⟩ := H
 replace q97 := NC q97
 obtain ⟨q97, q98⟩ := q97
 replace q94 := NC q94
 obtain ⟨q94, q95⟩ := q94
 replace q91 := Bi q91
 obtain ⟨q91, q92⟩ := q91
 replace q88 := Bi q88
 obtain ⟨q88, q89⟩ := q88
 replace q85 := Bi q85
 obtain ⟨q85, q86⟩ := q85
 replace q82 := Bi q82
 obtain ⟨q82, q83⟩ := q82
 replace q79 := Bi q79
 obtain ⟨q79, q80⟩ := q79
 replace q76 := Bi q76
 obtain ⟨q76, q77⟩ := q76
 replace q73 := Bi q73
 obtain ⟨q73, q74⟩ := q73
 replace q70 := Bi q70
 obtain ⟨q70, q71⟩ := q70
 replace q67 := Bi q67
 obtain ⟨q67, q68⟩ := q67
 replace q64 := Bi q64
 obtain ⟨q64, q65⟩ := q64
 replace q21 := B0 q21
 obtain ⟨q21, q22⟩ := q21
 replace q17 := B0 q17
 obtain ⟨q17, q18⟩ := q17
 replace q13 := KK q13
 obtain ⟨q13, q14⟩ := q13
 simp only [L.Ae, L.Aq, L.AE, L.AF, L.ev, A.Ad, A.Ah, A.As] at q97 q98 q94 q95 q91 q92 q88 q89 q85 q86 q82 q83 q79 q80 q76 q77 q73 q74 q70 q71 q67 q68 q64 q65 q21 q22 q17 q18 q13 q14
 generalize (e 0).int = x0, (e 1).int = x1, (e 2).int = x2, (e 3).int = x3, (e 4).int = x4, (e 5).int = x5, (e 6).int = x6, (e 7).int = x7, (e 8).int = x8, (e 9).int = x9, (e 10).int = x10, (e 11).int = x11, (e 12).int = x12, (e 13).bool = v13, (e 14).bool = v14, (e 15).bool = v15, (e 16).bool = v16, (e 17).bool = v17, (e 18).int = v18, (e 19).bool = v19, (e 20).int = v20, (e 21).bool = v21, (e 22).int = v22, (e 23).bool = v23, (e 24).bool = v24, (e 25).bool = v25, (e 26).bool = v26, (e 27).bool = v27, (e 28).int = v28, (e 29).bool = v29, (e 30).bool = v30, (e 31).bool = v31, (e 32).bool = v32, (e 33).int = v33, (e 34).bool = v34, (e 35).bool = v35, (e 36).bool = v36, (e 37).bool = v37, (e 38).int = v38, (e 39).bool = v39, (e 40).bool = v40, (e 41).bool = v41, (e 42).bool = v42, (e 43).int = v43, (e 44).bool = v44, (e 45).bool = v45, (e 46).bool = v46, (e 47).bool = v47, (e 48).int = v48, (e 49).bool = v49, (e 50).bool = v50, (e 51).bool = v51, (e 52).bool = v52, (e 53).int = v53, (e 54).bool = v54, (e 55).bool = v55, (e 56).bool = v56, (e 57).bool = v57, (e 58).int = v58, (e 59).bool = v59, (e 60).bool = v60, (e 61).bool = v61, (e 62).bool = v62, (e 63).int = v63, (e 64).bool = v64, (e 65).int = v65, (e 66).bool = v66, (e 67).bool = v67, (e 68).int = v68, (e 69).bool = v69, (e 70).bool = v70, (e 71).int = v71, (e 72).bool = v72, (e 73).bool = v73, (e 74).int = v74, (e 75).bool = v75, (e 76).bool = v76, (e 77).int = v77, (e 78).bool = v78, (e 79).bool = v79, (e 80).int = v80, (e 81).bool = v81, (e 82).bool = v82, (e 83).int = v83, (e 84).bool = v84, (e 85).bool = v85, (e 86).int = v86, (e 87).bool = v87, (e 88).bool = v88, (e 89).int = v89, (e 90).bool = v90, (e 91).bool = v91, (e 92).int = v92, (e 93).bool = v93, (e 94).bool = v94, (e 95).int = v95, (e 96).bool = v96, (e 97).bool = v97, (e 98).int = v98, (e 99).bool = v99, (e 100).bool = v100, (e 101).int = v101, (e 102).int = v102, (e 103).int = v103, (e 104).int = v104, (e 105).int = v105, (e 106).int = v106, (e 107).int = v107, (e 108).int = v108, (e 109).int = v109, (e 110).int = v110, (e 111).int = v111, (e 112).int = v112, (e 113).int = v113, (e 114).int = v114, (e 115).int = v115, (e 116).int = v116, (e 117).int = v117, (e 118).int = v118, (e 119).int = v119, (e 120).int = v120, (e 121).int = v121, (e 122).int = v122, (e 123).int = v123, (e 124).int = v124, (e 125).int = v125, (e 126).bool = v126 at *
 rcases Day.Ko x0 with rfl | rfl | rfl | rfl | rfl | rfl | hc
 ·subst_vars
  simp [Day.times, wrap64, Day.HB.i64, Day.CM, Day.AS, Day.AY, Day.Bp, Day.Be, Day.Al, Day.AB, Day.BV, Day.Bq, Day.BZ, Day.HB.a, Day.right, Day.i64, Day.BF, Day.BO, Day.sm, Day.AX, Day.AZ] at hp ⊢
  omega
 ·subst_vars
  simp [Day.times, wrap64, Day.HB.i64, Day.CM, Day.AS, Day.AY, Day.Bp, Day.Be, Day.Al, Day.AB, Day.BV, Day.Bq, Day.BZ, Day.HB.a, Day.right, Day.i64, Day.BF, Day.BO, Day.sm, Day.AX, Day.AZ] at hp ⊢
  omega
 ·subst_vars
  simp [Day.times, wrap64, Day.HB.i64, Day.CM, Day.AS, Day.AY, Day.Bp, Day.Be, Day.Al, Day.AB, Day.BV, Day.Bq, Day.BZ, Day.HB.a, Day.right, Day.i64, Day.BF, Day.BO, Day.sm, Day.AX, Day.AZ] at hp ⊢
  omega
 ·subst_vars
  simp [Day.times, wrap64, Day.HB.i64, Day.CM, Day.AS, Day.AY, Day.Bp, Day.Be, Day.Al, Day.AB, Day.BV, Day.Bq, Day.BZ, Day.HB.a, Day.right, Day.i64, Day.BF, Day.BO, Day.sm, Day.AX, Day.AZ] at hp ⊢
  omega
 ·subst_vars
  simp [Day.times, wrap64, Day.HB.i64, Day.CM, Day.AS, Day.AY, Day.Bp, Day.Be, Day.Al, Day.AB, Day.BV, Day.Bq, Day.BZ, Day.HB.a, Day.right, Day.i64, Day.BF, Day.BO, Day.sm, Day.AX, Day.AZ] at hp ⊢
  omega
 ·subst_vars
  simp [Day.times, wrap64, Day.HB.i64, Day.CM, Day.AS, Day.AY, Day.Bp, Day.Be, Day.Al, Day.AB, Day.BV, Day.Bq, Day.BZ, Day.HB.a, Day.right, Day.i64, Day.BF, Day.BO, Day.sm, Day.AX, Day.AZ] at hp ⊢
  omega
 ·subst_vars
  simp [Day.AB, Day.BV, hc, Day.Bp, Day.HB.a]
def KW : G := ⟨126, [⟨125, .iteB, [V 16, V 16, V 15]⟩, ⟨124, .iteI, [V 16, V 98, N 0]⟩, ⟨123, .iteI, [V 16, V 18, N 0]⟩, ⟨122, .iteI, [V 16, V 68, N 0]⟩, ⟨121, .iteI, [V 16, V 9, N 0]⟩, ⟨120, .iteI, [V 16, V 95, N 0]⟩, ⟨119, .iteI, [V 16, V 92, N 0]⟩, ⟨118, .iteI, [V 16, V 89, N 0]⟩, ⟨117, .iteI, [V 16, V 86, N 0]⟩, ⟨116, .iteI, [V 16, V 83, N 0]⟩, ⟨115, .iteI, [V 16, V 80, N 0]⟩, ⟨114, .iteI, [V 16, V 77, N 0]⟩, ⟨113, .iteI, [V 16, V 74, N 0]⟩, ⟨112, .iteI, [V 16, V 98, V 12]⟩, ⟨111, .iteI, [V 16, V 18, V 11]⟩, ⟨110, .iteI, [V 16, V 68, V 10]⟩, ⟨109, .iteI, [V 16, V 95, V 8]⟩, ⟨108, .iteI, [V 16, V 92, V 7]⟩, ⟨107, .iteI, [V 16, V 89, V 6]⟩, ⟨106, .iteI, [V 16, V 86, V 5]⟩, ⟨105, .iteI, [V 16, V 83, V 4]⟩, ⟨104, .iteI, [V 16, V 80, V 3]⟩, ⟨103, .iteI, [V 16, V 77, V 2]⟩, ⟨102, .iteI, [V 16, V 74, V 1]⟩, ⟨101, .iteI, [V 16, N 0, N 1]⟩, ⟨100, .not, [V 16]⟩, ⟨99, .imp, [V 16, V 97]⟩, ⟨97, (.call 36), [V 0, V 12]⟩, ⟨96, .imp, [V 16, V 94]⟩, ⟨94, (.call 35), [V 8, V 66]⟩, ⟨93, .imp, [V 16, V 91]⟩, ⟨91, (.call 35), [V 7, V 61]⟩, ⟨90, .imp, [V 16, V 88]⟩, ⟨88, (.call 35), [V 6, V 56]⟩, ⟨87, .imp, [V 16, V 85]⟩, ⟨85, (.call 35), [V 5, V 51]⟩, ⟨84, .imp, [V 16, V 82]⟩, ⟨82, (.call 35), [V 4, V 46]⟩, ⟨81, .imp, [V 16, V 79]⟩, ⟨79, (.call 35), [V 3, V 41]⟩, ⟨78, .imp, [V 16, V 76]⟩, ⟨76, (.call 35), [V 2, V 36]⟩, ⟨75, .imp, [V 16, V 73]⟩, ⟨73, (.call 35), [V 1, V 31]⟩, ⟨72, .imp, [V 16, V 70]⟩, ⟨70, (.call 35), [V 11, V 25]⟩, ⟨69, .imp, [V 16, V 67]⟩, ⟨67, (.call 35), [V 10, V 23]⟩, ⟨66, .iteI, [V 62, V 0, N 0]⟩, ⟨65, .and, [V 16, V 63]⟩, ⟨64, .and, [V 16, V 62]⟩, ⟨63, .not, [V 62]⟩, ⟨62, (.cmp .lss), [N 7, V 0]⟩, ⟨61, .iteI, [V 57, V 0, N 0]⟩, ⟨60, .and, [V 16, V 58]⟩, ⟨59, .and, [V 16, V 57]⟩, ⟨58, .not, [V 57]⟩, ⟨57, (.cmp .lss), [N 6, V 0]⟩, ⟨56, .iteI, [V 52, V 0, N 0]⟩, ⟨55, .and, [V 16, V 53]⟩, ⟨54, .and, [V 16, V 52]⟩, ⟨53, .not, [V 52]⟩, ⟨52, (.cmp .lss), [N 5, V 0]⟩, ⟨51, .iteI, [V 47, V 0, N 0]⟩, ⟨50, .and, [V 16, V 48]⟩, ⟨49, .and, [V 16, V 47]⟩, ⟨48, .not, [V 47]⟩, ⟨47, (.cmp .lss), [N 4, V 0]⟩, ⟨46, .iteI, [V 42, V 0, N 0]⟩, ⟨45, .and, [V 16, V 43]⟩, ⟨44, .and, [V 16, V 42]⟩, ⟨43, .not, [V 42]⟩, ⟨42, (.cmp .lss), [N 3, V 0]⟩, ⟨41, .iteI, [V 37, V 0, N 0]⟩, ⟨40, .and, [V 16, V 38]⟩, ⟨39, .and, [V 16, V 37]⟩, ⟨38, .not, [V 37]⟩, ⟨37, (.cmp .lss), [N 2, V 0]⟩, ⟨36, .iteI, [V 32, V 0, N 0]⟩, ⟨35, .and, [V 16, V 33]⟩, ⟨34, .and, [V 16, V 32]⟩, ⟨33, .not, [V 32]⟩, ⟨32, (.cmp .lss), [N 1, V 0]⟩, ⟨31, .iteI, [V 27, V 0, N 0]⟩, ⟨30, .and, [V 16, V 28]⟩, ⟨29, .and, [V 16, V 27]⟩, ⟨28, .not, [V 27]⟩, ⟨27, (.cmp .lss), [N 0, V 0]⟩, ⟨26, .imp, [V 16, V 24]⟩, ⟨24, (.call 40), [V 0]⟩, ⟨23, (.ar .add .i64), [V 21, N 1]⟩, ⟨22, .imp, [V 16, V 20]⟩, ⟨20, (.call 40), [V 0]⟩, ⟨19, .imp, [V 16, V 17]⟩, ⟨17, (.call 33), [V 11]⟩, ⟨16, .not, [V 15]⟩, ⟨15, .not, [V 14]⟩, ⟨13, (.call 25), [V 0, V 1, V 2, V 3, V 4, V 5, V 6, V 7, V 8, V 9, V 10, V 11, V 12]⟩], [V 99, V 96, V 93, V 90, V 87, V 84, V 81, V 78, V 75, V 72, V 69, V 26, V 22, V 19, V 13], []⟩
theorem Tv (e : Nat → A) (H : Ac T e KW.defs) : ∀ z0, z0 = (Day.HB.mk [(e 1).int, (e 2).int, (e 3).int, (e 4).int, (e 5).int, (e 6).int, (e 7).int, (e 8).int] (e 9).int (e 10).int (e 11).int (e 12).int) → ∀ r1, r1 = Day.Bq (e 0).int z0 → (Day.HB.i64 z0) = true →
  ((e 99).bool = true ∧ (e 96).bool = true ∧ (e 93).bool = true ∧ (e 90).bool = true ∧ (e 87).bool = true ∧ (e 84).bool = true ∧ (e 81).bool = true ∧ (e 78).bool = true ∧ (e 75).bool = true ∧ (e 72).bool = true ∧ (e 69).bool = true ∧ (e 26).bool = true ∧ (e 22).bool = true ∧ (e 19).bool = true ∧ (e 13).bool = true) ∧ (((r1)).a 0 = (e 113).int ∧ ((r1)).a 1 = (e 114).int ∧ ((r1)).a 2 = (e 115).int ∧ ((r1)).a 3 = (e 116).int ∧ ((r1)).a 4 = (e 117).int ∧ ((r1)).a 5 = (e 118).int ∧ ((r1)).a 6 = (e 119).int ∧ ((r1)).a 7 = (e 120).int ∧ ((r1)).port = (e 121).int ∧ ((r1)).age = (e 122).int ∧ ((r1)).hold = (e 123).int ∧ ((r1)).pos = (e 124).int ∧ Day.BZ (e 0).int z0 = (e 101).int) := by
 intro z0 hz0 r1 hr1 hp
 subst hz0 hr1
 simp only [KW, Ac, Def.q, Bc, L.Ae, L.Aq, L.AE, L.AF, L.ev, A.Ad, A.Ah, A.As, A.AJ, List.map_cons, List.map_nil, Nat.zero_add, Nat.add_zero, and_true, true_and, Nat.reduceAdd, Nat.one_mul] at H
 simp only [C0, C1, CN, A3, De, Dg, Bm, Dw, and_true, true_and] at H
 obtain ⟨q125, ⟨q124, -⟩, ⟨q123, -⟩, ⟨q122, -⟩, ⟨q121, -⟩, ⟨q120, -⟩, ⟨q119, -⟩, ⟨q118, -⟩, ⟨q117, -⟩, ⟨q116, -⟩, ⟨q115, -⟩, ⟨q114, -⟩, ⟨q113, -⟩, ⟨q112, -⟩, ⟨q111, -⟩, ⟨q110, -⟩, ⟨q109, -⟩, ⟨q108, -⟩, ⟨q107, -⟩, ⟨q106, -⟩, ⟨q105, -⟩, ⟨q104, -⟩, ⟨q103, -⟩, ⟨q102, -⟩, ⟨q101, -⟩, q100, q99, q97, q96, q94, q93, q91, q90, q88, q87, q85, q84, q82, q81, q79, q78, q76, q75, q73, q72, q70, q69, q67, ⟨q66, -⟩, q65, q64, q63, q62, ⟨q61, -⟩, q60, q59, q58, q57, ⟨q56, -⟩, q55, q54, q53, q52, ⟨q51, -⟩, q50, q49, q48, q47, ⟨q46, -⟩, q45, q44, q43, q42, ⟨q41, -⟩, q40, q39, q38, q37, ⟨q36, -⟩, q35, q34, q33, q32, ⟨q31, -⟩, q30, q29, q28, q27, q26, q24, ⟨q23, -⟩, q22, q20, q19, q17, q16, q15, q13⟩ := H
 replace q97 := UD q97
 obtain ⟨q97, q98⟩ := q97
 replace q94 := BW q94
 obtain ⟨q94, q95⟩ := q94
 replace q91 := BW q91
 obtain ⟨q91, q92⟩ := q91
 replace q88 := BW q88
 obtain ⟨q88, q89⟩ := q88
 replace q85 := BW q85
 obtain ⟨q85, q86⟩ := q85
 replace q82 := BW q82
 obtain ⟨q82, q83⟩ := q82
 replace q79 := BW q79
 obtain ⟨q79, q80⟩ := q79
 replace q76 := BW q76
 obtain ⟨q76, q77⟩ := q76
 replace q73 := BW q73
 obtain ⟨q73, q74⟩ := q73
 replace q70 := BW q70
 obtain ⟨q70, q71⟩ := q70
 replace q67 := BW q67
 obtain ⟨q67, q68⟩ := q67
 replace q24 := B0 q24
 obtain ⟨q24, q25⟩ := q24
 replace q20 := B0 q20
 obtain ⟨q20, q21⟩ := q20
 replace q17 := S7 q17
 obtain ⟨q17, q18⟩ := q17
 replace q13 := Cp q13 _ rfl
 obtain ⟨q13, q14⟩ := q13
 simp only [L.Ae, L.Aq, L.AE, L.AF, L.ev, A.Ad, A.Ah, A.As] at q97 q98 q94 q95 q91 q92 q88 q89 q85 q86 q82 q83 q79 q80 q76 q77 q73 q74 q70 q71 q67 q68 q24 q25 q20 q21 q17 q18 q13 q14
 generalize (e 0).int = x0, (e 1).int = x1, (e 2).int = x2, (e 3).int = x3, (e 4).int = x4, (e 5).int = x5, (e 6).int = x6, (e 7).int = x7, (e 8).int = x8, (e 9).int = x9, (e 10).int = x10, (e 11).int = x11, (e 12).int = x12, (e 13).bool = v13, (e 14).bool = v14, (e 15).bool = v15, (e 16).bool = v16, (e 17).bool = v17, (e 18).int = v18, (e 19).bool = v19, (e 20).bool = v20, (e 21).int = v21, (e 22).bool = v22, (e 23).int = v23, (e 24).bool = v24, (e 25).int = v25, (e 26).bool = v26, (e 27).bool = v27, (e 28).bool = v28, (e 29).bool = v29, (e 30).bool = v30, (e 31).int = v31, (e 32).bool = v32, (e 33).bool = v33, (e 34).bool = v34, (e 35).bool = v35, (e 36).int = v36, (e 37).bool = v37, (e 38).bool = v38, (e 39).bool = v39, (e 40).bool = v40, (e 41).int = v41, (e 42).bool = v42, (e 43).bool = v43, (e 44).bool = v44, (e 45).bool = v45, (e 46).int = v46, (e 47).bool = v47, (e 48).bool = v48, (e 49).bool = v49, (e 50).bool = v50, (e 51).int = v51, (e 52).bool = v52, (e 53).bool = v53, (e 54).bool = v54, (e 55).bool = v55, (e 56).int = v56, (e 57).bool = v57, (e 58).bool = v58, (e 59).bool = v59, (e 60).bool = v60, (e 61).int = v61, (e 62).bool = v62, (e 63).bool = v63, (e 64).bool = v64, (e 65).bool = v65, (e 66).int = v66, (e 67).bool = v67, (e 68).int = v68, (e 69).bool = v69, (e 70).bool = v70, (e 71).int = v71, (e 72).bool = v72, (e 73).bool = v73, (e 74).int = v74, (e 75).bool = v75, (e 76).bool = v76, (e 77).int = v77, (e 78).bool = v78, (e 79).bool = v79, (e 80).int = v80, (e 81).bool = v81, (e 82).bool = v82, (e 83).int = v83, (e 84).bool = v84, (e 85).bool = v85, (e 86).int = v86, (e 87).bool = v87, (e 88).bool = v88, (e 89).int = v89, (e 90).bool = v90, (e 91).bool = v91, (e 92).int = v92, (e 93).bool = v93, (e 94).bool = v94, (e 95).int = v95, (e 96).bool = v96, (e 97).bool = v97, (e 98).int = v98, (e 99).bool = v99, (e 100).bool = v100, (e 101).int = v101, (e 102).int = v102, (e 103).int = v103, (e 104).int = v104, (e 105).int = v105, (e 106).int = v106, (e 107).int = v107, (e 108).int = v108, (e 109).int = v109, (e 110).int = v110, (e 111).int = v111, (e 112).int = v112, (e 113).int = v113, (e 114).int = v114, (e 115).int = v115, (e 116).int = v116, (e 117).int = v117, (e 118).int = v118, (e 119).int = v119, (e 120).int = v120, (e 121).int = v121, (e 122).int = v122, (e 123).int = v123, (e 124).int = v124, (e 125).bool = v125 at *
 rcases Day.V0 x0 ⟨[x1, x2, x3, x4, x5, x6, x7, x8], x9, x10, x11, x12⟩ with ⟨rfl, hc⟩ | ⟨rfl, hc⟩ | ⟨rfl, hc⟩ | ⟨rfl, hc⟩ | ⟨rfl, hc⟩ | ⟨rfl, hc⟩ | hc
 ·subst_vars
  simp [Day.times, wrap64, Day.HB.i64, Day.CM, Day.AS, Day.AY, Day.Bp, Day.Be, Day.Al, Day.AB, Day.BV, Day.Bq, Day.BZ, Day.HB.a, Day.right, Day.i64, Day.BF, Day.BO, Day.sm, Day.AX, Day.AZ, hc] at hp ⊢
  simp [Day.Ak, Day.times, wrap64, Day.HB.i64, Day.CM, Day.AS, Day.AY, Day.Bp, Day.Be, Day.Al, Day.AB, Day.BV, Day.Bq, Day.BZ, Day.HB.a, Day.right, Day.i64, Day.BF, Day.BO, Day.sm, Day.AX, Day.AZ] at hc
  omega
 ·subst_vars
  simp [Day.times, wrap64, Day.HB.i64, Day.CM, Day.AS, Day.AY, Day.Bp, Day.Be, Day.Al, Day.AB, Day.BV, Day.Bq, Day.BZ, Day.HB.a, Day.right, Day.i64, Day.BF, Day.BO, Day.sm, Day.AX, Day.AZ, hc] at hp ⊢
  simp [Day.Ak, Day.times, wrap64, Day.HB.i64, Day.CM, Day.AS, Day.AY, Day.Bp, Day.Be, Day.Al, Day.AB, Day.BV, Day.Bq, Day.BZ, Day.HB.a, Day.right, Day.i64, Day.BF, Day.BO, Day.sm, Day.AX, Day.AZ] at hc
  omega
 ·subst_vars
  simp [Day.times, wrap64, Day.HB.i64, Day.CM, Day.AS, Day.AY, Day.Bp, Day.Be, Day.Al, Day.AB, Day.BV, Day.Bq, Day.BZ, Day.HB.a, Day.right, Day.i64, Day.BF, Day.BO, Day.sm, Day.AX, Day.AZ, hc] at hp ⊢
  simp [Day.Ak, Day.times, wrap64, Day.HB.i64, Day.CM, Day.AS, Day.AY, Day.Bp, Day.Be, Day.Al, Day.AB, Day.BV, Day.Bq, Day.BZ, Day.HB.a, Day.right, Day.i64, Day.BF, Day.BO, Day.sm, Day.AX, Day.AZ] at hc
  omega
 ·subst_vars
  simp [Day.times, wrap64, Day.HB.i64, Day.CM, Day.AS, Day.AY, Day.Bp, Day.Be, Day.Al, Day.AB, Day.BV, Day.Bq, Day.BZ, Day.HB.a, Day.right, Day.i64, Day.BF, Day.BO, Day.sm, Day.AX, Day.AZ, hc] at hp ⊢
  simp [Day.Ak, Day.times, wrap64, Day.HB.i64, Day.CM, Day.AS, Day.AY, Day.Bp, Day.Be, Day.Al, Day.AB, Day.BV, Day.Bq, Day.BZ, Day.HB.a, Day.right, Day.i64, Day.BF, Day.BO, Day.sm, Day.AX, Day.AZ] at hc
  omega
 ·subst_vars
  simp [Day.times, wrap64, Day.HB.i64, Day.CM, Day.AS, Day.AY, Day.Bp, Day.Be, Day.Al, Day.AB, Day.BV, Day.Bq, Day.BZ, Day.HB.a, Day.right, Day.i64, Day.BF, Day.BO, Day.sm, Day.AX, Day.AZ, hc] at hp ⊢
  simp [Day.Ak, Day.times, wrap64, Day.HB.i64, Day.CM, Day.AS, Day.AY, Day.Bp, Day.Be, Day.Al, Day.AB, Day.BV, Day.Bq, Day.BZ, Day.HB.a, Day.right, Day.i64, Day.BF, Day.BO, Day.sm, Day.AX, Day.AZ] at hc
  omega
 ·subst_vars
  simp [Day.times, wrap64, Day.HB.i64, Day.CM, Day.AS, Day.AY, Day.Bp, Day.Be, Day.Al, Day.AB, Day.BV, Day.Bq, Day.BZ, Day.HB.a, Day.right, Day.i64, Day.BF, Day.BO, Day.sm, Day.AX, Day.AZ, hc] at hp ⊢
  simp [Day.Ak, Day.times, wrap64, Day.HB.i64, Day.CM, Day.AS, Day.AY, Day.Bp, Day.Be, Day.Al, Day.AB, Day.BV, Day.Bq, Day.BZ, Day.HB.a, Day.right, Day.i64, Day.BF, Day.BO, Day.sm, Day.AX, Day.AZ] at hc
  omega
 ·subst_vars
  simp [Day.times, wrap64, Day.HB.i64, Day.CM, Day.AS, Day.AY, Day.Bp, Day.Be, Day.Al, Day.AB, Day.BV, Day.Bq, Day.BZ, Day.HB.a, Day.right, Day.i64, Day.BF, Day.BO, Day.sm, Day.AX, Day.AZ, hc] at hp ⊢
  exact hp
def IY : G := ⟨36, [⟨35, .iteB, [V 23, V 23, V 22]⟩, ⟨34, .iteI, [V 23, V 32, N 0]⟩, ⟨33, .not, [V 23]⟩, ⟨32, (.pix 0 1), [V 25, V 13]⟩, ⟨31, .imp, [V 23, V 30]⟩, ⟨30, .and, [V 28, V 29]⟩, ⟨29, (.cmp .lss), [V 13, V 26]⟩, ⟨28, (.cmp .leq), [N 0, V 13]⟩, ⟨27, .imp, [V 23, V 24]⟩, ⟨24, (.call 53), [V 0, V 1, V 2, V 3, V 4, V 5, V 6, V 7, V 8, V 9, V 10, V 11, V 12]⟩, ⟨23, .not, [V 22]⟩, ⟨22, .iteB, [V 19, B true, V 21]⟩, ⟨21, (.cmp .geq), [V 13, V 0]⟩, ⟨20, .not, [V 19]⟩, ⟨19, .iteB, [V 16, B true, V 18]⟩, ⟨18, (.cmp .lss), [V 13, N 0]⟩, ⟨17, .not, [V 16]⟩, ⟨16, .not, [V 15]⟩, ⟨14, (.call 25), [V 0, V 1, V 2, V 3, V 4, V 5, V 6, V 7, V 8, V 9, V 10, V 11, V 12]⟩], [V 31, V 27, V 14], []⟩
theorem Qx (e : Nat → A) (H : Ac T e IY.defs) : ∀ z0, z0 = (Day.HB.mk [(e 1).int, (e 2).int, (e 3).int, (e 4).int, (e 5).int, (e 6).int, (e 7).int, (e 8).int] (e 9).int (e 10).int (e 11).int (e 12).int) → (Day.HB.i64 z0) = true →
  ((e 31).bool = true ∧ (e 27).bool = true ∧ (e 14).bool = true) ∧ (Day.Cu (e 0).int z0 (e 13).int = (e 34).int) := by
 intro z0 hz0 hp
 subst hz0
 simp only [IY, Ac, Def.q, Bc, L.Ae, L.Aq, L.AE, L.AF, L.ev, A.Ad, A.Ah, A.As, A.AJ, List.map_cons, List.map_nil, Nat.zero_add, Nat.add_zero, and_true, true_and, Nat.reduceAdd, Nat.one_mul] at H
 simp only [C0, C1, CN, A3, De, Dg, Bm, Dw, and_true, true_and] at H
 obtain ⟨q35, ⟨q34, -⟩, q33, q32, q31, q30, q29, q28, q27, q24, q23, q22, q21, q20, q19, q18, q17, q16, q14⟩ := H
 replace q24 := JE q24 _ rfl
 obtain ⟨q24, q25, q26⟩ := q24
 replace q14 := Cp q14 _ rfl
 obtain ⟨q14, q15⟩ := q14
 simp only [L.Ae, L.Aq, L.AE, L.AF, L.ev, A.Ad, A.Ah, A.As] at q24 q25 q26 q14 q15
 generalize (e 0).int = x0, (e 1).int = x1, (e 2).int = x2, (e 3).int = x3, (e 4).int = x4, (e 5).int = x5, (e 6).int = x6, (e 7).int = x7, (e 8).int = x8, (e 9).int = x9, (e 10).int = x10, (e 11).int = x11, (e 12).int = x12, (e 13).int = x13, (e 14).bool = v14, (e 15).bool = v15, (e 16).bool = v16, (e 17).bool = v17, (e 18).bool = v18, (e 19).bool = v19, (e 20).bool = v20, (e 21).bool = v21, (e 22).bool = v22, (e 23).bool = v23, (e 24).bool = v24, e 25 = v25, (e 26).int = v26, (e 27).bool = v27, (e 28).bool = v28, (e 29).bool = v29, (e 30).bool = v30, (e 31).bool = v31, (e 33).bool = v33, (e 34).int = v34, (e 35).bool = v35 at *
 replace q32 := congrArg A.int q32
 generalize (e 32).int = v32 at *
 generalize (Day.HB.mk [x1, x2, x3, x4, x5, x6, x7, x8] x9 x10 x11 x12) = h at *
 cases hr : Day.Ak x0 h with
 | false =>
  rw [hr] at q15
  subst_vars
  simp [Day.Cu, hr, hp]
 | true =>
  rw [hr] at q15 q24
  by_cases hv : 0 ≤ x13 ∧ x13 < x0
  ·have hg := Day.AdC hr hv
   have hl := Day.GU hr
   have n1 : ¬ x13 < 0 := by omega
   have n2 : ¬ x0 ≤ x13 := by omega
   subst_vars
   rw [hl]
   simp only [hg, Day.Cu, hr, if_true]
   simp [hp, n1, n2, hv]
  ·have e0 : Day.BG x0 h x13 = 0 := Day.AdE hr hv
   have n1 : x13 < 0 ∨ x0 ≤ x13 := by omega
   subst_vars
   rcases n1 with n1 | n1 <;> simp [Day.Cu, hr, hp, n1, e0]
def IZ : Lp := ⟨53, [false, true, false, true, true], 1540, 15, 1, 2, ⟨Ii 61 [(0, .pv (.one (.k (.int .i64 (V 0))))), (1, .pv (.agg [.k (.int .i64 (V 1)), .k (.int .i64 (V 2)), .k (.int .i64 (V 3)), .k (.int .i64 (V 4)), .k (.int .i64 (V 5)), .k (.int .i64 (V 6)), .k (.int .i64 (V 7)), .k (.int .i64 (V 8)), .k (.int .i64 (V 9)), .k (.int .i64 (V 10)), .k (.int .i64 (V 11)), .k (.int .i64 (V 12))])), (3, .pv (.one (.k (.ptr 0 0)))), (4, .pv (.one (.k (.nilslc)))), (5, .pv (.one (.k (.lsl 1 (V 0))))), (9, .pv (.one (.k (.int .i64 (V 0))))), (10, .pv (.one (.k (.lsl 1 (V 0))))), (11, .pv (.one (.k (.int .i64 (V 0))))), (12, .pv (.one (.k (.int .i64 (V 13)))))], [⟨true, 24, 12, [.k (.int .i64 (V 1)), .k (.int .i64 (V 2)), .k (.int .i64 (V 3)), .k (.int .i64 (V 4)), .k (.int .i64 (V 5)), .k (.int .i64 (V 6)), .k (.int .i64 (V 7)), .k (.int .i64 (V 8)), .k (.int .i64 (V 9)), .k (.int .i64 (V 10)), .k (.int .i64 (V 11)), .k (.int .i64 (V 12))], none⟩, ⟨false, 0, 0, [], some ⟨true, 3, [.int .i64], V 14, V 0⟩⟩], B true⟩, [(.exit 0, ⟨Ii 61 [(0, .pv (.one (.k (.int .i64 (V 0))))), (1, .pv (.agg [.k (.int .i64 (V 1)), .k (.int .i64 (V 2)), .k (.int .i64 (V 3)), .k (.int .i64 (V 4)), .k (.int .i64 (V 5)), .k (.int .i64 (V 6)), .k (.int .i64 (V 7)), .k (.int .i64 (V 8)), .k (.int .i64 (V 9)), .k (.int .i64 (V 10)), .k (.int .i64 (V 11)), .k (.int .i64 (V 12))])), (4, .pv (.one (.k (.nilslc)))), (5, .pv (.one (.k (.lsl 1 (V 0))))), (9, .pv (.one (.k (.int .i64 (V 0))))), (10, .pv (.one (.k (.lsl 1 (V 0)))))], [⟨true, 24, 12, [.k (.int .i64 (V 1)), .k (.int .i64 (V 2)), .k (.int .i64 (V 3)), .k (.int .i64 (V 4)), .k (.int .i64 (V 5)), .k (.int .i64 (V 6)), .k (.int .i64 (V 7)), .k (.int .i64 (V 8)), .k (.int .i64 (V 9)), .k (.int .i64 (V 10)), .k (.int .i64 (V 11)), .k (.int .i64 (V 12))], none⟩, ⟨false, 0, 0, [], some ⟨true, 3, [.int .i64], V 15, V 0⟩⟩], B true⟩)], [true, true, true, true, true, true, true, true, true, true, true, true, true, false, false], [.any]⟩
def NL : G := ⟨75, [⟨74, .and, [V 72, V 16]⟩, ⟨73, .and, [V 15, V 70]⟩, ⟨72, .not, [V 15]⟩, ⟨71, (.ar .add .i64), [V 13, N 1]⟩, ⟨70, .iteB, [V 51, V 51, V 68]⟩, ⟨69, .iteA, [V 51, V 66, V 38]⟩, ⟨68, .and, [V 67, V 50]⟩, ⟨67, .not, [V 51]⟩, ⟨66, .iteA, [V 55, V 65, V 38]⟩, ⟨65, (.pset 0 1), [V 38, V 53, V 64]⟩, ⟨64, (.ar .add .i64), [V 63, N 1]⟩, ⟨63, (.pix 0 1), [V 38, V 53]⟩, ⟨62, .imp, [V 57, V 61]⟩, ⟨61, .and, [V 59, V 60]⟩, ⟨60, (.cmp .lss), [V 53, V 0]⟩, ⟨59, (.cmp .leq), [N 0, V 53]⟩, ⟨58, .and, [V 51, V 56]⟩, ⟨57, .and, [V 51, V 55]⟩, ⟨56, .not, [V 55]⟩, ⟨55, (.cmp .neq), [V 53, V 37]⟩, ⟨54, .imp, [V 51, V 52]⟩, ⟨52, (.call 66), [V 0, V 13, V 10]⟩, ⟨51, .and, [V 47, V 49]⟩, ⟨50, .and, [V 46, V 48]⟩, ⟨49, .and, [V 15, V 47]⟩, ⟨48, .and, [V 15, V 46]⟩, ⟨47, .not, [V 46]⟩, ⟨46, .iteB, [V 39, B true, V 45]⟩, ⟨45, (.cmp .geq), [V 10, V 43]⟩, ⟨44, .imp, [V 41, V 42]⟩, ⟨42, (.call 40), [V 0]⟩, ⟨41, .and, [V 15, V 40]⟩, ⟨40, .not, [V 39]⟩, ⟨39, (.cmp .neq), [V 13, V 9]⟩, ⟨38, .iteA, [V 22, V 36, V 14]⟩, ⟨37, .iteI, [V 22, V 28, N (-1)]⟩, ⟨36, (.pset 0 1), [V 14, V 28, V 35]⟩, ⟨35, (.ar .add .i64), [V 34, N 1]⟩, ⟨34, (.pix 0 1), [V 14, V 28]⟩, ⟨33, .imp, [V 24, V 32]⟩, ⟨32, .and, [V 30, V 31]⟩, ⟨31, (.cmp .lss), [V 28, V 0]⟩, ⟨30, (.cmp .leq), [N 0, V 28]⟩, ⟨29, .imp, [V 24, V 27]⟩, ⟨27, (.call 66), [V 0, V 13, V 21]⟩, ⟨26, .imp, [V 24, V 19]⟩, ⟨25, .and, [V 15, V 23]⟩, ⟨24, .and, [V 15, V 22]⟩, ⟨23, .not, [V 22]⟩, ⟨22, (.cmp .lss), [V 21, V 0]⟩, ⟨21, .sel, [V 13, V 1, V 2, V 3, V 4, V 5, V 6, V 7, V 8]⟩, ⟨20, .imp, [V 15, V 19]⟩, ⟨19, .and, [V 17, V 18]⟩, ⟨18, (.cmp .lss), [V 13, N 8]⟩, ⟨17, (.cmp .leq), [N 0, V 13]⟩, ⟨16, .not, [V 15]⟩, ⟨15, (.cmp .lss), [V 13, V 0]⟩], [V 62, V 62, V 54, V 44, V 33, V 33, V 29, V 26, V 20], []⟩
def Z3 (al : List A) : Nat := ((gi al 0) - (gi al 13)).toNat
theorem YM (e : Nat → A) (H : Ac T e NL.defs) : ∀ z0, z0 = (Day.HB.mk [(e 1).int, (e 2).int, (e 3).int, (e 4).int, (e 5).int, (e 6).int, (e 7).int, (e 8).int] (e 9).int (e 10).int (e 11).int (e 12).int) → ∀ y0, y0 = (Day.HB.mk [(e 1).int, (e 2).int, (e 3).int, (e 4).int, (e 5).int, (e 6).int, (e 7).int, (e 8).int] (e 9).int (e 10).int (e 11).int (e 12).int) → (Day.DB (e 0).int z0 (e 13).int (e 14)) = true →
  ((e 62).bool = true ∧ (e 62).bool = true ∧ (e 54).bool = true ∧ (e 44).bool = true ∧ (e 33).bool = true ∧ (e 33).bool = true ∧ (e 29).bool = true ∧ (e 26).bool = true ∧ (e 20).bool = true) ∧ ((e 73).bool = true → (Day.DB (e 0).int y0 (e 71).int (e 69)) = true ∧ (Day.Co (Day.Kp (e 0).int y0 (e 71).int (e 69)) = Day.Co (Day.Kp (e 0).int z0 (e 13).int (e 14))) ∧ ((e 0).int - (e 71).int).toNat < ((e 0).int - (e 13).int).toNat) ∧ ((e 74).bool = true → (e 14) = Day.Co (Day.Kp (e 0).int z0 (e 13).int (e 14))) := by
 intro z0 hz0 y0 hy0 hp
 subst hz0 hy0
 simp only [NL, Ac, Def.q, Bc, L.Ae, L.Aq, L.AE, L.AF, L.ev, A.Ad, A.Ah, A.As, A.AJ, List.map_cons, List.map_nil, Nat.zero_add, Nat.add_zero, and_true, true_and, Nat.reduceAdd, Nat.one_mul] at H
 simp only [C0, C1, CN, A3, De, Dg, Bm, Dw, and_true, true_and] at H
 obtain ⟨q74, q73, q72, ⟨q71, -⟩, q70, q69, q68, q67, q66, q65, ⟨q64, k64⟩, q63, q62, q61, q60, q59, q58, q57, q56, q55, q54, q52, q51, q50, q49, q48, q47, q46, q45, q44, q42, q41, q40, q39, q38, ⟨q37, -⟩, q36, ⟨q35, k35⟩, q34, q33, q32, q31, q30, q29, q27, q26, q25, q24, q23, q22, q21, q20, q19, q18, q17, q16, q15⟩ := H
 replace q52 := P5 q52
 obtain ⟨q52, q53⟩ := q52
 replace q42 := B0 q42
 obtain ⟨q42, q43⟩ := q42
 replace q27 := P5 q27
 obtain ⟨q27, q28⟩ := q27
 unfold isI at k35 k64
 simp only [L.Ae, L.Aq, L.AE, L.AF, L.ev, A.Ad, A.Ah, A.As] at q52 q53 q42 q43 q27 q28
 generalize (e 0).int = x0, (e 1).int = x1, (e 2).int = x2, (e 3).int = x3, (e 4).int = x4, (e 5).int = x5, (e 6).int = x6, (e 7).int = x7, (e 8).int = x8, (e 9).int = x9, (e 10).int = x10, (e 11).int = x11, (e 12).int = x12, (e 13).int = x13, e 14 = x14, (e 15).bool = v15, (e 16).bool = v16, (e 17).bool = v17, (e 18).bool = v18, (e 19).bool = v19, (e 20).bool = v20, (e 21).int = v21, (e 22).bool = v22, (e 23).bool = v23, (e 24).bool = v24, (e 25).bool = v25, (e 26).bool = v26, (e 27).bool = v27, (e 28).int = v28, (e 29).bool = v29, (e 30).bool = v30, (e 31).bool = v31, (e 32).bool = v32, (e 33).bool = v33, (e 35).int = v35, e 36 = v36, (e 37).int = v37, e 38 = v38, (e 39).bool = v39, (e 40).bool = v40, (e 41).bool = v41, (e 42).bool = v42, (e 43).int = v43, (e 44).bool = v44, (e 45).bool = v45, (e 46).bool = v46, (e 47).bool = v47, (e 48).bool = v48, (e 49).bool = v49, (e 50).bool = v50, (e 51).bool = v51, (e 52).bool = v52, (e 53).int = v53, (e 54).bool = v54, (e 55).bool = v55, (e 56).bool = v56, (e 57).bool = v57, (e 58).bool = v58, (e 59).bool = v59, (e 60).bool = v60, (e 61).bool = v61, (e 62).bool = v62, (e 64).int = v64, e 65 = v65, e 66 = v66, (e 67).bool = v67, (e 68).bool = v68, e 69 = v69, (e 70).bool = v70, (e 71).int = v71, (e 72).bool = v72, (e 73).bool = v73, (e 74).bool = v74 at *
 rw [k64] at q65
 rw [k35] at q36
 replace q34 := congrArg A.int q34
 generalize (e 34).int = v34 at *
 replace q63 := congrArg A.int q63
 generalize (e 63).int = v63 at *
 replace q21 : v21 = ((Day.HB.mk [x1, x2, x3, x4, x5, x6, x7, x8] x9 x10 x11 x12)).a x13.toNat := q21
 replace q39 : v39 = (x13 != ((Day.HB.mk [x1, x2, x3, x4, x5, x6, x7, x8] x9 x10 x11 x12)).port) := q39
 replace q45 : v45 = decide (((Day.HB.mk [x1, x2, x3, x4, x5, x6, x7, x8] x9 x10 x11 x12)).age ≥ v43) := q45
 replace q52 : v52 = Day.Kn x0 x13 ((Day.HB.mk [x1, x2, x3, x4, x5, x6, x7, x8] x9 x10 x11 x12)).age := q52
 replace q53 : v53 = Day.atR x0 x13 ((Day.HB.mk [x1, x2, x3, x4, x5, x6, x7, x8] x9 x10 x11 x12)).age := q53
 generalize (Day.HB.mk [x1, x2, x3, x4, x5, x6, x7, x8] x9 x10 x11 x12) = h at *
 have hP := hp
 simp only [Day.DB, Bool.and_eq_true, Day.Au] at hp
 obtain ⟨⟨⟨hr, hp0⟩, hx⟩, hb⟩ := hp
 have hn := Day.BK hr
 have hbd := Day.Cd hr
 have hR : Day.right x0 = true := by simp [Day.right, hn]
 have h43 : v43 = 2 * x0 := by rw [q43]; simp [Day.times, hR]
 clear q43
 have w2 : IntKind.wrap .i64 (x13 + 1) = x13 + 1 := wrap64 (by omega) (by omega)
 by_cases hlt : x13 < x0
 ·have ha := Day.Sz hr ⟨hp0.1, hlt⟩
  have m1 := Day.mod_lt (x := x13 + h.a x13.toNat) hn
  have m2 := Day.mod_lt (x := x13 + h.age) hn
  have e1 := Day.W5 (b := h.a x13.toNat) hn ⟨hp0.1, hlt⟩ (by omega)
  have e2 := Day.W5 (b := h.age) hn ⟨hp0.1, hlt⟩ (by omega)
  have s1 : v37 = if h.a x13.toNat < x0 then (x13 + h.a x13.toNat) % x0 else -1 := by
   rw [q37, q22, q28, q21]; simp [Day.atR]
  have s2 : v38 = if h.a x13.toNat < x0 then Day.Yu x14 ((x13 + h.a x13.toNat) % x0) else x14 := by
   rw [q38, q36, q35, q34, q22, q28, q21]; simp [Day.Yu, Day.atR]
  have s3 : v69 = if x13 = h.port ∧ h.age < 2 * x0 ∧ (x13 + h.age) % x0 ≠ v37 then Day.Yu v38 ((x13 + h.age) % x0) else v38 := by
   rw [q69, q51, q49, q47, q46, q45, q39, q15, q66, q65, q64, q63, q55, q53, h43]
   by_cases c1 : x13 = h.port
   ·by_cases c2 : h.age < 2 * x0
    ·have hl2 : h.port < x0 := c1 ▸ hlt
     simp [c1, c2, Day.Yu, Day.atR, hl2]
    ·have c3 : 2 * x0 ≤ h.age := by omega
     simp [c1, c2, c3]
   ·simp [c1]
  have st := Day.Yx hP hlt s1 s2 s3
  have o62 : v62 = true := by rw [q62, q61, q60, q59, q53, e2.2]; simp [m2.1, m2.2]
  have o54 : v54 = true := by rw [q54, q52, e2.1]; simp
  have o44 : v44 = true := by rw [q44, q42]; simp
  have o33 : v33 = true := by rw [q33, q32, q31, q30, q28, q21]; simp [Day.atR, m1.1, m1.2]
  have o29 : v29 = true := by rw [q29, q27, q21, e1.1]; simp
  have o26 : v26 = true := by rw [q26, q19, q18, q17]; simp; omega
  have o20 : v20 = true := by rw [q20, q19, q18, q17]; simp; omega
  refine ⟨by simp only [o62, o54, o44, o33, o29, o26, o20, and_self], fun hb => ⟨?_, ?_, ?_⟩, fun hb => ?_⟩
  ·rw [q71, w2]; exact st.1
  ·rw [q71, w2, st.2]
  ·rw [q71, w2]; omega
  ·rw [q74, q72, q15] at hb; simp [hlt] at hb
 ·have q15 : v15 = false := by rw [q15]; simp [hlt]
  have o62 : v62 = true := by rw [q62, q57, q51, q49, q15]; simp
  have o54 : v54 = true := by rw [q54, q51, q49, q15]; simp
  have o44 : v44 = true := by rw [q44, q42]; simp
  have o33 : v33 = true := by rw [q33, q24, q15]; simp
  have o29 : v29 = true := by rw [q29, q24, q15]; simp
  have o26 : v26 = true := by rw [q26, q24, q15]; simp
  have o20 : v20 = true := by rw [q20, q15]; simp
  refine ⟨by simp only [o62, o54, o44, o33, o29, o26, o20, and_self], fun hb => ?_, fun hb => Day.ZU hP hlt⟩
  rw [q73, q15] at hb; simp at hb
theorem Z4 (as : List A) (e : Nat → A) (h1 : as = (List.range 15).map e) (h2 : (Ky as).1 = true) (H : Ac T e NL.defs) : Ct e NL.obs ∧
   (∀ pc ls, some (V 73, [V 0, V 1, V 2, V 3, V 4, V 5, V 6, V 7, V 8, V 9, V 10, V 11, V 12, V 71, V 69]) = some (pc, ls) → (pc.ev e).bool = true → (Ky (ls.map (L.ev e))).1 = true ∧ (Ky (ls.map (L.ev e))).2 = (Ky as).2 ∧ Z3 (ls.map (L.ev e)) < Z3 as) ∧
   ∀ x ∈ ([(V 74, [some (V 14)])] : List (L × List (Option L))), (x.1.ev e).bool = true → ∀ (j : Nat) l, x.2[j]? = some (some l) → Gl (IZ.tags.getD j .any) (l.ev e) ((Ky as).2.getD j (.i 0)) := by
 subst h1
 obtain ⟨ho, h⟩ := YM e H _ rfl _ rfl h2
 refine ⟨⟨ho.1, ho.2.1, ho.2.2.1, ho.2.2.2.1, ho.2.2.2.2.1, ho.2.2.2.2.2.1, ho.2.2.2.2.2.2.1, ho.2.2.2.2.2.2.2.1, ho.2.2.2.2.2.2.2.2, trivial⟩, fun pc ls hb hpc => ?_, ?_⟩
 ·injection hb with hb
  injection hb with h3 h4
  subst h3 h4
  have h := h.1 hpc
  refine ⟨h.1, ?_, h.2.2⟩
  have h5 := h.2.1
  have z0 := h5
  exact (Aex z0 rfl)
 ·intro x hx hpc j l hj
  simp only [List.mem_cons, List.not_mem_nil, or_false] at hx
  rcases hx with rfl
  ·have h := h.2 hpc
   have z0 := h
   match j, hj with
   | 0, hj => cases hj; exact z0
   | _ + 1, hj => cases hj
def Hp : G := ⟨19, [⟨17, (.call 1540), [V 0, V 1, V 2, V 3, V 4, V 5, V 6, V 7, V 8, V 9, V 10, V 11, V 12, N 0, V 16]⟩, ⟨16, .rep, [V 0, N 0]⟩, ⟨15, .and, [V 13, V 14]⟩, ⟨14, (.cmp .lss), [V 0, N 1000001]⟩, ⟨13, (.cmp .leq), [N 0, V 0]⟩], [V 17, V 15], []⟩
theorem O7 (e : Nat → A) (H : Ac T e Hp.defs) : ∀ z0, z0 = (Day.HB.mk [(e 1).int, (e 2).int, (e 3).int, (e 4).int, (e 5).int, (e 6).int, (e 7).int, (e 8).int] (e 9).int (e 10).int (e 11).int (e 12).int) → (Day.Ak (e 0).int z0) = true →
  ((e 17).bool = true ∧ (e 15).bool = true) ∧ (Day.Co ((Day.Hh (e 0).int z0)) = (e 18) ∧ (((Day.Hh (e 0).int z0)).length : Int) = (e 0).int) := by
 intro z0 hz0 hp
 subst hz0
 simp only [Hp, Ac, Def.q, Bc, L.Ae, L.Aq, L.AE, L.AF, L.ev, A.Ad, A.Ah, A.As, A.AJ, List.map_cons, List.map_nil, Nat.zero_add, Nat.add_zero, and_true, true_and, Nat.reduceAdd, Nat.one_mul] at H
 simp only [C0, C1, CN, A3, De, Dg, Bm, Dw, and_true, true_and] at H
 obtain ⟨q17, q16, q15, q14, q13⟩ := H
 replace q17 := Ab5 q17 _ rfl
 obtain ⟨q17, q18⟩ := q17
 simp only [L.Ae, L.Aq, L.AE, L.AF, L.ev, A.Ad, A.Ah, A.As] at q17 q18
 generalize (e 0).int = x0, (e 1).int = x1, (e 2).int = x2, (e 3).int = x3, (e 4).int = x4, (e 5).int = x5, (e 6).int = x6, (e 7).int = x7, (e 8).int = x8, (e 9).int = x9, (e 10).int = x10, (e 11).int = x11, (e 12).int = x12, (e 13).bool = v13, (e 14).bool = v14, (e 15).bool = v15, e 16 = v16, (e 17).bool = v17, e 18 = v18 at *
 generalize (Day.HB.mk [x1, x2, x3, x4, x5, x6, x7, x8] x9 x10 x11 x12) = h at *
 have hn := Day.BK hp
 have hz := Day.Yy hp
 subst_vars
 rw [hz.2]
 refine ⟨⟨hz.1, by simp; omega⟩, rfl, Day.GU hp⟩
def GZ : Lp := ⟨54, [false, true, false, true, true, true], 1560, 18, 1, 2, ⟨Ii 25 [(0, .pv (.one (.k (.lsl 1 (V 0))))), (2, .pv (.one (.k (.int .i64 (N 0))))), (3, .pv (.one (.k (.int .i64 (V 1))))), (4, .pv (.one (.k (.int .i64 (V 2))))), (5, .pv (.one (.k (.lsl 1 (V 0))))), (6, .pv (.one (.k (.int .i64 (V 0))))), (7, .pv (.one (.k (.bool (V 3))))), (9, .pv (.one (.k (.lsl 1 (V 0))))), (10, .pv (.one (.k (.lptr 1 0 1 (N 0) (V 0))))), (11, .pv (.one (.k (.int .i64 (V 4)))))], [⟨true, 24, 12, [.k (.int .i64 (V 5)), .k (.int .i64 (V 6)), .k (.int .i64 (V 7)), .k (.int .i64 (V 8)), .k (.int .i64 (V 9)), .k (.int .i64 (V 10)), .k (.int .i64 (V 11)), .k (.int .i64 (V 12)), .k (.int .i64 (V 13)), .k (.int .i64 (V 14)), .k (.int .i64 (V 15)), .k (.int .i64 (V 16))], none⟩, ⟨false, 0, 0, [], some ⟨true, 3, [.int .i64], V 17, V 0⟩⟩], B true⟩, [(.exit 0, ⟨Ii 25 [(0, .pv (.one (.k (.lsl 1 (V 0))))), (2, .pv (.one (.k (.int .i64 (N 0))))), (3, .pv (.one (.k (.int .i64 (V 18))))), (5, .pv (.one (.k (.lsl 1 (V 0))))), (6, .pv (.one (.k (.int .i64 (V 0))))), (7, .pv (.one (.k (.bool (V 3))))), (9, .pv (.one (.k (.lsl 1 (V 0))))), (10, .pv (.one (.k (.lptr 1 0 1 (N 0) (V 0))))), (11, .pv (.one (.k (.int .i64 (V 4)))))], [⟨true, 24, 12, [.k (.int .i64 (V 5)), .k (.int .i64 (V 6)), .k (.int .i64 (V 7)), .k (.int .i64 (V 8)), .k (.int .i64 (V 9)), .k (.int .i64 (V 10)), .k (.int .i64 (V 11)), .k (.int .i64 (V 12)), .k (.int .i64 (V 13)), .k (.int .i64 (V 14)), .k (.int .i64 (V 15)), .k (.int .i64 (V 16))], none⟩, ⟨false, 0, 0, [], some ⟨true, 3, [.int .i64], V 17, V 0⟩⟩], B true⟩)], [true, false, false, true, true, true, true, true, true, true, true, true, true, true, true, true, true, true], [.i]⟩
def NN : G := ⟨26, [⟨25, (.ar .add .i64), [V 2, N 1]⟩, ⟨24, .mx, [V 1, V 23]⟩, ⟨23, (.pix 0 1), [V 17, V 2]⟩, ⟨22, .imp, [V 18, V 21]⟩, ⟨21, .and, [V 20, V 18]⟩, ⟨20, (.cmp .leq), [N 0, V 2]⟩, ⟨19, .not, [V 18]⟩, ⟨18, (.cmp .lss), [V 2, V 0]⟩], [V 22], []⟩
def Z5 (al : List A) : Nat := ((gi al 0) - (gi al 2)).toNat
theorem YO (e : Nat → A) (H : Ac T e NN.defs) (hp : (Day.DG (e 0).int (e 2).int (e 17)) = true) :
  ((e 22).bool = true) ∧ ((e 18).bool = true → (Day.DG (e 0).int (e 25).int (e 17)) = true ∧ (Day.Qg (e 24).int (e 25).int (e 17) = Day.Qg (e 1).int (e 2).int (e 17)) ∧ ((e 0).int - (e 25).int).toNat < ((e 0).int - (e 2).int).toNat) ∧ ((e 19).bool = true → (e 1).int = Day.Qg (e 1).int (e 2).int (e 17)) := by
 simp only [NN, Ac, Def.q, Bc, L.Ae, L.Aq, L.AE, L.AF, L.ev, A.Ad, A.Ah, A.As, A.AJ, List.map_cons, List.map_nil, Nat.zero_add, Nat.add_zero, and_true, true_and, Nat.reduceAdd, Nat.one_mul] at H
 simp only [C0, C1, CN, A3, De, Dg, Bm, Dw, and_true, true_and] at H
 obtain ⟨⟨q25, -⟩, q24, q23, q22, q21, q20, q19, q18⟩ := H
 generalize (e 0).int = x0, (e 1).int = x1, (e 2).int = x2, (e 3).int = x3, (e 4).int = x4, (e 5).int = x5, (e 6).int = x6, (e 7).int = x7, (e 8).int = x8, (e 9).int = x9, (e 10).int = x10, (e 11).int = x11, (e 12).int = x12, (e 13).int = x13, (e 14).int = x14, (e 15).int = x15, (e 16).int = x16, e 17 = x17, (e 18).bool = v18, (e 19).bool = v19, (e 20).bool = v20, (e 21).bool = v21, (e 22).bool = v22, (e 24).int = v24, (e 25).int = v25 at *
 replace q23 := congrArg A.int q23
 generalize (e 23).int = v23 at *
 by_cases hlt : x2 < x0
 ·have h1 := Day.SA hp hlt
  have w2 : IntKind.wrap .i64 (x2 + 1) = x2 + 1 := wrap64 (by omega) (by omega)
  have e := Day.AbR (m := x1) hp hlt
  subst_vars
  simp [hlt, w2, h1.1, h1.2, e]
  omega
 ·have e := Day.AdA (m := x1) hp hlt
  subst_vars
  simp [hlt, e]
theorem Z6 (as : List A) (e : Nat → A) (h1 : as = (List.range 18).map e) (h2 : (Kz as).1 = true) (H : Ac T e NN.defs) : Ct e NN.obs ∧
   (∀ pc ls, some (V 18, [V 0, V 24, V 25, V 3, V 4, V 5, V 6, V 7, V 8, V 9, V 10, V 11, V 12, V 13, V 14, V 15, V 16, V 17]) = some (pc, ls) → (pc.ev e).bool = true → (Kz (ls.map (L.ev e))).1 = true ∧ (Kz (ls.map (L.ev e))).2 = (Kz as).2 ∧ Z5 (ls.map (L.ev e)) < Z5 as) ∧
   ∀ x ∈ ([(V 19, [some (V 1)])] : List (L × List (Option L))), (x.1.ev e).bool = true → ∀ (j : Nat) l, x.2[j]? = some (some l) → Gl (GZ.tags.getD j .any) (l.ev e) ((Kz as).2.getD j (.i 0)) := by
 subst h1
 obtain ⟨ho, h⟩ := YO e H h2
 refine ⟨⟨ho, trivial⟩, fun pc ls hb hpc => ?_, ?_⟩
 ·injection hb with hb
  injection hb with h3 h4
  subst h3 h4
  have h := h.1 hpc
  refine ⟨h.1, ?_, h.2.2⟩
  have h5 := h.2.1
  have z0 := h5
  exact (AU z0 rfl)
 ·intro x hx hpc j l hj
  simp only [List.mem_cons, List.not_mem_nil, or_false] at hx
  rcases hx with rfl
  ·have h := h.2 hpc
   have z0 := h
   match j, hj with
   | 0, hj => cases hj; exact z0
   | _ + 1, hj => cases hj
def I0 : Lp := ⟨55, [false, true, false, true], 1561, 16, 3, 2, ⟨Ii 19 [(0, .pv (.one (.k (.lsl 1 (V 0))))), (1, .pv (.one (.k (.int .i64 (V 1))))), (4, .pv (.one (.k (.int .i64 (N 0))))), (6, .pv (.one (.k (.lsl 1 (V 0))))), (7, .pv (.one (.k (.int .i64 (V 0))))), (8, .pv (.one (.k (.int .i64 (V 2)))))], [⟨true, 24, 12, [.k (.int .i64 (V 3)), .k (.int .i64 (V 4)), .k (.int .i64 (V 5)), .k (.int .i64 (V 6)), .k (.int .i64 (V 7)), .k (.int .i64 (V 8)), .k (.int .i64 (V 9)), .k (.int .i64 (V 10)), .k (.int .i64 (V 11)), .k (.int .i64 (V 12)), .k (.int .i64 (V 13)), .k (.int .i64 (V 14))], none⟩, ⟨false, 0, 0, [], some ⟨true, 3, [.int .i64], V 15, V 0⟩⟩], B true⟩, [(.ret, ⟨Ii 19 [(0, .pv (.one (.k (.lsl 1 (V 0))))), (4, .pv (.one (.k (.int .i64 (V 16))))), (6, .pv (.one (.k (.lsl 1 (V 0)))))], [⟨true, 24, 12, [.k (.int .i64 (V 3)), .k (.int .i64 (V 4)), .k (.int .i64 (V 5)), .k (.int .i64 (V 6)), .k (.int .i64 (V 7)), .k (.int .i64 (V 8)), .k (.int .i64 (V 9)), .k (.int .i64 (V 10)), .k (.int .i64 (V 11)), .k (.int .i64 (V 12)), .k (.int .i64 (V 13)), .k (.int .i64 (V 14))], none⟩, ⟨false, 0, 0, [], some ⟨true, 3, [.int .i64], V 15, V 0⟩⟩], V 17⟩), (.exit 0, ⟨Ii 19 [(0, .pv (.one (.k (.lsl 1 (V 0))))), (4, .pv (.one (.k (.int .i64 (N 0))))), (6, .pv (.one (.k (.lsl 1 (V 0)))))], [⟨true, 24, 12, [.k (.int .i64 (V 3)), .k (.int .i64 (V 4)), .k (.int .i64 (V 5)), .k (.int .i64 (V 6)), .k (.int .i64 (V 7)), .k (.int .i64 (V 8)), .k (.int .i64 (V 9)), .k (.int .i64 (V 10)), .k (.int .i64 (V 11)), .k (.int .i64 (V 12)), .k (.int .i64 (V 13)), .k (.int .i64 (V 14))], none⟩, ⟨false, 0, 0, [], some ⟨true, 3, [.int .i64], V 15, V 0⟩⟩], V 18⟩)], [true, true, false, true, true, true, true, true, true, true, true, true, true, true, true, true], [.i, .b, .b]⟩
def NO : G := ⟨33, [⟨32, .and, [V 16, V 30]⟩, ⟨31, .and, [V 16, V 27]⟩, ⟨30, .and, [V 29, V 26]⟩, ⟨29, .not, [V 27]⟩, ⟨28, (.ar .add .i64), [V 2, N 1]⟩, ⟨27, .and, [V 23, V 25]⟩, ⟨26, .and, [V 22, V 24]⟩, ⟨25, .and, [V 16, V 23]⟩, ⟨24, .and, [V 16, V 22]⟩, ⟨23, .not, [V 22]⟩, ⟨22, (.cmp .eql), [V 1, V 21]⟩, ⟨21, (.pix 0 1), [V 15, V 2]⟩, ⟨20, .imp, [V 16, V 19]⟩, ⟨19, .and, [V 18, V 16]⟩, ⟨18, (.cmp .leq), [N 0, V 2]⟩, ⟨17, .not, [V 16]⟩, ⟨16, (.cmp .lss), [V 2, V 0]⟩], [V 20], []⟩
def Z7 (al : List A) : Nat := ((gi al 0) - (gi al 2)).toNat
theorem YP (e : Nat → A) (H : Ac T e NO.defs) (hp : (Day.DG (e 0).int (e 2).int (e 15)) = true) :
  ((e 20).bool = true) ∧ ((e 31).bool = true → (Day.DG (e 0).int (e 28).int (e 15)) = true ∧ (Day.UB (e 1).int (e 28).int (e 15) = Day.UB (e 1).int (e 2).int (e 15) ∧ Day.Kq (e 1).int (e 28).int (e 15) = Day.Kq (e 1).int (e 2).int (e 15) ∧ (!Day.Kq (e 1).int (e 28).int (e 15)) = (!Day.Kq (e 1).int (e 2).int (e 15))) ∧ ((e 0).int - (e 28).int).toNat < ((e 0).int - (e 2).int).toNat) ∧ ((e 32).bool = true → (e 2).int = Day.UB (e 1).int (e 2).int (e 15) ∧ true = Day.Kq (e 1).int (e 2).int (e 15)) ∧ ((e 17).bool = true → true = (!Day.Kq (e 1).int (e 2).int (e 15))) := by
 simp only [NO, Ac, Def.q, Bc, L.Ae, L.Aq, L.AE, L.AF, L.ev, A.Ad, A.Ah, A.As, A.AJ, List.map_cons, List.map_nil, Nat.zero_add, Nat.add_zero, and_true, true_and, Nat.reduceAdd, Nat.one_mul] at H
 simp only [C0, C1, CN, A3, De, Dg, Bm, Dw, and_true, true_and] at H
 obtain ⟨q32, q31, q30, q29, ⟨q28, -⟩, q27, q26, q25, q24, q23, q22, q21, q20, q19, q18, q17, q16⟩ := H
 generalize (e 0).int = x0, (e 1).int = x1, (e 2).int = x2, (e 3).int = x3, (e 4).int = x4, (e 5).int = x5, (e 6).int = x6, (e 7).int = x7, (e 8).int = x8, (e 9).int = x9, (e 10).int = x10, (e 11).int = x11, (e 12).int = x12, (e 13).int = x13, (e 14).int = x14, e 15 = x15, (e 16).bool = v16, (e 17).bool = v17, (e 18).bool = v18, (e 19).bool = v19, (e 20).bool = v20, (e 22).bool = v22, (e 23).bool = v23, (e 24).bool = v24, (e 25).bool = v25, (e 26).bool = v26, (e 27).bool = v27, (e 28).int = v28, (e 29).bool = v29, (e 30).bool = v30, (e 31).bool = v31, (e 32).bool = v32 at *
 replace q21 := congrArg A.int q21
 generalize (e 21).int = v21 at *
 by_cases hlt : x2 < x0
 ·have h1 := Day.SA hp hlt
  have w2 : IntKind.wrap .i64 (x2 + 1) = x2 + 1 := wrap64 (by omega) (by omega)
  have e := Day.AbS (m := x1) hp hlt
  have e2 := Day.AbT (m := x1) hp hlt
  rw [← q21] at e e2
  subst_vars
  simp only [hlt, w2, h1.1, h1.2, e, e2]
  generalize (x15.A5.getD x2.toNat (.i 0)).int = c
  by_cases hc : x1 = c
  ·subst hc; simp [h1.2]
  ·have hc2 : ¬ c = x1 := fun h => hc h.symm
   simp [hc, hc2, h1.2]
   omega
 ·have e2 := Day.AdB (m := x1) hp hlt
  subst_vars
  simp [hlt, e2]
theorem Z8 (as : List A) (e : Nat → A) (h1 : as = (List.range 16).map e) (h2 : (KA as).1 = true) (H : Ac T e NO.defs) : Ct e NO.obs ∧
   (∀ pc ls, some (V 31, [V 0, V 1, V 28, V 3, V 4, V 5, V 6, V 7, V 8, V 9, V 10, V 11, V 12, V 13, V 14, V 15]) = some (pc, ls) → (pc.ev e).bool = true → (KA (ls.map (L.ev e))).1 = true ∧ (KA (ls.map (L.ev e))).2 = (KA as).2 ∧ Z7 (ls.map (L.ev e)) < Z7 as) ∧
   ∀ x ∈ ([(V 32, [some (V 2), some (B true), none]), (V 17, [none, none, some (B true)])] : List (L × List (Option L))), (x.1.ev e).bool = true → ∀ (j : Nat) l, x.2[j]? = some (some l) → Gl (I0.tags.getD j .any) (l.ev e) ((KA as).2.getD j (.i 0)) := by
 subst h1
 obtain ⟨ho, h⟩ := YP e H h2
 refine ⟨⟨ho, trivial⟩, fun pc ls hb hpc => ?_, ?_⟩
 ·injection hb with hb
  injection hb with h3 h4
  subst h3 h4
  have h := h.1 hpc
  refine ⟨h.1, ?_, h.2.2⟩
  have h5 := h.2.1
  obtain ⟨z0, z1, z2⟩ := h5
  exact (AU z0 (JB z1 (JB z2 rfl)))
 ·intro x hx hpc j l hj
  simp only [List.mem_cons, List.not_mem_nil, or_false] at hx
  rcases hx with rfl | rfl
  ·have h := h.2.1 hpc
   obtain ⟨z0, z1⟩ := h
   match j, hj with
   | 0, hj => cases hj; exact z0
   | 1, hj => cases hj; exact z1
   | 2, hj => cases hj
   | _ + 3, hj => cases hj
  ·have h := h.2.2 hpc
   have z2 := h
   match j, hj with
   | 0, hj => cases hj
   | 1, hj => cases hj
   | 2, hj => cases hj; exact z2
   | _ + 3, hj => cases hj
def K0 : G := ⟨49, [⟨48, .iteB, [V 16, V 16, V 15]⟩, ⟨47, .iteI, [V 16, V 30, N 0]⟩, ⟨46, .iteI, [V 16, V 43, N 0]⟩, ⟨45, .not, [V 16]⟩, ⟨44, .iteB, [V 41, V 41, V 40]⟩, ⟨43, .iteI, [V 41, N (-1), V 33]⟩, ⟨42, .not, [V 41]⟩, ⟨41, .and, [V 16, V 35]⟩, ⟨40, .and, [V 16, V 34]⟩, ⟨39, .imp, [V 16, V 38]⟩, ⟨38, .not, [V 37]⟩, ⟨37, .and, [V 34, V 35]⟩, ⟨36, .imp, [V 16, V 32]⟩, ⟨32, (.call 1561), [V 19, V 30, N 0, V 1, V 2, V 3, V 4, V 5, V 6, V 7, V 8, V 9, V 10, V 11, V 12, V 18]⟩, ⟨31, .imp, [V 16, V 29]⟩, ⟨29, (.call 1560), [V 19, V 28, N 1, V 21, V 28, V 1, V 2, V 3, V 4, V 5, V 6, V 7, V 8, V 9, V 10, V 11, V 12, V 18]⟩, ⟨28, (.pix 0 1), [V 18, N 0]⟩, ⟨27, .imp, [V 16, V 26]⟩, ⟨26, (.cmp .lss), [N 0, V 19]⟩, ⟨25, .imp, [V 23, B false]⟩, ⟨24, .and, [V 16, V 22]⟩, ⟨23, .and, [V 16, V 21]⟩, ⟨22, .not, [V 21]⟩, ⟨21, (.cmp .lss), [V 19, N 1]⟩, ⟨20, .imp, [V 16, V 17]⟩, ⟨17, (.call 53), [V 0, V 1, V 2, V 3, V 4, V 5, V 6, V 7, V 8, V 9, V 10, V 11, V 12]⟩, ⟨16, .not, [V 15]⟩, ⟨15, .not, [V 14]⟩, ⟨13, (.call 25), [V 0, V 1, V 2, V 3, V 4, V 5, V 6, V 7, V 8, V 9, V 10, V 11, V 12]⟩], [V 39, V 36, V 31, V 27, V 25, V 20, V 13], []⟩
theorem TD (e : Nat → A) (H : Ac T e K0.defs) : ∀ z0, z0 = (Day.HB.mk [(e 1).int, (e 2).int, (e 3).int, (e 4).int, (e 5).int, (e 6).int, (e 7).int, (e 8).int] (e 9).int (e 10).int (e 11).int (e 12).int) → (Day.HB.i64 z0) = true →
  ((e 39).bool = true ∧ (e 36).bool = true ∧ (e 31).bool = true ∧ (e 27).bool = true ∧ (e 25).bool = true ∧ (e 20).bool = true ∧ (e 13).bool = true) ∧ (Day.Eb (e 0).int z0 = (e 46).int ∧ Day.Ec (e 0).int z0 = (e 47).int) := by
 intro z0 hz0 hp
 subst hz0
 simp only [K0, Ac, Def.q, Bc, L.Ae, L.Aq, L.AE, L.AF, L.ev, A.Ad, A.Ah, A.As, A.AJ, List.map_cons, List.map_nil, Nat.zero_add, Nat.add_zero, and_true, true_and, Nat.reduceAdd, Nat.one_mul] at H
 simp only [C0, C1, CN, A3, De, Dg, Bm, Dw, and_true, true_and] at H
 obtain ⟨q48, ⟨q47, -⟩, ⟨q46, -⟩, q45, q44, ⟨q43, -⟩, q42, q41, q40, q39, q38, q37, q36, q32, q31, q29, q28, q27, q26, q25, q24, q23, q22, q21, q20, q17, q16, q15, q13⟩ := H
 replace q32 := Ab7 q32
 obtain ⟨q32, q33, q34, q35⟩ := q32
 replace q29 := Ab6 q29
 obtain ⟨q29, q30⟩ := q29
 replace q17 := JE q17 _ rfl
 obtain ⟨q17, q18, q19⟩ := q17
 replace q13 := Cp q13 _ rfl
 obtain ⟨q13, q14⟩ := q13
 simp only [L.Ae, L.Aq, L.AE, L.AF, L.ev, A.Ad, A.Ah, A.As] at q32 q33 q34 q35 q29 q30 q17 q18 q19 q13 q14
 generalize (e 0).int = x0, (e 1).int = x1, (e 2).int = x2, (e 3).int = x3, (e 4).int = x4, (e 5).int = x5, (e 6).int = x6, (e 7).int = x7, (e 8).int = x8, (e 9).int = x9, (e 10).int = x10, (e 11).int = x11, (e 12).int = x12, (e 13).bool = v13, (e 14).bool = v14, (e 15).bool = v15, (e 16).bool = v16, (e 17).bool = v17, e 18 = v18, (e 19).int = v19, (e 20).bool = v20, (e 21).bool = v21, (e 22).bool = v22, (e 23).bool = v23, (e 24).bool = v24, (e 25).bool = v25, (e 26).bool = v26, (e 27).bool = v27, (e 29).bool = v29, (e 30).int = v30, (e 31).bool = v31, (e 32).bool = v32, (e 33).int = v33, (e 34).bool = v34, (e 35).bool = v35, (e 36).bool = v36, (e 37).bool = v37, (e 38).bool = v38, (e 39).bool = v39, (e 40).bool = v40, (e 41).bool = v41, (e 42).bool = v42, (e 43).int = v43, (e 44).bool = v44, (e 45).bool = v45, (e 46).int = v46, (e 47).int = v47, (e 48).bool = v48 at *
 replace q28 := congrArg A.int q28
 generalize (e 28).int = v28 at *
 generalize (Day.HB.mk [x1, x2, x3, x4, x5, x6, x7, x8] x9 x10 x11 x12) = h at *
 cases hr : Day.Ak x0 h with
 | false =>
  rw [hr] at q14
  have e16 : v16 = false := by rw [q16, q15, q14]; rfl
  have e23 : v23 = false := by rw [q23, e16]; rfl
  rw [q39, q36, q31, q27, q25, q20, q13, q46, q47, e16, e23]
  simp [Day.Eb, Day.Ec, hr, hp]
 | true =>
  rw [hr] at q14 q17
  have hn := Day.BK hr
  have hl := Day.GU hr
  obtain ⟨b1, b2, b3⟩ := Day.YB hr
  rw [hl] at q19
  have h1 := Day.AdD hr (i := 1) (by omega)
  have h0 := Day.AdD hr (i := 0) (by omega)
  have e30 : v30 = Day.Ec x0 h := by rw [q30, q28, q18]; exact b1
  have e33 : v33 = Day.Eb x0 h := by rw [q33, e30, q18]; exact b2
  have e34 : v34 = true := by rw [q34, e30, q18]; exact b3
  have e35 : v35 = false := by rw [q35, e30, q18]; simp [b3]
  have e16 : v16 = true := by rw [q16, q15, q14]; rfl
  have e29 : v29 = true := by rw [q29, q19, q18]; exact h1
  have e32 : v32 = true := by rw [q32, q19, q18]; exact h0
  have e41 : v41 = false := by rw [q41, e35]; simp
  refine ⟨⟨?_, ?_, ?_, ?_, ?_, ?_, ?_⟩, ?_, ?_⟩
  ·rw [q39, q38, q37, e35]; simp
  ·rw [q36, e32]; simp
  ·rw [q31, e29]; simp
  ·rw [q27, q26, q19]; simp; omega
  ·rw [q25, q23, q21, q19]; simp; omega
  ·rw [q20, q17]; simp
  ·rw [q13]; exact hp
  ·rw [q46, e16, q43, e41, e33]; simp
  ·rw [q47, e16, e30]; simp
end Rx.S
