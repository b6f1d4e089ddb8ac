import Derived.Test.YtmpinegdphkbjaaDoorVXc
import Derived.Test.YtmpinegdphkbjaaDoorVXt
set_option linter.unusedVariables false
set_option linter.unusedSimpArgs false
namespace Rx.S
open Go Rx
set_option maxRecDepth 100000
set_option maxHeartbeats 1000000
def Dz : Lp := ⟨16, [false, true, false, true, true], 1044, 14, 4, 6, ⟨Q9 40 [(0, .pv (.one (.k (.lsl 6 (V 0))))), (1, .pv (.agg [.k (.int .i64 (V 1)), .k (.int .i64 (V 2)), .k (.int .i64 (V 3)), .k (.int .i64 (V 4)), .k (.int .i64 (V 5)), .k (.fsl 2 (V 6))])), (3, .pv (.one (.k (.ptr 4 0)))), (4, .pv (.one (.k (.nilslc)))), (9, .pv (.one (.k (.lsl 1 (V 7))))), (10, .pv (.one (.k (.ptr 4 0)))), (11, .pv (.one (.k (.int .i64 (V 1))))), (12, .pv (.one (.k (.lsl 5 (V 8))))), (13, .pv (.one (.k (.ptr 4 1)))), (14, .pv (.agg [.k (.int .i64 (V 2)), .k (.int .i64 (V 3)), .k (.int .i64 (V 4)), .k (.int .i64 (V 5))])), (15, .pv (.one (.k (.int .i64 (V 9)))))], [⟨false, 0, 0, [], some ⟨false, 0, [.int .i64, .int .i64, .int .i64, .int .i64, .int .i64, .sl [.int .i64, .int .i64, .int .i64, .int .i64]], V 10, V 11⟩⟩, .dead, ⟨false, 0, 0, [], some ⟨false, 0, [.int .i64, .int .i64, .int .i64, .int .i64], V 12, V 6⟩⟩, ⟨true, 31, 6, [.k (.int .i64 (V 1)), .k (.int .i64 (V 2)), .k (.int .i64 (V 3)), .k (.int .i64 (V 4)), .k (.int .i64 (V 5)), .k (.fsl 2 (V 6))], none⟩, ⟨true, 31, 6, [.k (.int .i64 (V 1)), .k (.int .i64 (V 2)), .k (.int .i64 (V 3)), .k (.int .i64 (V 4)), .k (.int .i64 (V 5)), .k (.fsl 2 (V 6))], none⟩, .dead, ⟨false, 0, 0, [], some ⟨true, 5, [.int .u8], V 13, V 0⟩⟩], B true⟩, [(.exit 0, ⟨Q9 40 [(0, .pv (.one (.k (.lsl 6 (V 14))))), (1, .pv (.agg [.k (.int .i64 (V 1)), .k (.int .i64 (V 2)), .k (.int .i64 (V 3)), .k (.int .i64 (V 4)), .k (.int .i64 (V 5)), .k (.fsl 2 (V 6))])), (3, .pv (.one (.k (.ptr 4 0)))), (4, .pv (.one (.k (.nilslc)))), (9, .pv (.one (.k (.lsl 1 (V 7))))), (10, .pv (.one (.k (.ptr 4 0)))), (11, .pv (.one (.k (.int .i64 (V 1))))), (12, .pv (.one (.k (.lsl 5 (V 8))))), (13, .pv (.one (.k (.ptr 4 1)))), (14, .pv (.agg [.k (.int .i64 (V 2)), .k (.int .i64 (V 3)), .k (.int .i64 (V 4)), .k (.int .i64 (V 5))])), (15, .pv (.one (.k (.int .i64 (V 15))))), (16, .pv (.one (.k (.bool (V 16)))))], [⟨false, 0, 0, [], some ⟨false, 0, [.int .i64, .int .i64, .int .i64, .int .i64, .int .i64, .sl [.int .i64, .int .i64, .int .i64, .int .i64]], V 10, V 11⟩⟩, .dead, ⟨false, 0, 0, [], some ⟨false, 0, [.int .i64, .int .i64, .int .i64, .int .i64], V 12, V 6⟩⟩, ⟨true, 31, 6, [.k (.int .i64 (V 1)), .k (.int .i64 (V 2)), .k (.int .i64 (V 3)), .k (.int .i64 (V 4)), .k (.int .i64 (V 5)), .k (.fsl 2 (V 6))], none⟩, ⟨true, 31, 6, [.k (.int .i64 (V 1)), .k (.int .i64 (V 2)), .k (.int .i64 (V 3)), .k (.int .i64 (V 4)), .k (.int .i64 (V 5)), .k (.fsl 2 (V 6))], none⟩, .dead, ⟨false, 0, 0, [], some ⟨true, 5, [.int .u8], V 17, V 14⟩⟩], B true⟩)], [false, true, true, true, true, true, true, true, true, false, true, true, true, false], [.i, .i, .b, .any]⟩
def Ij : G := ⟨102, [⟨101, .and, [V 100, V 15]⟩, ⟨100, .not, [V 14]⟩, ⟨99, (.ar .add .i64), [V 9, N 1]⟩, ⟨98, .iteB, [V 86, V 86, V 85]⟩, ⟨97, .iteA, [V 86, V 88, V 84]⟩, ⟨96, .iteI, [V 86, N 63, V 83]⟩, ⟨95, .iteI, [V 86, V 89, V 82]⟩, ⟨94, .not, [V 86]⟩, ⟨93, .imp, [V 86, V 92]⟩, ⟨92, .and, [V 90, V 91]⟩, ⟨91, (.cmp .lss), [V 89, N 1000001]⟩, ⟨90, (.cmp .leq), [N 0, V 89]⟩, ⟨89, (.lln 1), [V 88]⟩, ⟨88, .cat, [V 22, V 87]⟩, ⟨87, .mkl, [N 63]⟩, ⟨86, .and, [V 29, V 81]⟩, ⟨85, .iteB, [V 28, V 30, V 80]⟩, ⟨84, .iteA, [V 28, V 42, V 79]⟩, ⟨83, .iteI, [V 28, N 99, V 78]⟩, ⟨82, .iteI, [V 28, V 44, V 77]⟩, ⟨81, .and, [V 46, V 76]⟩, ⟨80, .iteB, [V 45, V 47, V 75]⟩, ⟨79, .iteA, [V 45, V 59, V 69]⟩, ⟨78, .iteI, [V 45, N 105, N 45]⟩, ⟨77, .iteI, [V 45, V 61, V 70]⟩, ⟨76, .and, [V 65, V 67]⟩, ⟨75, .and, [V 64, V 66]⟩, ⟨74, .imp, [V 66, V 73]⟩, ⟨73, .and, [V 71, V 72]⟩, ⟨72, (.cmp .lss), [V 70, N 1000001]⟩, ⟨71, (.cmp .leq), [N 0, V 70]⟩, ⟨70, (.lln 1), [V 69]⟩, ⟨69, .cat, [V 22, V 68]⟩, ⟨68, .mkl, [N 45]⟩, ⟨67, .and, [V 48, V 65]⟩, ⟨66, .and, [V 48, V 64]⟩, ⟨65, .not, [V 64]⟩, ⟨64, .and, [V 63, V 62]⟩, ⟨63, (.cmp .eql), [V 19, N 0]⟩, ⟨62, (.cmp .eql), [V 20, N 0]⟩, ⟨61, (.lln 1), [V 59]⟩, ⟨60, .imp, [V 47, V 58]⟩, ⟨58, (.call 20), [V 50, V 51, V 20]⟩, ⟨57, .imp, [V 47, V 56]⟩, ⟨56, (.cmp .leq), [V 51, N 1000000]⟩, ⟨55, .imp, [V 47, V 54]⟩, ⟨54, .and, [V 52, V 53]⟩, ⟨53, (.cmp .lss), [V 51, N 1000001]⟩, ⟨52, (.cmp .leq), [N 0, V 51]⟩, ⟨51, (.lln 1), [V 50]⟩, ⟨50, .cat, [V 22, V 49]⟩, ⟨49, .mkl, [N 105]⟩, ⟨48, .and, [V 31, V 46]⟩, ⟨47, .and, [V 31, V 45]⟩, ⟨46, .not, [V 45]⟩, ⟨45, (.cmp .eql), [V 19, N 2]⟩, ⟨44, (.lln 1), [V 42]⟩, ⟨43, .imp, [V 30, V 41]⟩, ⟨41, (.call 20), [V 33, V 34, V 20]⟩, ⟨40, .imp, [V 30, V 39]⟩, ⟨39, (.cmp .leq), [V 34, N 1000000]⟩, ⟨38, .imp, [V 30, V 37]⟩, ⟨37, .and, [V 35, V 36]⟩, ⟨36, (.cmp .lss), [V 34, N 1000001]⟩, ⟨35, (.cmp .leq), [N 0, V 34]⟩, ⟨34, (.lln 1), [V 33]⟩, ⟨33, .cat, [V 22, V 32]⟩, ⟨32, .mkl, [N 99]⟩, ⟨31, .and, [V 14, V 29]⟩, ⟨30, .and, [V 14, V 28]⟩, ⟨29, .not, [V 28]⟩, ⟨28, (.cmp .eql), [V 19, N 1]⟩, ⟨27, .imp, [V 14, V 26]⟩, ⟨26, .and, [V 24, V 25]⟩, ⟨25, (.cmp .lss), [V 23, N 1000001]⟩, ⟨24, (.cmp .leq), [N 0, V 23]⟩, ⟨23, (.lln 1), [V 22]⟩, ⟨22, .cat, [V 13, V 21]⟩, ⟨21, .mkl, [N 32]⟩, ⟨20, .sel, [V 9, V 3, V 5]⟩, ⟨19, .sel, [V 9, V 2, V 4]⟩, ⟨18, .imp, [V 14, V 17]⟩, ⟨17, .and, [V 16, V 14]⟩, ⟨16, (.cmp .leq), [N 0, V 9]⟩, ⟨15, .not, [V 14]⟩, ⟨14, (.cmp .lss), [V 9, N 2]⟩], [V 93, V 74, V 60, V 57, V 55, V 43, V 40, V 38, V 27, V 18], []⟩
def PC (al : List A) : Nat := (2 - (gi al 9)).toNat
theorem OI (e : Nat → A) (H : AH T e Ij.defs) : ∀ z0, z0 = (Day.Lk.mk (e 1).int (e 2).int (e 3).int (e 4).int (e 5).int (e 12) (e 6).int) → ∀ y0, y0 = (Day.Lk.mk (e 1).int (e 2).int (e 3).int (e 4).int (e 5).int (e 12) (e 6).int) → (Day.fP (Day.L1.mk (e 13) (e 0).int) z0 (e 9).int) = true →
  ((e 93).bool = true ∧ (e 74).bool = true ∧ (e 60).bool = true ∧ (e 57).bool = true ∧ (e 55).bool = true ∧ (e 43).bool = true ∧ (e 40).bool = true ∧ (e 38).bool = true ∧ (e 27).bool = true ∧ (e 18).bool = true) ∧ ((e 14).bool = true → (Day.fP (Day.L1.mk (e 97) (e 95).int) y0 (e 99).int) = true ∧ (Day.fN (Day.L1.mk (e 97) (e 95).int) y0 (e 99).int = Day.fN (Day.L1.mk (e 13) (e 0).int) z0 (e 9).int ∧ (2 : Int) = (2 : Int) ∧ false = false ∧ Day.fX (Day.L1.mk (e 97) (e 95).int) y0 (e 99).int = Day.fX (Day.L1.mk (e 13) (e 0).int) z0 (e 9).int) ∧ (2 - (e 99).int).toNat < (2 - (e 9).int).toNat) ∧ ((e 101).bool = true → (e 0).int = Day.fN (Day.L1.mk (e 13) (e 0).int) z0 (e 9).int ∧ (e 9).int = (2 : Int) ∧ (e 14).bool = false ∧ (e 13) = Day.fX (Day.L1.mk (e 13) (e 0).int) z0 (e 9).int) := by
 intro z0 hz0 y0 hy0 hp
 subst hz0 hy0
 simp only [Ij, AH, Def.q, HF, L.Aw, L.By, L.Db, L.Dp, L.ev, A.AI, A.AX, A.B0, A.Fv, List.map_cons, List.map_nil, Nat.zero_add, Nat.add_zero, and_true, true_and, Nat.reduceAdd, Nat.one_mul] at H
 simp only [LL, MJ, K8, CX, NJ, OB, Jx, Q8, and_true, true_and] at H
 obtain ⟨q101, q100, ⟨q99, -⟩, q98, q97, ⟨q96, -⟩, ⟨q95, -⟩, q94, q93, q92, q91, q90, q89, q88, q87, q86, q85, q84, ⟨q83, -⟩, ⟨q82, -⟩, q81, q80, q79, ⟨q78, -⟩, ⟨q77, -⟩, q76, q75, q74, q73, q72, q71, q70, q69, q68, q67, q66, q65, q64, q63, q62, q61, q60, q58, q57, q56, q55, q54, q53, q52, q51, q50, q49, q48, q47, q46, q45, q44, q43, q41, q40, q39, q38, q37, q36, q35, q34, q33, q32, q31, q30, q29, q28, q27, q26, q25, q24, q23, q22, q21, q20, q19, q18, q17, q16, q15, q14⟩ := H
 replace q58 := AW q58
 obtain ⟨q58, q59⟩ := q58
 replace q41 := AW q41
 obtain ⟨q41, q42⟩ := q41
 simp only [L.Aw, L.By, L.Db, L.Dp, L.ev, A.AI, A.AX, A.B0] at q58 q59 q41 q42
 generalize (e 0).int = x0, (e 1).int = x1, (e 2).int = x2, (e 3).int = x3, (e 4).int = x4, (e 5).int = x5, (e 6).int = x6, (e 7).int = x7, (e 8).int = x8, (e 9).int = x9, (e 10).int = x10, (e 11).int = x11, e 12 = x12, e 13 = x13, (e 14).bool = v14, (e 15).bool = v15, (e 16).bool = v16, (e 17).bool = v17, (e 18).bool = v18, (e 19).int = v19, (e 20).int = v20, e 21 = v21, e 22 = v22, (e 23).int = v23, (e 24).bool = v24, (e 25).bool = v25, (e 26).bool = v26, (e 27).bool = v27, (e 28).bool = v28, (e 29).bool = v29, (e 30).bool = v30, (e 31).bool = v31, e 32 = v32, e 33 = v33, (e 34).int = v34, (e 35).bool = v35, (e 36).bool = v36, (e 37).bool = v37, (e 38).bool = v38, (e 39).bool = v39, (e 40).bool = v40, (e 41).bool = v41, e 42 = v42, (e 43).bool = v43, (e 44).int = v44, (e 45).bool = v45, (e 46).bool = v46, (e 47).bool = v47, (e 48).bool = v48, e 49 = v49, e 50 = v50, (e 51).int = v51, (e 52).bool = v52, (e 53).bool = v53, (e 54).bool = v54, (e 55).bool = v55, (e 56).bool = v56, (e 57).bool = v57, (e 58).bool = v58, e 59 = v59, (e 60).bool = v60, (e 61).int = v61, (e 62).bool = v62, (e 63).bool = v63, (e 64).bool = v64, (e 65).bool = v65, (e 66).bool = v66, (e 67).bool = v67, e 68 = v68, e 69 = v69, (e 70).int = v70, (e 71).bool = v71, (e 72).bool = v72, (e 73).bool = v73, (e 74).bool = v74, (e 75).bool = v75, (e 76).bool = v76, (e 77).int = v77, (e 78).int = v78, e 79 = v79, (e 80).bool = v80, (e 81).bool = v81, (e 82).int = v82, (e 83).int = v83, e 84 = v84, (e 85).bool = v85, (e 86).bool = v86, e 87 = v87, e 88 = v88, (e 89).int = v89, (e 90).bool = v90, (e 91).bool = v91, (e 92).bool = v92, (e 93).bool = v93, (e 94).bool = v94, (e 95).int = v95, (e 96).int = v96, e 97 = v97, (e 98).bool = v98, (e 99).int = v99, (e 100).bool = v100, (e 101).bool = v101 at *
 by_cases h : x9 < 2
 ·obtain ⟨hi, b1, b2, b3, st⟩ := Day.Qv hp h q19 q20
  have b1 : (x13.AL.length : Int) = x0 := b1
  have b2 : x0 ≤ 899977 := b2
  have t14 : v14 = true := by rw [q14]; exact decide_eq_true h
  have e22 : v22 = .l (x13.AL ++ Day.Bk [32]) := by rw [q22, q21]; rfl
  have e33 : v33 = .l (x13.AL ++ Day.Bk [32, 99]) := by rw [q33, q32, e22]; simp [Day.Bk]
  have e50 : v50 = .l (x13.AL ++ Day.Bk [32, 105]) := by rw [q50, q49, e22]; simp [Day.Bk]
  have e69 : v69 = .l (x13.AL ++ Day.Bk [32, 45]) := by rw [q69, q68, e22]; simp [Day.Bk]
  have e88 : v88 = .l (x13.AL ++ Day.Bk [32, 63]) := by rw [q88, q87, e22]; simp [Day.Bk]
  have e42 : v42 = .l (x13.AL ++ Day.Bk (32 :: 99 :: Day.num v20)) := by rw [q42, e33]; simp [Day.TC, Day.Bk]
  have e59 : v59 = .l (x13.AL ++ Day.Bk (32 :: 105 :: Day.num v20)) := by rw [q59, e50]; simp [Day.TC, Day.Bk]
  have l23 : v23 = x0 + 1 := by rw [q23, e22, Nat.div_one, Day.AN, ← b1]; simp
  have l34 : v34 = x0 + 2 := by rw [q34, e33, Nat.div_one, Day.AN, ← b1]; simp
  have l51 : v51 = x0 + 2 := by rw [q51, e50, Nat.div_one, Day.AN, ← b1]; simp
  have l70 : v70 = x0 + 2 := by rw [q70, e69, Nat.div_one, Day.AN, ← b1]; simp
  have l89 : v89 = x0 + 2 := by rw [q89, e88, Nat.div_one, Day.AN, ← b1]; simp
  have fin : v97 = .l (x13.AL ++ Day.Bk (32 :: Day.CO v19 v20)) ∧ v95 = (v97.AL.length : Int) := by
   rw [Nat.div_one] at q23 q34 q44 q51 q61 q70 q89
   unfold Day.CO
   by_cases c1 : v19 = 1
   ·have g : v86 = false ∧ v28 = true := by simp [q86, q29, q28, c1]
    rw [q97, q95, q84, q82, g.1, g.2]
    simp only [Bool.false_eq_true, if_false, if_true, c1, e42, q44]
    refine ⟨?_, ?_⟩ <;> first | trivial | rfl
   ·by_cases c2 : v19 = 2
    ·have g : v86 = false ∧ v28 = false ∧ v45 = true := by simp [q86, q81, q46, q45, q28, c1, c2]
     rw [q97, q95, q84, q82, q79, q77, g.1, g.2.1, g.2.2]
     simp only [Bool.false_eq_true, if_false, if_true, c2, e59, q61]
     refine ⟨?_, ?_⟩ <;> first | trivial | rfl
    ·by_cases c3 : v19 = 0 ∧ v20 = 0
     ·have g : v86 = false ∧ v28 = false ∧ v45 = false := by simp [q86, q81, q76, q65, q64, q63, q62, q45, q28, c1, c2, c3]
      rw [q97, q95, q84, q82, q79, q77, g.1, g.2.1, g.2.2]
      simp only [Bool.false_eq_true, if_false, c1, c2, c3, e69, q70, and_self, if_true]
      refine ⟨?_, ?_⟩ <;> first | trivial | rfl
     ·have g : v86 = true := by
       have c4 : v64 = false := by
        rw [q64, q63, q62]
        by_cases d : v19 = 0
        ·have d2 : ¬ v20 = 0 := fun d2 => c3 ⟨d, d2⟩
         simp [d, d2]
        ·simp [d]
       simp [q86, q81, q76, q67, q65, c4, q48, q46, q45, q31, q29, q28, t14, c1, c2]
      rw [q97, q95, g]
      simp only [if_true, c1, c2, c3, if_false, e88, q89]
      refine ⟨?_, ?_⟩ <;> first | trivial | rfl
  obtain ⟨f1, f2⟩ := fin
  obtain ⟨s1, s2, s3⟩ := st ⟨v97, v95⟩ f1 f2
  have w : v99 = x9 + 1 := by rw [q99]; exact wrap64 (by omega) (by omega)
  have hm : (2 - (x9 + 1)).toNat < (2 - x9).toNat := by omega
  rw [w]
  refine ⟨⟨by rw [q93]; exact Day.CF (by rw [q92, q90, q91, l89]; simp; omega), by rw [q74]; exact Day.CF (by rw [q73, q71, q72, l70]; simp; omega), by rw [q60]; exact Day.CF (by rw [q58]; exact hi), by rw [q57]; exact Day.CF (by rw [q56, l51]; simp; omega), by rw [q55]; exact Day.CF (by rw [q54, q52, q53, l51]; simp; omega), by rw [q43]; exact Day.CF (by rw [q41]; exact hi), by rw [q40]; exact Day.CF (by rw [q39, l34]; simp; omega), by rw [q38]; exact Day.CF (by rw [q37, q35, q36, l34]; simp; omega), by rw [q27]; exact Day.CF (by rw [q26, q24, q25, l23]; simp; omega), by rw [q18]; exact Day.CF (by rw [q17, q16, t14]; simp; omega)⟩, fun _ => ⟨s1, ⟨s2, rfl, rfl, s3⟩, hm⟩, fun hh => ?_⟩
  rw [q101, q100, t14] at hh
  simp at hh
 ·obtain ⟨e1, e2, e3⟩ := Day.SC hp h
  have t14 : v14 = false := by rw [q14]; exact decide_eq_false h
  refine ⟨by simp [q93, q86, q81, q76, q67, q74, q66, q60, q57, q55, q48, q47, q43, q40, q38, q31, q30, q27, q18, t14], fun hh => ?_, fun _ => ⟨e1.symm, e3, t14, e2.symm⟩⟩
  rw [t14] at hh
  cases hh
theorem PD (as : List A) (e : Nat → A) (h1 : as = (List.range 14).map e) (h2 : (Gb as).1 = true) (H : AH T e Ij.defs) : Ew e Ij.obs ∧
   (∀ pc ls, some (V 14, [V 95, V 1, V 2, V 3, V 4, V 5, V 6, V 7, V 8, V 99, V 10, V 11, V 12, V 97]) = some (pc, ls) → (pc.ev e).bool = true → (Gb (ls.map (L.ev e))).1 = true ∧ (Gb (ls.map (L.ev e))).2 = (Gb as).2 ∧ PC (ls.map (L.ev e)) < PC as) ∧
   ∀ x ∈ ([(V 101, [some (V 0), some (V 9), some (V 14), some (V 13)])] : List (L × List (Option L))), (x.1.ev e).bool = true → ∀ (j : Nat) l, x.2[j]? = some (some l) → FG (Dz.tags.getD j .any) (l.ev e) ((Gb as).2.getD j (.i 0)) := by
 subst h1
 obtain ⟨ho, h⟩ := OI e H _ rfl _ rfl h2
 refine ⟨⟨ho.1, ho.2.1, ho.2.2.1, ho.2.2.2.1, ho.2.2.2.2.1, ho.2.2.2.2.2.1, ho.2.2.2.2.2.2.1, ho.2.2.2.2.2.2.2.1, ho.2.2.2.2.2.2.2.2.1, ho.2.2.2.2.2.2.2.2.2, trivial⟩, fun pc ls hb hpc => ?_, ?_⟩
 ·injection hb with hb
  injection hb with h3 h4
  subst h3 h4
  have h := h.1 hpc
  refine ⟨h.1, ?_, h.2.2⟩
  have h5 := h.2.1
  obtain ⟨z0, z1, z2, z3⟩ := h5
  exact (KY z0 (KY z1 (Qx z2 (OH z3 rfl))))
 ·intro x hx hpc j l hj
  simp only [List.mem_cons, List.not_mem_nil, or_false] at hx
  rcases hx with rfl
  ·have h := h.2 hpc
   obtain ⟨z0, z1, z2, z3⟩ := h
   match j, hj with
   | 0, hj => cases hj; exact z0
   | 1, hj => cases hj; exact z1
   | 2, hj => cases hj; exact z2
   | 3, hj => cases hj; exact z3
   | _ + 4, hj => cases hj
def Ee : Lp := ⟨16, [false, true, false, true, true, true], 1045, 16, 4, 7, ⟨Q9 40 [(0, .pv (.one (.k (.lsl 7 (V 0))))), (1, .pv (.agg [.k (.int .i64 (V 1)), .k (.int .i64 (V 2)), .k (.int .i64 (V 3)), .k (.int .i64 (V 4)), .k (.int .i64 (V 5)), .k (.fsl 2 (V 6))])), (3, .pv (.one (.k (.ptr 4 0)))), (4, .pv (.one (.k (.nilslc)))), (9, .pv (.one (.k (.lsl 1 (V 7))))), (10, .pv (.one (.k (.ptr 4 0)))), (11, .pv (.one (.k (.int .i64 (V 1))))), (12, .pv (.one (.k (.lsl 5 (V 8))))), (13, .pv (.one (.k (.ptr 4 1)))), (14, .pv (.agg [.k (.int .i64 (V 2)), .k (.int .i64 (V 3)), .k (.int .i64 (V 4)), .k (.int .i64 (V 5))])), (15, .pv (.one (.k (.int .i64 (V 9))))), (16, .pv (.one (.k (.bool (V 10))))), (24, .pv (.one (.k (.ptr 4 5)))), (25, .pv (.one (.k (.fsl 2 (V 6))))), (26, .pv (.one (.k (.int .i64 (V 6))))), (27, .pv (.one (.k (.int .i64 (V 11)))))], [⟨false, 0, 0, [], some ⟨false, 0, [.int .i64, .int .i64, .int .i64, .int .i64, .int .i64, .sl [.int .i64, .int .i64, .int .i64, .int .i64]], V 12, V 13⟩⟩, .dead, ⟨false, 0, 0, [], some ⟨false, 0, [.int .i64, .int .i64, .int .i64, .int .i64], V 14, V 6⟩⟩, ⟨true, 31, 6, [.k (.int .i64 (V 1)), .k (.int .i64 (V 2)), .k (.int .i64 (V 3)), .k (.int .i64 (V 4)), .k (.int .i64 (V 5)), .k (.fsl 2 (V 6))], none⟩, ⟨true, 31, 6, [.k (.int .i64 (V 1)), .k (.int .i64 (V 2)), .k (.int .i64 (V 3)), .k (.int .i64 (V 4)), .k (.int .i64 (V 5)), .k (.fsl 2 (V 6))], none⟩, .dead, .dead, ⟨false, 0, 0, [], some ⟨true, 5, [.int .u8], V 15, V 0⟩⟩], B true⟩, [(.exit 2, ⟨Q9 40 [(0, .pv (.one (.k (.lsl 7 (V 16))))), (1, .pv (.agg [.k (.int .i64 (V 1)), .k (.int .i64 (V 2)), .k (.int .i64 (V 3)), .k (.int .i64 (V 4)), .k (.int .i64 (V 5)), .k (.fsl 2 (V 6))])), (3, .pv (.one (.k (.ptr 4 0)))), (4, .pv (.one (.k (.nilslc)))), (9, .pv (.one (.k (.lsl 1 (V 7))))), (10, .pv (.one (.k (.ptr 4 0)))), (11, .pv (.one (.k (.int .i64 (V 1))))), (12, .pv (.one (.k (.lsl 5 (V 8))))), (13, .pv (.one (.k (.ptr 4 1)))), (14, .pv (.agg [.k (.int .i64 (V 2)), .k (.int .i64 (V 3)), .k (.int .i64 (V 4)), .k (.int .i64 (V 5))])), (15, .pv (.one (.k (.int .i64 (V 9))))), (16, .pv (.one (.k (.bool (V 10))))), (24, .pv (.one (.k (.ptr 4 5)))), (25, .pv (.one (.k (.fsl 2 (V 6))))), (26, .pv (.one (.k (.int .i64 (V 6))))), (27, .pv (.one (.k (.int .i64 (V 17))))), (28, .pv (.one (.k (.bool (V 18)))))], [⟨false, 0, 0, [], some ⟨false, 0, [.int .i64, .int .i64, .int .i64, .int .i64, .int .i64, .sl [.int .i64, .int .i64, .int .i64, .int .i64]], V 12, V 13⟩⟩, .dead, ⟨false, 0, 0, [], some ⟨false, 0, [.int .i64, .int .i64, .int .i64, .int .i64], V 14, V 6⟩⟩, ⟨true, 31, 6, [.k (.int .i64 (V 1)), .k (.int .i64 (V 2)), .k (.int .i64 (V 3)), .k (.int .i64 (V 4)), .k (.int .i64 (V 5)), .k (.fsl 2 (V 6))], none⟩, ⟨true, 31, 6, [.k (.int .i64 (V 1)), .k (.int .i64 (V 2)), .k (.int .i64 (V 3)), .k (.int .i64 (V 4)), .k (.int .i64 (V 5)), .k (.fsl 2 (V 6))], none⟩, .dead, .dead, ⟨false, 0, 0, [], some ⟨true, 5, [.int .u8], V 19, V 16⟩⟩], B true⟩)], [false, true, true, true, true, true, true, true, true, true, true, false, true, true, true, false], [.i, .i, .b, .any]⟩
def Ik : G := ⟨94, [⟨93, .and, [V 92, V 17]⟩, ⟨92, .not, [V 16]⟩, ⟨91, (.ar .add .i64), [V 11, N 1]⟩, ⟨90, .iteB, [V 50, V 85, V 49]⟩, ⟨89, .iteA, [V 50, V 84, V 46]⟩, ⟨88, .iteI, [V 50, V 83, N 97]⟩, ⟨87, .iteI, [V 50, V 82, V 48]⟩, ⟨86, .not, [V 50]⟩, ⟨85, .iteB, [V 67, V 67, V 66]⟩, ⟨84, .iteA, [V 67, V 75, V 60]⟩, ⟨83, .iteI, [V 67, V 73, N 63]⟩, ⟨82, .iteI, [V 67, V 76, V 61]⟩, ⟨81, .not, [V 67]⟩, ⟨80, .imp, [V 67, V 79]⟩, ⟨79, .and, [V 77, V 78]⟩, ⟨78, (.cmp .lss), [V 76, N 1000001]⟩, ⟨77, (.cmp .leq), [N 0, V 76]⟩, ⟨76, (.lln 1), [V 75]⟩, ⟨75, .cat, [V 26, V 74]⟩, ⟨74, .mkl, [V 73]⟩, ⟨73, .sget, [.s [111, 108, 99], V 22]⟩, ⟨72, .imp, [V 67, V 71]⟩, ⟨71, .and, [V 69, V 70]⟩, ⟨70, (.cmp .lss), [V 22, V 68]⟩, ⟨69, (.cmp .leq), [N 0, V 22]⟩, ⟨68, .slen, [.s [111, 108, 99]]⟩, ⟨67, .and, [V 56, V 58]⟩, ⟨66, .and, [V 55, V 57]⟩, ⟨65, .imp, [V 57, V 64]⟩, ⟨64, .and, [V 62, V 63]⟩, ⟨63, (.cmp .lss), [V 61, N 1000001]⟩, ⟨62, (.cmp .leq), [N 0, V 61]⟩, ⟨61, (.lln 1), [V 60]⟩, ⟨60, .cat, [V 26, V 59]⟩, ⟨59, .mkl, [N 63]⟩, ⟨58, .and, [V 50, V 56]⟩, ⟨57, .and, [V 50, V 55]⟩, ⟨56, .not, [V 55]⟩, ⟨55, .iteB, [V 51, B true, V 54]⟩, ⟨54, (.cmp .gtr), [V 22, N 2]⟩, ⟨53, .and, [V 50, V 52]⟩, ⟨52, .not, [V 51]⟩, ⟨51, (.cmp .lss), [V 22, N 0]⟩, ⟨50, .and, [V 33, V 35]⟩, ⟨49, .and, [V 32, V 34]⟩, ⟨48, (.lln 1), [V 46]⟩, ⟨47, .imp, [V 34, V 45]⟩, ⟨45, (.call 20), [V 37, V 38, V 24]⟩, ⟨44, .imp, [V 34, V 43]⟩, ⟨43, (.cmp .leq), [V 38, N 1000000]⟩, ⟨42, .imp, [V 34, V 41]⟩, ⟨41, .and, [V 39, V 40]⟩, ⟨40, (.cmp .lss), [V 38, N 1000001]⟩, ⟨39, (.cmp .leq), [N 0, V 38]⟩, ⟨38, (.lln 1), [V 37]⟩, ⟨37, .cat, [V 26, V 36]⟩, ⟨36, .mkl, [N 97]⟩, ⟨35, .and, [V 16, V 33]⟩, ⟨34, .and, [V 16, V 32]⟩, ⟨33, .not, [V 32]⟩, ⟨32, (.cmp .eql), [V 22, N 3]⟩, ⟨31, .imp, [V 16, V 30]⟩, ⟨30, .and, [V 28, V 29]⟩, ⟨29, (.cmp .lss), [V 27, N 1000001]⟩, ⟨28, (.cmp .leq), [N 0, V 27]⟩, ⟨27, (.lln 1), [V 26]⟩, ⟨26, .cat, [V 15, V 25]⟩, ⟨25, .mkl, [N 32]⟩, ⟨24, (.pix 3 4), [V 14, V 11]⟩, ⟨23, (.pix 2 4), [V 14, V 11]⟩, ⟨22, (.pix 1 4), [V 14, V 11]⟩, ⟨21, (.pix 0 4), [V 14, V 11]⟩, ⟨20, .imp, [V 16, V 19]⟩, ⟨19, .and, [V 18, V 16]⟩, ⟨18, (.cmp .leq), [N 0, V 11]⟩, ⟨17, .not, [V 16]⟩, ⟨16, (.cmp .lss), [V 11, V 6]⟩], [V 80, V 72, V 65, V 47, V 44, V 42, V 31, V 20], []⟩
def PE (al : List A) : Nat := (Day.Lk.n (Day.Lk.mk (gi al 1) (gi al 2) (gi al 3) (gi al 4) (gi al 5) (ge al 14) (gi al 6)) - (gi al 11)).toNat
theorem OJ (e : Nat → A) (H : AH T e Ik.defs) : ∀ z0, z0 = (Day.Lk.mk (e 1).int (e 2).int (e 3).int (e 4).int (e 5).int (e 14) (e 6).int) → ∀ y0, y0 = (Day.Lk.mk (e 1).int (e 2).int (e 3).int (e 4).int (e 5).int (e 14) (e 6).int) → (Day.nP (Day.L1.mk (e 15) (e 0).int) z0 (e 11).int) = true →
  ((e 80).bool = true ∧ (e 72).bool = true ∧ (e 65).bool = true ∧ (e 47).bool = true ∧ (e 44).bool = true ∧ (e 42).bool = true ∧ (e 31).bool = true ∧ (e 20).bool = true) ∧ ((e 16).bool = true → (Day.nP (Day.L1.mk (e 89) (e 87).int) y0 (e 91).int) = true ∧ (Day.nN (Day.L1.mk (e 89) (e 87).int) y0 (e 91).int = Day.nN (Day.L1.mk (e 15) (e 0).int) z0 (e 11).int ∧ Day.Lk.n y0 = Day.Lk.n z0 ∧ false = false ∧ Day.nX (Day.L1.mk (e 89) (e 87).int) y0 (e 91).int = Day.nX (Day.L1.mk (e 15) (e 0).int) z0 (e 11).int) ∧ (Day.Lk.n y0 - (e 91).int).toNat < (Day.Lk.n z0 - (e 11).int).toNat) ∧ ((e 93).bool = true → (e 0).int = Day.nN (Day.L1.mk (e 15) (e 0).int) z0 (e 11).int ∧ (e 11).int = Day.Lk.n z0 ∧ (e 16).bool = false ∧ (e 15) = Day.nX (Day.L1.mk (e 15) (e 0).int) z0 (e 11).int) := by
 intro z0 hz0 y0 hy0 hp
 subst hz0 hy0
 simp only [Ik, AH, Def.q, HF, L.Aw, L.By, L.Db, L.Dp, L.ev, A.AI, A.AX, A.B0, A.Fv, List.map_cons, List.map_nil, Nat.zero_add, Nat.add_zero, and_true, true_and, Nat.reduceAdd, Nat.one_mul] at H
 simp only [LL, MJ, K8, CX, NJ, OB, Jx, Q8, and_true, true_and] at H
 obtain ⟨q93, q92, ⟨q91, -⟩, q90, q89, ⟨q88, -⟩, ⟨q87, -⟩, q86, q85, q84, ⟨q83, -⟩, ⟨q82, -⟩, q81, q80, q79, q78, q77, q76, q75, q74, ⟨q73, k73⟩, q72, q71, q70, q69, q68, q67, q66, q65, q64, q63, q62, q61, q60, q59, q58, q57, q56, q55, q54, q53, q52, q51, q50, q49, q48, q47, q45, q44, q43, q42, q41, q40, q39, q38, q37, q36, q35, q34, q33, q32, q31, q30, q29, q28, q27, q26, q25, q24, q23, q22, q21, q20, q19, q18, q17, q16⟩ := H
 replace q45 := AW q45
 obtain ⟨q45, q46⟩ := q45
 unfold Tf at k73
 simp only [L.Aw, L.By, L.Db, L.Dp, L.ev, A.AI, A.AX, A.B0] at q45 q46
 generalize (e 0).int = x0, (e 1).int = x1, (e 2).int = x2, (e 3).int = x3, (e 4).int = x4, (e 5).int = x5, (e 6).int = x6, (e 7).int = x7, (e 8).int = x8, (e 9).int = x9, (e 10).int = x10, (e 11).int = x11, (e 12).int = x12, (e 13).int = x13, e 14 = x14, e 15 = x15, (e 16).bool = v16, (e 17).bool = v17, (e 18).bool = v18, (e 19).bool = v19, (e 20).bool = v20, e 25 = v25, e 26 = v26, (e 27).int = v27, (e 28).bool = v28, (e 29).bool = v29, (e 30).bool = v30, (e 31).bool = v31, (e 32).bool = v32, (e 33).bool = v33, (e 34).bool = v34, (e 35).bool = v35, e 36 = v36, e 37 = v37, (e 38).int = v38, (e 39).bool = v39, (e 40).bool = v40, (e 41).bool = v41, (e 42).bool = v42, (e 43).bool = v43, (e 44).bool = v44, (e 45).bool = v45, e 46 = v46, (e 47).bool = v47, (e 48).int = v48, (e 49).bool = v49, (e 50).bool = v50, (e 51).bool = v51, (e 52).bool = v52, (e 53).bool = v53, (e 54).bool = v54, (e 55).bool = v55, (e 56).bool = v56, (e 57).bool = v57, (e 58).bool = v58, e 59 = v59, e 60 = v60, (e 61).int = v61, (e 62).bool = v62, (e 63).bool = v63, (e 64).bool = v64, (e 65).bool = v65, (e 66).bool = v66, (e 67).bool = v67, (e 68).int = v68, (e 69).bool = v69, (e 70).bool = v70, (e 71).bool = v71, (e 72).bool = v72, (e 73).int = v73, e 74 = v74, e 75 = v75, (e 76).int = v76, (e 77).bool = v77, (e 78).bool = v78, (e 79).bool = v79, (e 80).bool = v80, (e 81).bool = v81, (e 82).int = v82, (e 83).int = v83, e 84 = v84, (e 85).bool = v85, (e 86).bool = v86, (e 87).int = v87, (e 88).int = v88, e 89 = v89, (e 90).bool = v90, (e 91).int = v91, (e 92).bool = v92, (e 93).bool = v93 at *
 rw [k73] at q74
 replace q22 := congrArg A.int q22
 generalize (e 22).int = v22 at *
 replace q24 := congrArg A.int q24
 generalize (e 24).int = v24 at *
 by_cases h : x11 < x6
 ·obtain ⟨hi, b1, b2, b3, b4, st⟩ := Day.Qw hp h q22 q24
  have b1 : (x15.AL.length : Int) = x0 := b1
  have b2 : x0 ≤ 899977 := b2
  have t16 : v16 = true := by rw [q16]; exact decide_eq_true h
  have e26 : v26 = .l (x15.AL ++ Day.Bk [32]) := by rw [q26, q25]; rfl
  have e37 : v37 = .l (x15.AL ++ Day.Bk [32, 97]) := by rw [q37, q36, e26]; simp [Day.Bk]
  have e60 : v60 = .l (x15.AL ++ Day.Bk [32, 63]) := by rw [q60, q59, e26]; simp [Day.Bk]
  have e75 : v75 = .l (x15.AL ++ Day.Bk [32, v73]) := by rw [q75, q74, e26]; simp [Day.Bk]
  have e46 : v46 = .l (x15.AL ++ Day.Bk (32 :: 97 :: Day.num v24)) := by rw [q46, e37]; simp [Day.TC, Day.Bk]
  have l27 : v27 = x0 + 1 := by rw [q27, e26, Nat.div_one, Day.AN, ← b1]; simp
  have l38 : v38 = x0 + 2 := by rw [q38, e37, Nat.div_one, Day.AN, ← b1]; simp
  have l61 : v61 = x0 + 2 := by rw [q61, e60, Nat.div_one, Day.AN, ← b1]; simp
  have l76 : v76 = x0 + 2 := by rw [q76, e75, Nat.div_one, Day.AN, ← b1]; simp
  have l68 : v68 = 3 := by rw [q68]; rfl
  have fin : v89 = .l (x15.AL ++ Day.Bk (32 :: Day.Dk v22 v24)) ∧ v87 = (v89.AL.length : Int) := by
   rw [Nat.div_one] at q27 q38 q48 q61 q76
   unfold Day.Dk
   by_cases c1 : v22 = 3
   ·have g : v50 = false := by simp [q50, q33, q32, c1]
    rw [q89, q87, g]
    simp only [Bool.false_eq_true, if_false, if_true, c1, e46, q48]
    refine ⟨?_, ?_⟩ <;> first | trivial | rfl
   ·have g : v50 = true := by simp [q50, q35, q33, q32, t16, c1]
    by_cases c2 : v22 < 0 ∨ v22 > 2
    ·have g2 : v67 = false := by
      have : v55 = true := by
       rw [q55, q51, q54]
       rcases c2 with c2 | c2 <;> simp [c2]
      simp [q67, q56, this]
     have d0 : ¬ v22 = 0 := by omega
     have d1 : ¬ v22 = 1 := by omega
     have d2 : ¬ v22 = 2 := by omega
     rw [q89, q87, q84, q82, g, g2]
     simp only [Bool.false_eq_true, if_false, if_true, c1, d0, d1, d2, e60, q61]
     refine ⟨?_, ?_⟩ <;> first | trivial | rfl
    ·have g2 : v67 = true := by
      have : v55 = false := by
       rw [q55, q51, q54]
       have a1 : ¬ v22 < 0 := by omega
       have a2 : ¬ v22 > 2 := by omega
       simp [a1, a2]
      simp [q67, q58, q56, g, this]
     rw [q89, q87, q84, q82, g, g2]
     simp only [if_true, e75, q76]
     refine ⟨?_, trivial⟩
     rcases (show v22 = 0 ∨ v22 = 1 ∨ v22 = 2 by omega) with c3 | c3 | c3 <;> rw [q73, c3] <;> rfl
  obtain ⟨f1, f2⟩ := fin
  obtain ⟨s1, s2, s3, hm⟩ := st ⟨v89, v87⟩ f1 f2
  have w : v91 = x11 + 1 := by rw [q91]; exact wrap64 (by omega) (by omega)
  rw [w]
  refine ⟨⟨by rw [q80]; exact Day.CF (by rw [q79, q77, q78, l76]; simp; omega), ?_, by rw [q65]; exact Day.CF (by rw [q64, q62, q63, l61]; simp; omega), by rw [q47]; exact Day.CF (by rw [q45]; exact hi), by rw [q44]; exact Day.CF (by rw [q43, l38]; simp; omega), by rw [q42]; exact Day.CF (by rw [q41, q39, q40, l38]; simp; omega), by rw [q31]; exact Day.CF (by rw [q30, q28, q29, l27]; simp; omega), by rw [q20]; exact Day.CF (by rw [q19, q18, t16]; simp; omega)⟩, fun _ => ⟨s1, ⟨s2, rfl, rfl, s3⟩, hm⟩, fun hh => ?_⟩
  ·rw [q72]
   cases g2 : v67 with
   | false => simp
   | true =>
    have c2 : v55 = false := by
     rw [q67, q56] at g2
     cases hv : v55 with
     | false => rfl
     | true => rw [hv] at g2; simp at g2
    have c3 : ¬ v22 < 0 := by
     intro hlt
     rw [q55, q51] at c2
     simp [hlt] at c2
    have c4 : ¬ v22 > 2 := by
     intro hlt
     rw [q55, q51, q54] at c2
     simp [hlt] at c2
    rw [q71, q69, q70, l68]
    simp
    omega
  ·rw [q93, q92, t16] at hh
   simp at hh
 ·obtain ⟨e1, e2, e3⟩ := Day.SD hp h
  have t16 : v16 = false := by rw [q16]; exact decide_eq_false h
  refine ⟨by simp [q80, q72, q67, q58, q65, q57, q50, q47, q44, q42, q34, q35, q31, q20, t16], fun hh => ?_, fun _ => ⟨e1.symm, e3, t16, e2.symm⟩⟩
  rw [t16] at hh
  cases hh
theorem PF (as : List A) (e : Nat → A) (h1 : as = (List.range 16).map e) (h2 : (Gc as).1 = true) (H : AH T e Ik.defs) : Ew e Ik.obs ∧
   (∀ pc ls, some (V 16, [V 87, V 1, V 2, V 3, V 4, V 5, V 6, V 7, V 8, V 9, V 10, V 91, V 12, V 13, V 14, V 89]) = some (pc, ls) → (pc.ev e).bool = true → (Gc (ls.map (L.ev e))).1 = true ∧ (Gc (ls.map (L.ev e))).2 = (Gc as).2 ∧ PE (ls.map (L.ev e)) < PE as) ∧
   ∀ x ∈ ([(V 93, [some (V 0), some (V 11), some (V 16), some (V 15)])] : List (L × List (Option L))), (x.1.ev e).bool = true → ∀ (j : Nat) l, x.2[j]? = some (some l) → FG (Ee.tags.getD j .any) (l.ev e) ((Gc as).2.getD j (.i 0)) := by
 subst h1
 obtain ⟨ho, h⟩ := OJ e H _ rfl _ rfl h2
 refine ⟨⟨ho.1, ho.2.1, ho.2.2.1, ho.2.2.2.1, ho.2.2.2.2.1, ho.2.2.2.2.2.1, ho.2.2.2.2.2.2.1, ho.2.2.2.2.2.2.2, trivial⟩, fun pc ls hb hpc => ?_, ?_⟩
 ·injection hb with hb
  injection hb with h3 h4
  subst h3 h4
  have h := h.1 hpc
  refine ⟨h.1, ?_, h.2.2⟩
  have h5 := h.2.1
  obtain ⟨z0, z1, z2, z3⟩ := h5
  exact (KY z0 (KY z1 (Qx z2 (OH z3 rfl))))
 ·intro x hx hpc j l hj
  simp only [List.mem_cons, List.not_mem_nil, or_false] at hx
  rcases hx with rfl
  ·have h := h.2 hpc
   obtain ⟨z0, z1, z2, z3⟩ := h
   match j, hj with
   | 0, hj => cases hj; exact z0
   | 1, hj => cases hj; exact z1
   | 2, hj => cases hj; exact z2
   | 3, hj => cases hj; exact z3
   | _ + 4, hj => cases hj
def Fo : Lp := ⟨8, [false, true, false, true, true], 1046, 5, 2, 1, ⟨Q9 18 [(0, .pv (.one (.k (.fsl 0 (V 0))))), (2, .pv (.one (.k (.str (.s []))))), (3, .pv (.one (.k (.lsl 1 (V 1))))), (6, .pv (.one (.k (.fsl 0 (V 0))))), (7, .pv (.one (.k (.int .i64 (V 0))))), (8, .pv (.one (.k (.int .i64 (V 2)))))], [⟨false, 0, 0, [], some ⟨false, 0, [.int .i64, .int .i64, .int .i64, .int .i64, .int .i64, .sl [.int .i64, .int .i64, .int .i64, .int .i64]], V 3, V 0⟩⟩, ⟨false, 0, 0, [], some ⟨true, 5, [.int .u8], V 4, V 1⟩⟩], B true⟩, [(.exit 0, ⟨Q9 18 [(0, .pv (.one (.k (.fsl 0 (V 0))))), (2, .pv (.one (.k (.str (.s []))))), (3, .pv (.one (.k (.lsl 1 (V 5))))), (6, .pv (.one (.k (.fsl 0 (V 0)))))], [⟨false, 0, 0, [], some ⟨false, 0, [.int .i64, .int .i64, .int .i64, .int .i64, .int .i64, .sl [.int .i64, .int .i64, .int .i64, .int .i64]], V 3, V 0⟩⟩, ⟨false, 0, 0, [], some ⟨true, 5, [.int .u8], V 6, V 5⟩⟩], B true⟩)], [true, false, false, true, false], [.i, .any]⟩
def Il : G := ⟨43, [⟨42, (.ar .add .i64), [V 2, N 1]⟩, ⟨41, .imp, [V 5, V 40]⟩, ⟨40, .and, [V 38, V 39]⟩, ⟨39, (.cmp .lss), [V 37, N 1000001]⟩, ⟨38, (.cmp .leq), [N 0, V 37]⟩, ⟨37, (.lln 1), [V 36]⟩, ⟨36, .cat, [V 33, V 35]⟩, ⟨35, .mkl, [N 10]⟩, ⟨34, .imp, [V 5, V 29]⟩, ⟨29, (.call 1045), [V 24, V 10, V 11, V 12, V 13, V 14, V 16, V 1, V 22, V 25, V 26, N 0, V 3, V 0, V 15, V 27]⟩, ⟨28, .imp, [V 5, V 23]⟩, ⟨23, (.call 1044), [V 22, V 10, V 11, V 12, V 13, V 14, V 16, V 1, V 22, N 0, V 3, V 0, V 15, V 20]⟩, ⟨22, (.lln 1), [V 20]⟩, ⟨21, .imp, [V 5, V 19]⟩, ⟨19, (.call 20), [V 4, V 1, V 10]⟩, ⟨18, .imp, [V 5, V 17]⟩, ⟨17, (.cmp .leq), [V 1, N 1000000]⟩, ⟨16, (.lln 4), [V 15]⟩, ⟨15, (.pix 5 6), [V 3, V 2]⟩, ⟨14, (.pix 4 6), [V 3, V 2]⟩, ⟨13, (.pix 3 6), [V 3, V 2]⟩, ⟨12, (.pix 2 6), [V 3, V 2]⟩, ⟨11, (.pix 1 6), [V 3, V 2]⟩, ⟨10, (.pix 0 6), [V 3, V 2]⟩, ⟨9, .imp, [V 5, V 8]⟩, ⟨8, .and, [V 7, V 5]⟩, ⟨7, (.cmp .leq), [N 0, V 2]⟩, ⟨6, .not, [V 5]⟩, ⟨5, (.cmp .lss), [V 2, V 0]⟩], [V 41, V 34, V 28, V 21, V 18, V 9], []⟩
def PG (al : List A) : Nat := (Day.L1.n (Day.L1.mk (ge al 3) (gi al 0)) - (gi al 2)).toNat
theorem OK (e : Nat → A) (H : AH T e Il.defs) (hp : (Day.kP (Day.L1.mk (e 4) (e 1).int) (Day.L1.mk (e 3) (e 0).int) (e 2).int) = true) :
  ((e 41).bool = true ∧ (e 34).bool = true ∧ (e 28).bool = true ∧ (e 21).bool = true ∧ (e 18).bool = true ∧ (e 9).bool = true) ∧ ((e 5).bool = true → (Day.kP (Day.L1.mk (e 36) (e 37).int) (Day.L1.mk (e 3) (e 0).int) (e 42).int) = true ∧ (Day.kN (Day.L1.mk (e 36) (e 37).int) (Day.L1.mk (e 3) (e 0).int) (e 42).int = Day.kN (Day.L1.mk (e 4) (e 1).int) (Day.L1.mk (e 3) (e 0).int) (e 2).int ∧ Day.kX (Day.L1.mk (e 36) (e 37).int) (Day.L1.mk (e 3) (e 0).int) (e 42).int = Day.kX (Day.L1.mk (e 4) (e 1).int) (Day.L1.mk (e 3) (e 0).int) (e 2).int) ∧ (Day.L1.n (Day.L1.mk (e 3) (e 0).int) - (e 42).int).toNat < (Day.L1.n (Day.L1.mk (e 3) (e 0).int) - (e 2).int).toNat) ∧ ((e 6).bool = true → (e 1).int = Day.kN (Day.L1.mk (e 4) (e 1).int) (Day.L1.mk (e 3) (e 0).int) (e 2).int ∧ (e 4) = Day.kX (Day.L1.mk (e 4) (e 1).int) (Day.L1.mk (e 3) (e 0).int) (e 2).int) := by
 simp only [Il, AH, Def.q, HF, L.Aw, L.By, L.Db, L.Dp, L.ev, A.AI, A.AX, A.B0, A.Fv, List.map_cons, List.map_nil, Nat.zero_add, Nat.add_zero, and_true, true_and, Nat.reduceAdd, Nat.one_mul] at H
 simp only [LL, MJ, K8, CX, NJ, OB, Jx, Q8, and_true, true_and] at H
 obtain ⟨⟨q42, -⟩, q41, q40, q39, q38, q37, q36, q35, q34, q29, q28, q23, q22, q21, q19, q18, q17, q16, q15, q14, q13, q12, q11, q10, q9, q8, q7, q6, q5⟩ := H
 replace q29 := Ri q29 _ rfl
 obtain ⟨q29, q30, q31, q32, q33⟩ := q29
 replace q23 := Rh q23 _ rfl
 obtain ⟨q23, q24, q25, q26, q27⟩ := q23
 replace q19 := AW q19
 obtain ⟨q19, q20⟩ := q19
 simp only [L.Aw, L.By, L.Db, L.Dp, L.ev, A.AI, A.AX, A.B0] at q29 q30 q31 q32 q33 q23 q24 q25 q26 q27 q19 q20
 generalize (e 0).int = x0, (e 1).int = x1, (e 2).int = x2, e 3 = x3, e 4 = x4, (e 5).bool = v5, (e 6).bool = v6, (e 7).bool = v7, (e 8).bool = v8, (e 9).bool = v9, (e 16).int = v16, (e 17).bool = v17, (e 18).bool = v18, (e 19).bool = v19, e 20 = v20, (e 21).bool = v21, (e 22).int = v22, (e 23).bool = v23, (e 24).int = v24, (e 25).int = v25, (e 26).bool = v26, e 27 = v27, (e 28).bool = v28, (e 29).bool = v29, (e 30).int = v30, (e 31).int = v31, (e 32).bool = v32, e 33 = v33, (e 34).bool = v34, e 35 = v35, e 36 = v36, (e 37).int = v37, (e 38).bool = v38, (e 39).bool = v39, (e 40).bool = v40, (e 41).bool = v41, (e 42).int = v42 at *
 replace q10 := congrArg A.int q10
 generalize (e 10).int = v10 at *
 replace q11 := congrArg A.int q11
 generalize (e 11).int = v11 at *
 replace q12 := congrArg A.int q12
 generalize (e 12).int = v12 at *
 replace q13 := congrArg A.int q13
 generalize (e 13).int = v13 at *
 replace q14 := congrArg A.int q14
 generalize (e 14).int = v14, e 15 = v15 at *
 by_cases h : x2 < x0
 ·obtain ⟨hk, b1, b2, b3, b4, b5, st⟩ := Day.Ti hp h
  have b1 : (x4.AL.length : Int) = x1 := b1
  have b2 : x1 ≤ 799472 := b2
  have t5 : v5 = true := by rw [q5]; exact decide_eq_true h
  have hlk : Day.Ey x3 x2 = ⟨v10, v11, v12, v13, v14, v15, v16⟩ := by
   rw [q10, q11, q12, q13, q14, q16, q15]
   rfl
  have hk : Day.Lk.ok (Day.Ey x3 x2) = true := hk
  have st : ∀ p : Day.L1, p.x = .l (x4.AL ++ Day.Bk (Day.DU (Day.Ey x3 x2))) → p.n = (p.x.AL.length : Int) → Day.kP p ⟨x3, x0⟩ (x2 + 1) = true ∧ Day.kN p ⟨x3, x0⟩ (x2 + 1) = Day.kN ⟨x4, x1⟩ ⟨x3, x0⟩ x2 ∧ Day.kX p ⟨x3, x0⟩ (x2 + 1) = Day.kX ⟨x4, x1⟩ ⟨x3, x0⟩ x2 ∧ (x0 - (x2 + 1)).toNat < (x0 - x2).toNat := st
  rw [hlk] at hk st
  obtain ⟨m1, m2, m3, m4, m5⟩ := Day.MD hk (pre := x4.AL) (by omega) (b := ⟨v20, v22⟩) (by show v20 = _; rw [q20]; rfl) (by show v22 = _; rw [q22, Nat.div_one])
  have m1 : Day.i64 v10 = true := m1
  rw [← q24, ← q27] at m3 m4
  rw [← q33] at m4
  have e36 : v36 = .l (x4.AL ++ Day.Bk (Day.DU ⟨v10, v11, v12, v13, v14, v15, v16⟩)) := by
   rw [q36, q35, m4]
   simp [Day.DU, Day.Bk]
  have l37 : v37 = (x4.AL.length + ((Day.Ig ⟨v10, v11, v12, v13, v14, v15, v16⟩).length + 1) : Nat) := by
   rw [q37, e36, Nat.div_one, Day.AN]
   simp [Day.DU]
  obtain ⟨s1, s2, s3, hm⟩ := st ⟨v36, v37⟩ e36 (by show v37 = _; rw [q37, Nat.div_one])
  have w : v42 = x2 + 1 := by rw [q42]; exact wrap64 (by omega) (by omega)
  rw [w]
  refine ⟨⟨?_, by rw [q34]; exact Day.CF (by rw [q29]; exact m3), by rw [q28]; exact Day.CF (by rw [q23]; exact m2), by rw [q21]; exact Day.CF (by rw [q19]; exact m1), by rw [q18]; exact Day.CF (by rw [q17]; simp; omega), by rw [q9]; exact Day.CF (by rw [q8, q7, t5]; simp; omega)⟩, fun _ => ⟨s1, ⟨s2, s3⟩, hm⟩, fun hh => ?_⟩
  ·rw [q41]
   refine Day.CF ?_
   rw [q40, q38, q39, l37]
   simp
   omega
  ·rw [q6, t5] at hh
   cases hh
 ·obtain ⟨e1, e2⟩ := Day.T1 hp h
  have t5 : v5 = false := by rw [q5]; exact decide_eq_false h
  refine ⟨by simp [q41, q34, q28, q21, q18, q9, t5], fun hh => ?_, fun _ => ⟨e1.symm, e2.symm⟩⟩
  rw [t5] at hh
  cases hh
theorem PH (as : List A) (e : Nat → A) (h1 : as = (List.range 5).map e) (h2 : (Gd as).1 = true) (H : AH T e Il.defs) : Ew e Il.obs ∧
   (∀ pc ls, some (V 5, [V 0, V 37, V 42, V 3, V 36]) = some (pc, ls) → (pc.ev e).bool = true → (Gd (ls.map (L.ev e))).1 = true ∧ (Gd (ls.map (L.ev e))).2 = (Gd as).2 ∧ PG (ls.map (L.ev e)) < PG as) ∧
   ∀ x ∈ ([(V 6, [some (V 1), some (V 4)])] : List (L × List (Option L))), (x.1.ev e).bool = true → ∀ (j : Nat) l, x.2[j]? = some (some l) → FG (Fo.tags.getD j .any) (l.ev e) ((Gd as).2.getD j (.i 0)) := by
 subst h1
 obtain ⟨ho, h⟩ := OK e H h2
 refine ⟨⟨ho.1, ho.2.1, ho.2.2.1, ho.2.2.2.1, ho.2.2.2.2.1, ho.2.2.2.2.2, trivial⟩, fun pc ls hb hpc => ?_, ?_⟩
 ·injection hb with hb
  injection hb with h3 h4
  subst h3 h4
  have h := h.1 hpc
  refine ⟨h.1, ?_, h.2.2⟩
  have h5 := h.2.1
  obtain ⟨z0, z1⟩ := h5
  exact (KY z0 (OH z1 rfl))
 ·intro x hx hpc j l hj
  simp only [List.mem_cons, List.not_mem_nil, or_false] at hx
  rcases hx with rfl
  ·have h := h.2 hpc
   obtain ⟨z0, z1⟩ := h
   match j, hj with
   | 0, hj => cases hj; exact z0
   | 1, hj => cases hj; exact z1
   | _ + 2, hj => cases hj
def Fp : G := ⟨6, [⟨5, .mks, [V 4]⟩, ⟨2, (.call 1046), [V 1, N 0, N 0, V 0, .e]⟩], [V 2], []⟩
theorem Jy (e : Nat → A) (H : AH T e Fp.defs) (hp : (Day.L1.Qs (Day.L1.mk (e 0) (e 1).int)) = true) :
  ((e 2).bool = true) ∧ (Day.DV (Day.L1.mk (e 0) (e 1).int) = (e 5).str) := by
 simp only [Fp, AH, Def.q, HF, L.Aw, L.By, L.Db, L.Dp, L.ev, A.AI, A.AX, A.B0, A.Fv, List.map_cons, List.map_nil, Nat.zero_add, Nat.add_zero, and_true, true_and, Nat.reduceAdd, Nat.one_mul] at H
 obtain ⟨q5, q2⟩ := H
 replace q2 := Rj q2
 obtain ⟨q2, q3, q4⟩ := q2
 simp only [L.Aw, L.By, L.Db, L.Dp, L.ev, A.AI, A.AX, A.B0] at q2 q3 q4
 generalize e 0 = x0, (e 1).int = x1, (e 2).bool = v2, (e 3).int = v3, e 4 = v4, (e 5).str = v5 at *
 obtain ⟨m1, m2⟩ := Day.Tj hp
 refine ⟨by rw [q2]; exact m1, ?_⟩
 rw [q5, q4, m2, Day.Ii, Day.NH]
 rfl
def Gl : G := ⟨60, [⟨59, .mks, [V 57]⟩, ⟨58, .iteB, [V 5, V 53, V 4]⟩, ⟨57, .iteA, [V 5, V 52, V 16]⟩, ⟨56, .iteI, [V 5, V 51, N 97]⟩, ⟨55, .iteI, [V 5, V 50, V 18]⟩, ⟨54, .not, [V 5]⟩, ⟨53, .iteB, [V 35, V 35, V 34]⟩, ⟨52, .iteA, [V 35, V 43, V 28]⟩, ⟨51, .iteI, [V 35, V 41, N 63]⟩, ⟨50, .iteI, [V 35, V 44, V 29]⟩, ⟨49, .not, [V 35]⟩, ⟨48, .imp, [V 35, V 47]⟩, ⟨47, .and, [V 45, V 46]⟩, ⟨46, (.cmp .lss), [V 44, N 1000001]⟩, ⟨45, (.cmp .leq), [N 0, V 44]⟩, ⟨44, (.lln 1), [V 43]⟩, ⟨43, .cat, [.e, V 42]⟩, ⟨42, .mkl, [V 41]⟩, ⟨41, .sget, [.s [111, 108, 99], V 1]⟩, ⟨40, .imp, [V 35, V 39]⟩, ⟨39, .and, [V 37, V 38]⟩, ⟨38, (.cmp .lss), [V 1, V 36]⟩, ⟨37, (.cmp .leq), [N 0, V 1]⟩, ⟨36, .slen, [.s [111, 108, 99]]⟩, ⟨35, .and, [V 24, V 26]⟩, ⟨34, .and, [V 23, V 25]⟩, ⟨33, .imp, [V 25, V 32]⟩, ⟨32, .and, [V 30, V 31]⟩, ⟨31, (.cmp .lss), [V 29, N 1000001]⟩, ⟨30, (.cmp .leq), [N 0, V 29]⟩, ⟨29, (.lln 1), [V 28]⟩, ⟨28, .cat, [.e, V 27]⟩, ⟨27, .mkl, [N 63]⟩, ⟨26, .and, [V 5, V 24]⟩, ⟨25, .and, [V 5, V 23]⟩, ⟨24, .not, [V 23]⟩, ⟨23, .iteB, [V 19, B true, V 22]⟩, ⟨22, (.cmp .gtr), [V 1, N 2]⟩, ⟨21, .and, [V 5, V 20]⟩, ⟨20, .not, [V 19]⟩, ⟨19, (.cmp .lss), [V 1, N 0]⟩, ⟨18, (.lln 1), [V 16]⟩, ⟨17, .imp, [V 4, V 15]⟩, ⟨15, (.call 20), [V 7, V 8, V 3]⟩, ⟨14, .imp, [V 4, V 13]⟩, ⟨13, (.cmp .leq), [V 8, N 1000000]⟩, ⟨12, .imp, [V 4, V 11]⟩, ⟨11, .and, [V 9, V 10]⟩, ⟨10, (.cmp .lss), [V 8, N 1000001]⟩, ⟨9, (.cmp .leq), [N 0, V 8]⟩, ⟨8, (.lln 1), [V 7]⟩, ⟨7, .cat, [.e, V 6]⟩, ⟨6, .mkl, [N 97]⟩, ⟨5, .not, [V 4]⟩, ⟨4, (.cmp .eql), [V 1, N 3]⟩], [V 48, V 40, V 33, V 17, V 14, V 12], []⟩
theorem K5 (e : Nat → A) (H : AH T e Gl.defs) (hp : (Day.i64 (Day.ND.pos (Day.ND.mk (e 0).int (e 1).int (e 2).int (e 3).int))) = true) :
  ((e 48).bool = true ∧ (e 40).bool = true ∧ (e 33).bool = true ∧ (e 17).bool = true ∧ (e 14).bool = true ∧ (e 12).bool = true) ∧ (Day.OF (Day.ND.mk (e 0).int (e 1).int (e 2).int (e 3).int) = (e 59).str) := by
 simp only [Gl, AH, Def.q, HF, L.Aw, L.By, L.Db, L.Dp, L.ev, A.AI, A.AX, A.B0, A.Fv, List.map_cons, List.map_nil, Nat.zero_add, Nat.add_zero, and_true, true_and, Nat.reduceAdd, Nat.one_mul] at H
 simp only [LL, MJ, K8, CX, NJ, OB, Jx, Q8, and_true, true_and] at H
 obtain ⟨q59, q58, q57, ⟨q56, -⟩, ⟨q55, -⟩, q54, q53, q52, ⟨q51, -⟩, ⟨q50, -⟩, q49, q48, q47, q46, q45, q44, q43, q42, ⟨q41, k41⟩, q40, q39, q38, q37, q36, q35, q34, q33, q32, q31, q30, q29, q28, q27, q26, q25, q24, q23, q22, q21, q20, q19, q18, q17, q15, q14, q13, q12, q11, q10, q9, q8, q7, q6, q5, q4⟩ := H
 replace q15 := AW q15
 obtain ⟨q15, q16⟩ := q15
 unfold Tf at k41
 simp only [L.Aw, L.By, L.Db, L.Dp, L.ev, A.AI, A.AX, A.B0] at q15 q16
 generalize (e 0).int = x0, (e 1).int = x1, (e 2).int = x2, (e 3).int = x3, (e 4).bool = v4, (e 5).bool = v5, e 6 = v6, e 7 = v7, (e 8).int = v8, (e 9).bool = v9, (e 10).bool = v10, (e 11).bool = v11, (e 12).bool = v12, (e 13).bool = v13, (e 14).bool = v14, (e 15).bool = v15, e 16 = v16, (e 17).bool = v17, (e 18).int = v18, (e 19).bool = v19, (e 20).bool = v20, (e 21).bool = v21, (e 22).bool = v22, (e 23).bool = v23, (e 24).bool = v24, (e 25).bool = v25, (e 26).bool = v26, e 27 = v27, e 28 = v28, (e 29).int = v29, (e 30).bool = v30, (e 31).bool = v31, (e 32).bool = v32, (e 33).bool = v33, (e 34).bool = v34, (e 35).bool = v35, (e 36).int = v36, (e 37).bool = v37, (e 38).bool = v38, (e 39).bool = v39, (e 40).bool = v40, (e 41).int = v41, e 42 = v42, e 43 = v43, (e 44).int = v44, (e 45).bool = v45, (e 46).bool = v46, (e 47).bool = v47, (e 48).bool = v48, (e 49).bool = v49, (e 50).int = v50, (e 51).int = v51, e 52 = v52, (e 53).bool = v53, (e 54).bool = v54, (e 55).int = v55, (e 56).int = v56, e 57 = v57, (e 58).bool = v58, (e 59).str = v59 at *
 rw [k41] at q42
 have hi : Day.i64 x3 = true := hp
 have e7 : v7 = .l (Day.Bk [97]) := by rw [q7, q6]; rfl
 have e28 : v28 = .l (Day.Bk [63]) := by rw [q28, q27]; rfl
 have e43 : v43 = .l (Day.Bk [v41]) := by rw [q43, q42]; rfl
 have e16 : v16 = .l (Day.Bk (97 :: Day.num x3)) := by rw [q16, e7]; rfl
 have l8 : v8 = 1 := by rw [q8, e7]; rfl
 have l29 : v29 = 1 := by rw [q29, e28]; rfl
 have l44 : v44 = 1 := by rw [q44, e43, Nat.div_one, Day.Ii, Day.NG]; rfl
 have l36 : v36 = 3 := by rw [q36]; rfl
 have g1 : v5 = !decide (x1 = 3) := by rw [q5, q4]; by_cases c : x1 = 3 <;> simp [c]
 have g2 : v23 = decide (x1 < 0 ∨ x1 > 2) := by
  rw [q23, q19, q22]
  by_cases c : x1 < 0
  ·simp [c]
  ·by_cases c2 : x1 > 2
   ·simp [c, c2]
   ·simp [c, c2]
 have g3 : v35 = (!decide (x1 = 3) && !decide (x1 < 0 ∨ x1 > 2)) := by
  rw [q35, q26, q24, g1, g2]
  cases decide (x1 < 0 ∨ x1 > 2) <;> simp
 have fin : v57 = .l (Day.Bk (Day.Dk x1 x3)) := by
  unfold Day.Dk
  rw [q57, q52, g1, g3]
  by_cases c1 : x1 = 3
  ·simp [c1, e16]
  ·by_cases c2 : x1 < 0 ∨ x1 > 2
   ·have d0 : ¬ x1 = 0 := by omega
    have d1 : ¬ x1 = 1 := by omega
    have d2 : ¬ x1 = 2 := by omega
    simp [c1, c2, d0, d1, d2, e28]
   ·simp only [c1, c2, decide_false, Bool.not_false, Bool.and_self, if_true, if_false, e43]
    rcases (show x1 = 0 ∨ x1 = 1 ∨ x1 = 2 by omega) with c3 | c3 | c3 <;> rw [q41, c3] <;> rfl
 refine ⟨⟨by rw [q48]; exact Day.CF (by rw [q47, q45, q46, l44]; decide), ?_, by rw [q33]; exact Day.CF (by rw [q32, q30, q31, l29]; decide), by rw [q17]; exact Day.CF (by rw [q15]; exact hi), by rw [q14]; exact Day.CF (by rw [q13, l8]; decide), by rw [q12]; exact Day.CF (by rw [q11, q9, q10, l8]; decide)⟩, by rw [q59, fin, Day.Ii, Day.NH]; rfl⟩
 rw [q40, q39, q37, q38, l36, g3]
 by_cases c1 : x1 = 3
 ·simp [c1]
 ·by_cases c2 : x1 < 0 ∨ x1 > 2
  ·simp [c1, c2]
  ·simp [c1, c2]
   omega
def Eg : Lp := ⟨16, [false, true, false, true, true], 1030, 11, 2, 4, ⟨Q9 40 [(0, .pv (.one (.k (.lsl 4 (V 0))))), (1, .pv (.agg [.k (.int .i64 (V 1)), .k (.int .i64 (V 2)), .k (.int .i64 (V 3)), .k (.int .i64 (V 4)), .k (.int .i64 (V 5)), .k (.fsl 0 (V 6))])), (3, .pv (.one (.k (.ptr 2 0)))), (4, .pv (.one (.k (.nilslc)))), (9, .pv (.one (.k (.nilslc)))), (10, .pv (.one (.k (.ptr 2 0)))), (11, .pv (.one (.k (.int .i64 (V 1))))), (12, .pv (.one (.k (.lsl 3 (V 7))))), (13, .pv (.one (.k (.ptr 2 1)))), (14, .pv (.agg [.k (.int .i64 (V 2)), .k (.int .i64 (V 3)), .k (.int .i64 (V 4)), .k (.int .i64 (V 5))])), (15, .pv (.one (.k (.int .i64 (V 8)))))], [⟨false, 0, 0, [], some ⟨false, 0, [.int .i64, .int .i64, .int .i64, .int .i64], V 9, V 6⟩⟩, ⟨true, 31, 6, [.k (.int .i64 (V 1)), .k (.int .i64 (V 2)), .k (.int .i64 (V 3)), .k (.int .i64 (V 4)), .k (.int .i64 (V 5)), .k (.fsl 0 (V 6))], none⟩, ⟨true, 31, 6, [.k (.int .i64 (V 1)), .k (.int .i64 (V 2)), .k (.int .i64 (V 3)), .k (.int .i64 (V 4)), .k (.int .i64 (V 5)), .k (.fsl 0 (V 6))], none⟩, .dead, ⟨false, 0, 0, [], some ⟨true, 5, [.int .u8], V 10, V 0⟩⟩], B true⟩, [(.exit 0, ⟨Q9 40 [(0, .pv (.one (.k (.lsl 4 (V 11))))), (1, .pv (.agg [.k (.int .i64 (V 1)), .k (.int .i64 (V 2)), .k (.int .i64 (V 3)), .k (.int .i64 (V 4)), .k (.int .i64 (V 5)), .k (.fsl 0 (V 6))])), (3, .pv (.one (.k (.ptr 2 0)))), (4, .pv (.one (.k (.nilslc)))), (9, .pv (.one (.k (.nilslc)))), (10, .pv (.one (.k (.ptr 2 0)))), (11, .pv (.one (.k (.int .i64 (V 1))))), (12, .pv (.one (.k (.lsl 3 (V 7))))), (13, .pv (.one (.k (.ptr 2 1))))], [⟨false, 0, 0, [], some ⟨false, 0, [.int .i64, .int .i64, .int .i64, .int .i64], V 9, V 6⟩⟩, ⟨true, 31, 6, [.k (.int .i64 (V 1)), .k (.int .i64 (V 2)), .k (.int .i64 (V 3)), .k (.int .i64 (V 4)), .k (.int .i64 (V 5)), .k (.fsl 0 (V 6))], none⟩, ⟨true, 31, 6, [.k (.int .i64 (V 1)), .k (.int .i64 (V 2)), .k (.int .i64 (V 3)), .k (.int .i64 (V 4)), .k (.int .i64 (V 5)), .k (.fsl 0 (V 6))], none⟩, .dead, ⟨false, 0, 0, [], some ⟨true, 5, [.int .u8], V 12, V 11⟩⟩], B true⟩)], [false, true, true, true, true, true, true, true, false, true, false], [.i, .any]⟩
def Io : G := ⟨99, [⟨98, .and, [V 97, V 12]⟩, ⟨97, .not, [V 11]⟩, ⟨96, (.ar .add .i64), [V 8, N 1]⟩, ⟨95, .iteB, [V 83, V 83, V 82]⟩, ⟨94, .iteA, [V 83, V 85, V 81]⟩, ⟨93, .iteI, [V 83, N 63, V 80]⟩, ⟨92, .iteI, [V 83, V 86, V 79]⟩, ⟨91, .not, [V 83]⟩, ⟨90, .imp, [V 83, V 89]⟩, ⟨89, .and, [V 87, V 88]⟩, ⟨88, (.cmp .lss), [V 86, N 1000001]⟩, ⟨87, (.cmp .leq), [N 0, V 86]⟩, ⟨86, (.lln 1), [V 85]⟩, ⟨85, .cat, [V 19, V 84]⟩, ⟨84, .mkl, [N 63]⟩, ⟨83, .and, [V 26, V 78]⟩, ⟨82, .iteB, [V 25, V 27, V 77]⟩, ⟨81, .iteA, [V 25, V 39, V 76]⟩, ⟨80, .iteI, [V 25, N 99, V 75]⟩, ⟨79, .iteI, [V 25, V 41, V 74]⟩, ⟨78, .and, [V 43, V 73]⟩, ⟨77, .iteB, [V 42, V 44, V 72]⟩, ⟨76, .iteA, [V 42, V 56, V 66]⟩, ⟨75, .iteI, [V 42, N 105, N 45]⟩, ⟨74, .iteI, [V 42, V 58, V 67]⟩, ⟨73, .and, [V 62, V 64]⟩, ⟨72, .and, [V 61, V 63]⟩, ⟨71, .imp, [V 63, V 70]⟩, ⟨70, .and, [V 68, V 69]⟩, ⟨69, (.cmp .lss), [V 67, N 1000001]⟩, ⟨68, (.cmp .leq), [N 0, V 67]⟩, ⟨67, (.lln 1), [V 66]⟩, ⟨66, .cat, [V 19, V 65]⟩, ⟨65, .mkl, [N 45]⟩, ⟨64, .and, [V 45, V 62]⟩, ⟨63, .and, [V 45, V 61]⟩, ⟨62, .not, [V 61]⟩, ⟨61, .and, [V 60, V 59]⟩, ⟨60, (.cmp .eql), [V 16, N 0]⟩, ⟨59, (.cmp .eql), [V 17, N 0]⟩, ⟨58, (.lln 1), [V 56]⟩, ⟨57, .imp, [V 44, V 55]⟩, ⟨55, (.call 20), [V 47, V 48, V 17]⟩, ⟨54, .imp, [V 44, V 53]⟩, ⟨53, (.cmp .leq), [V 48, N 1000000]⟩, ⟨52, .imp, [V 44, V 51]⟩, ⟨51, .and, [V 49, V 50]⟩, ⟨50, (.cmp .lss), [V 48, N 1000001]⟩, ⟨49, (.cmp .leq), [N 0, V 48]⟩, ⟨48, (.lln 1), [V 47]⟩, ⟨47, .cat, [V 19, V 46]⟩, ⟨46, .mkl, [N 105]⟩, ⟨45, .and, [V 28, V 43]⟩, ⟨44, .and, [V 28, V 42]⟩, ⟨43, .not, [V 42]⟩, ⟨42, (.cmp .eql), [V 16, N 2]⟩, ⟨41, (.lln 1), [V 39]⟩, ⟨40, .imp, [V 27, V 38]⟩, ⟨38, (.call 20), [V 30, V 31, V 17]⟩, ⟨37, .imp, [V 27, V 36]⟩, ⟨36, (.cmp .leq), [V 31, N 1000000]⟩, ⟨35, .imp, [V 27, V 34]⟩, ⟨34, .and, [V 32, V 33]⟩, ⟨33, (.cmp .lss), [V 31, N 1000001]⟩, ⟨32, (.cmp .leq), [N 0, V 31]⟩, ⟨31, (.lln 1), [V 30]⟩, ⟨30, .cat, [V 19, V 29]⟩, ⟨29, .mkl, [N 99]⟩, ⟨28, .and, [V 11, V 26]⟩, ⟨27, .and, [V 11, V 25]⟩, ⟨26, .not, [V 25]⟩, ⟨25, (.cmp .eql), [V 16, N 1]⟩, ⟨24, .imp, [V 11, V 23]⟩, ⟨23, .and, [V 21, V 22]⟩, ⟨22, (.cmp .lss), [V 20, N 1000001]⟩, ⟨21, (.cmp .leq), [N 0, V 20]⟩, ⟨20, (.lln 1), [V 19]⟩, ⟨19, .cat, [V 10, V 18]⟩, ⟨18, .mkl, [N 32]⟩, ⟨17, .sel, [V 8, V 3, V 5]⟩, ⟨16, .sel, [V 8, V 2, V 4]⟩, ⟨15, .imp, [V 11, V 14]⟩, ⟨14, .and, [V 13, V 11]⟩, ⟨13, (.cmp .leq), [N 0, V 8]⟩, ⟨12, .not, [V 11]⟩, ⟨11, (.cmp .lss), [V 8, N 2]⟩], [V 90, V 71, V 57, V 54, V 52, V 40, V 37, V 35, V 24, V 15], []⟩
def PJ (al : List A) : Nat := (2 - (gi al 8)).toNat
theorem OO (e : Nat → A) (H : AH T e Io.defs) : ∀ z0, z0 = (Day.Lk.mk (e 1).int (e 2).int (e 3).int (e 4).int (e 5).int (e 9) (e 6).int) → ∀ y0, y0 = (Day.Lk.mk (e 1).int (e 2).int (e 3).int (e 4).int (e 5).int (e 9) (e 6).int) → (Day.fP (Day.L1.mk (e 10) (e 0).int) z0 (e 8).int) = true →
  ((e 90).bool = true ∧ (e 71).bool = true ∧ (e 57).bool = true ∧ (e 54).bool = true ∧ (e 52).bool = true ∧ (e 40).bool = true ∧ (e 37).bool = true ∧ (e 35).bool = true ∧ (e 24).bool = true ∧ (e 15).bool = true) ∧ ((e 11).bool = true → (Day.fP (Day.L1.mk (e 94) (e 92).int) y0 (e 96).int) = true ∧ (Day.fN (Day.L1.mk (e 94) (e 92).int) y0 (e 96).int = Day.fN (Day.L1.mk (e 10) (e 0).int) z0 (e 8).int ∧ Day.fX (Day.L1.mk (e 94) (e 92).int) y0 (e 96).int = Day.fX (Day.L1.mk (e 10) (e 0).int) z0 (e 8).int) ∧ (2 - (e 96).int).toNat < (2 - (e 8).int).toNat) ∧ ((e 98).bool = true → (e 0).int = Day.fN (Day.L1.mk (e 10) (e 0).int) z0 (e 8).int ∧ (e 10) = Day.fX (Day.L1.mk (e 10) (e 0).int) z0 (e 8).int) := by
 intro z0 hz0 y0 hy0 hp
 subst hz0 hy0
 simp only [Io, AH, Def.q, HF, L.Aw, L.By, L.Db, L.Dp, L.ev, A.AI, A.AX, A.B0, A.Fv, List.map_cons, List.map_nil, Nat.zero_add, Nat.add_zero, and_true, true_and, Nat.reduceAdd, Nat.one_mul] at H
 simp only [LL, MJ, K8, CX, NJ, OB, Jx, Q8, and_true, true_and] at H
 obtain ⟨q98, q97, ⟨q96, -⟩, q95, q94, ⟨q93, -⟩, ⟨q92, -⟩, q91, q90, q89, q88, q87, q86, q85, q84, q83, q82, q81, ⟨q80, -⟩, ⟨q79, -⟩, q78, q77, q76, ⟨q75, -⟩, ⟨q74, -⟩, q73, q72, q71, q70, q69, q68, q67, q66, q65, q64, q63, q62, q61, q60, q59, q58, q57, q55, q54, q53, q52, q51, q50, q49, q48, q47, q46, q45, q44, q43, q42, q41, q40, q38, q37, q36, q35, q34, q33, q32, q31, q30, q29, q28, q27, q26, q25, q24, q23, q22, q21, q20, q19, q18, q17, q16, q15, q14, q13, q12, q11⟩ := H
 replace q55 := AW q55
 obtain ⟨q55, q56⟩ := q55
 replace q38 := AW q38
 obtain ⟨q38, q39⟩ := q38
 simp only [L.Aw, L.By, L.Db, L.Dp, L.ev, A.AI, A.AX, A.B0] at q55 q56 q38 q39
 generalize (e 0).int = x0, (e 1).int = x1, (e 2).int = x2, (e 3).int = x3, (e 4).int = x4, (e 5).int = x5, (e 6).int = x6, (e 7).int = x7, (e 8).int = x8, e 9 = x9, e 10 = x10, (e 11).bool = v11, (e 12).bool = v12, (e 13).bool = v13, (e 14).bool = v14, (e 15).bool = v15, (e 16).int = v16, (e 17).int = v17, e 18 = v18, e 19 = v19, (e 20).int = v20, (e 21).bool = v21, (e 22).bool = v22, (e 23).bool = v23, (e 24).bool = v24, (e 25).bool = v25, (e 26).bool = v26, (e 27).bool = v27, (e 28).bool = v28, e 29 = v29, e 30 = v30, (e 31).int = v31, (e 32).bool = v32, (e 33).bool = v33, (e 34).bool = v34, (e 35).bool = v35, (e 36).bool = v36, (e 37).bool = v37, (e 38).bool = v38, e 39 = v39, (e 40).bool = v40, (e 41).int = v41, (e 42).bool = v42, (e 43).bool = v43, (e 44).bool = v44, (e 45).bool = v45, e 46 = v46, e 47 = v47, (e 48).int = v48, (e 49).bool = v49, (e 50).bool = v50, (e 51).bool = v51, (e 52).bool = v52, (e 53).bool = v53, (e 54).bool = v54, (e 55).bool = v55, e 56 = v56, (e 57).bool = v57, (e 58).int = v58, (e 59).bool = v59, (e 60).bool = v60, (e 61).bool = v61, (e 62).bool = v62, (e 63).bool = v63, (e 64).bool = v64, e 65 = v65, e 66 = v66, (e 67).int = v67, (e 68).bool = v68, (e 69).bool = v69, (e 70).bool = v70, (e 71).bool = v71, (e 72).bool = v72, (e 73).bool = v73, (e 74).int = v74, (e 75).int = v75, e 76 = v76, (e 77).bool = v77, (e 78).bool = v78, (e 79).int = v79, (e 80).int = v80, e 81 = v81, (e 82).bool = v82, (e 83).bool = v83, e 84 = v84, e 85 = v85, (e 86).int = v86, (e 87).bool = v87, (e 88).bool = v88, (e 89).bool = v89, (e 90).bool = v90, (e 91).bool = v91, (e 92).int = v92, (e 93).int = v93, e 94 = v94, (e 95).bool = v95, (e 96).int = v96, (e 97).bool = v97, (e 98).bool = v98 at *
 by_cases h : x8 < 2
 ·obtain ⟨hi, b1, b2, b3, st⟩ := Day.Qv hp h q16 q17
  have b1 : (x10.AL.length : Int) = x0 := b1
  have b2 : x0 ≤ 899977 := b2
  have t11 : v11 = true := by rw [q11]; exact decide_eq_true h
  have e19 : v19 = .l (x10.AL ++ Day.Bk [32]) := by rw [q19, q18]; rfl
  have e30 : v30 = .l (x10.AL ++ Day.Bk [32, 99]) := by rw [q30, q29, e19]; simp [Day.Bk]
  have e47 : v47 = .l (x10.AL ++ Day.Bk [32, 105]) := by rw [q47, q46, e19]; simp [Day.Bk]
  have e66 : v66 = .l (x10.AL ++ Day.Bk [32, 45]) := by rw [q66, q65, e19]; simp [Day.Bk]
  have e85 : v85 = .l (x10.AL ++ Day.Bk [32, 63]) := by rw [q85, q84, e19]; simp [Day.Bk]
  have e39 : v39 = .l (x10.AL ++ Day.Bk (32 :: 99 :: Day.num v17)) := by rw [q39, e30]; simp [Day.TC, Day.Bk]
  have e56 : v56 = .l (x10.AL ++ Day.Bk (32 :: 105 :: Day.num v17)) := by rw [q56, e47]; simp [Day.TC, Day.Bk]
  have l20 : v20 = x0 + 1 := by rw [q20, e19, Nat.div_one, Day.AN, ← b1]; simp
  have l31 : v31 = x0 + 2 := by rw [q31, e30, Nat.div_one, Day.AN, ← b1]; simp
  have l48 : v48 = x0 + 2 := by rw [q48, e47, Nat.div_one, Day.AN, ← b1]; simp
  have l67 : v67 = x0 + 2 := by rw [q67, e66, Nat.div_one, Day.AN, ← b1]; simp
  have l86 : v86 = x0 + 2 := by rw [q86, e85, Nat.div_one, Day.AN, ← b1]; simp
  have fin : v94 = .l (x10.AL ++ Day.Bk (32 :: Day.CO v16 v17)) ∧ v92 = (v94.AL.length : Int) := by
   rw [Nat.div_one] at q20 q31 q41 q48 q58 q67 q86
   unfold Day.CO
   by_cases c1 : v16 = 1
   ·have g : v83 = false ∧ v25 = true := by simp [q83, q26, q25, c1]
    rw [q94, q92, q81, q79, g.1, g.2]
    simp only [Bool.false_eq_true, if_false, if_true, c1, e39, q41]
    refine ⟨?_, ?_⟩ <;> first | trivial | rfl
   ·by_cases c2 : v16 = 2
    ·have g : v83 = false ∧ v25 = false ∧ v42 = true := by simp [q83, q78, q43, q42, q25, c1, c2]
     rw [q94, q92, q81, q79, q76, q74, g.1, g.2.1, g.2.2]
     simp only [Bool.false_eq_true, if_false, if_true, c2, e56, q58]
     refine ⟨?_, ?_⟩ <;> first | trivial | rfl
    ·by_cases c3 : v16 = 0 ∧ v17 = 0
     ·have g : v83 = false ∧ v25 = false ∧ v42 = false := by simp [q83, q78, q73, q62, q61, q60, q59, q42, q25, c1, c2, c3]
      rw [q94, q92, q81, q79, q76, q74, g.1, g.2.1, g.2.2]
      simp only [Bool.false_eq_true, if_false, c1, c2, c3, e66, q67, and_self, if_true]
      refine ⟨?_, ?_⟩ <;> first | trivial | rfl
     ·have g : v83 = true := by
       have c4 : v61 = false := by
        rw [q61, q60, q59]
        by_cases d : v16 = 0
        ·have d2 : ¬ v17 = 0 := fun d2 => c3 ⟨d, d2⟩
         simp [d, d2]
        ·simp [d]
       simp [q83, q78, q73, q64, q62, c4, q45, q43, q42, q28, q26, q25, t11, c1, c2]
      rw [q94, q92, g]
      simp only [if_true, c1, c2, c3, if_false, e85, q86]
      refine ⟨?_, ?_⟩ <;> first | trivial | rfl
  obtain ⟨f1, f2⟩ := fin
  obtain ⟨s1, s2, s3⟩ := st ⟨v94, v92⟩ f1 f2
  have w : v96 = x8 + 1 := by rw [q96]; exact wrap64 (by omega) (by omega)
  have hm : (2 - (x8 + 1)).toNat < (2 - x8).toNat := by omega
  rw [w]
  refine ⟨⟨by rw [q90]; exact Day.CF (by rw [q89, q87, q88, l86]; simp; omega), by rw [q71]; exact Day.CF (by rw [q70, q68, q69, l67]; simp; omega), by rw [q57]; exact Day.CF (by rw [q55]; exact hi), by rw [q54]; exact Day.CF (by rw [q53, l48]; simp; omega), by rw [q52]; exact Day.CF (by rw [q51, q49, q50, l48]; simp; omega), by rw [q40]; exact Day.CF (by rw [q38]; exact hi), by rw [q37]; exact Day.CF (by rw [q36, l31]; simp; omega), by rw [q35]; exact Day.CF (by rw [q34, q32, q33, l31]; simp; omega), by rw [q24]; exact Day.CF (by rw [q23, q21, q22, l20]; simp; omega), by rw [q15]; exact Day.CF (by rw [q14, q13, t11]; simp; omega)⟩, fun _ => ⟨s1, ⟨s2, s3⟩, hm⟩, fun hh => ?_⟩
  rw [q98, q97, t11] at hh
  simp at hh
 ·obtain ⟨e1, e2, e3⟩ := Day.SC hp h
  have t11 : v11 = false := by rw [q11]; exact decide_eq_false h
  refine ⟨by simp [q90, q83, q78, q73, q64, q71, q63, q57, q54, q52, q45, q44, q40, q37, q35, q28, q27, q24, q15, t11], fun hh => ?_, fun _ => ⟨e1.symm, e2.symm⟩⟩
  rw [t11] at hh
  cases hh
theorem PK (as : List A) (e : Nat → A) (h1 : as = (List.range 11).map e) (h2 : (F9 as).1 = true) (H : AH T e Io.defs) : Ew e Io.obs ∧
   (∀ pc ls, some (V 11, [V 92, V 1, V 2, V 3, V 4, V 5, V 6, V 7, V 96, V 9, V 94]) = some (pc, ls) → (pc.ev e).bool = true → (F9 (ls.map (L.ev e))).1 = true ∧ (F9 (ls.map (L.ev e))).2 = (F9 as).2 ∧ PJ (ls.map (L.ev e)) < PJ as) ∧
   ∀ x ∈ ([(V 98, [some (V 0), some (V 10)])] : List (L × List (Option L))), (x.1.ev e).bool = true → ∀ (j : Nat) l, x.2[j]? = some (some l) → FG (Eg.tags.getD j .any) (l.ev e) ((F9 as).2.getD j (.i 0)) := by
 subst h1
 obtain ⟨ho, h⟩ := OO e H _ rfl _ rfl h2
 refine ⟨⟨ho.1, ho.2.1, ho.2.2.1, ho.2.2.2.1, ho.2.2.2.2.1, ho.2.2.2.2.2.1, ho.2.2.2.2.2.2.1, ho.2.2.2.2.2.2.2.1, ho.2.2.2.2.2.2.2.2.1, ho.2.2.2.2.2.2.2.2.2, trivial⟩, fun pc ls hb hpc => ?_, ?_⟩
 ·injection hb with hb
  injection hb with h3 h4
  subst h3 h4
  have h := h.1 hpc
  refine ⟨h.1, ?_, h.2.2⟩
  have h5 := h.2.1
  obtain ⟨z0, z1⟩ := h5
  exact (KY z0 (OH z1 rfl))
 ·intro x hx hpc j l hj
  simp only [List.mem_cons, List.not_mem_nil, or_false] at hx
  rcases hx with rfl
  ·have h := h.2 hpc
   obtain ⟨z0, z1⟩ := h
   match j, hj with
   | 0, hj => cases hj; exact z0
   | 1, hj => cases hj; exact z1
   | _ + 2, hj => cases hj
def Fs : Lp := ⟨16, [false, true, false, true, true, true], 1031, 11, 2, 5, ⟨Q9 40 [(0, .pv (.one (.k (.lsl 5 (V 0))))), (1, .pv (.agg [.k (.int .i64 (V 1)), .k (.int .i64 (V 2)), .k (.int .i64 (V 3)), .k (.int .i64 (V 4)), .k (.int .i64 (V 5)), .k (.fsl 0 (V 6))])), (3, .pv (.one (.k (.ptr 2 0)))), (4, .pv (.one (.k (.nilslc)))), (9, .pv (.one (.k (.nilslc)))), (10, .pv (.one (.k (.ptr 2 0)))), (11, .pv (.one (.k (.int .i64 (V 1))))), (12, .pv (.one (.k (.lsl 3 (V 7))))), (13, .pv (.one (.k (.ptr 2 1)))), (24, .pv (.one (.k (.ptr 2 5)))), (25, .pv (.one (.k (.fsl 0 (V 6))))), (26, .pv (.one (.k (.int .i64 (V 6))))), (27, .pv (.one (.k (.int .i64 (V 8)))))], [⟨false, 0, 0, [], some ⟨false, 0, [.int .i64, .int .i64, .int .i64, .int .i64], V 9, V 6⟩⟩, ⟨true, 31, 6, [.k (.int .i64 (V 1)), .k (.int .i64 (V 2)), .k (.int .i64 (V 3)), .k (.int .i64 (V 4)), .k (.int .i64 (V 5)), .k (.fsl 0 (V 6))], none⟩, ⟨true, 31, 6, [.k (.int .i64 (V 1)), .k (.int .i64 (V 2)), .k (.int .i64 (V 3)), .k (.int .i64 (V 4)), .k (.int .i64 (V 5)), .k (.fsl 0 (V 6))], none⟩, .dead, .dead, ⟨false, 0, 0, [], some ⟨true, 5, [.int .u8], V 10, V 0⟩⟩], B true⟩, [(.exit 2, ⟨Q9 40 [(0, .pv (.one (.k (.lsl 5 (V 11))))), (1, .pv (.agg [.k (.int .i64 (V 1)), .k (.int .i64 (V 2)), .k (.int .i64 (V 3)), .k (.int .i64 (V 4)), .k (.int .i64 (V 5)), .k (.fsl 0 (V 6))])), (3, .pv (.one (.k (.ptr 2 0)))), (4, .pv (.one (.k (.nilslc)))), (9, .pv (.one (.k (.nilslc)))), (10, .pv (.one (.k (.ptr 2 0)))), (11, .pv (.one (.k (.int .i64 (V 1))))), (12, .pv (.one (.k (.lsl 3 (V 7))))), (13, .pv (.one (.k (.ptr 2 1)))), (24, .pv (.one (.k (.ptr 2 5)))), (25, .pv (.one (.k (.fsl 0 (V 6)))))], [⟨false, 0, 0, [], some ⟨false, 0, [.int .i64, .int .i64, .int .i64, .int .i64], V 9, V 6⟩⟩, ⟨true, 31, 6, [.k (.int .i64 (V 1)), .k (.int .i64 (V 2)), .k (.int .i64 (V 3)), .k (.int .i64 (V 4)), .k (.int .i64 (V 5)), .k (.fsl 0 (V 6))], none⟩, ⟨true, 31, 6, [.k (.int .i64 (V 1)), .k (.int .i64 (V 2)), .k (.int .i64 (V 3)), .k (.int .i64 (V 4)), .k (.int .i64 (V 5)), .k (.fsl 0 (V 6))], none⟩, .dead, .dead, ⟨false, 0, 0, [], some ⟨true, 5, [.int .u8], V 12, V 11⟩⟩], B true⟩)], [false, true, true, true, true, true, true, true, false, true, false], [.i, .any]⟩
def Ip : G := ⟨89, [⟨88, .and, [V 87, V 12]⟩, ⟨87, .not, [V 11]⟩, ⟨86, (.ar .add .i64), [V 8, N 1]⟩, ⟨85, .iteB, [V 45, V 80, V 44]⟩, ⟨84, .iteA, [V 45, V 79, V 41]⟩, ⟨83, .iteI, [V 45, V 78, N 97]⟩, ⟨82, .iteI, [V 45, V 77, V 43]⟩, ⟨81, .not, [V 45]⟩, ⟨80, .iteB, [V 62, V 62, V 61]⟩, ⟨79, .iteA, [V 62, V 70, V 55]⟩, ⟨78, .iteI, [V 62, V 68, N 63]⟩, ⟨77, .iteI, [V 62, V 71, V 56]⟩, ⟨76, .not, [V 62]⟩, ⟨75, .imp, [V 62, V 74]⟩, ⟨74, .and, [V 72, V 73]⟩, ⟨73, (.cmp .lss), [V 71, N 1000001]⟩, ⟨72, (.cmp .leq), [N 0, V 71]⟩, ⟨71, (.lln 1), [V 70]⟩, ⟨70, .cat, [V 21, V 69]⟩, ⟨69, .mkl, [V 68]⟩, ⟨68, .sget, [.s [111, 108, 99], V 17]⟩, ⟨67, .imp, [V 62, V 66]⟩, ⟨66, .and, [V 64, V 65]⟩, ⟨65, (.cmp .lss), [V 17, V 63]⟩, ⟨64, (.cmp .leq), [N 0, V 17]⟩, ⟨63, .slen, [.s [111, 108, 99]]⟩, ⟨62, .and, [V 51, V 53]⟩, ⟨61, .and, [V 50, V 52]⟩, ⟨60, .imp, [V 52, V 59]⟩, ⟨59, .and, [V 57, V 58]⟩, ⟨58, (.cmp .lss), [V 56, N 1000001]⟩, ⟨57, (.cmp .leq), [N 0, V 56]⟩, ⟨56, (.lln 1), [V 55]⟩, ⟨55, .cat, [V 21, V 54]⟩, ⟨54, .mkl, [N 63]⟩, ⟨53, .and, [V 45, V 51]⟩, ⟨52, .and, [V 45, V 50]⟩, ⟨51, .not, [V 50]⟩, ⟨50, .iteB, [V 46, B true, V 49]⟩, ⟨49, (.cmp .gtr), [V 17, N 2]⟩, ⟨48, .and, [V 45, V 47]⟩, ⟨47, .not, [V 46]⟩, ⟨46, (.cmp .lss), [V 17, N 0]⟩, ⟨45, .and, [V 28, V 30]⟩, ⟨44, .and, [V 27, V 29]⟩, ⟨43, (.lln 1), [V 41]⟩, ⟨42, .imp, [V 29, V 40]⟩, ⟨40, (.call 20), [V 32, V 33, V 19]⟩, ⟨39, .imp, [V 29, V 38]⟩, ⟨38, (.cmp .leq), [V 33, N 1000000]⟩, ⟨37, .imp, [V 29, V 36]⟩, ⟨36, .and, [V 34, V 35]⟩, ⟨35, (.cmp .lss), [V 33, N 1000001]⟩, ⟨34, (.cmp .leq), [N 0, V 33]⟩, ⟨33, (.lln 1), [V 32]⟩, ⟨32, .cat, [V 21, V 31]⟩, ⟨31, .mkl, [N 97]⟩, ⟨30, .and, [V 11, V 28]⟩, ⟨29, .and, [V 11, V 27]⟩, ⟨28, .not, [V 27]⟩, ⟨27, (.cmp .eql), [V 17, N 3]⟩, ⟨26, .imp, [V 11, V 25]⟩, ⟨25, .and, [V 23, V 24]⟩, ⟨24, (.cmp .lss), [V 22, N 1000001]⟩, ⟨23, (.cmp .leq), [N 0, V 22]⟩, ⟨22, (.lln 1), [V 21]⟩, ⟨21, .cat, [V 10, V 20]⟩, ⟨20, .mkl, [N 32]⟩, ⟨19, (.pix 3 4), [V 9, V 8]⟩, ⟨18, (.pix 2 4), [V 9, V 8]⟩, ⟨17, (.pix 1 4), [V 9, V 8]⟩, ⟨16, (.pix 0 4), [V 9, V 8]⟩, ⟨15, .imp, [V 11, V 14]⟩, ⟨14, .and, [V 13, V 11]⟩, ⟨13, (.cmp .leq), [N 0, V 8]⟩, ⟨12, .not, [V 11]⟩, ⟨11, (.cmp .lss), [V 8, V 6]⟩], [V 75, V 67, V 60, V 42, V 39, V 37, V 26, V 15], []⟩
def PL (al : List A) : Nat := (Day.Lk.n (Day.Lk.mk (gi al 1) (gi al 2) (gi al 3) (gi al 4) (gi al 5) (ge al 9) (gi al 6)) - (gi al 8)).toNat
theorem OP (e : Nat → A) (H : AH T e Ip.defs) : ∀ z0, z0 = (Day.Lk.mk (e 1).int (e 2).int (e 3).int (e 4).int (e 5).int (e 9) (e 6).int) → ∀ y0, y0 = (Day.Lk.mk (e 1).int (e 2).int (e 3).int (e 4).int (e 5).int (e 9) (e 6).int) → (Day.nP (Day.L1.mk (e 10) (e 0).int) z0 (e 8).int) = true →
  ((e 75).bool = true ∧ (e 67).bool = true ∧ (e 60).bool = true ∧ (e 42).bool = true ∧ (e 39).bool = true ∧ (e 37).bool = true ∧ (e 26).bool = true ∧ (e 15).bool = true) ∧ ((e 11).bool = true → (Day.nP (Day.L1.mk (e 84) (e 82).int) y0 (e 86).int) = true ∧ (Day.nN (Day.L1.mk (e 84) (e 82).int) y0 (e 86).int = Day.nN (Day.L1.mk (e 10) (e 0).int) z0 (e 8).int ∧ Day.nX (Day.L1.mk (e 84) (e 82).int) y0 (e 86).int = Day.nX (Day.L1.mk (e 10) (e 0).int) z0 (e 8).int) ∧ (Day.Lk.n y0 - (e 86).int).toNat < (Day.Lk.n z0 - (e 8).int).toNat) ∧ ((e 88).bool = true → (e 0).int = Day.nN (Day.L1.mk (e 10) (e 0).int) z0 (e 8).int ∧ (e 10) = Day.nX (Day.L1.mk (e 10) (e 0).int) z0 (e 8).int) := by
 intro z0 hz0 y0 hy0 hp
 subst hz0 hy0
 simp only [Ip, AH, Def.q, HF, L.Aw, L.By, L.Db, L.Dp, L.ev, A.AI, A.AX, A.B0, A.Fv, List.map_cons, List.map_nil, Nat.zero_add, Nat.add_zero, and_true, true_and, Nat.reduceAdd, Nat.one_mul] at H
 simp only [LL, MJ, K8, CX, NJ, OB, Jx, Q8, and_true, true_and] at H
 obtain ⟨q88, q87, ⟨q86, -⟩, q85, q84, ⟨q83, -⟩, ⟨q82, -⟩, q81, q80, q79, ⟨q78, -⟩, ⟨q77, -⟩, q76, q75, q74, q73, q72, q71, q70, q69, ⟨q68, k68⟩, q67, q66, q65, q64, q63, q62, q61, q60, q59, q58, q57, q56, q55, q54, q53, q52, q51, q50, q49, q48, q47, q46, q45, q44, q43, q42, q40, q39, q38, q37, q36, q35, q34, q33, q32, q31, q30, q29, q28, q27, q26, q25, q24, q23, q22, q21, q20, q19, q18, q17, q16, q15, q14, q13, q12, q11⟩ := H
 replace q40 := AW q40
 obtain ⟨q40, q41⟩ := q40
 unfold Tf at k68
 simp only [L.Aw, L.By, L.Db, L.Dp, L.ev, A.AI, A.AX, A.B0] at q40 q41
 generalize (e 0).int = x0, (e 1).int = x1, (e 2).int = x2, (e 3).int = x3, (e 4).int = x4, (e 5).int = x5, (e 6).int = x6, (e 7).int = x7, (e 8).int = x8, e 9 = x9, e 10 = x10, (e 11).bool = v11, (e 12).bool = v12, (e 13).bool = v13, (e 14).bool = v14, (e 15).bool = v15, e 20 = v20, e 21 = v21, (e 22).int = v22, (e 23).bool = v23, (e 24).bool = v24, (e 25).bool = v25, (e 26).bool = v26, (e 27).bool = v27, (e 28).bool = v28, (e 29).bool = v29, (e 30).bool = v30, e 31 = v31, e 32 = v32, (e 33).int = v33, (e 34).bool = v34, (e 35).bool = v35, (e 36).bool = v36, (e 37).bool = v37, (e 38).bool = v38, (e 39).bool = v39, (e 40).bool = v40, e 41 = v41, (e 42).bool = v42, (e 43).int = v43, (e 44).bool = v44, (e 45).bool = v45, (e 46).bool = v46, (e 47).bool = v47, (e 48).bool = v48, (e 49).bool = v49, (e 50).bool = v50, (e 51).bool = v51, (e 52).bool = v52, (e 53).bool = v53, e 54 = v54, e 55 = v55, (e 56).int = v56, (e 57).bool = v57, (e 58).bool = v58, (e 59).bool = v59, (e 60).bool = v60, (e 61).bool = v61, (e 62).bool = v62, (e 63).int = v63, (e 64).bool = v64, (e 65).bool = v65, (e 66).bool = v66, (e 67).bool = v67, (e 68).int = v68, e 69 = v69, e 70 = v70, (e 71).int = v71, (e 72).bool = v72, (e 73).bool = v73, (e 74).bool = v74, (e 75).bool = v75, (e 76).bool = v76, (e 77).int = v77, (e 78).int = v78, e 79 = v79, (e 80).bool = v80, (e 81).bool = v81, (e 82).int = v82, (e 83).int = v83, e 84 = v84, (e 85).bool = v85, (e 86).int = v86, (e 87).bool = v87, (e 88).bool = v88 at *
 rw [k68] at q69
 replace q17 := congrArg A.int q17
 generalize (e 17).int = v17 at *
 replace q19 := congrArg A.int q19
 generalize (e 19).int = v19 at *
 by_cases h : x8 < x6
 ·obtain ⟨hi, b1, b2, b3, b4, st⟩ := Day.Qw hp h q17 q19
  have b1 : (x10.AL.length : Int) = x0 := b1
  have b2 : x0 ≤ 899977 := b2
  have t11 : v11 = true := by rw [q11]; exact decide_eq_true h
  have e21 : v21 = .l (x10.AL ++ Day.Bk [32]) := by rw [q21, q20]; rfl
  have e32 : v32 = .l (x10.AL ++ Day.Bk [32, 97]) := by rw [q32, q31, e21]; simp [Day.Bk]
  have e55 : v55 = .l (x10.AL ++ Day.Bk [32, 63]) := by rw [q55, q54, e21]; simp [Day.Bk]
  have e70 : v70 = .l (x10.AL ++ Day.Bk [32, v68]) := by rw [q70, q69, e21]; simp [Day.Bk]
  have e41 : v41 = .l (x10.AL ++ Day.Bk (32 :: 97 :: Day.num v19)) := by rw [q41, e32]; simp [Day.TC, Day.Bk]
  have l22 : v22 = x0 + 1 := by rw [q22, e21, Nat.div_one, Day.AN, ← b1]; simp
  have l33 : v33 = x0 + 2 := by rw [q33, e32, Nat.div_one, Day.AN, ← b1]; simp
  have l56 : v56 = x0 + 2 := by rw [q56, e55, Nat.div_one, Day.AN, ← b1]; simp
  have l71 : v71 = x0 + 2 := by rw [q71, e70, Nat.div_one, Day.AN, ← b1]; simp
  have l63 : v63 = 3 := by rw [q63]; rfl
  have fin : v84 = .l (x10.AL ++ Day.Bk (32 :: Day.Dk v17 v19)) ∧ v82 = (v84.AL.length : Int) := by
   rw [Nat.div_one] at q22 q33 q43 q56 q71
   unfold Day.Dk
   by_cases c1 : v17 = 3
   ·have g : v45 = false := by simp [q45, q28, q27, c1]
    rw [q84, q82, g]
    simp only [Bool.false_eq_true, if_false, if_true, c1, e41, q43]
    refine ⟨?_, ?_⟩ <;> first | trivial | rfl
   ·have g : v45 = true := by simp [q45, q30, q28, q27, t11, c1]
    by_cases c2 : v17 < 0 ∨ v17 > 2
    ·have g2 : v62 = false := by
      have : v50 = true := by
       rw [q50, q46, q49]
       rcases c2 with c2 | c2 <;> simp [c2]
      simp [q62, q51, this]
     have d0 : ¬ v17 = 0 := by omega
     have d1 : ¬ v17 = 1 := by omega
     have d2 : ¬ v17 = 2 := by omega
     rw [q84, q82, q79, q77, g, g2]
     simp only [Bool.false_eq_true, if_false, if_true, c1, d0, d1, d2, e55, q56]
     refine ⟨?_, ?_⟩ <;> first | trivial | rfl
    ·have g2 : v62 = true := by
      have : v50 = false := by
       rw [q50, q46, q49]
       have a1 : ¬ v17 < 0 := by omega
       have a2 : ¬ v17 > 2 := by omega
       simp [a1, a2]
      simp [q62, q53, q51, g, this]
     rw [q84, q82, q79, q77, g, g2]
     simp only [if_true, e70, q71]
     refine ⟨?_, trivial⟩
     rcases (show v17 = 0 ∨ v17 = 1 ∨ v17 = 2 by omega) with c3 | c3 | c3 <;> rw [q68, c3] <;> rfl
  obtain ⟨f1, f2⟩ := fin
  obtain ⟨s1, s2, s3, hm⟩ := st ⟨v84, v82⟩ f1 f2
  have w : v86 = x8 + 1 := by rw [q86]; exact wrap64 (by omega) (by omega)
  rw [w]
  refine ⟨⟨by rw [q75]; exact Day.CF (by rw [q74, q72, q73, l71]; simp; omega), ?_, by rw [q60]; exact Day.CF (by rw [q59, q57, q58, l56]; simp; omega), by rw [q42]; exact Day.CF (by rw [q40]; exact hi), by rw [q39]; exact Day.CF (by rw [q38, l33]; simp; omega), by rw [q37]; exact Day.CF (by rw [q36, q34, q35, l33]; simp; omega), by rw [q26]; exact Day.CF (by rw [q25, q23, q24, l22]; simp; omega), by rw [q15]; exact Day.CF (by rw [q14, q13, t11]; simp; omega)⟩, fun _ => ⟨s1, ⟨s2, s3⟩, hm⟩, fun hh => ?_⟩
  ·rw [q67]
   cases g2 : v62 with
   | false => simp
   | true =>
    have c2 : v50 = false := by
     rw [q62, q51] at g2
     cases hv : v50 with
     | false => rfl
     | true => rw [hv] at g2; simp at g2
    have c3 : ¬ v17 < 0 := by
     intro hlt
     rw [q50, q46] at c2
     simp [hlt] at c2
    have c4 : ¬ v17 > 2 := by
     intro hlt
     rw [q50, q46, q49] at c2
     simp [hlt] at c2
    rw [q66, q64, q65, l63]
    simp
    omega
  ·rw [q88, q87, t11] at hh
   simp at hh
 ·obtain ⟨e1, e2, e3⟩ := Day.SD hp h
  have t11 : v11 = false := by rw [q11]; exact decide_eq_false h
  refine ⟨by simp [q75, q67, q62, q53, q60, q52, q45, q42, q39, q37, q29, q30, q26, q15, t11], fun hh => ?_, fun _ => ⟨e1.symm, e2.symm⟩⟩
  rw [t11] at hh
  cases hh
theorem PM (as : List A) (e : Nat → A) (h1 : as = (List.range 11).map e) (h2 : (Ga as).1 = true) (H : AH T e Ip.defs) : Ew e Ip.obs ∧
   (∀ pc ls, some (V 11, [V 82, V 1, V 2, V 3, V 4, V 5, V 6, V 7, V 86, V 9, V 84]) = some (pc, ls) → (pc.ev e).bool = true → (Ga (ls.map (L.ev e))).1 = true ∧ (Ga (ls.map (L.ev e))).2 = (Ga as).2 ∧ PL (ls.map (L.ev e)) < PL as) ∧
   ∀ x ∈ ([(V 88, [some (V 0), some (V 10)])] : List (L × List (Option L))), (x.1.ev e).bool = true → ∀ (j : Nat) l, x.2[j]? = some (some l) → FG (Fs.tags.getD j .any) (l.ev e) ((Ga as).2.getD j (.i 0)) := by
 subst h1
 obtain ⟨ho, h⟩ := OP e H _ rfl _ rfl h2
 refine ⟨⟨ho.1, ho.2.1, ho.2.2.1, ho.2.2.2.1, ho.2.2.2.2.1, ho.2.2.2.2.2.1, ho.2.2.2.2.2.2.1, ho.2.2.2.2.2.2.2, trivial⟩, fun pc ls hb hpc => ?_, ?_⟩
 ·injection hb with hb
  injection hb with h3 h4
  subst h3 h4
  have h := h.1 hpc
  refine ⟨h.1, ?_, h.2.2⟩
  have h5 := h.2.1
  obtain ⟨z0, z1⟩ := h5
  exact (KY z0 (OH z1 rfl))
 ·intro x hx hpc j l hj
  simp only [List.mem_cons, List.not_mem_nil, or_false] at hx
  rcases hx with rfl
  ·have h := h.2 hpc
   obtain ⟨z0, z1⟩ := h
   match j, hj with
   | 0, hj => cases hj; exact z0
   | 1, hj => cases hj; exact z1
   | _ + 2, hj => cases hj
def Gm : G := ⟨23, [⟨22, .mks, [V 17]⟩, ⟨21, .and, [V 19, V 20]⟩, ⟨20, (.cmp .lss), [V 18, N 1000001]⟩, ⟨19, (.cmp .leq), [N 0, V 18]⟩, ⟨18, (.lln 1), [V 17]⟩, ⟨17, .cat, [V 15, V 16]⟩, ⟨16, .mkl, [N 10]⟩, ⟨13, (.call 1031), [V 11, V 0, V 1, V 2, V 3, V 4, V 6, V 9, N 0, V 5, V 12]⟩, ⟨10, (.call 1030), [V 9, V 0, V 1, V 2, V 3, V 4, V 6, V 9, N 0, V 5, V 8]⟩, ⟨9, (.lln 1), [V 8]⟩, ⟨7, (.call 20), [.e, N 0, V 0]⟩], [V 21, V 13, V 10, V 7], []⟩
theorem K6 (e : Nat → A) (H : AH T e Gm.defs) : ∀ z0, z0 = (Day.Lk.mk (e 0).int (e 1).int (e 2).int (e 3).int (e 4).int (e 5) (e 6).int) → (Day.Lk.ok z0) = true →
  ((e 21).bool = true ∧ (e 13).bool = true ∧ (e 10).bool = true ∧ (e 7).bool = true) ∧ (Day.OG z0 = (e 22).str) := by
 intro z0 hz0 hp
 subst hz0
 simp only [Gm, AH, Def.q, HF, L.Aw, L.By, L.Db, L.Dp, L.ev, A.AI, A.AX, A.B0, A.Fv, List.map_cons, List.map_nil, Nat.zero_add, Nat.add_zero, and_true, true_and, Nat.reduceAdd, Nat.one_mul] at H
 simp only [LL, MJ, K8, CX, NJ, OB, Jx, Q8, and_true, true_and] at H
 obtain ⟨q22, q21, q20, q19, q18, q17, q16, q13, q10, q9, q7⟩ := H
 replace q13 := Rg q13 _ rfl
 obtain ⟨q13, q14, q15⟩ := q13
 replace q10 := Rf q10 _ rfl
 obtain ⟨q10, q11, q12⟩ := q10
 replace q7 := AW q7
 obtain ⟨q7, q8⟩ := q7
 simp only [L.Aw, L.By, L.Db, L.Dp, L.ev, A.AI, A.AX, A.B0] at q13 q14 q15 q10 q11 q12 q7 q8
 generalize (e 0).int = x0, (e 1).int = x1, (e 2).int = x2, (e 3).int = x3, (e 4).int = x4, e 5 = x5, (e 6).int = x6, (e 7).bool = v7, e 8 = v8, (e 9).int = v9, (e 10).bool = v10, (e 11).int = v11, e 12 = v12, (e 13).bool = v13, (e 14).int = v14, e 15 = v15, e 16 = v16, e 17 = v17, (e 18).int = v18, (e 19).bool = v19, (e 20).bool = v20, (e 21).bool = v21, (e 22).str = v22 at *
 obtain ⟨m1, m2, m3, m4, m5⟩ := Day.MD hp (pre := []) (by simp) (b := ⟨v8, v9⟩) (by show v8 = _; rw [q8]; rfl) (by show v9 = _; rw [q9, Nat.div_one])
 have m1 : Day.i64 x0 = true := m1
 rw [← q11, ← q12] at m3 m4
 rw [← q15] at m4
 rw [List.nil_append] at m4
 have e17 : v17 = .l (Day.Bk (Day.DU ⟨x0, x1, x2, x3, x4, x5, x6⟩)) := by
  rw [q17, q16, m4]
  simp [Day.DU, Day.Bk]
 have l18 : v18 = ((Day.Ig ⟨x0, x1, x2, x3, x4, x5, x6⟩).length + 1 : Nat) := by
  rw [q18, e17, Nat.div_one, Day.Ii, Day.NG]
  simp [Day.DU]
 refine ⟨⟨?_, by rw [q13]; exact m3, by rw [q10]; exact m2, by rw [q7]; exact m1⟩, ?_⟩
 ·simp only [List.length_nil] at m5
  rw [q21, q19, q20, l18]
  simp
  omega
 ·rw [q22, e17, Day.Ii, Day.NH]
  rfl
end Rx.S
