import Derived.Test.YtmpinegdphkbjaaDoorTXc
import Derived.Test.YtmpinegdphkbjaaDoorTXt
set_option linter.unusedVariables false
set_option linter.unusedSimpArgs false
namespace Rx.S
open Go Rx
set_option maxRecDepth 100000
set_option maxHeartbeats 1000000
def F6 : Lp := ⟨5, [false, true, false, true, true], 1120, 11, 2, 3, ⟨ML 51 [(0, .pv (.agg [.k (.int .i64 (V 0)), .k (.int .i64 (V 1))])), (1, .pv (.agg [.k (.int .i64 (V 2)), .k (.int .i64 (V 3)), .k (.int .i64 (V 4)), .k (.int .i64 (V 5))])), (2, .pv (.one (.k (.fsl 0 (V 6))))), (3, .pv (.one (.k (.ptr 1 0)))), (4, .pv (.one (.k (.ptr 2 0)))), (6, .pv (.one (.k (.bool (B false))))), (7, .pv (.one (.k (.int .i64 (V 7))))), (8, .pv (.one (.k (.fsl 0 (V 6))))), (9, .pv (.one (.k (.bool (V 8))))), (10, .pv (.one (.k (.bool (V 9)))))], [⟨false, 0, 0, [], some ⟨false, 0, [.int .i64, .int .i64, .int .i64, .int .i64, .int .i64, .sl [.int .i64, .int .i64, .int .i64, .int .i64]], V 10, V 6⟩⟩, ⟨true, 27, 2, [.k (.int .i64 (V 0)), .k (.int .i64 (V 1))], none⟩, ⟨true, 34, 4, [.k (.int .i64 (V 2)), .k (.int .i64 (V 3)), .k (.int .i64 (V 4)), .k (.int .i64 (V 5))], none⟩], B true⟩, [(.ret, ⟨ML 51 [(0, .pv (.agg [.k (.int .i64 (V 0)), .k (.int .i64 (V 1))])), (1, .pv (.agg [.k (.int .i64 (V 2)), .k (.int .i64 (V 3)), .k (.int .i64 (V 4)), .k (.int .i64 (V 5))])), (2, .pv (.one (.k (.fsl 0 (V 6))))), (3, .pv (.one (.k (.ptr 1 0)))), (4, .pv (.one (.k (.ptr 2 0)))), (6, .pv (.one (.k (.bool (B false))))), (8, .pv (.one (.k (.fsl 0 (V 6))))), (9, .pv (.one (.k (.bool (V 8))))), (10, .pv (.one (.k (.bool (V 9)))))], [⟨false, 0, 0, [], some ⟨false, 0, [.int .i64, .int .i64, .int .i64, .int .i64, .int .i64, .sl [.int .i64, .int .i64, .int .i64, .int .i64]], V 10, V 6⟩⟩, ⟨true, 27, 2, [.k (.int .i64 (V 0)), .k (.int .i64 (V 1))], none⟩, ⟨true, 34, 4, [.k (.int .i64 (V 2)), .k (.int .i64 (V 3)), .k (.int .i64 (V 4)), .k (.int .i64 (V 5))], none⟩], V 11⟩), (.exit 0, ⟨ML 51 [(0, .pv (.agg [.k (.int .i64 (V 0)), .k (.int .i64 (V 1))])), (1, .pv (.agg [.k (.int .i64 (V 2)), .k (.int .i64 (V 3)), .k (.int .i64 (V 4)), .k (.int .i64 (V 5))])), (2, .pv (.one (.k (.fsl 0 (V 6))))), (3, .pv (.one (.k (.ptr 1 0)))), (4, .pv (.one (.k (.ptr 2 0)))), (6, .pv (.one (.k (.bool (B false))))), (8, .pv (.one (.k (.fsl 0 (V 6))))), (9, .pv (.one (.k (.bool (V 8))))), (10, .pv (.one (.k (.bool (V 9)))))], [⟨false, 0, 0, [], some ⟨false, 0, [.int .i64, .int .i64, .int .i64, .int .i64, .int .i64, .sl [.int .i64, .int .i64, .int .i64, .int .i64]], V 10, V 6⟩⟩, ⟨true, 27, 2, [.k (.int .i64 (V 0)), .k (.int .i64 (V 1))], none⟩, ⟨true, 34, 4, [.k (.int .i64 (V 2)), .k (.int .i64 (V 3)), .k (.int .i64 (V 4)), .k (.int .i64 (V 5))], none⟩], V 12⟩)], [true, true, true, true, true, true, true, false, true, true, true], [.b, .b]⟩
def Jo : G := ⟨41, [⟨40, .and, [V 11, V 38]⟩, ⟨39, .and, [V 11, V 35]⟩, ⟨38, .and, [V 37, V 34]⟩, ⟨37, .not, [V 35]⟩, ⟨36, (.ar .add .i64), [V 7, N 1]⟩, ⟨35, .and, [V 31, V 33]⟩, ⟨34, .and, [V 30, V 32]⟩, ⟨33, .and, [V 11, V 31]⟩, ⟨32, .and, [V 11, V 30]⟩, ⟨31, .not, [V 30]⟩, ⟨30, .not, [V 29]⟩, ⟨29, .eqS, [V 24, V 27]⟩, ⟨28, .imp, [V 11, V 26]⟩, ⟨26, (.call 10), [V 16, V 17, V 18, V 19, V 20, V 21, V 22]⟩, ⟨25, .imp, [V 11, V 23]⟩, ⟨23, (.call 9), [V 16, V 17, V 18, V 19, V 20, V 21, V 22]⟩, ⟨22, (.lln 4), [V 21]⟩, ⟨21, (.pix 5 6), [V 10, V 7]⟩, ⟨20, (.pix 4 6), [V 10, V 7]⟩, ⟨19, (.pix 3 6), [V 10, V 7]⟩, ⟨18, (.pix 2 6), [V 10, V 7]⟩, ⟨17, (.pix 1 6), [V 10, V 7]⟩, ⟨16, (.pix 0 6), [V 10, V 7]⟩, ⟨15, .imp, [V 11, V 14]⟩, ⟨14, .and, [V 13, V 11]⟩, ⟨13, (.cmp .leq), [N 0, V 7]⟩, ⟨12, .not, [V 11]⟩, ⟨11, (.cmp .lss), [V 7, V 6]⟩], [V 28, V 25, V 15], []⟩
def QU (al : List A) : Nat := (Day.L1.n (Day.L1.mk (ge al 10) (gi al 6)) - (gi al 7)).toNat
theorem PY (e : Nat → A) (H : Am T e Jo.defs) (hp : (Day.O0 (Day.L1.mk (e 10) (e 6).int) (e 7).int) = true) :
  ((e 28).bool = true ∧ (e 25).bool = true ∧ (e 15).bool = true) ∧ ((e 39).bool = true → (Day.O0 (Day.L1.mk (e 10) (e 6).int) (e 36).int) = true ∧ (false = false ∧ true = true) ∧ (Day.L1.n (Day.L1.mk (e 10) (e 6).int) - (e 36).int).toNat < (Day.L1.n (Day.L1.mk (e 10) (e 6).int) - (e 7).int).toNat) ∧ ((e 40).bool = true → true = false) ∧ ((e 12).bool = true → true = true) := by
 simp only [Jo, Am, Def.q, DP, L.Al, L.AM, L.Bq, L.Bw, L.ev, A.Ap, A.Ay, A.AR, A.Cb, List.map_cons, List.map_nil, Nat.zero_add, Nat.add_zero, and_true, true_and, Nat.reduceAdd, Nat.one_mul] at H
 simp only [IL, JE, Ic, B7, Ks, KI, E7, MK, and_true, true_and] at H
 obtain ⟨q40, q39, q38, q37, ⟨q36, -⟩, q35, q34, q33, q32, q31, q30, q29, q28, q26, q25, q23, q22, q21, q20, q19, q18, q17, q16, q15, q14, q13, q12, q11⟩ := H
 replace q26 := G6 q26 _ rfl
 obtain ⟨q26, q27⟩ := q26
 replace q23 := H5 q23 _ rfl
 obtain ⟨q23, q24⟩ := q23
 simp only [L.Al, L.AM, L.Bq, L.Bw, L.ev, A.Ap, A.Ay, A.AR] at q26 q27 q23 q24
 generalize (e 0).int = x0, (e 1).int = x1, (e 2).int = x2, (e 3).int = x3, (e 4).int = x4, (e 5).int = x5, (e 6).int = x6, (e 7).int = x7, (e 8).int = x8, (e 9).int = x9, e 10 = x10, (e 11).bool = v11, (e 12).bool = v12, (e 13).bool = v13, (e 14).bool = v14, (e 15).bool = v15, (e 22).int = v22, (e 23).bool = v23, (e 24).str = v24, (e 25).bool = v25, (e 26).bool = v26, (e 27).str = v27, (e 28).bool = v28, (e 29).bool = v29, (e 30).bool = v30, (e 31).bool = v31, (e 32).bool = v32, (e 33).bool = v33, (e 34).bool = v34, (e 35).bool = v35, (e 36).int = v36, (e 37).bool = v37, (e 38).bool = v38, (e 39).bool = v39, (e 40).bool = v40 at *
 replace q16 := congrArg A.int q16
 generalize (e 16).int = v16 at *
 replace q17 := congrArg A.int q17
 generalize (e 17).int = v17 at *
 replace q18 := congrArg A.int q18
 generalize (e 18).int = v18 at *
 replace q19 := congrArg A.int q19
 generalize (e 19).int = v19 at *
 replace q20 := congrArg A.int q20
 generalize (e 20).int = v20, e 21 = v21 at *
 by_cases h : x7 < x6
 ·obtain ⟨hk, s2, hm, b1, b2⟩ := Day.T8 hp h
  have hlk : Day.Dp x10 x7 = ⟨v16, v17, v18, v19, v20, v21, v22⟩ := by
   rw [q16, q17, q18, q19, q20, q22, q21]
   rfl
  have hk : Day.Lk.ok (Day.Dp x10 x7) = true := hk
  rw [hlk] at hk
  have w : v36 = x7 + 1 := by rw [q36]; exact wrap64 (by omega) (by omega)
  have hm : (x6 - (x7 + 1)).toNat < (x6 - x7).toNat := hm
  have t11 : v11 = true := by rw [q11]; exact decide_eq_true h
  have t29 : v29 = true := by rw [q29, q24, q27]; exact Day.Jn _
  rw [w]
  refine ⟨⟨by rw [q28]; exact Day.BR (by rw [q26]; exact hk), by rw [q25]; exact Day.BR (by rw [q23]; exact hk), by rw [q15]; exact Day.BR (by rw [q14, q13, t11]; simp; omega)⟩, fun _ => ⟨s2, ⟨rfl, rfl⟩, hm⟩, fun hh => ?_, fun _ => rfl⟩
  rw [q40, q38, q34, q30, t29] at hh
  simp at hh
 ·have t11 : v11 = false := by rw [q11]; exact decide_eq_false h
  refine ⟨by simp [q28, q25, q15, t11], fun hh => ?_, fun hh => ?_, fun _ => rfl⟩
  ·rw [q39, t11] at hh
   cases hh
  ·rw [q40, t11] at hh
   cases hh
theorem QV (as : List A) (e : Nat → A) (h1 : as = (List.range 11).map e) (h2 : (G4 as).1 = true) (H : Am T e Jo.defs) : C9 e Jo.obs ∧
   (∀ pc ls, some (V 39, [V 0, V 1, V 2, V 3, V 4, V 5, V 6, V 36, V 8, V 9, V 10]) = some (pc, ls) → (pc.ev e).bool = true → (G4 (ls.map (L.ev e))).1 = true ∧ (G4 (ls.map (L.ev e))).2 = (G4 as).2 ∧ QU (ls.map (L.ev e)) < QU as) ∧
   ∀ x ∈ ([(V 40, [some (B true), none]), (V 12, [none, some (B true)])] : List (L × List (Option L))), (x.1.ev e).bool = true → ∀ (j : Nat) l, x.2[j]? = some (some l) → FH (F6.tags.getD j .any) (l.ev e) ((G4 as).2.getD j (.i 0)) := by
 subst h1
 obtain ⟨ho, h⟩ := PY e H h2
 refine ⟨⟨ho.1, ho.2.1, ho.2.2, trivial⟩, fun pc ls hb hpc => ?_, ?_⟩
 ·injection hb with hb
  injection hb with h3 h4
  subst h3 h4
  have h := h.1 hpc
  refine ⟨h.1, ?_, h.2.2⟩
  have h5 := h.2.1
  obtain ⟨z0, z1⟩ := h5
  exact (N7 z0 (N7 z1 rfl))
 ·intro x hx hpc j l hj
  simp only [List.mem_cons, List.not_mem_nil, or_false] at hx
  rcases hx with rfl | rfl
  ·have h := h.2.1 hpc
   have z0 := h
   match j, hj with
   | 0, hj => cases hj; exact z0
   | 1, hj => cases hj
   | _ + 2, hj => cases hj
  ·have h := h.2.2 hpc
   have z1 := h
   match j, hj with
   | 0, hj => cases hj
   | 1, hj => cases hj; exact z1
   | _ + 2, hj => cases hj
def Da : G := ⟨60, [⟨59, .iteB, [V 11, V 56, V 10]⟩, ⟨58, .iteB, [V 11, V 55, V 13]⟩, ⟨57, .not, [V 11]⟩, ⟨56, .iteB, [V 23, V 23, V 22]⟩, ⟨55, .iteB, [V 23, V 53, B false]⟩, ⟨54, .not, [V 23]⟩, ⟨53, .iteB, [V 44, V 52, B false]⟩, ⟨52, .eqS, [V 47, V 50]⟩, ⟨51, .imp, [V 45, V 49]⟩, ⟨49, (.call 15), [V 6, V 7]⟩, ⟨48, .imp, [V 45, V 46]⟩, ⟨46, (.call 8), [V 6, V 7]⟩, ⟨45, .and, [V 23, V 44]⟩, ⟨44, .iteB, [V 35, V 43, B false]⟩, ⟨43, .eqS, [V 38, V 41]⟩, ⟨42, .imp, [V 36, V 40]⟩, ⟨40, (.call 14), [V 2, V 3, V 4, V 5]⟩, ⟨39, .imp, [V 36, V 37]⟩, ⟨37, (.call 13), [V 2, V 3, V 4, V 5]⟩, ⟨36, .and, [V 23, V 35]⟩, ⟨35, .iteB, [V 25, V 34, B false]⟩, ⟨34, .eqS, [V 29, V 32]⟩, ⟨33, .imp, [V 27, V 31]⟩, ⟨31, (.call 12), [V 0, V 1]⟩, ⟨30, .imp, [V 27, V 28]⟩, ⟨28, (.call 11), [V 0, V 1]⟩, ⟨27, .and, [V 23, V 25]⟩, ⟨26, .imp, [V 23, V 24]⟩, ⟨24, (.call 7), []⟩, ⟨23, .and, [V 11, V 17]⟩, ⟨22, .and, [V 11, V 16]⟩, ⟨21, .imp, [V 11, V 20]⟩, ⟨20, .not, [V 19]⟩, ⟨19, .and, [V 16, V 17]⟩, ⟨18, .imp, [V 11, V 15]⟩, ⟨15, (.call 1120), [V 0, V 1, V 2, V 3, V 4, V 5, V 7, N 0, V 9, V 10, V 6]⟩, ⟨14, .imp, [V 10, V 12]⟩, ⟨12, (.call 7), []⟩, ⟨11, .not, [V 10]⟩, ⟨10, .not, [V 9]⟩, ⟨8, (.call 6), [V 6, V 7]⟩], [V 51, V 48, V 42, V 39, V 33, V 30, V 26, V 21, V 18, V 14, V 8], []⟩
theorem G7 (e : Nat → A) (H : Am T e Da.defs) (hp : (Day.i64 (Day.Fr.id (Day.Fr.mk (e 0).int (e 1).int)) && (Day.i64 (Day.ND.pos (Day.ND.mk (e 2).int (e 3).int (e 4).int (e 5).int)) && Day.L1.E8 (Day.L1.mk (e 6) (e 7).int))) = true) :
  ((e 51).bool = true ∧ (e 48).bool = true ∧ (e 42).bool = true ∧ (e 39).bool = true ∧ (e 33).bool = true ∧ (e 30).bool = true ∧ (e 26).bool = true ∧ (e 21).bool = true ∧ (e 18).bool = true ∧ (e 14).bool = true ∧ (e 8).bool = true) ∧ (true = (e 58).bool) := by
 simp only [Da, Am, Def.q, DP, L.Al, L.AM, L.Bq, L.Bw, L.ev, A.Ap, A.Ay, A.AR, A.Cb, List.map_cons, List.map_nil, Nat.zero_add, Nat.add_zero, and_true, true_and, Nat.reduceAdd, Nat.one_mul] at H
 simp only [IL, JE, Ic, B7, Ks, KI, E7, MK, and_true, true_and] at H
 obtain ⟨q59, q58, q57, q56, q55, q54, q53, q52, q51, q49, q48, q46, q45, q44, q43, q42, q40, q39, q37, q36, q35, q34, q33, q31, q30, q28, q27, q26, q24, q23, q22, q21, q20, q19, q18, q15, q14, q12, q11, q10, q8⟩ := H
 replace q49 := KQ q49
 obtain ⟨q49, q50⟩ := q49
 replace q46 := Mw q46
 obtain ⟨q46, q47⟩ := q46
 replace q40 := G5 q40 _ rfl
 obtain ⟨q40, q41⟩ := q40
 replace q37 := H4 q37 _ rfl
 obtain ⟨q37, q38⟩ := q37
 replace q31 := DT q31
 obtain ⟨q31, q32⟩ := q31
 replace q28 := Mv q28
 obtain ⟨q28, q29⟩ := q28
 replace q24 := Gm q24
 obtain ⟨q24, q25⟩ := q24
 replace q15 := SL q15
 obtain ⟨q15, q16, q17⟩ := q15
 replace q12 := Gm q12
 obtain ⟨q12, q13⟩ := q12
 replace q8 := Na q8
 obtain ⟨q8, q9⟩ := q8
 simp only [L.Al, L.AM, L.Bq, L.Bw, L.ev, A.Ap, A.Ay, A.AR] at q49 q50 q46 q47 q40 q41 q37 q38 q31 q32 q28 q29 q24 q25 q15 q16 q17 q12 q13 q8 q9
 generalize (e 0).int = x0, (e 1).int = x1, (e 2).int = x2, (e 3).int = x3, (e 4).int = x4, (e 5).int = x5, e 6 = x6, (e 7).int = x7, (e 8).bool = v8, (e 9).bool = v9, (e 10).bool = v10, (e 11).bool = v11, (e 12).bool = v12, (e 13).bool = v13, (e 14).bool = v14, (e 15).bool = v15, (e 16).bool = v16, (e 17).bool = v17, (e 18).bool = v18, (e 19).bool = v19, (e 20).bool = v20, (e 21).bool = v21, (e 22).bool = v22, (e 23).bool = v23, (e 24).bool = v24, (e 25).bool = v25, (e 26).bool = v26, (e 27).bool = v27, (e 28).bool = v28, (e 29).str = v29, (e 30).bool = v30, (e 31).bool = v31, (e 32).str = v32, (e 33).bool = v33, (e 34).bool = v34, (e 35).bool = v35, (e 36).bool = v36, (e 37).bool = v37, (e 38).str = v38, (e 39).bool = v39, (e 40).bool = v40, (e 41).str = v41, (e 42).bool = v42, (e 43).bool = v43, (e 44).bool = v44, (e 45).bool = v45, (e 46).bool = v46, (e 47).str = v47, (e 48).bool = v48, (e 49).bool = v49, (e 50).str = v50, (e 51).bool = v51, (e 52).bool = v52, (e 53).bool = v53, (e 54).bool = v54, (e 55).bool = v55, (e 56).bool = v56, (e 57).bool = v57, (e 58).bool = v58, (e 59).bool = v59 at *
 simp only [Bool.and_eq_true] at hp
 obtain ⟨h1, h2, h3⟩ := hp
 have h1 : Day.i64 x1 = true := h1
 have h2 : Day.i64 x5 = true := h2
 rw [h3] at q8
 rw [h1] at q28 q31
 rw [h2] at q37 q40
 rw [q29, q32] at q34
 rw [q38, q41] at q43
 rw [q47, q50] at q52
 rw [Day.Jn] at q34 q43 q52
 clear q29 q32 q38 q41 q47 q50
 cases hf : Day.L1.Ut ⟨x6, x7⟩ with
 | false =>
  rw [hf] at q9
  clear q15 q46 q49
  subst_vars
  simp
 | true =>
  have hl := Day.L1.OZ h3 hf
  have ha := Day.T9 hl
  rw [hf] at q9
  rw [hl] at q46 q49
  rw [ha] at q15
  subst_vars
  simp
end Rx.S
