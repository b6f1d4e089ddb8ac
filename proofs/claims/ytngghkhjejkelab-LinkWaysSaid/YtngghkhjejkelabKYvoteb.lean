import Derived.Test.YtngghkhjejkelabKXc
import Derived.Test.YtngghkhjejkelabKXt
set_option linter.unusedVariables false
set_option linter.unusedSimpArgs false
namespace Rx.S
open Go Rx
set_option maxRecDepth 100000
set_option maxHeartbeats 1000000
def lp_1470 : Lp := ⟨8, [false, true, false, true, true], 1470, 16, 2, 1, ⟨frS 64 [(0, .pv (.one (.k (.int .i64 (V 0))))), (1, .pv (.agg [.k (.int .i64 (V 1)), .k (.int .i64 (V 2)), .k (.int .i64 (V 3)), .k (.int .i64 (V 4)), .k (.int .i64 (V 5)), .k (.int .i64 (V 6)), .k (.int .i64 (V 7)), .k (.int .i64 (V 8)), .k (.int .i64 (V 9)), .k (.int .i64 (V 10)), .k (.int .i64 (V 11)), .k (.int .i64 (V 12))])), (3, .pv (.one (.k (.ptr 0 0)))), (4, .pv (.one (.k (.bool (B false))))), (5, .pv (.one (.k (.int .i64 (V 13))))), (6, .pv (.one (.k (.int .i64 (V 0))))), (7, .pv (.one (.k (.bool (V 14))))), (8, .pv (.one (.k (.bool (V 15)))))], [⟨true, 24, 12, [.k (.int .i64 (V 1)), .k (.int .i64 (V 2)), .k (.int .i64 (V 3)), .k (.int .i64 (V 4)), .k (.int .i64 (V 5)), .k (.int .i64 (V 6)), .k (.int .i64 (V 7)), .k (.int .i64 (V 8)), .k (.int .i64 (V 9)), .k (.int .i64 (V 10)), .k (.int .i64 (V 11)), .k (.int .i64 (V 12))], none⟩], B true⟩, [(.ret, ⟨frS 64 [(0, .pv (.one (.k (.int .i64 (V 0))))), (1, .pv (.agg [.k (.int .i64 (V 1)), .k (.int .i64 (V 2)), .k (.int .i64 (V 3)), .k (.int .i64 (V 4)), .k (.int .i64 (V 5)), .k (.int .i64 (V 6)), .k (.int .i64 (V 7)), .k (.int .i64 (V 8)), .k (.int .i64 (V 9)), .k (.int .i64 (V 10)), .k (.int .i64 (V 11)), .k (.int .i64 (V 12))])), (3, .pv (.one (.k (.ptr 0 0)))), (4, .pv (.one (.k (.bool (B false))))), (6, .pv (.one (.k (.int .i64 (V 0))))), (7, .pv (.one (.k (.bool (V 14))))), (8, .pv (.one (.k (.bool (V 15)))))], [⟨true, 24, 12, [.k (.int .i64 (V 1)), .k (.int .i64 (V 2)), .k (.int .i64 (V 3)), .k (.int .i64 (V 4)), .k (.int .i64 (V 5)), .k (.int .i64 (V 6)), .k (.int .i64 (V 7)), .k (.int .i64 (V 8)), .k (.int .i64 (V 9)), .k (.int .i64 (V 10)), .k (.int .i64 (V 11)), .k (.int .i64 (V 12))], none⟩], V 16⟩), (.exit 0, ⟨frS 64 [(0, .pv (.one (.k (.int .i64 (V 0))))), (1, .pv (.agg [.k (.int .i64 (V 1)), .k (.int .i64 (V 2)), .k (.int .i64 (V 3)), .k (.int .i64 (V 4)), .k (.int .i64 (V 5)), .k (.int .i64 (V 6)), .k (.int .i64 (V 7)), .k (.int .i64 (V 8)), .k (.int .i64 (V 9)), .k (.int .i64 (V 10)), .k (.int .i64 (V 11)), .k (.int .i64 (V 12))])), (3, .pv (.one (.k (.ptr 0 0)))), (4, .pv (.one (.k (.bool (B false))))), (6, .pv (.one (.k (.int .i64 (V 0))))), (7, .pv (.one (.k (.bool (V 14))))), (8, .pv (.one (.k (.bool (V 15)))))], [⟨true, 24, 12, [.k (.int .i64 (V 1)), .k (.int .i64 (V 2)), .k (.int .i64 (V 3)), .k (.int .i64 (V 4)), .k (.int .i64 (V 5)), .k (.int .i64 (V 6)), .k (.int .i64 (V 7)), .k (.int .i64 (V 8)), .k (.int .i64 (V 9)), .k (.int .i64 (V 10)), .k (.int .i64 (V 11)), .k (.int .i64 (V 12))], none⟩], V 17⟩)], [true, true, true, true, true, true, true, true, true, true, true, true, true, false, true, true], [.b, .b]⟩
def g_L1470 : G := ⟨48, [⟨47, .and, [V 16, V 45]⟩, ⟨46, .and, [V 16, V 42]⟩, ⟨45, .and, [V 44, V 41]⟩, ⟨44, .not, [V 42]⟩, ⟨43, (.ar .add .i64), [V 13, N 1]⟩, ⟨42, .and, [V 38, V 40]⟩, ⟨41, .and, [V 37, V 39]⟩, ⟨40, .and, [V 16, V 38]⟩, ⟨39, .and, [V 16, V 37]⟩, ⟨38, .not, [V 37]⟩, ⟨37, .iteB, [V 28, B true, V 36]⟩, ⟨36, .iteB, [V 31, V 35, B false]⟩, ⟨35, (.cmp .neq), [V 23, N 0]⟩, ⟨34, .imp, [V 33, V 21]⟩, ⟨33, .and, [V 32, V 29]⟩, ⟨32, .and, [V 16, V 31]⟩, ⟨31, (.cmp .geq), [V 13, V 0]⟩, ⟨30, .and, [V 16, V 29]⟩, ⟨29, .not, [V 28]⟩, ⟨28, .iteB, [V 18, V 27, B false]⟩, ⟨27, .not, [V 25]⟩, ⟨26, .imp, [V 19, V 24]⟩, ⟨24, (.call 19), [V 23, V 0]⟩, ⟨23, .sel, [V 13, V 1, V 2, V 3, V 4, V 5, V 6, V 7, V 8]⟩, ⟨22, .imp, [V 19, V 21]⟩, ⟨21, .and, [V 20, V 16]⟩, ⟨20, (.cmp .leq), [N 0, V 13]⟩, ⟨19, .and, [V 16, V 18]⟩, ⟨18, (.cmp .lss), [V 13, V 0]⟩, ⟨17, .not, [V 16]⟩, ⟨16, (.cmp .lss), [V 13, N 8]⟩], [V 34, V 26, V 22], []⟩
def m_1470 (al : List A) : Nat := (8 - (gi al 13)).toNat
theorem lpureQ_1470 (e : Nat → A) (H : FactsQ T e g_L1470.defs) : ∀ z0, z0 = (Day.HB.mk [(e 1).int, (e 2).int, (e 3).int, (e 4).int, (e 5).int, (e 6).int, (e 7).int, (e 8).int] (e 9).int (e 10).int (e 11).int (e 12).int) → ∀ y0, y0 = (Day.HB.mk [(e 1).int, (e 2).int, (e 3).int, (e 4).int, (e 5).int, (e 6).int, (e 7).int, (e 8).int] (e 9).int (e 10).int (e 11).int (e 12).int) → (Day.right (e 0).int && Day.inR (e 13).int 8) = true →
  ((e 34).bool = true ∧ (e 26).bool = true ∧ (e 22).bool = true) ∧ ((e 46).bool = true → (Day.right (e 0).int && Day.inR (e 43).int 8) = true ∧ ((!Day.okF (e 0).int y0 (e 43).int) = (!Day.okF (e 0).int z0 (e 13).int) ∧ Day.okF (e 0).int y0 (e 43).int = Day.okF (e 0).int z0 (e 13).int) ∧ (8 - (e 43).int).toNat < (8 - (e 13).int).toNat) ∧ ((e 47).bool = true → true = (!Day.okF (e 0).int z0 (e 13).int)) ∧ ((e 17).bool = true → true = Day.okF (e 0).int z0 (e 13).int) := by
 intro z0 hz0 y0 hy0 hp
 subst hz0 hy0
 simp only [g_L1470, FactsQ, Def.q, updQ, L.ev_var, L.ev_n, L.ev_t, L.ev_e, L.ev, A.int_i, A.bool_b, A.str_v, A.els_l, List.map_cons, List.map_nil, Nat.zero_add, Nat.add_zero, and_true, true_and, Nat.reduceAdd, Nat.one_mul] at H
 simp only [arI, dvI, btI, cmpI, shI, ifQ, updV, ltQ, and_true, true_and] at H
 obtain ⟨q47, q46, q45, q44, ⟨q43, -⟩, q42, q41, q40, q39, q38, q37, q36, q35, q34, q33, q32, q31, q30, q29, q28, q27, q26, q24, q23, q22, q21, q20, q19, q18, q17, q16⟩ := H
 replace q24 := out_ref11_in q24
 obtain ⟨q24, q25⟩ := q24
 simp only [L.ev_var, L.ev_n, L.ev_t, L.ev_e, L.ev, A.int_i, A.bool_b, A.str_v] at q24 q25
 generalize (e 0).int = x0, (e 1).int = x1, (e 2).int = x2, (e 3).int = x3, (e 4).int = x4, (e 5).int = x5, (e 6).int = x6, (e 7).int = x7, (e 8).int = x8, (e 9).int = x9, (e 10).int = x10, (e 11).int = x11, (e 12).int = x12, (e 13).int = x13, (e 14).int = x14, (e 15).int = x15, (e 16).bool = v16, (e 17).bool = v17, (e 18).bool = v18, (e 19).bool = v19, (e 20).bool = v20, (e 21).bool = v21, (e 22).bool = v22, (e 23).int = v23, (e 24).bool = v24, (e 25).bool = v25, (e 26).bool = v26, (e 27).bool = v27, (e 28).bool = v28, (e 29).bool = v29, (e 30).bool = v30, (e 31).bool = v31, (e 32).bool = v32, (e 33).bool = v33, (e 34).bool = v34, (e 35).bool = v35, (e 36).bool = v36, (e 37).bool = v37, (e 38).bool = v38, (e 39).bool = v39, (e 40).bool = v40, (e 41).bool = v41, (e 42).bool = v42, (e 43).int = v43, (e 44).bool = v44, (e 45).bool = v45, (e 46).bool = v46, (e 47).bool = v47 at *
 replace q23 : v23 = ((Day.HB.mk [x1, x2, x3, x4, x5, x6, x7, x8] x9 x10 x11 x12)).a x13.toNat := q23
 generalize (Day.HB.mk [x1, x2, x3, x4, x5, x6, x7, x8] x9 x10 x11 x12) = h at *
 simp only [Bool.and_eq_true, Day.inR_iff] at hp
 obtain ⟨hR, hi⟩ := hp
 have w : IntKind.wrap .i64 (x13 + 1) = x13 + 1 := wrap64 (by omega) (by omega)
 by_cases hlt : x13 < 8
 ·have st := Day.okF_step (n := x0) h ⟨hi.1, hlt⟩
  rw [← q23] at st
  have hq : ((x13.toNat : Nat) : Int) = x13 := by omega
  have mo : Day.inR v23 (Day.mostA x0 x13.toNat) = !v37 := by
   rw [q37, q28, q36, q35, q31, q27, q25, q18]
   by_cases c : x13 < x0
   ·have c2 : ¬ x0 ≤ x13 := by omega
    simp [Day.mostA, hq, c, c2]
   ·have c2 : x0 ≤ x13 := by omega
    simp only [Day.mostA, hq, c, c2, Day.inR0]
    by_cases z : v23 = 0 <;> simp [z, Day.inR0]
  have o22 : v22 = true := by rw [q22, q21, q20, q16]; simp; omega
  have o26 : v26 = true := by rw [q26, q24]; simp
  have o34 : v34 = true := by rw [q34, q21, q20, q16]; simp; omega
  refine ⟨by simp only [o22, o26, o34, and_self], fun hb => ?_, fun hb => ?_, fun hb => ?_⟩
  ·have e37 : v37 = false := by
    rw [q46, q42, q38] at hb
    cases v37 with
    | false => rfl
    | true => simp at hb
   rw [q43, w, st, mo, e37]
   refine ⟨by simp [hR, Day.inR]; omega, by simp, by omega⟩
  ·have e37 : v37 = true := by
    rw [q47, q45, q41] at hb
    cases v37 with
    | false => simp at hb
    | true => rfl
   rw [st, mo, e37]; rfl
  ·rw [q17, q16] at hb; simp [hlt] at hb
 ·have e16 : v16 = false := by rw [q16]; simp [hlt]
  have o22 : v22 = true := by rw [q22, q19, e16]; simp
  have o26 : v26 = true := by rw [q26, q24]; simp
  have o34 : v34 = true := by rw [q34, q33, q32, e16]; simp
  refine ⟨by simp only [o22, o26, o34, and_self], fun hb => ?_, fun hb => ?_, fun hb => ?_⟩
  ·rw [q46, e16] at hb; simp at hb
  ·rw [q47, e16] at hb; simp at hb
  ·rw [Day.okF_end x0 h (by omega)]
theorem lpure_1470 (as : List A) (e : Nat → A) (h1 : as = (List.range 16).map e) (h2 : (t_1470 as).1 = true) (H : FactsQ T e g_L1470.defs) : ObsAll e g_L1470.obs ∧
   (∀ pc ls, some (V 46, [V 0, V 1, V 2, V 3, V 4, V 5, V 6, V 7, V 8, V 9, V 10, V 11, V 12, V 43, V 14, V 15]) = some (pc, ls) → (pc.ev e).bool = true → (t_1470 (ls.map (L.ev e))).1 = true ∧ (t_1470 (ls.map (L.ev e))).2 = (t_1470 as).2 ∧ m_1470 (ls.map (L.ev e)) < m_1470 as) ∧
   ∀ x ∈ ([(V 47, [some (B true), none]), (V 17, [none, some (B true)])] : List (L × List (Option L))), (x.1.ev e).bool = true → ∀ (j : Nat) l, x.2[j]? = some (some l) → Teq (lp_1470.tags.getD j .any) (l.ev e) ((t_1470 as).2.getD j (.i 0)) := by
 subst h1
 obtain ⟨ho, h⟩ := lpureQ_1470 e H _ rfl _ rfl h2
 refine ⟨⟨ho.1, ho.2.1, ho.2.2, trivial⟩, fun pc ls hb hpc => ?_, ?_⟩
 ·injection hb with hb
  injection hb with h3 h4
  subst h3 h4
  have h := h.1 hpc
  refine ⟨h.1, ?_, h.2.2⟩
  have h5 := h.2.1
  obtain ⟨z0, z1⟩ := h5
  exact (consB z0 (consB z1 rfl))
 ·intro x hx hpc j l hj
  simp only [List.mem_cons, List.not_mem_nil, or_false] at hx
  rcases hx with rfl | rfl
  ·have h := h.2.1 hpc
   have z0 := h
   match j, hj with
   | 0, hj => cases hj; exact z0
   | 1, hj => cases hj
   | _ + 2, hj => cases hj
  ·have h := h.2.2 hpc
   have z1 := h
   match j, hj with
   | 0, hj => cases hj
   | 1, hj => cases hj; exact z1
   | _ + 2, hj => cases hj
def g_ref11_Right : G := ⟨58, [⟨57, .iteB, [V 16, V 54, V 15]⟩, ⟨56, .iteB, [V 16, V 53, B false]⟩, ⟨55, .not, [V 16]⟩, ⟨54, .iteB, [V 25, V 25, V 24]⟩, ⟨53, .iteB, [V 25, V 51, B false]⟩, ⟨52, .not, [V 25]⟩, ⟨51, .iteB, [V 46, V 49, B false]⟩, ⟨50, .imp, [V 47, V 48]⟩, ⟨48, (.call 19), [V 12, V 26]⟩, ⟨47, .and, [V 25, V 46]⟩, ⟨46, .iteB, [V 38, V 44, B false]⟩, ⟨45, .imp, [V 39, V 43]⟩, ⟨43, (.call 19), [V 11, V 41]⟩, ⟨42, .imp, [V 39, V 40]⟩, ⟨40, (.call 20), [V 0]⟩, ⟨39, .and, [V 25, V 38]⟩, ⟨38, .iteB, [V 28, V 36, B false]⟩, ⟨37, .imp, [V 30, V 35]⟩, ⟨35, (.call 19), [V 10, V 34]⟩, ⟨34, (.ar .add .i64), [V 32, N 1]⟩, ⟨33, .imp, [V 30, V 31]⟩, ⟨31, (.call 20), [V 0]⟩, ⟨30, .and, [V 25, V 28]⟩, ⟨29, .imp, [V 25, V 27]⟩, ⟨27, (.call 19), [V 9, V 26]⟩, ⟨26, (.ar .sub .i64), [V 0, N 1]⟩, ⟨25, .and, [V 16, V 19]⟩, ⟨24, .and, [V 16, V 18]⟩, ⟨23, .imp, [V 16, V 22]⟩, ⟨22, .not, [V 21]⟩, ⟨21, .and, [V 18, V 19]⟩, ⟨20, .imp, [V 16, V 17]⟩, ⟨17, (.call 1470), [V 0, V 1, V 2, V 3, V 4, V 5, V 6, V 7, V 8, V 9, V 10, V 11, V 12, N 0, V 14, V 15]⟩, ⟨16, .not, [V 15]⟩, ⟨15, .not, [V 14]⟩, ⟨13, (.call 18), [V 0]⟩], [V 50, V 45, V 42, V 37, V 33, V 29, V 23, V 20, V 13], []⟩
theorem pure_ref11_Right (e : Nat → A) (H : FactsQ T e g_ref11_Right.defs) : ∀ z0, z0 = (Day.HB.mk [(e 1).int, (e 2).int, (e 3).int, (e 4).int, (e 5).int, (e 6).int, (e 7).int, (e 8).int] (e 9).int (e 10).int (e 11).int (e 12).int) → (true) = true →
  ((e 50).bool = true ∧ (e 45).bool = true ∧ (e 42).bool = true ∧ (e 37).bool = true ∧ (e 33).bool = true ∧ (e 29).bool = true ∧ (e 23).bool = true ∧ (e 20).bool = true ∧ (e 13).bool = true) ∧ (Day.rightH (e 0).int z0 = (e 56).bool) := by
 intro z0 hz0 hp
 subst hz0
 simp only [g_ref11_Right, FactsQ, Def.q, updQ, L.ev_var, L.ev_n, L.ev_t, L.ev_e, L.ev, A.int_i, A.bool_b, A.str_v, A.els_l, List.map_cons, List.map_nil, Nat.zero_add, Nat.add_zero, and_true, true_and, Nat.reduceAdd, Nat.one_mul] at H
 simp only [arI, dvI, btI, cmpI, shI, ifQ, updV, ltQ, and_true, true_and] at H
 obtain ⟨q57, q56, q55, q54, q53, q52, q51, q50, q48, q47, q46, q45, q43, q42, q40, q39, q38, q37, q35, ⟨q34, -⟩, q33, q31, q30, q29, q27, ⟨q26, -⟩, q25, q24, q23, q22, q21, q20, q17, q16, q15, q13⟩ := H
 replace q48 := out_ref11_in q48
 obtain ⟨q48, q49⟩ := q48
 replace q43 := out_ref11_in q43
 obtain ⟨q43, q44⟩ := q43
 replace q40 := out_ref03_Block q40
 obtain ⟨q40, q41⟩ := q40
 replace q35 := out_ref11_in q35
 obtain ⟨q35, q36⟩ := q35
 replace q31 := out_ref03_Block q31
 obtain ⟨q31, q32⟩ := q31
 replace q27 := out_ref11_in q27
 obtain ⟨q27, q28⟩ := q27
 replace q17 := out_L1470 q17 _ rfl
 obtain ⟨q17, q18, q19⟩ := q17
 replace q13 := out_ref03_Right q13
 obtain ⟨q13, q14⟩ := q13
 simp only [L.ev_var, L.ev_n, L.ev_t, L.ev_e, L.ev, A.int_i, A.bool_b, A.str_v] at q48 q49 q43 q44 q40 q41 q35 q36 q31 q32 q27 q28 q17 q18 q19 q13 q14
 generalize (e 0).int = x0, (e 1).int = x1, (e 2).int = x2, (e 3).int = x3, (e 4).int = x4, (e 5).int = x5, (e 6).int = x6, (e 7).int = x7, (e 8).int = x8, (e 9).int = x9, (e 10).int = x10, (e 11).int = x11, (e 12).int = x12, (e 13).bool = v13, (e 14).bool = v14, (e 15).bool = v15, (e 16).bool = v16, (e 17).bool = v17, (e 18).bool = v18, (e 19).bool = v19, (e 20).bool = v20, (e 21).bool = v21, (e 22).bool = v22, (e 23).bool = v23, (e 24).bool = v24, (e 25).bool = v25, (e 26).int = v26, (e 27).bool = v27, (e 28).bool = v28, (e 29).bool = v29, (e 30).bool = v30, (e 31).bool = v31, (e 32).int = v32, (e 33).bool = v33, (e 34).int = v34, (e 35).bool = v35, (e 36).bool = v36, (e 37).bool = v37, (e 38).bool = v38, (e 39).bool = v39, (e 40).bool = v40, (e 41).int = v41, (e 42).bool = v42, (e 43).bool = v43, (e 44).bool = v44, (e 45).bool = v45, (e 46).bool = v46, (e 47).bool = v47, (e 48).bool = v48, (e 49).bool = v49, (e 50).bool = v50, (e 51).bool = v51, (e 52).bool = v52, (e 53).bool = v53, (e 54).bool = v54, (e 55).bool = v55, (e 56).bool = v56, (e 57).bool = v57 at *
 cases hR : Day.right x0 with
 | false =>
  rw [hR] at q14
  subst_vars
  simp [Day.rightH, hR]
 | true =>
  have hn : 3 ≤ x0 ∧ x0 ≤ 8 := by simpa [Day.right] using hR
  have w1 : IntKind.wrap .i64 (x0 - 1) = x0 - 1 := wrap64 (by omega) (by omega)
  have w2 : IntKind.wrap .i64 (2 * x0 + 1) = 2 * x0 + 1 := wrap64 (by omega) (by omega)
  have z := Day.okF_zero x0 (Day.HB.mk [x1, x2, x3, x4, x5, x6, x7, x8] x9 x10 x11 x12)
  have hI : Day.inR 0 8 = true := by decide
  have e : Day.rightH x0 (Day.HB.mk [x1, x2, x3, x4, x5, x6, x7, x8] x9 x10 x11 x12) = (Day.okF x0 (Day.HB.mk [x1, x2, x3, x4, x5, x6, x7, x8] x9 x10 x11 x12) 0 && Day.inR x9 (x0 - 1) && Day.inR x10 (2 * x0 + 1) && Day.inR x11 (2 * x0) && Day.inR x12 (x0 - 1)) := by
   rw [Day.rightH, hR, z]; simp
  rw [e]
  clear e z
  generalize (Day.HB.mk [x1, x2, x3, x4, x5, x6, x7, x8] x9 x10 x11 x12) = h at *
  rw [hR] at q14
  subst_vars
  simp only [hI, w1, w2, Day.times, hR]
  cases Day.okF x0 h 0
  ·simp
  ·simp [w2, Bool.and_assoc]
def g_ref11_in : G := ⟨5, [⟨4, .iteB, [V 2, V 3, B false]⟩, ⟨3, (.cmp .leq), [V 0, V 1]⟩, ⟨2, (.cmp .geq), [V 0, N 0]⟩], [], []⟩
theorem pure_ref11_in (e : Nat → A) (H : FactsQ T e g_ref11_in.defs) (hp : (true) = true) :
  (True) ∧ (Day.inR (e 0).int (e 1).int = (e 4).bool) := by
 simp only [g_ref11_in, FactsQ, Def.q, updQ, L.ev_var, L.ev_n, L.ev_t, L.ev_e, L.ev, A.int_i, A.bool_b, A.str_v, A.els_l, List.map_cons, List.map_nil, Nat.zero_add, Nat.add_zero, and_true, true_and, Nat.reduceAdd, Nat.one_mul] at H
 simp only [arI, dvI, btI, cmpI, shI, ifQ, updV, ltQ, and_true, true_and] at H
 obtain ⟨q4, q3, q2⟩ := H
 generalize (e 0).int = x0, (e 1).int = x1, (e 2).bool = v2, (e 3).bool = v3, (e 4).bool = v4 at *
 grind [Day.inR]
def lp_1490 : Lp := ⟨14, [false, true, false, true, true, true], 1490, 14, 8, 2, ⟨frS 24 [(0, .pv (.one (.k (.int .i64 (V 0))))), (2, .pv (.one (.k (.ptr 0 0)))), (3, .pv (.one (.k (.int .i64 (N 0))))), (4, .pv (.one (.k (.ptr 1 0)))), (5, .pv (.one (.k (.int .i64 (V 1))))), (6, .pv (.one (.k (.int .i64 (V 0))))), (7, .pv (.one (.k (.bool (V 2))))), (8, .pv (.one (.k (.bool (V 3))))), (10, .pv (.one (.k (.int .i64 (V 0))))), (11, .pv (.one (.k (.int .i64 (V 4))))), (12, .pv (.one (.k (.int .i64 (V 5))))), (13, .pv (.agg [.k (.int .i64 (N 0)), .k (.int .i64 (N 0)), .k (.int .i64 (N 0)), .k (.int .i64 (N 0)), .k (.int .i64 (N 0)), .k (.int .i64 (N 0)), .k (.int .i64 (N 0)), .k (.int .i64 (N 0)), .k (.int .i64 (N 0)), .k (.int .i64 (V 5)), .k (.int .i64 (N 0)), .k (.int .i64 (N 0))]))], [⟨true, 24, 12, [.k (.int .i64 (N 0)), .k (.int .i64 (N 0)), .k (.int .i64 (N 0)), .k (.int .i64 (N 0)), .k (.int .i64 (N 0)), .k (.int .i64 (N 0)), .k (.int .i64 (N 0)), .k (.int .i64 (N 0)), .k (.int .i64 (N 0)), .k (.int .i64 (N 0)), .k (.int .i64 (N 0)), .k (.int .i64 (N 0))], none⟩, ⟨true, 24, 12, [.k (.int .i64 (V 6)), .k (.int .i64 (V 7)), .k (.int .i64 (V 8)), .k (.int .i64 (V 9)), .k (.int .i64 (V 10)), .k (.int .i64 (V 11)), .k (.int .i64 (V 12)), .k (.int .i64 (V 13)), .k (.int .i64 (N 0)), .k (.int .i64 (V 5)), .k (.int .i64 (N 0)), .k (.int .i64 (N 0))], none⟩], B true⟩, [(.exit 0, ⟨frS 24 [(0, .pv (.one (.k (.int .i64 (V 0))))), (2, .pv (.one (.k (.ptr 0 0)))), (3, .pv (.one (.k (.int .i64 (N 0))))), (4, .pv (.one (.k (.ptr 1 0)))), (6, .pv (.one (.k (.int .i64 (V 0))))), (7, .pv (.one (.k (.bool (V 2))))), (8, .pv (.one (.k (.bool (V 3))))), (10, .pv (.one (.k (.int .i64 (V 0))))), (11, .pv (.one (.k (.int .i64 (V 4))))), (12, .pv (.one (.k (.int .i64 (V 5))))), (13, .pv (.agg [.k (.int .i64 (N 0)), .k (.int .i64 (N 0)), .k (.int .i64 (N 0)), .k (.int .i64 (N 0)), .k (.int .i64 (N 0)), .k (.int .i64 (N 0)), .k (.int .i64 (N 0)), .k (.int .i64 (N 0)), .k (.int .i64 (N 0)), .k (.int .i64 (V 5)), .k (.int .i64 (N 0)), .k (.int .i64 (N 0))]))], [⟨true, 24, 12, [.k (.int .i64 (N 0)), .k (.int .i64 (N 0)), .k (.int .i64 (N 0)), .k (.int .i64 (N 0)), .k (.int .i64 (N 0)), .k (.int .i64 (N 0)), .k (.int .i64 (N 0)), .k (.int .i64 (N 0)), .k (.int .i64 (N 0)), .k (.int .i64 (N 0)), .k (.int .i64 (N 0)), .k (.int .i64 (N 0))], none⟩, ⟨true, 24, 12, [.k (.int .i64 (V 14)), .k (.int .i64 (V 15)), .k (.int .i64 (V 16)), .k (.int .i64 (V 17)), .k (.int .i64 (V 18)), .k (.int .i64 (V 19)), .k (.int .i64 (V 20)), .k (.int .i64 (V 21)), .k (.int .i64 (N 0)), .k (.int .i64 (V 5)), .k (.int .i64 (N 0)), .k (.int .i64 (N 0))], none⟩], B true⟩)], [true, false, true, true, true, true, false, false, false, false, false, false, false, false], [.i, .i, .i, .i, .i, .i, .i, .i]⟩
def g_L1490 : G := ⟨29, [⟨28, (.ar .add .i64), [V 1, N 1]⟩, ⟨20, .upd, [V 1, V 0, V 6, V 7, V 8, V 9, V 10, V 11, V 12, V 13]⟩, ⟨19, .imp, [V 14, V 18]⟩, ⟨18, .and, [V 16, V 17]⟩, ⟨17, (.cmp .lss), [V 1, N 8]⟩, ⟨16, (.cmp .leq), [N 0, V 1]⟩, ⟨15, .not, [V 14]⟩, ⟨14, (.cmp .lss), [V 1, V 0]⟩], [V 19], []⟩
def m_1490 (al : List A) : Nat := ((gi al 0) - (gi al 1)).toNat
theorem lpureQ_1490 (e : Nat → A) (H : FactsQ T e g_L1490.defs) (hp : (Day.loP (e 0).int (e 1).int) = true) :
  ((e 19).bool = true) ∧ ((e 14).bool = true → (Day.loP (e 0).int (e 28).int) = true ∧ (Day.fillF (e 0).int (e 28).int 0 (e 20).int = Day.fillF (e 0).int (e 1).int 0 (e 6).int ∧ Day.fillF (e 0).int (e 28).int 1 (e 21).int = Day.fillF (e 0).int (e 1).int 1 (e 7).int ∧ Day.fillF (e 0).int (e 28).int 2 (e 22).int = Day.fillF (e 0).int (e 1).int 2 (e 8).int ∧ Day.fillF (e 0).int (e 28).int 3 (e 23).int = Day.fillF (e 0).int (e 1).int 3 (e 9).int ∧ Day.fillF (e 0).int (e 28).int 4 (e 24).int = Day.fillF (e 0).int (e 1).int 4 (e 10).int ∧ Day.fillF (e 0).int (e 28).int 5 (e 25).int = Day.fillF (e 0).int (e 1).int 5 (e 11).int ∧ Day.fillF (e 0).int (e 28).int 6 (e 26).int = Day.fillF (e 0).int (e 1).int 6 (e 12).int ∧ Day.fillF (e 0).int (e 28).int 7 (e 27).int = Day.fillF (e 0).int (e 1).int 7 (e 13).int) ∧ ((e 0).int - (e 28).int).toNat < ((e 0).int - (e 1).int).toNat) ∧ ((e 15).bool = true → (e 6).int = Day.fillF (e 0).int (e 1).int 0 (e 6).int ∧ (e 7).int = Day.fillF (e 0).int (e 1).int 1 (e 7).int ∧ (e 8).int = Day.fillF (e 0).int (e 1).int 2 (e 8).int ∧ (e 9).int = Day.fillF (e 0).int (e 1).int 3 (e 9).int ∧ (e 10).int = Day.fillF (e 0).int (e 1).int 4 (e 10).int ∧ (e 11).int = Day.fillF (e 0).int (e 1).int 5 (e 11).int ∧ (e 12).int = Day.fillF (e 0).int (e 1).int 6 (e 12).int ∧ (e 13).int = Day.fillF (e 0).int (e 1).int 7 (e 13).int) := by
 simp only [g_L1490, FactsQ, Def.q, updQ, L.ev_var, L.ev_n, L.ev_t, L.ev_e, L.ev, A.int_i, A.bool_b, A.str_v, A.els_l, List.map_cons, List.map_nil, Nat.zero_add, Nat.add_zero, and_true, true_and, Nat.reduceAdd, Nat.one_mul] at H
 simp only [arI, dvI, btI, cmpI, shI, ifQ, updV, ltQ, and_true, true_and] at H
 obtain ⟨⟨q28, -⟩, ⟨q20, q21, q22, q23, q24, q25, q26, q27⟩, q19, q18, q17, q16, q15, q14⟩ := H
 generalize (e 0).int = x0, (e 1).int = x1, (e 2).int = x2, (e 3).int = x3, (e 4).int = x4, (e 5).int = x5, (e 6).int = x6, (e 7).int = x7, (e 8).int = x8, (e 9).int = x9, (e 10).int = x10, (e 11).int = x11, (e 12).int = x12, (e 13).int = x13, (e 14).bool = v14, (e 15).bool = v15, (e 16).bool = v16, (e 17).bool = v17, (e 18).bool = v18, (e 19).bool = v19, (e 20).int = v20, (e 21).int = v21, (e 22).int = v22, (e 23).int = v23, (e 24).int = v24, (e 25).int = v25, (e 26).int = v26, (e 27).int = v27, (e 28).int = v28 at *
 simp only [Day.loP_iff] at hp
 have hx : x1 = 0 ∨ x1 = 1 ∨ x1 = 2 ∨ x1 = 3 ∨ x1 = 4 ∨ x1 = 5 ∨ x1 = 6 ∨ x1 = 7 ∨ x1 = 8 := by omega
 rcases hx with rfl | rfl | rfl | rfl | rfl | rfl | rfl | rfl | rfl
 all_goals
  subst_vars
  simp [Day.loP_iff, Day.fillF, Day.sm, wrap64] at *
  omega
theorem lpure_1490 (as : List A) (e : Nat → A) (h1 : as = (List.range 14).map e) (h2 : (t_1490 as).1 = true) (H : FactsQ T e g_L1490.defs) : ObsAll e g_L1490.obs ∧
   (∀ pc ls, some (V 14, [V 0, V 28, V 2, V 3, V 4, V 5, V 20, V 21, V 22, V 23, V 24, V 25, V 26, V 27]) = some (pc, ls) → (pc.ev e).bool = true → (t_1490 (ls.map (L.ev e))).1 = true ∧ (t_1490 (ls.map (L.ev e))).2 = (t_1490 as).2 ∧ m_1490 (ls.map (L.ev e)) < m_1490 as) ∧
   ∀ x ∈ ([(V 15, [some (V 6), some (V 7), some (V 8), some (V 9), some (V 10), some (V 11), some (V 12), some (V 13)])] : List (L × List (Option L))), (x.1.ev e).bool = true → ∀ (j : Nat) l, x.2[j]? = some (some l) → Teq (lp_1490.tags.getD j .any) (l.ev e) ((t_1490 as).2.getD j (.i 0)) := by
 subst h1
 obtain ⟨ho, h⟩ := lpureQ_1490 e H h2
 refine ⟨⟨ho, trivial⟩, fun pc ls hb hpc => ?_, ?_⟩
 ·injection hb with hb
  injection hb with h3 h4
  subst h3 h4
  have h := h.1 hpc
  refine ⟨h.1, ?_, h.2.2⟩
  have h5 := h.2.1
  obtain ⟨z0, z1, z2, z3, z4, z5, z6, z7⟩ := h5
  exact (consI z0 (consI z1 (consI z2 (consI z3 (consI z4 (consI z5 (consI z6 (consI z7 rfl))))))))
 ·intro x hx hpc j l hj
  simp only [List.mem_cons, List.not_mem_nil, or_false] at hx
  rcases hx with rfl
  ·have h := h.2 hpc
   obtain ⟨z0, z1, z2, z3, z4, z5, z6, z7⟩ := h
   match j, hj with
   | 0, hj => cases hj; exact z0
   | 1, hj => cases hj; exact z1
   | 2, hj => cases hj; exact z2
   | 3, hj => cases hj; exact z3
   | 4, hj => cases hj; exact z4
   | 5, hj => cases hj; exact z5
   | 6, hj => cases hj; exact z6
   | 7, hj => cases hj; exact z7
   | _ + 8, hj => cases hj
def g_ref11_Fresh : G := ⟨31, [⟨30, .iteB, [V 4, V 4, V 3]⟩, ⟨29, .iteI, [V 4, V 8, N 0]⟩, ⟨28, .iteI, [V 4, V 17, N 0]⟩, ⟨27, .iteI, [V 4, V 16, N 0]⟩, ⟨26, .iteI, [V 4, V 15, N 0]⟩, ⟨25, .iteI, [V 4, V 14, N 0]⟩, ⟨24, .iteI, [V 4, V 13, N 0]⟩, ⟨23, .iteI, [V 4, V 12, N 0]⟩, ⟨22, .iteI, [V 4, V 11, N 0]⟩, ⟨21, .iteI, [V 4, V 10, N 0]⟩, ⟨20, .iteI, [V 4, N 0, N 1]⟩, ⟨19, .not, [V 4]⟩, ⟨18, .imp, [V 4, V 9]⟩, ⟨9, (.call 1490), [V 0, N 0, V 2, V 3, V 6, V 8, N 0, N 0, N 0, N 0, N 0, N 0, N 0, N 0]⟩, ⟨8, (.ar .add .i64), [V 6, N 1]⟩, ⟨7, .imp, [V 4, V 5]⟩, ⟨5, (.call 20), [V 0]⟩, ⟨4, .not, [V 3]⟩, ⟨3, .not, [V 2]⟩, ⟨1, (.call 18), [V 0]⟩], [V 18, V 7, V 1], []⟩
theorem pure_ref11_Fresh (e : Nat → A) (H : FactsQ T e g_ref11_Fresh.defs) : ∀ r0, r0 = Day.freshH (e 0).int → (true) = true →
  ((e 18).bool = true ∧ (e 7).bool = true ∧ (e 1).bool = true) ∧ (((r0)).a 0 = (e 21).int ∧ ((r0)).a 1 = (e 22).int ∧ ((r0)).a 2 = (e 23).int ∧ ((r0)).a 3 = (e 24).int ∧ ((r0)).a 4 = (e 25).int ∧ ((r0)).a 5 = (e 26).int ∧ ((r0)).a 6 = (e 27).int ∧ ((r0)).a 7 = (e 28).int ∧ ((r0)).port = (0 : Int) ∧ ((r0)).age = (e 29).int ∧ ((r0)).hold = (0 : Int) ∧ ((r0)).pos = (0 : Int) ∧ Day.argE (e 0).int = (e 20).int) := by
 intro r0 hr0 hp
 subst hr0
 simp only [g_ref11_Fresh, FactsQ, Def.q, updQ, L.ev_var, L.ev_n, L.ev_t, L.ev_e, L.ev, A.int_i, A.bool_b, A.str_v, A.els_l, List.map_cons, List.map_nil, Nat.zero_add, Nat.add_zero, and_true, true_and, Nat.reduceAdd, Nat.one_mul] at H
 simp only [arI, dvI, btI, cmpI, shI, ifQ, updV, ltQ, and_true, true_and] at H
 obtain ⟨q30, ⟨q29, -⟩, ⟨q28, -⟩, ⟨q27, -⟩, ⟨q26, -⟩, ⟨q25, -⟩, ⟨q24, -⟩, ⟨q23, -⟩, ⟨q22, -⟩, ⟨q21, -⟩, ⟨q20, -⟩, q19, q18, q9, ⟨q8, -⟩, q7, q5, q4, q3, q1⟩ := H
 replace q9 := out_L1490 q9
 obtain ⟨q9, q10, q11, q12, q13, q14, q15, q16, q17⟩ := q9
 replace q5 := out_ref03_Block q5
 obtain ⟨q5, q6⟩ := q5
 replace q1 := out_ref03_Right q1
 obtain ⟨q1, q2⟩ := q1
 simp only [L.ev_var, L.ev_n, L.ev_t, L.ev_e, L.ev, A.int_i, A.bool_b, A.str_v] at q9 q10 q11 q12 q13 q14 q15 q16 q17 q5 q6 q1 q2
 generalize (e 0).int = x0, (e 1).bool = v1, (e 2).bool = v2, (e 3).bool = v3, (e 4).bool = v4, (e 5).bool = v5, (e 6).int = v6, (e 7).bool = v7, (e 8).int = v8, (e 9).bool = v9, (e 10).int = v10, (e 11).int = v11, (e 12).int = v12, (e 13).int = v13, (e 14).int = v14, (e 15).int = v15, (e 16).int = v16, (e 17).int = v17, (e 18).bool = v18, (e 19).bool = v19, (e 20).int = v20, (e 21).int = v21, (e 22).int = v22, (e 23).int = v23, (e 24).int = v24, (e 25).int = v25, (e 26).int = v26, (e 27).int = v27, (e 28).int = v28, (e 29).int = v29, (e 30).bool = v30 at *
 cases hR : Day.right x0 with
 | false =>
  rw [hR] at q2
  subst_vars
  simp [Day.freshH, Day.argE, hR, Day.noHB, Day.HB.a]
 | true =>
  have hn : 3 ≤ x0 ∧ x0 ≤ 8 := by simpa [Day.right] using hR
  rw [hR] at q2
  have w : IntKind.wrap .i64 (2 * x0 + 1) = 2 * x0 + 1 := wrap64 (by omega) (by omega)
  subst_vars
  simp [Day.freshH, Day.argE, hR, Day.HB.a, Day.ages8, Day.mostA, Day.fillF, Day.times, Day.loP, w, hn]
  omega
end Rx.S
