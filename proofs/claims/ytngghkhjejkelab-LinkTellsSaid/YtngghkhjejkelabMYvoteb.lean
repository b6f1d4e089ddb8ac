import Derived.Test.YtngghkhjejkelabMXc
import Derived.Test.YtngghkhjejkelabMXt
set_option linter.unusedVariables false
set_option linter.unusedSimpArgs false
namespace Rx.S
open Go Rx
set_option maxRecDepth 100000
set_option maxHeartbeats 1000000
def Jc : Lp := ⟨8, [false, true, false, true, true], 1470, 16, 2, 1, ⟨Ii 64 [(0, .pv (.one (.k (.int .i64 (V 0))))), (1, .pv (.agg [.k (.int .i64 (V 1)), .k (.int .i64 (V 2)), .k (.int .i64 (V 3)), .k (.int .i64 (V 4)), .k (.int .i64 (V 5)), .k (.int .i64 (V 6)), .k (.int .i64 (V 7)), .k (.int .i64 (V 8)), .k (.int .i64 (V 9)), .k (.int .i64 (V 10)), .k (.int .i64 (V 11)), .k (.int .i64 (V 12))])), (3, .pv (.one (.k (.ptr 0 0)))), (4, .pv (.one (.k (.bool (B false))))), (5, .pv (.one (.k (.int .i64 (V 13))))), (6, .pv (.one (.k (.int .i64 (V 0))))), (7, .pv (.one (.k (.bool (V 14))))), (8, .pv (.one (.k (.bool (V 15)))))], [⟨true, 24, 12, [.k (.int .i64 (V 1)), .k (.int .i64 (V 2)), .k (.int .i64 (V 3)), .k (.int .i64 (V 4)), .k (.int .i64 (V 5)), .k (.int .i64 (V 6)), .k (.int .i64 (V 7)), .k (.int .i64 (V 8)), .k (.int .i64 (V 9)), .k (.int .i64 (V 10)), .k (.int .i64 (V 11)), .k (.int .i64 (V 12))], none⟩], B true⟩, [(.ret, ⟨Ii 64 [(0, .pv (.one (.k (.int .i64 (V 0))))), (1, .pv (.agg [.k (.int .i64 (V 1)), .k (.int .i64 (V 2)), .k (.int .i64 (V 3)), .k (.int .i64 (V 4)), .k (.int .i64 (V 5)), .k (.int .i64 (V 6)), .k (.int .i64 (V 7)), .k (.int .i64 (V 8)), .k (.int .i64 (V 9)), .k (.int .i64 (V 10)), .k (.int .i64 (V 11)), .k (.int .i64 (V 12))])), (3, .pv (.one (.k (.ptr 0 0)))), (4, .pv (.one (.k (.bool (B false))))), (6, .pv (.one (.k (.int .i64 (V 0))))), (7, .pv (.one (.k (.bool (V 14))))), (8, .pv (.one (.k (.bool (V 15)))))], [⟨true, 24, 12, [.k (.int .i64 (V 1)), .k (.int .i64 (V 2)), .k (.int .i64 (V 3)), .k (.int .i64 (V 4)), .k (.int .i64 (V 5)), .k (.int .i64 (V 6)), .k (.int .i64 (V 7)), .k (.int .i64 (V 8)), .k (.int .i64 (V 9)), .k (.int .i64 (V 10)), .k (.int .i64 (V 11)), .k (.int .i64 (V 12))], none⟩], V 16⟩), (.exit 0, ⟨Ii 64 [(0, .pv (.one (.k (.int .i64 (V 0))))), (1, .pv (.agg [.k (.int .i64 (V 1)), .k (.int .i64 (V 2)), .k (.int .i64 (V 3)), .k (.int .i64 (V 4)), .k (.int .i64 (V 5)), .k (.int .i64 (V 6)), .k (.int .i64 (V 7)), .k (.int .i64 (V 8)), .k (.int .i64 (V 9)), .k (.int .i64 (V 10)), .k (.int .i64 (V 11)), .k (.int .i64 (V 12))])), (3, .pv (.one (.k (.ptr 0 0)))), (4, .pv (.one (.k (.bool (B false))))), (6, .pv (.one (.k (.int .i64 (V 0))))), (7, .pv (.one (.k (.bool (V 14))))), (8, .pv (.one (.k (.bool (V 15)))))], [⟨true, 24, 12, [.k (.int .i64 (V 1)), .k (.int .i64 (V 2)), .k (.int .i64 (V 3)), .k (.int .i64 (V 4)), .k (.int .i64 (V 5)), .k (.int .i64 (V 6)), .k (.int .i64 (V 7)), .k (.int .i64 (V 8)), .k (.int .i64 (V 9)), .k (.int .i64 (V 10)), .k (.int .i64 (V 11)), .k (.int .i64 (V 12))], none⟩], V 17⟩)], [true, true, true, true, true, true, true, true, true, true, true, true, true, false, true, true], [.b, .b]⟩
def NV : G := ⟨48, [⟨47, .and, [V 16, V 45]⟩, ⟨46, .and, [V 16, V 42]⟩, ⟨45, .and, [V 44, V 41]⟩, ⟨44, .not, [V 42]⟩, ⟨43, (.ar .add .i64), [V 13, N 1]⟩, ⟨42, .and, [V 38, V 40]⟩, ⟨41, .and, [V 37, V 39]⟩, ⟨40, .and, [V 16, V 38]⟩, ⟨39, .and, [V 16, V 37]⟩, ⟨38, .not, [V 37]⟩, ⟨37, .iteB, [V 28, B true, V 36]⟩, ⟨36, .iteB, [V 31, V 35, B false]⟩, ⟨35, (.cmp .neq), [V 23, N 0]⟩, ⟨34, .imp, [V 33, V 21]⟩, ⟨33, .and, [V 32, V 29]⟩, ⟨32, .and, [V 16, V 31]⟩, ⟨31, (.cmp .geq), [V 13, V 0]⟩, ⟨30, .and, [V 16, V 29]⟩, ⟨29, .not, [V 28]⟩, ⟨28, .iteB, [V 18, V 27, B false]⟩, ⟨27, .not, [V 25]⟩, ⟨26, .imp, [V 19, V 24]⟩, ⟨24, (.call 19), [V 23, V 0]⟩, ⟨23, .sel, [V 13, V 1, V 2, V 3, V 4, V 5, V 6, V 7, V 8]⟩, ⟨22, .imp, [V 19, V 21]⟩, ⟨21, .and, [V 20, V 16]⟩, ⟨20, (.cmp .leq), [N 0, V 13]⟩, ⟨19, .and, [V 16, V 18]⟩, ⟨18, (.cmp .lss), [V 13, V 0]⟩, ⟨17, .not, [V 16]⟩, ⟨16, (.cmp .lss), [V 13, N 8]⟩], [V 34, V 26, V 22], []⟩
def Aaj (al : List A) : Nat := (8 - (gi al 13)).toNat
theorem YZ (e : Nat → A) (H : Ac T e NV.defs) : ∀ z0, z0 = (Day.HB.mk [(e 1).int, (e 2).int, (e 3).int, (e 4).int, (e 5).int, (e 6).int, (e 7).int, (e 8).int] (e 9).int (e 10).int (e 11).int (e 12).int) → ∀ y0, y0 = (Day.HB.mk [(e 1).int, (e 2).int, (e 3).int, (e 4).int, (e 5).int, (e 6).int, (e 7).int, (e 8).int] (e 9).int (e 10).int (e 11).int (e 12).int) → (Day.right (e 0).int && Day.Be (e 13).int 8) = true →
  ((e 34).bool = true ∧ (e 26).bool = true ∧ (e 22).bool = true) ∧ ((e 46).bool = true → (Day.right (e 0).int && Day.Be (e 43).int 8) = true ∧ ((!Day.okF (e 0).int y0 (e 43).int) = (!Day.okF (e 0).int z0 (e 13).int) ∧ Day.okF (e 0).int y0 (e 43).int = Day.okF (e 0).int z0 (e 13).int) ∧ (8 - (e 43).int).toNat < (8 - (e 13).int).toNat) ∧ ((e 47).bool = true → true = (!Day.okF (e 0).int z0 (e 13).int)) ∧ ((e 17).bool = true → true = Day.okF (e 0).int z0 (e 13).int) := by
 intro z0 hz0 y0 hy0 hp
 subst hz0 hy0
 simp only [NV, Ac, Def.q, Bc, L.Ae, L.Aq, L.AE, L.AF, L.ev, A.Ad, A.Ah, A.As, A.AJ, List.map_cons, List.map_nil, Nat.zero_add, Nat.add_zero, and_true, true_and, Nat.reduceAdd, Nat.one_mul] at H
 simp only [C0, C1, CN, A3, De, Dg, Bm, Dw, and_true, true_and] at H
 obtain ⟨q47, q46, q45, q44, ⟨q43, -⟩, q42, q41, q40, q39, q38, q37, q36, q35, q34, q33, q32, q31, q30, q29, q28, q27, q26, q24, q23, q22, q21, q20, q19, q18, q17, q16⟩ := H
 replace q24 := Eu q24
 obtain ⟨q24, q25⟩ := q24
 simp only [L.Ae, L.Aq, L.AE, L.AF, L.ev, A.Ad, A.Ah, A.As] at q24 q25
 generalize (e 0).int = x0, (e 1).int = x1, (e 2).int = x2, (e 3).int = x3, (e 4).int = x4, (e 5).int = x5, (e 6).int = x6, (e 7).int = x7, (e 8).int = x8, (e 9).int = x9, (e 10).int = x10, (e 11).int = x11, (e 12).int = x12, (e 13).int = x13, (e 14).int = x14, (e 15).int = x15, (e 16).bool = v16, (e 17).bool = v17, (e 18).bool = v18, (e 19).bool = v19, (e 20).bool = v20, (e 21).bool = v21, (e 22).bool = v22, (e 23).int = v23, (e 24).bool = v24, (e 25).bool = v25, (e 26).bool = v26, (e 27).bool = v27, (e 28).bool = v28, (e 29).bool = v29, (e 30).bool = v30, (e 31).bool = v31, (e 32).bool = v32, (e 33).bool = v33, (e 34).bool = v34, (e 35).bool = v35, (e 36).bool = v36, (e 37).bool = v37, (e 38).bool = v38, (e 39).bool = v39, (e 40).bool = v40, (e 41).bool = v41, (e 42).bool = v42, (e 43).int = v43, (e 44).bool = v44, (e 45).bool = v45, (e 46).bool = v46, (e 47).bool = v47 at *
 replace q23 : v23 = ((Day.HB.mk [x1, x2, x3, x4, x5, x6, x7, x8] x9 x10 x11 x12)).a x13.toNat := q23
 generalize (Day.HB.mk [x1, x2, x3, x4, x5, x6, x7, x8] x9 x10 x11 x12) = h at *
 simp only [Bool.and_eq_true, Day.Au] at hp
 obtain ⟨hR, hi⟩ := hp
 have w : IntKind.wrap .i64 (x13 + 1) = x13 + 1 := wrap64 (by omega) (by omega)
 by_cases hlt : x13 < 8
 ·have st := Day.AdG (n := x0) h ⟨hi.1, hlt⟩
  rw [← q23] at st
  have hq : ((x13.toNat : Nat) : Int) = x13 := by omega
  have mo : Day.Be v23 (Day.AY x0 x13.toNat) = !v37 := by
   rw [q37, q28, q36, q35, q31, q27, q25, q18]
   by_cases c : x13 < x0
   ·have c2 : ¬ x0 ≤ x13 := by omega
    simp [Day.AY, hq, c, c2]
   ·have c2 : x0 ≤ x13 := by omega
    simp only [Day.AY, hq, c, c2, Day.Ahw]
    by_cases z : v23 = 0 <;> simp [z, Day.Ahw]
  have o22 : v22 = true := by rw [q22, q21, q20, q16]; simp; omega
  have o26 : v26 = true := by rw [q26, q24]; simp
  have o34 : v34 = true := by rw [q34, q21, q20, q16]; simp; omega
  refine ⟨by simp only [o22, o26, o34, and_self], fun hb => ?_, fun hb => ?_, fun hb => ?_⟩
  ·have e37 : v37 = false := by
    rw [q46, q42, q38] at hb
    cases v37 with
    | false => rfl
    | true => simp at hb
   rw [q43, w, st, mo, e37]
   refine ⟨by simp [hR, Day.Be]; omega, by simp, by omega⟩
  ·have e37 : v37 = true := by
    rw [q47, q45, q41] at hb
    cases v37 with
    | false => simp at hb
    | true => rfl
   rw [st, mo, e37]; rfl
  ·rw [q17, q16] at hb; simp [hlt] at hb
 ·have e16 : v16 = false := by rw [q16]; simp [hlt]
  have o22 : v22 = true := by rw [q22, q19, e16]; simp
  have o26 : v26 = true := by rw [q26, q24]; simp
  have o34 : v34 = true := by rw [q34, q33, q32, e16]; simp
  refine ⟨by simp only [o22, o26, o34, and_self], fun hb => ?_, fun hb => ?_, fun hb => ?_⟩
  ·rw [q46, e16] at hb; simp at hb
  ·rw [q47, e16] at hb; simp at hb
  ·rw [Day.AeY x0 h (by omega)]
theorem Aak (as : List A) (e : Nat → A) (h1 : as = (List.range 16).map e) (h2 : (Kt as).1 = true) (H : Ac T e NV.defs) : Ct e NV.obs ∧
   (∀ pc ls, some (V 46, [V 0, V 1, V 2, V 3, V 4, V 5, V 6, V 7, V 8, V 9, V 10, V 11, V 12, V 43, V 14, V 15]) = some (pc, ls) → (pc.ev e).bool = true → (Kt (ls.map (L.ev e))).1 = true ∧ (Kt (ls.map (L.ev e))).2 = (Kt as).2 ∧ Aaj (ls.map (L.ev e)) < Aaj as) ∧
   ∀ x ∈ ([(V 47, [some (B true), none]), (V 17, [none, some (B true)])] : List (L × List (Option L))), (x.1.ev e).bool = true → ∀ (j : Nat) l, x.2[j]? = some (some l) → Gl (Jc.tags.getD j .any) (l.ev e) ((Kt as).2.getD j (.i 0)) := by
 subst h1
 obtain ⟨ho, h⟩ := YZ e H _ rfl _ rfl h2
 refine ⟨⟨ho.1, ho.2.1, ho.2.2, trivial⟩, fun pc ls hb hpc => ?_, ?_⟩
 ·injection hb with hb
  injection hb with h3 h4
  subst h3 h4
  have h := h.1 hpc
  refine ⟨h.1, ?_, h.2.2⟩
  have h5 := h.2.1
  obtain ⟨z0, z1⟩ := h5
  exact (JB z0 (JB z1 rfl))
 ·intro x hx hpc j l hj
  simp only [List.mem_cons, List.not_mem_nil, or_false] at hx
  rcases hx with rfl | rfl
  ·have h := h.2.1 hpc
   have z0 := h
   match j, hj with
   | 0, hj => cases hj; exact z0
   | 1, hj => cases hj
   | _ + 2, hj => cases hj
  ·have h := h.2.2 hpc
   have z1 := h
   match j, hj with
   | 0, hj => cases hj
   | 1, hj => cases hj; exact z1
   | _ + 2, hj => cases hj
def Hs : G := ⟨58, [⟨57, .iteB, [V 16, V 54, V 15]⟩, ⟨56, .iteB, [V 16, V 53, B false]⟩, ⟨55, .not, [V 16]⟩, ⟨54, .iteB, [V 25, V 25, V 24]⟩, ⟨53, .iteB, [V 25, V 51, B false]⟩, ⟨52, .not, [V 25]⟩, ⟨51, .iteB, [V 46, V 49, B false]⟩, ⟨50, .imp, [V 47, V 48]⟩, ⟨48, (.call 19), [V 12, V 26]⟩, ⟨47, .and, [V 25, V 46]⟩, ⟨46, .iteB, [V 38, V 44, B false]⟩, ⟨45, .imp, [V 39, V 43]⟩, ⟨43, (.call 19), [V 11, V 41]⟩, ⟨42, .imp, [V 39, V 40]⟩, ⟨40, (.call 20), [V 0]⟩, ⟨39, .and, [V 25, V 38]⟩, ⟨38, .iteB, [V 28, V 36, B false]⟩, ⟨37, .imp, [V 30, V 35]⟩, ⟨35, (.call 19), [V 10, V 34]⟩, ⟨34, (.ar .add .i64), [V 32, N 1]⟩, ⟨33, .imp, [V 30, V 31]⟩, ⟨31, (.call 20), [V 0]⟩, ⟨30, .and, [V 25, V 28]⟩, ⟨29, .imp, [V 25, V 27]⟩, ⟨27, (.call 19), [V 9, V 26]⟩, ⟨26, (.ar .sub .i64), [V 0, N 1]⟩, ⟨25, .and, [V 16, V 19]⟩, ⟨24, .and, [V 16, V 18]⟩, ⟨23, .imp, [V 16, V 22]⟩, ⟨22, .not, [V 21]⟩, ⟨21, .and, [V 18, V 19]⟩, ⟨20, .imp, [V 16, V 17]⟩, ⟨17, (.call 1470), [V 0, V 1, V 2, V 3, V 4, V 5, V 6, V 7, V 8, V 9, V 10, V 11, V 12, N 0, V 14, V 15]⟩, ⟨16, .not, [V 15]⟩, ⟨15, .not, [V 14]⟩, ⟨13, (.call 18), [V 0]⟩], [V 50, V 45, V 42, V 37, V 33, V 29, V 23, V 20, V 13], []⟩
theorem Pg (e : Nat → A) (H : Ac T e Hs.defs) : ∀ z0, z0 = (Day.HB.mk [(e 1).int, (e 2).int, (e 3).int, (e 4).int, (e 5).int, (e 6).int, (e 7).int, (e 8).int] (e 9).int (e 10).int (e 11).int (e 12).int) → (true) = true →
  ((e 50).bool = true ∧ (e 45).bool = true ∧ (e 42).bool = true ∧ (e 37).bool = true ∧ (e 33).bool = true ∧ (e 29).bool = true ∧ (e 23).bool = true ∧ (e 20).bool = true ∧ (e 13).bool = true) ∧ (Day.Ak (e 0).int z0 = (e 56).bool) := by
 intro z0 hz0 hp
 subst hz0
 simp only [Hs, Ac, Def.q, Bc, L.Ae, L.Aq, L.AE, L.AF, L.ev, A.Ad, A.Ah, A.As, A.AJ, List.map_cons, List.map_nil, Nat.zero_add, Nat.add_zero, and_true, true_and, Nat.reduceAdd, Nat.one_mul] at H
 simp only [C0, C1, CN, A3, De, Dg, Bm, Dw, and_true, true_and] at H
 obtain ⟨q57, q56, q55, q54, q53, q52, q51, q50, q48, q47, q46, q45, q43, q42, q40, q39, q38, q37, q35, ⟨q34, -⟩, q33, q31, q30, q29, q27, ⟨q26, -⟩, q25, q24, q23, q22, q21, q20, q17, q16, q15, q13⟩ := H
 replace q48 := Eu q48
 obtain ⟨q48, q49⟩ := q48
 replace q43 := Eu q43
 obtain ⟨q43, q44⟩ := q43
 replace q40 := Bk q40
 obtain ⟨q40, q41⟩ := q40
 replace q35 := Eu q35
 obtain ⟨q35, q36⟩ := q35
 replace q31 := Bk q31
 obtain ⟨q31, q32⟩ := q31
 replace q27 := Eu q27
 obtain ⟨q27, q28⟩ := q27
 replace q17 := Ab0 q17 _ rfl
 obtain ⟨q17, q18, q19⟩ := q17
 replace q13 := C5 q13
 obtain ⟨q13, q14⟩ := q13
 simp only [L.Ae, L.Aq, L.AE, L.AF, L.ev, A.Ad, A.Ah, A.As] at q48 q49 q43 q44 q40 q41 q35 q36 q31 q32 q27 q28 q17 q18 q19 q13 q14
 generalize (e 0).int = x0, (e 1).int = x1, (e 2).int = x2, (e 3).int = x3, (e 4).int = x4, (e 5).int = x5, (e 6).int = x6, (e 7).int = x7, (e 8).int = x8, (e 9).int = x9, (e 10).int = x10, (e 11).int = x11, (e 12).int = x12, (e 13).bool = v13, (e 14).bool = v14, (e 15).bool = v15, (e 16).bool = v16, (e 17).bool = v17, (e 18).bool = v18, (e 19).bool = v19, (e 20).bool = v20, (e 21).bool = v21, (e 22).bool = v22, (e 23).bool = v23, (e 24).bool = v24, (e 25).bool = v25, (e 26).int = v26, (e 27).bool = v27, (e 28).bool = v28, (e 29).bool = v29, (e 30).bool = v30, (e 31).bool = v31, (e 32).int = v32, (e 33).bool = v33, (e 34).int = v34, (e 35).bool = v35, (e 36).bool = v36, (e 37).bool = v37, (e 38).bool = v38, (e 39).bool = v39, (e 40).bool = v40, (e 41).int = v41, (e 42).bool = v42, (e 43).bool = v43, (e 44).bool = v44, (e 45).bool = v45, (e 46).bool = v46, (e 47).bool = v47, (e 48).bool = v48, (e 49).bool = v49, (e 50).bool = v50, (e 51).bool = v51, (e 52).bool = v52, (e 53).bool = v53, (e 54).bool = v54, (e 55).bool = v55, (e 56).bool = v56, (e 57).bool = v57 at *
 cases hR : Day.right x0 with
 | false =>
  rw [hR] at q14
  subst_vars
  simp [Day.Ak, hR]
 | true =>
  have hn : 3 ≤ x0 ∧ x0 ≤ 8 := by simpa [Day.right] using hR
  have w1 : IntKind.wrap .i64 (x0 - 1) = x0 - 1 := wrap64 (by omega) (by omega)
  have w2 : IntKind.wrap .i64 (2 * x0 + 1) = 2 * x0 + 1 := wrap64 (by omega) (by omega)
  have z := Day.AdF x0 (Day.HB.mk [x1, x2, x3, x4, x5, x6, x7, x8] x9 x10 x11 x12)
  have hI : Day.Be 0 8 = true := by decide
  have e : Day.Ak x0 (Day.HB.mk [x1, x2, x3, x4, x5, x6, x7, x8] x9 x10 x11 x12) = (Day.okF x0 (Day.HB.mk [x1, x2, x3, x4, x5, x6, x7, x8] x9 x10 x11 x12) 0 && Day.Be x9 (x0 - 1) && Day.Be x10 (2 * x0 + 1) && Day.Be x11 (2 * x0) && Day.Be x12 (x0 - 1)) := by
   rw [Day.Ak, hR, z]; simp
  rw [e]
  clear e z
  generalize (Day.HB.mk [x1, x2, x3, x4, x5, x6, x7, x8] x9 x10 x11 x12) = h at *
  rw [hR] at q14
  subst_vars
  simp only [hI, w1, w2, Day.times, hR]
  cases Day.okF x0 h 0
  ·simp
  ·simp [w2, Bool.and_assoc]
def MV : G := ⟨5, [⟨4, .iteB, [V 2, V 3, B false]⟩, ⟨3, (.cmp .leq), [V 0, V 1]⟩, ⟨2, (.cmp .geq), [V 0, N 0]⟩], [], []⟩
theorem U7 (e : Nat → A) (H : Ac T e MV.defs) (hp : (true) = true) :
  (True) ∧ (Day.Be (e 0).int (e 1).int = (e 4).bool) := by
 simp only [MV, Ac, Def.q, Bc, L.Ae, L.Aq, L.AE, L.AF, L.ev, A.Ad, A.Ah, A.As, A.AJ, List.map_cons, List.map_nil, Nat.zero_add, Nat.add_zero, and_true, true_and, Nat.reduceAdd, Nat.one_mul] at H
 simp only [C0, C1, CN, A3, De, Dg, Bm, Dw, and_true, true_and] at H
 obtain ⟨q4, q3, q2⟩ := H
 generalize (e 0).int = x0, (e 1).int = x1, (e 2).bool = v2, (e 3).bool = v3, (e 4).bool = v4 at *
 grind [Day.Be]
def Jg : Lp := ⟨45, [false, true, false, true, true], 1500, 24, 8, 2, ⟨Ii 43 [(0, .pv (.one (.k (.int .i64 (V 0))))), (1, .pv (.agg [.k (.int .i64 (V 1)), .k (.int .i64 (V 2)), .k (.int .i64 (V 3)), .k (.int .i64 (V 4)), .k (.int .i64 (V 5)), .k (.int .i64 (V 6)), .k (.int .i64 (V 7)), .k (.int .i64 (V 8)), .k (.int .i64 (V 9)), .k (.int .i64 (V 10)), .k (.int .i64 (V 11)), .k (.int .i64 (V 12))])), (3, .pv (.one (.k (.ptr 0 0)))), (4, .pv (.one (.k (.ptr 1 0)))), (5, .pv (.one (.k (.int .i64 (N 0))))), (6, .pv (.one (.k (.int .i64 (V 13))))), (7, .pv (.one (.k (.int .i64 (V 0))))), (8, .pv (.agg [.k (.int .i64 (V 1)), .k (.int .i64 (V 2)), .k (.int .i64 (V 3)), .k (.int .i64 (V 4)), .k (.int .i64 (V 5)), .k (.int .i64 (V 6)), .k (.int .i64 (V 7)), .k (.int .i64 (V 8)), .k (.int .i64 (V 9)), .k (.int .i64 (V 10)), .k (.int .i64 (V 11)), .k (.int .i64 (V 12))])), (9, .pv (.one (.k (.bool (V 14))))), (10, .pv (.one (.k (.bool (V 15)))))], [⟨true, 24, 12, [.k (.int .i64 (V 16)), .k (.int .i64 (V 17)), .k (.int .i64 (V 18)), .k (.int .i64 (V 19)), .k (.int .i64 (V 20)), .k (.int .i64 (V 21)), .k (.int .i64 (V 22)), .k (.int .i64 (V 23)), .k (.int .i64 (V 9)), .k (.int .i64 (V 10)), .k (.int .i64 (V 11)), .k (.int .i64 (V 12))], none⟩, ⟨true, 24, 12, [.k (.int .i64 (N 0)), .k (.int .i64 (N 0)), .k (.int .i64 (N 0)), .k (.int .i64 (N 0)), .k (.int .i64 (N 0)), .k (.int .i64 (N 0)), .k (.int .i64 (N 0)), .k (.int .i64 (N 0)), .k (.int .i64 (N 0)), .k (.int .i64 (N 0)), .k (.int .i64 (N 0)), .k (.int .i64 (N 0))], none⟩], B true⟩, [(.exit 0, ⟨Ii 43 [(0, .pv (.one (.k (.int .i64 (V 0))))), (1, .pv (.agg [.k (.int .i64 (V 1)), .k (.int .i64 (V 2)), .k (.int .i64 (V 3)), .k (.int .i64 (V 4)), .k (.int .i64 (V 5)), .k (.int .i64 (V 6)), .k (.int .i64 (V 7)), .k (.int .i64 (V 8)), .k (.int .i64 (V 9)), .k (.int .i64 (V 10)), .k (.int .i64 (V 11)), .k (.int .i64 (V 12))])), (3, .pv (.one (.k (.ptr 0 0)))), (4, .pv (.one (.k (.ptr 1 0)))), (5, .pv (.one (.k (.int .i64 (N 0))))), (7, .pv (.one (.k (.int .i64 (V 0))))), (8, .pv (.agg [.k (.int .i64 (V 1)), .k (.int .i64 (V 2)), .k (.int .i64 (V 3)), .k (.int .i64 (V 4)), .k (.int .i64 (V 5)), .k (.int .i64 (V 6)), .k (.int .i64 (V 7)), .k (.int .i64 (V 8)), .k (.int .i64 (V 9)), .k (.int .i64 (V 10)), .k (.int .i64 (V 11)), .k (.int .i64 (V 12))])), (9, .pv (.one (.k (.bool (V 14))))), (10, .pv (.one (.k (.bool (V 15)))))], [⟨true, 24, 12, [.k (.int .i64 (V 24)), .k (.int .i64 (V 25)), .k (.int .i64 (V 26)), .k (.int .i64 (V 27)), .k (.int .i64 (V 28)), .k (.int .i64 (V 29)), .k (.int .i64 (V 30)), .k (.int .i64 (V 31)), .k (.int .i64 (V 9)), .k (.int .i64 (V 10)), .k (.int .i64 (V 11)), .k (.int .i64 (V 12))], none⟩, ⟨true, 24, 12, [.k (.int .i64 (N 0)), .k (.int .i64 (N 0)), .k (.int .i64 (N 0)), .k (.int .i64 (N 0)), .k (.int .i64 (N 0)), .k (.int .i64 (N 0)), .k (.int .i64 (N 0)), .k (.int .i64 (N 0)), .k (.int .i64 (N 0)), .k (.int .i64 (N 0)), .k (.int .i64 (N 0)), .k (.int .i64 (N 0))], none⟩], B true⟩)], [true, true, true, true, true, true, true, true, true, true, true, true, true, false, true, true, false, false, false, false, false, false, false, false], [.i, .i, .i, .i, .i, .i, .i, .i]⟩
def N3 : G := ⟨43, [⟨42, (.ar .add .i64), [V 13, N 1]⟩, ⟨34, .upd, [V 13, V 32, V 16, V 17, V 18, V 19, V 20, V 21, V 22, V 23]⟩, ⟨33, .imp, [V 24, V 31]⟩, ⟨31, (.call 60), [V 30, V 0]⟩, ⟨30, .sel, [V 13, V 16, V 17, V 18, V 19, V 20, V 21, V 22, V 23]⟩, ⟨29, .imp, [V 24, V 28]⟩, ⟨28, .and, [V 26, V 27]⟩, ⟨27, (.cmp .lss), [V 13, N 8]⟩, ⟨26, (.cmp .leq), [N 0, V 13]⟩, ⟨25, .not, [V 24]⟩, ⟨24, (.cmp .lss), [V 13, V 0]⟩], [V 29, V 33, V 29], []⟩
def Aao (al : List A) : Nat := ((gi al 0) - (gi al 13)).toNat
theorem Y1 (e : Nat → A) (H : Ac T e N3.defs) (hp : (Day.Yr (e 0).int (e 13).int) = true) :
  ((e 29).bool = true ∧ (e 33).bool = true ∧ (e 29).bool = true) ∧ ((e 24).bool = true → (Day.Yr (e 0).int (e 42).int) = true ∧ (Day.Hi (e 0).int (e 42).int 0 (e 34).int = Day.Hi (e 0).int (e 13).int 0 (e 16).int ∧ Day.Hi (e 0).int (e 42).int 1 (e 35).int = Day.Hi (e 0).int (e 13).int 1 (e 17).int ∧ Day.Hi (e 0).int (e 42).int 2 (e 36).int = Day.Hi (e 0).int (e 13).int 2 (e 18).int ∧ Day.Hi (e 0).int (e 42).int 3 (e 37).int = Day.Hi (e 0).int (e 13).int 3 (e 19).int ∧ Day.Hi (e 0).int (e 42).int 4 (e 38).int = Day.Hi (e 0).int (e 13).int 4 (e 20).int ∧ Day.Hi (e 0).int (e 42).int 5 (e 39).int = Day.Hi (e 0).int (e 13).int 5 (e 21).int ∧ Day.Hi (e 0).int (e 42).int 6 (e 40).int = Day.Hi (e 0).int (e 13).int 6 (e 22).int ∧ Day.Hi (e 0).int (e 42).int 7 (e 41).int = Day.Hi (e 0).int (e 13).int 7 (e 23).int) ∧ ((e 0).int - (e 42).int).toNat < ((e 0).int - (e 13).int).toNat) ∧ ((e 25).bool = true → (e 16).int = Day.Hi (e 0).int (e 13).int 0 (e 16).int ∧ (e 17).int = Day.Hi (e 0).int (e 13).int 1 (e 17).int ∧ (e 18).int = Day.Hi (e 0).int (e 13).int 2 (e 18).int ∧ (e 19).int = Day.Hi (e 0).int (e 13).int 3 (e 19).int ∧ (e 20).int = Day.Hi (e 0).int (e 13).int 4 (e 20).int ∧ (e 21).int = Day.Hi (e 0).int (e 13).int 5 (e 21).int ∧ (e 22).int = Day.Hi (e 0).int (e 13).int 6 (e 22).int ∧ (e 23).int = Day.Hi (e 0).int (e 13).int 7 (e 23).int) := by
 simp only [N3, Ac, Def.q, Bc, L.Ae, L.Aq, L.AE, L.AF, L.ev, A.Ad, A.Ah, A.As, A.AJ, List.map_cons, List.map_nil, Nat.zero_add, Nat.add_zero, and_true, true_and, Nat.reduceAdd, Nat.one_mul] at H
 simp only [C0, C1, CN, A3, De, Dg, Bm, Dw, and_true, true_and] at H
 obtain ⟨⟨q42, -⟩, ⟨q34, q35, q36, q37, q38, q39, q40, q41⟩, q33, q31, q30, q29, q28, q27, q26, q25, q24⟩ := H
 replace q31 := NB q31
 obtain ⟨q31, q32⟩ := q31
 simp only [L.Ae, L.Aq, L.AE, L.AF, L.ev, A.Ad, A.Ah, A.As] at q31 q32
 generalize (e 0).int = x0, (e 1).int = x1, (e 2).int = x2, (e 3).int = x3, (e 4).int = x4, (e 5).int = x5, (e 6).int = x6, (e 7).int = x7, (e 8).int = x8, (e 9).int = x9, (e 10).int = x10, (e 11).int = x11, (e 12).int = x12, (e 13).int = x13, (e 14).int = x14, (e 15).int = x15, (e 16).int = x16, (e 17).int = x17, (e 18).int = x18, (e 19).int = x19, (e 20).int = x20, (e 21).int = x21, (e 22).int = x22, (e 23).int = x23, (e 24).bool = v24, (e 25).bool = v25, (e 26).bool = v26, (e 27).bool = v27, (e 28).bool = v28, (e 29).bool = v29, (e 30).int = v30, (e 31).bool = v31, (e 32).int = v32, (e 33).bool = v33, (e 34).int = v34, (e 35).int = v35, (e 36).int = v36, (e 37).int = v37, (e 38).int = v38, (e 39).int = v39, (e 40).int = v40, (e 41).int = v41, (e 42).int = v42 at *
 simp only [Day.IL] at hp
 have hx : x13 = 0 ∨ x13 = 1 ∨ x13 = 2 ∨ x13 = 3 ∨ x13 = 4 ∨ x13 = 5 ∨ x13 = 6 ∨ x13 = 7 ∨ x13 = 8 := by omega
 rcases hx with rfl | rfl | rfl | rfl | rfl | rfl | rfl | rfl | rfl
 all_goals
  subst_vars
  simp [Day.IL, Day.Hi, Day.sm, wrap64] at *
  omega
theorem Aap (as : List A) (e : Nat → A) (h1 : as = (List.range 24).map e) (h2 : (Kv as).1 = true) (H : Ac T e N3.defs) : Ct e N3.obs ∧
   (∀ pc ls, some (V 24, [V 0, V 1, V 2, V 3, V 4, V 5, V 6, V 7, V 8, V 9, V 10, V 11, V 12, V 42, V 14, V 15, V 34, V 35, V 36, V 37, V 38, V 39, V 40, V 41]) = some (pc, ls) → (pc.ev e).bool = true → (Kv (ls.map (L.ev e))).1 = true ∧ (Kv (ls.map (L.ev e))).2 = (Kv as).2 ∧ Aao (ls.map (L.ev e)) < Aao as) ∧
   ∀ x ∈ ([(V 25, [some (V 16), some (V 17), some (V 18), some (V 19), some (V 20), some (V 21), some (V 22), some (V 23)])] : List (L × List (Option L))), (x.1.ev e).bool = true → ∀ (j : Nat) l, x.2[j]? = some (some l) → Gl (Jg.tags.getD j .any) (l.ev e) ((Kv as).2.getD j (.i 0)) := by
 subst h1
 obtain ⟨ho, h⟩ := Y1 e H h2
 refine ⟨⟨ho.1, ho.2.1, ho.2.2, trivial⟩, fun pc ls hb hpc => ?_, ?_⟩
 ·injection hb with hb
  injection hb with h3 h4
  subst h3 h4
  have h := h.1 hpc
  refine ⟨h.1, ?_, h.2.2⟩
  have h5 := h.2.1
  obtain ⟨z0, z1, z2, z3, z4, z5, z6, z7⟩ := h5
  exact (AU z0 (AU z1 (AU z2 (AU z3 (AU z4 (AU z5 (AU z6 (AU z7 rfl))))))))
 ·intro x hx hpc j l hj
  simp only [List.mem_cons, List.not_mem_nil, or_false] at hx
  rcases hx with rfl
  ·have h := h.2 hpc
   obtain ⟨z0, z1, z2, z3, z4, z5, z6, z7⟩ := h
   match j, hj with
   | 0, hj => cases hj; exact z0
   | 1, hj => cases hj; exact z1
   | 2, hj => cases hj; exact z2
   | 3, hj => cases hj; exact z3
   | 4, hj => cases hj; exact z4
   | 5, hj => cases hj; exact z5
   | 6, hj => cases hj; exact z6
   | 7, hj => cases hj; exact z7
   | _ + 8, hj => cases hj
def Jh : G := ⟨66, [⟨65, .iteB, [V 16, V 16, V 15]⟩, ⟨64, .iteI, [V 16, V 38, N 0]⟩, ⟨63, .iteI, [V 16, V 35, N 0]⟩, ⟨62, .iteI, [V 16, V 32, N 0]⟩, ⟨61, .iteI, [V 16, V 9, N 0]⟩, ⟨60, .iteI, [V 16, V 25, N 0]⟩, ⟨59, .iteI, [V 16, V 24, N 0]⟩, ⟨58, .iteI, [V 16, V 23, N 0]⟩, ⟨57, .iteI, [V 16, V 22, N 0]⟩, ⟨56, .iteI, [V 16, V 21, N 0]⟩, ⟨55, .iteI, [V 16, V 20, N 0]⟩, ⟨54, .iteI, [V 16, V 19, N 0]⟩, ⟨53, .iteI, [V 16, V 18, N 0]⟩, ⟨52, .iteI, [V 16, V 38, V 12]⟩, ⟨51, .iteI, [V 16, V 35, V 11]⟩, ⟨50, .iteI, [V 16, V 32, V 10]⟩, ⟨49, .iteI, [V 16, V 25, V 8]⟩, ⟨48, .iteI, [V 16, V 24, V 7]⟩, ⟨47, .iteI, [V 16, V 23, V 6]⟩, ⟨46, .iteI, [V 16, V 22, V 5]⟩, ⟨45, .iteI, [V 16, V 21, V 4]⟩, ⟨44, .iteI, [V 16, V 20, V 3]⟩, ⟨43, .iteI, [V 16, V 19, V 2]⟩, ⟨42, .iteI, [V 16, V 18, V 1]⟩, ⟨41, .iteI, [V 16, N 0, N 1]⟩, ⟨40, .not, [V 16]⟩, ⟨39, .imp, [V 16, V 37]⟩, ⟨37, (.call 62), [V 0, V 12]⟩, ⟨36, .imp, [V 16, V 34]⟩, ⟨34, (.call 61), [V 11]⟩, ⟨33, .imp, [V 16, V 31]⟩, ⟨31, (.call 60), [V 10, V 30]⟩, ⟨30, (.ar .add .i64), [V 28, N 1]⟩, ⟨29, .imp, [V 16, V 27]⟩, ⟨27, (.call 20), [V 0]⟩, ⟨26, .imp, [V 16, V 17]⟩, ⟨17, (.call 1500), [V 0, V 1, V 2, V 3, V 4, V 5, V 6, V 7, V 8, V 9, V 10, V 11, V 12, N 0, V 14, V 15, V 1, V 2, V 3, V 4, V 5, V 6, V 7, V 8]⟩, ⟨16, .not, [V 15]⟩, ⟨15, .not, [V 14]⟩, ⟨13, (.call 8), [V 0, V 1, V 2, V 3, V 4, V 5, V 6, V 7, V 8, V 9, V 10, V 11, V 12]⟩], [V 39, V 36, V 33, V 29, V 26, V 13], []⟩
theorem QT (e : Nat → A) (H : Ac T e Jh.defs) : ∀ z0, z0 = (Day.HB.mk [(e 1).int, (e 2).int, (e 3).int, (e 4).int, (e 5).int, (e 6).int, (e 7).int, (e 8).int] (e 9).int (e 10).int (e 11).int (e 12).int) → ∀ r1, r1 = Day.Bq (e 0).int z0 → (Day.HB.i64 z0) = true →
  ((e 39).bool = true ∧ (e 36).bool = true ∧ (e 33).bool = true ∧ (e 29).bool = true ∧ (e 26).bool = true ∧ (e 13).bool = true) ∧ (((r1)).a 0 = (e 53).int ∧ ((r1)).a 1 = (e 54).int ∧ ((r1)).a 2 = (e 55).int ∧ ((r1)).a 3 = (e 56).int ∧ ((r1)).a 4 = (e 57).int ∧ ((r1)).a 5 = (e 58).int ∧ ((r1)).a 6 = (e 59).int ∧ ((r1)).a 7 = (e 60).int ∧ ((r1)).port = (e 61).int ∧ ((r1)).age = (e 62).int ∧ ((r1)).hold = (e 63).int ∧ ((r1)).pos = (e 64).int ∧ Day.BZ (e 0).int z0 = (e 41).int) := by
 intro z0 hz0 r1 hr1 hp
 subst hz0 hr1
 simp only [Jh, Ac, Def.q, Bc, L.Ae, L.Aq, L.AE, L.AF, L.ev, A.Ad, A.Ah, A.As, A.AJ, List.map_cons, List.map_nil, Nat.zero_add, Nat.add_zero, and_true, true_and, Nat.reduceAdd, Nat.one_mul] at H
 simp only [C0, C1, CN, A3, De, Dg, Bm, Dw, and_true, true_and] at H
 obtain ⟨q65, ⟨q64, -⟩, ⟨q63, -⟩, ⟨q62, -⟩, ⟨q61, -⟩, ⟨q60, -⟩, ⟨q59, -⟩, ⟨q58, -⟩, ⟨q57, -⟩, ⟨q56, -⟩, ⟨q55, -⟩, ⟨q54, -⟩, ⟨q53, -⟩, ⟨q52, -⟩, ⟨q51, -⟩, ⟨q50, -⟩, ⟨q49, -⟩, ⟨q48, -⟩, ⟨q47, -⟩, ⟨q46, -⟩, ⟨q45, -⟩, ⟨q44, -⟩, ⟨q43, -⟩, ⟨q42, -⟩, ⟨q41, -⟩, q40, q39, q37, q36, q34, q33, q31, ⟨q30, -⟩, q29, q27, q26, q17, q16, q15, q13⟩ := H
 replace q37 := S9 q37
 obtain ⟨q37, q38⟩ := q37
 replace q34 := S8 q34
 obtain ⟨q34, q35⟩ := q34
 replace q31 := NB q31
 obtain ⟨q31, q32⟩ := q31
 replace q27 := Bk q27
 obtain ⟨q27, q28⟩ := q27
 replace q17 := Ab2 q17
 obtain ⟨q17, q18, q19, q20, q21, q22, q23, q24, q25⟩ := q17
 replace q13 := By q13 _ rfl
 obtain ⟨q13, q14⟩ := q13
 simp only [L.Ae, L.Aq, L.AE, L.AF, L.ev, A.Ad, A.Ah, A.As] at q37 q38 q34 q35 q31 q32 q27 q28 q17 q18 q19 q20 q21 q22 q23 q24 q25 q13 q14
 generalize (e 0).int = x0, (e 1).int = x1, (e 2).int = x2, (e 3).int = x3, (e 4).int = x4, (e 5).int = x5, (e 6).int = x6, (e 7).int = x7, (e 8).int = x8, (e 9).int = x9, (e 10).int = x10, (e 11).int = x11, (e 12).int = x12, (e 13).bool = v13, (e 14).bool = v14, (e 15).bool = v15, (e 16).bool = v16, (e 17).bool = v17, (e 18).int = v18, (e 19).int = v19, (e 20).int = v20, (e 21).int = v21, (e 22).int = v22, (e 23).int = v23, (e 24).int = v24, (e 25).int = v25, (e 26).bool = v26, (e 27).bool = v27, (e 28).int = v28, (e 29).bool = v29, (e 30).int = v30, (e 31).bool = v31, (e 32).int = v32, (e 33).bool = v33, (e 34).bool = v34, (e 35).int = v35, (e 36).bool = v36, (e 37).bool = v37, (e 38).int = v38, (e 39).bool = v39, (e 40).bool = v40, (e 41).int = v41, (e 42).int = v42, (e 43).int = v43, (e 44).int = v44, (e 45).int = v45, (e 46).int = v46, (e 47).int = v47, (e 48).int = v48, (e 49).int = v49, (e 50).int = v50, (e 51).int = v51, (e 52).int = v52, (e 53).int = v53, (e 54).int = v54, (e 55).int = v55, (e 56).int = v56, (e 57).int = v57, (e 58).int = v58, (e 59).int = v59, (e 60).int = v60, (e 61).int = v61, (e 62).int = v62, (e 63).int = v63, (e 64).int = v64, (e 65).bool = v65 at *
 generalize hH : (Day.HB.mk [x1, x2, x3, x4, x5, x6, x7, x8] x9 x10 x11 x12) = h at *
 have g0 : x1 = h.a 0 ∧ x2 = h.a 1 ∧ x3 = h.a 2 ∧ x4 = h.a 3 ∧ x5 = h.a 4 ∧ x6 = h.a 5 ∧ x7 = h.a 6 ∧ x8 = h.a 7 ∧ x9 = h.port ∧ x10 = h.age ∧ x11 = h.hold ∧ x12 = h.pos := by subst hH; simp [Day.HB.a]
 obtain ⟨a1, a2, a3, a4, a5, a6, a7, a8, a9, a10, a11, a12⟩ := g0
 cases hr : Day.Ak x0 h with
 | false =>
  rw [hr] at q14
  clear hH
  subst_vars
  simp [Day.Bq, Day.BZ, hr, Day.Bp, Day.HB.a]
 | true =>
  have hn := Day.BK hr
  have hbd := Day.Cd hr
  have hR : Day.right x0 = true := by simp [Day.right, hn]
  rw [hr] at q14
  have w : IntKind.wrap .i64 (2 * x0 + 1) = 2 * x0 + 1 := wrap64 (by omega) (by omega)
  have u (a : Int) (j : Int) (hj : 0 ≤ j) : Day.Hi x0 0 j a = if j < x0 then Day.HH a x0 else a := by simp [Day.Hi, hj]
  have m0 (a : Int) (j : Nat) (h : 0 ≤ a ∧ a ≤ Day.AY x0 j) : Day.HH a (Day.AY x0 j) = if (j : Int) < x0 then Day.HH a x0 else a := by
   unfold Day.AY at *
   split <;> rename_i c
   ·simp
   ·simp only [c, if_false] at h
    have : a = 0 := by omega
    simp [Day.HH, this]
  have hm : ∀ j : Nat, j < 8 → 0 ≤ h.a j ∧ h.a j ≤ Day.AY x0 j := Day.SB hr
  clear hH
  subst_vars
  simp [Day.Bq, Day.BZ, hr, hp, Day.HB.a, Day.AS, u, Day.times, Day.Yr, Day.sm, hR, w, hn, Day.i64, Day.AX, Day.BF, Day.AZ]
  have b := fun (j : Nat) (hj : j < 8) => m0 (h.a j) j (hm j hj)
  simp only [Day.HB.a, List.getD_eq_getElem?_getD] at b
  refine ⟨by omega, by simpa using b 0 (by decide), by simpa using b 1 (by decide), by simpa using b 2 (by decide), by simpa using b 3 (by decide), by simpa using b 4 (by decide), by simpa using b 5 (by decide), by simpa using b 6 (by decide), by simpa using b 7 (by decide)⟩
def Jk : Lp := ⟨65, [false, true, false, true, true], 1520, 16, 1, 1, ⟨Ii 27 [(0, .pv (.one (.k (.int .i64 (V 0))))), (1, .pv (.agg [.k (.int .i64 (V 1)), .k (.int .i64 (V 2)), .k (.int .i64 (V 3)), .k (.int .i64 (V 4)), .k (.int .i64 (V 5)), .k (.int .i64 (V 6)), .k (.int .i64 (V 7)), .k (.int .i64 (V 8)), .k (.int .i64 (V 9)), .k (.int .i64 (V 10)), .k (.int .i64 (V 11)), .k (.int .i64 (V 12))])), (2, .pv (.one (.k (.int .i64 (V 13))))), (4, .pv (.one (.k (.ptr 0 0)))), (6, .pv (.one (.k (.int .i64 (N 0))))), (7, .pv (.one (.k (.int .i64 (V 14))))), (8, .pv (.one (.k (.int .i64 (V 15)))))], [⟨true, 24, 12, [.k (.int .i64 (V 1)), .k (.int .i64 (V 2)), .k (.int .i64 (V 3)), .k (.int .i64 (V 4)), .k (.int .i64 (V 5)), .k (.int .i64 (V 6)), .k (.int .i64 (V 7)), .k (.int .i64 (V 8)), .k (.int .i64 (V 9)), .k (.int .i64 (V 10)), .k (.int .i64 (V 11)), .k (.int .i64 (V 12))], none⟩], B true⟩, [(.exit 0, ⟨Ii 27 [(1, .pv (.agg [.k (.int .i64 (V 1)), .k (.int .i64 (V 2)), .k (.int .i64 (V 3)), .k (.int .i64 (V 4)), .k (.int .i64 (V 5)), .k (.int .i64 (V 6)), .k (.int .i64 (V 7)), .k (.int .i64 (V 8)), .k (.int .i64 (V 9)), .k (.int .i64 (V 10)), .k (.int .i64 (V 11)), .k (.int .i64 (V 12))])), (6, .pv (.one (.k (.int .i64 (N 0))))), (7, .pv (.one (.k (.int .i64 (V 16)))))], [⟨true, 24, 12, [.k (.int .i64 (V 1)), .k (.int .i64 (V 2)), .k (.int .i64 (V 3)), .k (.int .i64 (V 4)), .k (.int .i64 (V 5)), .k (.int .i64 (V 6)), .k (.int .i64 (V 7)), .k (.int .i64 (V 8)), .k (.int .i64 (V 9)), .k (.int .i64 (V 10)), .k (.int .i64 (V 11)), .k (.int .i64 (V 12))], none⟩], B true⟩)], [true, true, true, true, true, true, true, true, true, true, true, true, true, true, false, false], [.i]⟩
def N7 : G := ⟨30, [⟨29, (.ar .add .i64), [V 15, N 1]⟩, ⟨28, .iteI, [V 22, V 27, V 14]⟩, ⟨27, (.ar .add .i64), [V 14, N 1]⟩, ⟨26, .and, [V 19, V 24]⟩, ⟨25, .and, [V 19, V 22]⟩, ⟨24, .not, [V 22]⟩, ⟨23, .imp, [V 19, V 21]⟩, ⟨21, (.call 68), [V 0, V 1, V 2, V 3, V 4, V 5, V 6, V 7, V 8, V 9, V 10, V 11, V 12, V 15, V 13]⟩, ⟨20, .not, [V 19]⟩, ⟨19, .iteB, [V 17, V 18, B false]⟩, ⟨18, (.cmp .lss), [V 15, V 0]⟩, ⟨16, (.call 8), [V 0, V 1, V 2, V 3, V 4, V 5, V 6, V 7, V 8, V 9, V 10, V 11, V 12]⟩], [V 23, V 16], []⟩
def Aar (al : List A) : Nat := ((gi al 0) - (gi al 15)).toNat
theorem Y3 (e : Nat → A) (H : Ac T e N7.defs) : ∀ z0, z0 = (Day.HB.mk [(e 1).int, (e 2).int, (e 3).int, (e 4).int, (e 5).int, (e 6).int, (e 7).int, (e 8).int] (e 9).int (e 10).int (e 11).int (e 12).int) → ∀ y0, y0 = (Day.HB.mk [(e 1).int, (e 2).int, (e 3).int, (e 4).int, (e 5).int, (e 6).int, (e 7).int, (e 8).int] (e 9).int (e 10).int (e 11).int (e 12).int) → (Day.IM (e 0).int z0 (e 15).int (e 14).int) = true →
  ((e 23).bool = true ∧ (e 16).bool = true) ∧ ((e 19).bool = true → (Day.IM (e 0).int y0 (e 29).int (e 28).int) = true ∧ (Day.Hj (e 0).int y0 (e 13).int (e 29).int (e 28).int = Day.Hj (e 0).int z0 (e 13).int (e 15).int (e 14).int) ∧ ((e 0).int - (e 29).int).toNat < ((e 0).int - (e 15).int).toNat) ∧ ((e 20).bool = true → (e 14).int = Day.Hj (e 0).int z0 (e 13).int (e 15).int (e 14).int) := by
 intro z0 hz0 y0 hy0 hp
 subst hz0 hy0
 simp only [N7, Ac, Def.q, Bc, L.Ae, L.Aq, L.AE, L.AF, L.ev, A.Ad, A.Ah, A.As, A.AJ, List.map_cons, List.map_nil, Nat.zero_add, Nat.add_zero, and_true, true_and, Nat.reduceAdd, Nat.one_mul] at H
 simp only [C0, C1, CN, A3, De, Dg, Bm, Dw, and_true, true_and] at H
 obtain ⟨⟨q29, -⟩, ⟨q28, -⟩, ⟨q27, -⟩, q26, q25, q24, q23, q21, q20, q19, q18, q16⟩ := H
 replace q21 := Qj q21 _ rfl
 obtain ⟨q21, q22⟩ := q21
 replace q16 := By q16 _ rfl
 obtain ⟨q16, q17⟩ := q16
 simp only [L.Ae, L.Aq, L.AE, L.AF, L.ev, A.Ad, A.Ah, A.As] at q21 q22 q16 q17
 generalize (e 0).int = x0, (e 1).int = x1, (e 2).int = x2, (e 3).int = x3, (e 4).int = x4, (e 5).int = x5, (e 6).int = x6, (e 7).int = x7, (e 8).int = x8, (e 9).int = x9, (e 10).int = x10, (e 11).int = x11, (e 12).int = x12, (e 13).int = x13, (e 14).int = x14, (e 15).int = x15, (e 16).bool = v16, (e 17).bool = v17, (e 18).bool = v18, (e 19).bool = v19, (e 20).bool = v20, (e 21).bool = v21, (e 22).bool = v22, (e 23).bool = v23, (e 24).bool = v24, (e 25).bool = v25, (e 26).bool = v26, (e 27).int = v27, (e 28).int = v28, (e 29).int = v29 at *
 generalize (Day.HB.mk [x1, x2, x3, x4, x5, x6, x7, x8] x9 x10 x11 x12) = h at *
 cases hr : Day.Ak x0 h with
 | false => simp_all [Day.IM, Day.Hj]
 | true =>
  have hn := Day.BK hr
  simp only [Day.IM, hr, Bool.not_true, Bool.false_or, Bool.and_eq_true, Day.Au] at hp
  obtain ⟨hp1, hp2⟩ := hp
  have w1 : IntKind.wrap .i64 (x14 + 1) = x14 + 1 := wrap64 (by omega) (by omega)
  have w2 : IntKind.wrap .i64 (x15 + 1) = x15 + 1 := wrap64 (by omega) (by omega)
  by_cases hlt : x15 < x0
  ·have e := Day.V2 h x13 ⟨hp1.1, hlt⟩ hn.2
   rw [hr] at q17
   subst_vars
   simp only [hlt, hr, w1, w2, Day.IM, Day.Hj, Day.ltR, Bool.not_true, Bool.false_or, Bool.and_eq_true, Day.Au, decide_true, if_true, e]
   have h2 : x15 + 1 ≤ x0 := by omega
   cases Day.Gp x0 h x15.toNat x13
   ·simp [hp1.1, h2]
    omega
   ·simp [hp1.1, h2]
    omega
  ·have e := Day.Ys h x13 (show x0 ≤ x15 by omega)
   rw [hr] at q17
   subst_vars
   simp [hlt, hr, Day.Hj, e]
theorem Aas (as : List A) (e : Nat → A) (h1 : as = (List.range 16).map e) (h2 : (Kw as).1 = true) (H : Ac T e N7.defs) : Ct e N7.obs ∧
   (∀ pc ls, some (V 19, [V 0, V 1, V 2, V 3, V 4, V 5, V 6, V 7, V 8, V 9, V 10, V 11, V 12, V 13, V 28, V 29]) = some (pc, ls) → (pc.ev e).bool = true → (Kw (ls.map (L.ev e))).1 = true ∧ (Kw (ls.map (L.ev e))).2 = (Kw as).2 ∧ Aar (ls.map (L.ev e)) < Aar as) ∧
   ∀ x ∈ ([(V 20, [some (V 14)])] : List (L × List (Option L))), (x.1.ev e).bool = true → ∀ (j : Nat) l, x.2[j]? = some (some l) → Gl (Jk.tags.getD j .any) (l.ev e) ((Kw as).2.getD j (.i 0)) := by
 subst h1
 obtain ⟨ho, h⟩ := Y3 e H _ rfl _ rfl h2
 refine ⟨⟨ho.1, ho.2, trivial⟩, fun pc ls hb hpc => ?_, ?_⟩
 ·injection hb with hb
  injection hb with h3 h4
  subst h3 h4
  have h := h.1 hpc
  refine ⟨h.1, ?_, h.2.2⟩
  have h5 := h.2.1
  have z0 := h5
  exact (AU z0 rfl)
 ·intro x hx hpc j l hj
  simp only [List.mem_cons, List.not_mem_nil, or_false] at hx
  rcases hx with rfl
  ·have h := h.2 hpc
   have z0 := h
   match j, hj with
   | 0, hj => cases hj; exact z0
   | _ + 1, hj => cases hj
def Hx : G := ⟨16, [⟨14, (.call 1520), [V 0, V 1, V 2, V 3, V 4, V 5, V 6, V 7, V 8, V 9, V 10, V 11, V 12, V 13, N 0, N 0]⟩], [V 14], []⟩
theorem Pp (e : Nat → A) (H : Ac T e Hx.defs) : ∀ z0, z0 = (Day.HB.mk [(e 1).int, (e 2).int, (e 3).int, (e 4).int, (e 5).int, (e 6).int, (e 7).int, (e 8).int] (e 9).int (e 10).int (e 11).int (e 12).int) → (true) = true →
  ((e 14).bool = true) ∧ (Day.Cu (e 0).int z0 (e 13).int = (e 15).int) := by
 intro z0 hz0 hp
 subst hz0
 simp only [Hx, Ac, Def.q, Bc, L.Ae, L.Aq, L.AE, L.AF, L.ev, A.Ad, A.Ah, A.As, A.AJ, List.map_cons, List.map_nil, Nat.zero_add, Nat.add_zero, and_true, true_and, Nat.reduceAdd, Nat.one_mul] at H
 have q14 := H
 replace q14 := Ab3 q14 _ rfl
 obtain ⟨q14, q15⟩ := q14
 simp only [L.Ae, L.Aq, L.AE, L.AF, L.ev, A.Ad, A.Ah, A.As] at q14 q15
 generalize (e 0).int = x0, (e 1).int = x1, (e 2).int = x2, (e 3).int = x3, (e 4).int = x4, (e 5).int = x5, (e 6).int = x6, (e 7).int = x7, (e 8).int = x8, (e 9).int = x9, (e 10).int = x10, (e 11).int = x11, (e 12).int = x12, (e 13).int = x13, (e 14).bool = v14, (e 15).int = v15 at *
 generalize (Day.HB.mk [x1, x2, x3, x4, x5, x6, x7, x8] x9 x10 x11 x12) = h at *
 subst_vars
 cases hr : Day.Ak x0 h with
 | false => simp [Day.Cu, Day.Hj, Day.IM, hr]
 | true =>
  have hn := Day.BK hr
  simp [Day.Cu, Day.Hj, Day.IM, hr, Day.V1, Day.Be]
  omega
def Hy : G := ⟨41, [⟨40, .iteB, [V 25, B true, V 39]⟩, ⟨39, .iteB, [V 33, V 38, B false]⟩, ⟨38, (.cmp .eql), [V 36, V 14]⟩, ⟨37, .imp, [V 34, V 35]⟩, ⟨35, (.call 69), [V 0, V 13, V 10]⟩, ⟨34, .and, [V 33, V 26]⟩, ⟨33, .iteB, [V 27, V 32, B false]⟩, ⟨32, (.cmp .lss), [V 10, V 30]⟩, ⟨31, .imp, [V 28, V 29]⟩, ⟨29, (.call 20), [V 0]⟩, ⟨28, .and, [V 27, V 26]⟩, ⟨27, (.cmp .eql), [V 13, V 9]⟩, ⟨26, .not, [V 25]⟩, ⟨25, .iteB, [V 19, V 24, B false]⟩, ⟨24, (.cmp .eql), [V 22, V 14]⟩, ⟨23, .imp, [V 19, V 21]⟩, ⟨21, (.call 69), [V 0, V 13, V 18]⟩, ⟨20, .imp, [V 19, V 17]⟩, ⟨19, (.cmp .lss), [V 18, V 0]⟩, ⟨18, .sel, [V 13, V 1, V 2, V 3, V 4, V 5, V 6, V 7, V 8]⟩, ⟨17, .and, [V 15, V 16]⟩, ⟨16, (.cmp .lss), [V 13, N 8]⟩, ⟨15, (.cmp .leq), [N 0, V 13]⟩], [V 37, V 31, V 23, V 20, V 17], []⟩
theorem Pq (e : Nat → A) (H : Ac T e Hy.defs) : ∀ z0, z0 = (Day.HB.mk [(e 1).int, (e 2).int, (e 3).int, (e 4).int, (e 5).int, (e 6).int, (e 7).int, (e 8).int] (e 9).int (e 10).int (e 11).int (e 12).int) → (Day.Ak (e 0).int z0 && Day.ltR (e 13).int (e 0).int) = true →
  ((e 37).bool = true ∧ (e 31).bool = true ∧ (e 23).bool = true ∧ (e 20).bool = true ∧ (e 17).bool = true) ∧ (Day.Gp (e 0).int z0 ((e 13).int).toNat (e 14).int = (e 40).bool) := by
 intro z0 hz0 hp
 subst hz0
 simp only [Hy, Ac, Def.q, Bc, L.Ae, L.Aq, L.AE, L.AF, L.ev, A.Ad, A.Ah, A.As, A.AJ, List.map_cons, List.map_nil, Nat.zero_add, Nat.add_zero, and_true, true_and, Nat.reduceAdd, Nat.one_mul] at H
 simp only [C0, C1, CN, A3, De, Dg, Bm, Dw, and_true, true_and] at H
 obtain ⟨q40, q39, q38, q37, q35, q34, q33, q32, q31, q29, q28, q27, q26, q25, q24, q23, q21, q20, q19, q18, q17, q16, q15⟩ := H
 replace q35 := NF q35
 obtain ⟨q35, q36⟩ := q35
 replace q29 := Bk q29
 obtain ⟨q29, q30⟩ := q29
 replace q21 := NF q21
 obtain ⟨q21, q22⟩ := q21
 simp only [L.Ae, L.Aq, L.AE, L.AF, L.ev, A.Ad, A.Ah, A.As] at q35 q36 q29 q30 q21 q22
 generalize (e 0).int = x0, (e 1).int = x1, (e 2).int = x2, (e 3).int = x3, (e 4).int = x4, (e 5).int = x5, (e 6).int = x6, (e 7).int = x7, (e 8).int = x8, (e 9).int = x9, (e 10).int = x10, (e 11).int = x11, (e 12).int = x12, (e 13).int = x13, (e 14).int = x14, (e 15).bool = v15, (e 16).bool = v16, (e 17).bool = v17, (e 18).int = v18, (e 19).bool = v19, (e 20).bool = v20, (e 21).bool = v21, (e 22).int = v22, (e 23).bool = v23, (e 24).bool = v24, (e 25).bool = v25, (e 26).bool = v26, (e 27).bool = v27, (e 28).bool = v28, (e 29).bool = v29, (e 30).int = v30, (e 31).bool = v31, (e 32).bool = v32, (e 33).bool = v33, (e 34).bool = v34, (e 35).bool = v35, (e 36).int = v36, (e 37).bool = v37, (e 38).bool = v38, (e 39).bool = v39, (e 40).bool = v40 at *
 simp only [Bool.and_eq_true, Day.AeW] at hp
 obtain ⟨hr, hv⟩ := hp
 replace q18 : v18 = ((Day.HB.mk [x1, x2, x3, x4, x5, x6, x7, x8] x9 x10 x11 x12)).a x13.toNat := q18
 replace q27 : v27 = (x13 == ((Day.HB.mk [x1, x2, x3, x4, x5, x6, x7, x8] x9 x10 x11 x12)).port) := q27
 replace q32 : v32 = decide (((Day.HB.mk [x1, x2, x3, x4, x5, x6, x7, x8] x9 x10 x11 x12)).age < v30) := q32
 replace q35 : v35 = Day.Kn x0 x13 ((Day.HB.mk [x1, x2, x3, x4, x5, x6, x7, x8] x9 x10 x11 x12)).age := q35
 replace q36 : v36 = Day.atR x0 x13 ((Day.HB.mk [x1, x2, x3, x4, x5, x6, x7, x8] x9 x10 x11 x12)).age := q36
 generalize (Day.HB.mk [x1, x2, x3, x4, x5, x6, x7, x8] x9 x10 x11 x12) = h at *
 have hn := Day.BK hr
 have hbd := Day.Cd hr
 have hR : Day.right x0 = true := by simp [Day.right, hn]
 have ha := Day.Sz hr hv
 have e1 := Day.W5 (b := h.a x13.toNat) hn hv (by omega)
 have e2 := Day.W5 (b := h.age) hn hv (by omega)
 have hB := Day.Yt (v := x14) hr hv
 have h30 : v30 = 2 * x0 := by rw [q30]; simp [Day.times, hR]
 clear q30
 have h8 : x13 < 8 := by omega
 rw [← q18] at *
 subst_vars
 simp [hB, e1, e2, hv, h8, Bool.and_assoc]
 grind
def Jm : Lp := ⟨64, [false, true, false, true, true], 1530, 15, 1, 1, ⟨Ii 37 [(0, .pv (.one (.k (.int .i64 (V 0))))), (1, .pv (.agg [.k (.int .i64 (V 1)), .k (.int .i64 (V 2)), .k (.int .i64 (V 3)), .k (.int .i64 (V 4)), .k (.int .i64 (V 5)), .k (.int .i64 (V 6)), .k (.int .i64 (V 7)), .k (.int .i64 (V 8)), .k (.int .i64 (V 9)), .k (.int .i64 (V 10)), .k (.int .i64 (V 11)), .k (.int .i64 (V 12))])), (3, .pv (.one (.k (.ptr 0 0)))), (4, .pv (.one (.k (.int .i64 (N 0))))), (5, .pv (.one (.k (.int .i64 (N 0))))), (6, .pv (.one (.k (.int .i64 (V 13))))), (7, .pv (.one (.k (.int .i64 (V 14)))))], [⟨true, 24, 12, [.k (.int .i64 (V 1)), .k (.int .i64 (V 2)), .k (.int .i64 (V 3)), .k (.int .i64 (V 4)), .k (.int .i64 (V 5)), .k (.int .i64 (V 6)), .k (.int .i64 (V 7)), .k (.int .i64 (V 8)), .k (.int .i64 (V 9)), .k (.int .i64 (V 10)), .k (.int .i64 (V 11)), .k (.int .i64 (V 12))], none⟩], B true⟩, [(.exit 0, ⟨Ii 37 [(0, .pv (.one (.k (.int .i64 (V 0))))), (1, .pv (.agg [.k (.int .i64 (V 1)), .k (.int .i64 (V 2)), .k (.int .i64 (V 3)), .k (.int .i64 (V 4)), .k (.int .i64 (V 5)), .k (.int .i64 (V 6)), .k (.int .i64 (V 7)), .k (.int .i64 (V 8)), .k (.int .i64 (V 9)), .k (.int .i64 (V 10)), .k (.int .i64 (V 11)), .k (.int .i64 (V 12))])), (3, .pv (.one (.k (.ptr 0 0)))), (4, .pv (.one (.k (.int .i64 (N 0))))), (5, .pv (.one (.k (.int .i64 (N 0))))), (6, .pv (.one (.k (.int .i64 (V 15)))))], [⟨true, 24, 12, [.k (.int .i64 (V 1)), .k (.int .i64 (V 2)), .k (.int .i64 (V 3)), .k (.int .i64 (V 4)), .k (.int .i64 (V 5)), .k (.int .i64 (V 6)), .k (.int .i64 (V 7)), .k (.int .i64 (V 8)), .k (.int .i64 (V 9)), .k (.int .i64 (V 10)), .k (.int .i64 (V 11)), .k (.int .i64 (V 12))], none⟩], B true⟩)], [true, true, true, true, true, true, true, true, true, true, true, true, true, false, false], [.i]⟩
def Ob : G := ⟨32, [⟨31, (.ar .add .i64), [V 14, N 1]⟩, ⟨30, .iteI, [V 26, V 14, V 13]⟩, ⟨29, .and, [V 18, V 27]⟩, ⟨28, .and, [V 18, V 26]⟩, ⟨27, .not, [V 26]⟩, ⟨26, (.cmp .gtr), [V 21, V 24]⟩, ⟨25, .imp, [V 18, V 23]⟩, ⟨23, (.call 65), [V 0, V 1, V 2, V 3, V 4, V 5, V 6, V 7, V 8, V 9, V 10, V 11, V 12, V 13]⟩, ⟨22, .imp, [V 18, V 20]⟩, ⟨20, (.call 65), [V 0, V 1, V 2, V 3, V 4, V 5, V 6, V 7, V 8, V 9, V 10, V 11, V 12, V 14]⟩, ⟨19, .not, [V 18]⟩, ⟨18, .iteB, [V 16, V 17, B false]⟩, ⟨17, (.cmp .lss), [V 14, V 0]⟩, ⟨15, (.call 8), [V 0, V 1, V 2, V 3, V 4, V 5, V 6, V 7, V 8, V 9, V 10, V 11, V 12]⟩], [V 25, V 22, V 15], []⟩
def Aau (al : List A) : Nat := ((gi al 0) - (gi al 14)).toNat
theorem Y4 (e : Nat → A) (H : Ac T e Ob.defs) : ∀ z0, z0 = (Day.HB.mk [(e 1).int, (e 2).int, (e 3).int, (e 4).int, (e 5).int, (e 6).int, (e 7).int, (e 8).int] (e 9).int (e 10).int (e 11).int (e 12).int) → ∀ y0, y0 = (Day.HB.mk [(e 1).int, (e 2).int, (e 3).int, (e 4).int, (e 5).int, (e 6).int, (e 7).int, (e 8).int] (e 9).int (e 10).int (e 11).int (e 12).int) → (Day.Nv (e 0).int z0 (e 14).int) = true →
  ((e 25).bool = true ∧ (e 22).bool = true ∧ (e 15).bool = true) ∧ ((e 18).bool = true → (Day.Nv (e 0).int y0 (e 31).int) = true ∧ (Day.Nu (e 0).int y0 (e 31).int (e 30).int = Day.Nu (e 0).int z0 (e 14).int (e 13).int) ∧ ((e 0).int - (e 31).int).toNat < ((e 0).int - (e 14).int).toNat) ∧ ((e 19).bool = true → (e 13).int = Day.Nu (e 0).int z0 (e 14).int (e 13).int) := by
 intro z0 hz0 y0 hy0 hp
 subst hz0 hy0
 simp only [Ob, Ac, Def.q, Bc, L.Ae, L.Aq, L.AE, L.AF, L.ev, A.Ad, A.Ah, A.As, A.AJ, List.map_cons, List.map_nil, Nat.zero_add, Nat.add_zero, and_true, true_and, Nat.reduceAdd, Nat.one_mul] at H
 simp only [C0, C1, CN, A3, De, Dg, Bm, Dw, and_true, true_and] at H
 obtain ⟨⟨q31, -⟩, ⟨q30, -⟩, q29, q28, q27, q26, q25, q23, q22, q20, q19, q18, q17, q15⟩ := H
 replace q23 := DV q23 _ rfl
 obtain ⟨q23, q24⟩ := q23
 replace q20 := DV q20 _ rfl
 obtain ⟨q20, q21⟩ := q20
 replace q15 := By q15 _ rfl
 obtain ⟨q15, q16⟩ := q15
 simp only [L.Ae, L.Aq, L.AE, L.AF, L.ev, A.Ad, A.Ah, A.As] at q23 q24 q20 q21 q15 q16
 generalize (e 0).int = x0, (e 1).int = x1, (e 2).int = x2, (e 3).int = x3, (e 4).int = x4, (e 5).int = x5, (e 6).int = x6, (e 7).int = x7, (e 8).int = x8, (e 9).int = x9, (e 10).int = x10, (e 11).int = x11, (e 12).int = x12, (e 13).int = x13, (e 14).int = x14, (e 15).bool = v15, (e 16).bool = v16, (e 17).bool = v17, (e 18).bool = v18, (e 19).bool = v19, (e 20).bool = v20, (e 21).int = v21, (e 22).bool = v22, (e 23).bool = v23, (e 24).int = v24, (e 25).bool = v25, (e 26).bool = v26, (e 27).bool = v27, (e 28).bool = v28, (e 29).bool = v29, (e 30).int = v30, (e 31).int = v31 at *
 generalize (Day.HB.mk [x1, x2, x3, x4, x5, x6, x7, x8] x9 x10 x11 x12) = h at *
 cases hr : Day.Ak x0 h with
 | false => simp_all [Day.Nv, Day.Nu]
 | true =>
  have hn := Day.BK hr
  simp only [Day.Nv, hr, Bool.not_true, Bool.false_or, Day.Au] at hp
  have w2 : IntKind.wrap .i64 (x14 + 1) = x14 + 1 := wrap64 (by omega) (by omega)
  by_cases hlt : x14 < x0
  ·have e := Day.ZS h x13 ⟨hp.1, hlt⟩ hn.2
   rw [hr] at q16
   subst_vars
   simp only [hlt, hr, w2, Day.Nv, Day.Nu, Bool.not_true, Bool.false_or, Day.Au, decide_true, if_true, e, Day.Bu, Day.Cu, true_and, gt_iff_lt, decide_eq_true_eq]
   simp
   omega
  ·have e := Day.AbQ h x13 (show x0 ≤ x14 by omega)
   rw [hr] at q16
   subst_vars
   simp [hlt, hr, Day.Nu, e]
theorem Aav (as : List A) (e : Nat → A) (h1 : as = (List.range 15).map e) (h2 : (Kx as).1 = true) (H : Ac T e Ob.defs) : Ct e Ob.obs ∧
   (∀ pc ls, some (V 18, [V 0, V 1, V 2, V 3, V 4, V 5, V 6, V 7, V 8, V 9, V 10, V 11, V 12, V 30, V 31]) = some (pc, ls) → (pc.ev e).bool = true → (Kx (ls.map (L.ev e))).1 = true ∧ (Kx (ls.map (L.ev e))).2 = (Kx as).2 ∧ Aau (ls.map (L.ev e)) < Aau as) ∧
   ∀ x ∈ ([(V 19, [some (V 13)])] : List (L × List (Option L))), (x.1.ev e).bool = true → ∀ (j : Nat) l, x.2[j]? = some (some l) → Gl (Jm.tags.getD j .any) (l.ev e) ((Kx as).2.getD j (.i 0)) := by
 subst h1
 obtain ⟨ho, h⟩ := Y4 e H _ rfl _ rfl h2
 refine ⟨⟨ho.1, ho.2.1, ho.2.2, trivial⟩, fun pc ls hb hpc => ?_, ?_⟩
 ·injection hb with hb
  injection hb with h3 h4
  subst h3 h4
  have h := h.1 hpc
  refine ⟨h.1, ?_, h.2.2⟩
  have h5 := h.2.1
  have z0 := h5
  exact (AU z0 rfl)
 ·intro x hx hpc j l hj
  simp only [List.mem_cons, List.not_mem_nil, or_false] at hx
  rcases hx with rfl
  ·have h := h.2 hpc
   have z0 := h
   match j, hj with
   | 0, hj => cases hj; exact z0
   | _ + 1, hj => cases hj
def Jn : G := ⟨26, [⟨25, .iteB, [V 18, V 18, V 17]⟩, ⟨24, .iteI, [V 18, V 20, N 0]⟩, ⟨23, .iteI, [V 18, V 14, N 0]⟩, ⟨22, .not, [V 18]⟩, ⟨21, .imp, [V 18, V 19]⟩, ⟨19, (.call 65), [V 0, V 1, V 2, V 3, V 4, V 5, V 6, V 7, V 8, V 9, V 10, V 11, V 12, V 14]⟩, ⟨18, .not, [V 17]⟩, ⟨17, .not, [V 16]⟩, ⟨15, (.call 8), [V 0, V 1, V 2, V 3, V 4, V 5, V 6, V 7, V 8, V 9, V 10, V 11, V 12]⟩, ⟨13, (.call 1530), [V 0, V 1, V 2, V 3, V 4, V 5, V 6, V 7, V 8, V 9, V 10, V 11, V 12, N 0, N 0]⟩], [V 21, V 15, V 13], []⟩
theorem QZ (e : Nat → A) (H : Ac T e Jn.defs) : ∀ z0, z0 = (Day.HB.mk [(e 1).int, (e 2).int, (e 3).int, (e 4).int, (e 5).int, (e 6).int, (e 7).int, (e 8).int] (e 9).int (e 10).int (e 11).int (e 12).int) → (true) = true →
  ((e 21).bool = true ∧ (e 15).bool = true ∧ (e 13).bool = true) ∧ (Day.Eb (e 0).int z0 = (e 23).int ∧ Day.Ec (e 0).int z0 = (e 24).int) := by
 intro z0 hz0 hp
 subst hz0
 simp only [Jn, Ac, Def.q, Bc, L.Ae, L.Aq, L.AE, L.AF, L.ev, A.Ad, A.Ah, A.As, A.AJ, List.map_cons, List.map_nil, Nat.zero_add, Nat.add_zero, and_true, true_and, Nat.reduceAdd, Nat.one_mul] at H
 simp only [C0, C1, CN, A3, De, Dg, Bm, Dw, and_true, true_and] at H
 obtain ⟨q25, ⟨q24, -⟩, ⟨q23, -⟩, q22, q21, q19, q18, q17, q15, q13⟩ := H
 replace q19 := DV q19 _ rfl
 obtain ⟨q19, q20⟩ := q19
 replace q15 := By q15 _ rfl
 obtain ⟨q15, q16⟩ := q15
 replace q13 := Ab4 q13 _ rfl
 obtain ⟨q13, q14⟩ := q13
 simp only [L.Ae, L.Aq, L.AE, L.AF, L.ev, A.Ad, A.Ah, A.As] at q19 q20 q15 q16 q13 q14
 generalize (e 0).int = x0, (e 1).int = x1, (e 2).int = x2, (e 3).int = x3, (e 4).int = x4, (e 5).int = x5, (e 6).int = x6, (e 7).int = x7, (e 8).int = x8, (e 9).int = x9, (e 10).int = x10, (e 11).int = x11, (e 12).int = x12, (e 13).bool = v13, (e 14).int = v14, (e 15).bool = v15, (e 16).bool = v16, (e 17).bool = v17, (e 18).bool = v18, (e 19).bool = v19, (e 20).int = v20, (e 21).bool = v21, (e 22).bool = v22, (e 23).int = v23, (e 24).int = v24, (e 25).bool = v25 at *
 generalize (Day.HB.mk [x1, x2, x3, x4, x5, x6, x7, x8] x9 x10 x11 x12) = h at *
 cases hr : Day.Ak x0 h with
 | false =>
  rw [hr] at q16
  subst_vars
  simp [Day.Eb, Day.Ec, Day.Nv, hr]
 | true =>
  have hn := Day.BK hr
  rw [hr] at q16
  subst_vars
  simp [Day.Eb, Day.Ec, Day.Nu, Day.Nv, hr, Day.ZR, Day.Be, Day.Cu]
  omega
def Jr : Lp := ⟨14, [false, true, false, true, true, true], 1490, 14, 8, 2, ⟨Ii 24 [(0, .pv (.one (.k (.int .i64 (V 0))))), (2, .pv (.one (.k (.ptr 0 0)))), (3, .pv (.one (.k (.int .i64 (N 0))))), (4, .pv (.one (.k (.ptr 1 0)))), (5, .pv (.one (.k (.int .i64 (V 1))))), (6, .pv (.one (.k (.int .i64 (V 0))))), (7, .pv (.one (.k (.bool (V 2))))), (8, .pv (.one (.k (.bool (V 3))))), (10, .pv (.one (.k (.int .i64 (V 0))))), (11, .pv (.one (.k (.int .i64 (V 4))))), (12, .pv (.one (.k (.int .i64 (V 5))))), (13, .pv (.agg [.k (.int .i64 (N 0)), .k (.int .i64 (N 0)), .k (.int .i64 (N 0)), .k (.int .i64 (N 0)), .k (.int .i64 (N 0)), .k (.int .i64 (N 0)), .k (.int .i64 (N 0)), .k (.int .i64 (N 0)), .k (.int .i64 (N 0)), .k (.int .i64 (V 5)), .k (.int .i64 (N 0)), .k (.int .i64 (N 0))]))], [⟨true, 24, 12, [.k (.int .i64 (N 0)), .k (.int .i64 (N 0)), .k (.int .i64 (N 0)), .k (.int .i64 (N 0)), .k (.int .i64 (N 0)), .k (.int .i64 (N 0)), .k (.int .i64 (N 0)), .k (.int .i64 (N 0)), .k (.int .i64 (N 0)), .k (.int .i64 (N 0)), .k (.int .i64 (N 0)), .k (.int .i64 (N 0))], none⟩, ⟨true, 24, 12, [.k (.int .i64 (V 6)), .k (.int .i64 (V 7)), .k (.int .i64 (V 8)), .k (.int .i64 (V 9)), .k (.int .i64 (V 10)), .k (.int .i64 (V 11)), .k (.int .i64 (V 12)), .k (.int .i64 (V 13)), .k (.int .i64 (N 0)), .k (.int .i64 (V 5)), .k (.int .i64 (N 0)), .k (.int .i64 (N 0))], none⟩], B true⟩, [(.exit 0, ⟨Ii 24 [(0, .pv (.one (.k (.int .i64 (V 0))))), (2, .pv (.one (.k (.ptr 0 0)))), (3, .pv (.one (.k (.int .i64 (N 0))))), (4, .pv (.one (.k (.ptr 1 0)))), (6, .pv (.one (.k (.int .i64 (V 0))))), (7, .pv (.one (.k (.bool (V 2))))), (8, .pv (.one (.k (.bool (V 3))))), (10, .pv (.one (.k (.int .i64 (V 0))))), (11, .pv (.one (.k (.int .i64 (V 4))))), (12, .pv (.one (.k (.int .i64 (V 5))))), (13, .pv (.agg [.k (.int .i64 (N 0)), .k (.int .i64 (N 0)), .k (.int .i64 (N 0)), .k (.int .i64 (N 0)), .k (.int .i64 (N 0)), .k (.int .i64 (N 0)), .k (.int .i64 (N 0)), .k (.int .i64 (N 0)), .k (.int .i64 (N 0)), .k (.int .i64 (V 5)), .k (.int .i64 (N 0)), .k (.int .i64 (N 0))]))], [⟨true, 24, 12, [.k (.int .i64 (N 0)), .k (.int .i64 (N 0)), .k (.int .i64 (N 0)), .k (.int .i64 (N 0)), .k (.int .i64 (N 0)), .k (.int .i64 (N 0)), .k (.int .i64 (N 0)), .k (.int .i64 (N 0)), .k (.int .i64 (N 0)), .k (.int .i64 (N 0)), .k (.int .i64 (N 0)), .k (.int .i64 (N 0))], none⟩, ⟨true, 24, 12, [.k (.int .i64 (V 14)), .k (.int .i64 (V 15)), .k (.int .i64 (V 16)), .k (.int .i64 (V 17)), .k (.int .i64 (V 18)), .k (.int .i64 (V 19)), .k (.int .i64 (V 20)), .k (.int .i64 (V 21)), .k (.int .i64 (N 0)), .k (.int .i64 (V 5)), .k (.int .i64 (N 0)), .k (.int .i64 (N 0))], none⟩], B true⟩)], [true, false, true, true, true, true, false, false, false, false, false, false, false, false], [.i, .i, .i, .i, .i, .i, .i, .i]⟩
def Of : G := ⟨29, [⟨28, (.ar .add .i64), [V 1, N 1]⟩, ⟨20, .upd, [V 1, V 0, V 6, V 7, V 8, V 9, V 10, V 11, V 12, V 13]⟩, ⟨19, .imp, [V 14, V 18]⟩, ⟨18, .and, [V 16, V 17]⟩, ⟨17, (.cmp .lss), [V 1, N 8]⟩, ⟨16, (.cmp .leq), [N 0, V 1]⟩, ⟨15, .not, [V 14]⟩, ⟨14, (.cmp .lss), [V 1, V 0]⟩], [V 19], []⟩
def AaA (al : List A) : Nat := ((gi al 0) - (gi al 1)).toNat
theorem Y7 (e : Nat → A) (H : Ac T e Of.defs) (hp : (Day.Yr (e 0).int (e 1).int) = true) :
  ((e 19).bool = true) ∧ ((e 14).bool = true → (Day.Yr (e 0).int (e 28).int) = true ∧ (Day.AD (e 0).int (e 28).int 0 (e 20).int = Day.AD (e 0).int (e 1).int 0 (e 6).int ∧ Day.AD (e 0).int (e 28).int 1 (e 21).int = Day.AD (e 0).int (e 1).int 1 (e 7).int ∧ Day.AD (e 0).int (e 28).int 2 (e 22).int = Day.AD (e 0).int (e 1).int 2 (e 8).int ∧ Day.AD (e 0).int (e 28).int 3 (e 23).int = Day.AD (e 0).int (e 1).int 3 (e 9).int ∧ Day.AD (e 0).int (e 28).int 4 (e 24).int = Day.AD (e 0).int (e 1).int 4 (e 10).int ∧ Day.AD (e 0).int (e 28).int 5 (e 25).int = Day.AD (e 0).int (e 1).int 5 (e 11).int ∧ Day.AD (e 0).int (e 28).int 6 (e 26).int = Day.AD (e 0).int (e 1).int 6 (e 12).int ∧ Day.AD (e 0).int (e 28).int 7 (e 27).int = Day.AD (e 0).int (e 1).int 7 (e 13).int) ∧ ((e 0).int - (e 28).int).toNat < ((e 0).int - (e 1).int).toNat) ∧ ((e 15).bool = true → (e 6).int = Day.AD (e 0).int (e 1).int 0 (e 6).int ∧ (e 7).int = Day.AD (e 0).int (e 1).int 1 (e 7).int ∧ (e 8).int = Day.AD (e 0).int (e 1).int 2 (e 8).int ∧ (e 9).int = Day.AD (e 0).int (e 1).int 3 (e 9).int ∧ (e 10).int = Day.AD (e 0).int (e 1).int 4 (e 10).int ∧ (e 11).int = Day.AD (e 0).int (e 1).int 5 (e 11).int ∧ (e 12).int = Day.AD (e 0).int (e 1).int 6 (e 12).int ∧ (e 13).int = Day.AD (e 0).int (e 1).int 7 (e 13).int) := by
 simp only [Of, Ac, Def.q, Bc, L.Ae, L.Aq, L.AE, L.AF, L.ev, A.Ad, A.Ah, A.As, A.AJ, List.map_cons, List.map_nil, Nat.zero_add, Nat.add_zero, and_true, true_and, Nat.reduceAdd, Nat.one_mul] at H
 simp only [C0, C1, CN, A3, De, Dg, Bm, Dw, and_true, true_and] at H
 obtain ⟨⟨q28, -⟩, ⟨q20, q21, q22, q23, q24, q25, q26, q27⟩, q19, q18, q17, q16, q15, q14⟩ := H
 generalize (e 0).int = x0, (e 1).int = x1, (e 2).int = x2, (e 3).int = x3, (e 4).int = x4, (e 5).int = x5, (e 6).int = x6, (e 7).int = x7, (e 8).int = x8, (e 9).int = x9, (e 10).int = x10, (e 11).int = x11, (e 12).int = x12, (e 13).int = x13, (e 14).bool = v14, (e 15).bool = v15, (e 16).bool = v16, (e 17).bool = v17, (e 18).bool = v18, (e 19).bool = v19, (e 20).int = v20, (e 21).int = v21, (e 22).int = v22, (e 23).int = v23, (e 24).int = v24, (e 25).int = v25, (e 26).int = v26, (e 27).int = v27, (e 28).int = v28 at *
 simp only [Day.IL] at hp
 have hx : x1 = 0 ∨ x1 = 1 ∨ x1 = 2 ∨ x1 = 3 ∨ x1 = 4 ∨ x1 = 5 ∨ x1 = 6 ∨ x1 = 7 ∨ x1 = 8 := by omega
 rcases hx with rfl | rfl | rfl | rfl | rfl | rfl | rfl | rfl | rfl
 all_goals
  subst_vars
  simp [Day.IL, Day.AD, Day.sm, wrap64] at *
  omega
theorem AaB (as : List A) (e : Nat → A) (h1 : as = (List.range 14).map e) (h2 : (Ku as).1 = true) (H : Ac T e Of.defs) : Ct e Of.obs ∧
   (∀ pc ls, some (V 14, [V 0, V 28, V 2, V 3, V 4, V 5, V 20, V 21, V 22, V 23, V 24, V 25, V 26, V 27]) = some (pc, ls) → (pc.ev e).bool = true → (Ku (ls.map (L.ev e))).1 = true ∧ (Ku (ls.map (L.ev e))).2 = (Ku as).2 ∧ AaA (ls.map (L.ev e)) < AaA as) ∧
   ∀ x ∈ ([(V 15, [some (V 6), some (V 7), some (V 8), some (V 9), some (V 10), some (V 11), some (V 12), some (V 13)])] : List (L × List (Option L))), (x.1.ev e).bool = true → ∀ (j : Nat) l, x.2[j]? = some (some l) → Gl (Jr.tags.getD j .any) (l.ev e) ((Ku as).2.getD j (.i 0)) := by
 subst h1
 obtain ⟨ho, h⟩ := Y7 e H h2
 refine ⟨⟨ho, trivial⟩, fun pc ls hb hpc => ?_, ?_⟩
 ·injection hb with hb
  injection hb with h3 h4
  subst h3 h4
  have h := h.1 hpc
  refine ⟨h.1, ?_, h.2.2⟩
  have h5 := h.2.1
  obtain ⟨z0, z1, z2, z3, z4, z5, z6, z7⟩ := h5
  exact (AU z0 (AU z1 (AU z2 (AU z3 (AU z4 (AU z5 (AU z6 (AU z7 rfl))))))))
 ·intro x hx hpc j l hj
  simp only [List.mem_cons, List.not_mem_nil, or_false] at hx
  rcases hx with rfl
  ·have h := h.2 hpc
   obtain ⟨z0, z1, z2, z3, z4, z5, z6, z7⟩ := h
   match j, hj with
   | 0, hj => cases hj; exact z0
   | 1, hj => cases hj; exact z1
   | 2, hj => cases hj; exact z2
   | 3, hj => cases hj; exact z3
   | 4, hj => cases hj; exact z4
   | 5, hj => cases hj; exact z5
   | 6, hj => cases hj; exact z6
   | 7, hj => cases hj; exact z7
   | _ + 8, hj => cases hj
def HC : G := ⟨31, [⟨30, .iteB, [V 4, V 4, V 3]⟩, ⟨29, .iteI, [V 4, V 8, N 0]⟩, ⟨28, .iteI, [V 4, V 17, N 0]⟩, ⟨27, .iteI, [V 4, V 16, N 0]⟩, ⟨26, .iteI, [V 4, V 15, N 0]⟩, ⟨25, .iteI, [V 4, V 14, N 0]⟩, ⟨24, .iteI, [V 4, V 13, N 0]⟩, ⟨23, .iteI, [V 4, V 12, N 0]⟩, ⟨22, .iteI, [V 4, V 11, N 0]⟩, ⟨21, .iteI, [V 4, V 10, N 0]⟩, ⟨20, .iteI, [V 4, N 0, N 1]⟩, ⟨19, .not, [V 4]⟩, ⟨18, .imp, [V 4, V 9]⟩, ⟨9, (.call 1490), [V 0, N 0, V 2, V 3, V 6, V 8, N 0, N 0, N 0, N 0, N 0, N 0, N 0, N 0]⟩, ⟨8, (.ar .add .i64), [V 6, N 1]⟩, ⟨7, .imp, [V 4, V 5]⟩, ⟨5, (.call 20), [V 0]⟩, ⟨4, .not, [V 3]⟩, ⟨3, .not, [V 2]⟩, ⟨1, (.call 18), [V 0]⟩], [V 18, V 7, V 1], []⟩
theorem Px (e : Nat → A) (H : Ac T e HC.defs) : ∀ r0, r0 = Day.Al (e 0).int → (true) = true →
  ((e 18).bool = true ∧ (e 7).bool = true ∧ (e 1).bool = true) ∧ (((r0)).a 0 = (e 21).int ∧ ((r0)).a 1 = (e 22).int ∧ ((r0)).a 2 = (e 23).int ∧ ((r0)).a 3 = (e 24).int ∧ ((r0)).a 4 = (e 25).int ∧ ((r0)).a 5 = (e 26).int ∧ ((r0)).a 6 = (e 27).int ∧ ((r0)).a 7 = (e 28).int ∧ ((r0)).port = (0 : Int) ∧ ((r0)).age = (e 29).int ∧ ((r0)).hold = (0 : Int) ∧ ((r0)).pos = (0 : Int) ∧ Day.BV (e 0).int = (e 20).int) := by
 intro r0 hr0 hp
 subst hr0
 simp only [HC, Ac, Def.q, Bc, L.Ae, L.Aq, L.AE, L.AF, L.ev, A.Ad, A.Ah, A.As, A.AJ, List.map_cons, List.map_nil, Nat.zero_add, Nat.add_zero, and_true, true_and, Nat.reduceAdd, Nat.one_mul] at H
 simp only [C0, C1, CN, A3, De, Dg, Bm, Dw, and_true, true_and] at H
 obtain ⟨q30, ⟨q29, -⟩, ⟨q28, -⟩, ⟨q27, -⟩, ⟨q26, -⟩, ⟨q25, -⟩, ⟨q24, -⟩, ⟨q23, -⟩, ⟨q22, -⟩, ⟨q21, -⟩, ⟨q20, -⟩, q19, q18, q9, ⟨q8, -⟩, q7, q5, q4, q3, q1⟩ := H
 replace q9 := Ab1 q9
 obtain ⟨q9, q10, q11, q12, q13, q14, q15, q16, q17⟩ := q9
 replace q5 := Bk q5
 obtain ⟨q5, q6⟩ := q5
 replace q1 := C5 q1
 obtain ⟨q1, q2⟩ := q1
 simp only [L.Ae, L.Aq, L.AE, L.AF, L.ev, A.Ad, A.Ah, A.As] at q9 q10 q11 q12 q13 q14 q15 q16 q17 q5 q6 q1 q2
 generalize (e 0).int = x0, (e 1).bool = v1, (e 2).bool = v2, (e 3).bool = v3, (e 4).bool = v4, (e 5).bool = v5, (e 6).int = v6, (e 7).bool = v7, (e 8).int = v8, (e 9).bool = v9, (e 10).int = v10, (e 11).int = v11, (e 12).int = v12, (e 13).int = v13, (e 14).int = v14, (e 15).int = v15, (e 16).int = v16, (e 17).int = v17, (e 18).bool = v18, (e 19).bool = v19, (e 20).int = v20, (e 21).int = v21, (e 22).int = v22, (e 23).int = v23, (e 24).int = v24, (e 25).int = v25, (e 26).int = v26, (e 27).int = v27, (e 28).int = v28, (e 29).int = v29, (e 30).bool = v30 at *
 cases hR : Day.right x0 with
 | false =>
  rw [hR] at q2
  subst_vars
  simp [Day.Al, Day.BV, hR, Day.Bp, Day.HB.a]
 | true =>
  have hn : 3 ≤ x0 ∧ x0 ≤ 8 := by simpa [Day.right] using hR
  rw [hR] at q2
  have w : IntKind.wrap .i64 (2 * x0 + 1) = 2 * x0 + 1 := wrap64 (by omega) (by omega)
  subst_vars
  simp [Day.Al, Day.BV, hR, Day.HB.a, Day.AS, Day.AY, Day.AD, Day.times, Day.Yr, w, hn]
  omega
def HE : G := ⟨127, [⟨126, .iteB, [V 16, V 16, V 15]⟩, ⟨125, .iteI, [V 16, V 85, N 0]⟩, ⟨124, .iteI, [V 16, V 98, N 0]⟩, ⟨123, .iteI, [V 16, V 92, N 0]⟩, ⟨122, .iteI, [V 16, V 82, N 0]⟩, ⟨121, .iteI, [V 16, V 79, N 0]⟩, ⟨120, .iteI, [V 16, V 71, N 0]⟩, ⟨119, .iteI, [V 16, V 63, N 0]⟩, ⟨118, .iteI, [V 16, V 55, N 0]⟩, ⟨117, .iteI, [V 16, V 47, N 0]⟩, ⟨116, .iteI, [V 16, V 39, N 0]⟩, ⟨115, .iteI, [V 16, V 31, N 0]⟩, ⟨114, .iteI, [V 16, V 23, N 0]⟩, ⟨113, .iteI, [V 16, V 85, V 12]⟩, ⟨112, .iteI, [V 16, V 98, V 11]⟩, ⟨111, .iteI, [V 16, V 92, V 10]⟩, ⟨110, .iteI, [V 16, V 82, V 9]⟩, ⟨109, .iteI, [V 16, V 79, V 8]⟩, ⟨108, .iteI, [V 16, V 71, V 7]⟩, ⟨107, .iteI, [V 16, V 63, V 6]⟩, ⟨106, .iteI, [V 16, V 55, V 5]⟩, ⟨105, .iteI, [V 16, V 47, V 4]⟩, ⟨104, .iteI, [V 16, V 39, V 3]⟩, ⟨103, .iteI, [V 16, V 31, V 2]⟩, ⟨102, .iteI, [V 16, V 23, V 1]⟩, ⟨101, .iteI, [V 16, N 0, N 1]⟩, ⟨100, .not, [V 16]⟩, ⟨99, .imp, [V 16, V 97]⟩, ⟨97, (.call 51), [V 11, N 0, V 95]⟩, ⟨96, .imp, [V 16, V 94]⟩, ⟨94, (.call 20), [V 0]⟩, ⟨93, .imp, [V 16, V 91]⟩, ⟨91, (.call 51), [V 10, N 0, V 90]⟩, ⟨90, (.ar .add .i64), [V 88, N 1]⟩, ⟨89, .imp, [V 16, V 87]⟩, ⟨87, (.call 20), [V 0]⟩, ⟨86, .imp, [V 16, V 84]⟩, ⟨84, (.call 52), [V 0, V 12]⟩, ⟨83, .imp, [V 16, V 81]⟩, ⟨81, (.call 52), [V 0, V 9]⟩, ⟨80, .imp, [V 16, V 78]⟩, ⟨78, (.call 51), [V 8, N 0, V 77]⟩, ⟨77, .iteI, [V 73, V 0, N 0]⟩, ⟨76, .and, [V 16, V 74]⟩, ⟨75, .and, [V 16, V 73]⟩, ⟨74, .not, [V 73]⟩, ⟨73, (.cmp .lss), [N 7, V 0]⟩, ⟨72, .imp, [V 16, V 70]⟩, ⟨70, (.call 51), [V 7, N 0, V 69]⟩, ⟨69, .iteI, [V 65, V 0, N 0]⟩, ⟨68, .and, [V 16, V 66]⟩, ⟨67, .and, [V 16, V 65]⟩, ⟨66, .not, [V 65]⟩, ⟨65, (.cmp .lss), [N 6, V 0]⟩, ⟨64, .imp, [V 16, V 62]⟩, ⟨62, (.call 51), [V 6, N 0, V 61]⟩, ⟨61, .iteI, [V 57, V 0, N 0]⟩, ⟨60, .and, [V 16, V 58]⟩, ⟨59, .and, [V 16, V 57]⟩, ⟨58, .not, [V 57]⟩, ⟨57, (.cmp .lss), [N 5, V 0]⟩, ⟨56, .imp, [V 16, V 54]⟩, ⟨54, (.call 51), [V 5, N 0, V 53]⟩, ⟨53, .iteI, [V 49, V 0, N 0]⟩, ⟨52, .and, [V 16, V 50]⟩, ⟨51, .and, [V 16, V 49]⟩, ⟨50, .not, [V 49]⟩, ⟨49, (.cmp .lss), [N 4, V 0]⟩, ⟨48, .imp, [V 16, V 46]⟩, ⟨46, (.call 51), [V 4, N 0, V 45]⟩, ⟨45, .iteI, [V 41, V 0, N 0]⟩, ⟨44, .and, [V 16, V 42]⟩, ⟨43, .and, [V 16, V 41]⟩, ⟨42, .not, [V 41]⟩, ⟨41, (.cmp .lss), [N 3, V 0]⟩, ⟨40, .imp, [V 16, V 38]⟩, ⟨38, (.call 51), [V 3, N 0, V 37]⟩, ⟨37, .iteI, [V 33, V 0, N 0]⟩, ⟨36, .and, [V 16, V 34]⟩, ⟨35, .and, [V 16, V 33]⟩, ⟨34, .not, [V 33]⟩, ⟨33, (.cmp .lss), [N 2, V 0]⟩, ⟨32, .imp, [V 16, V 30]⟩, ⟨30, (.call 51), [V 2, N 0, V 29]⟩, ⟨29, .iteI, [V 25, V 0, N 0]⟩, ⟨28, .and, [V 16, V 26]⟩, ⟨27, .and, [V 16, V 25]⟩, ⟨26, .not, [V 25]⟩, ⟨25, (.cmp .lss), [N 1, V 0]⟩, ⟨24, .imp, [V 16, V 22]⟩, ⟨22, (.call 51), [V 1, N 0, V 21]⟩, ⟨21, .iteI, [V 17, V 0, N 0]⟩, ⟨20, .and, [V 16, V 18]⟩, ⟨19, .and, [V 16, V 17]⟩, ⟨18, .not, [V 17]⟩, ⟨17, (.cmp .lss), [N 0, V 0]⟩, ⟨16, .not, [V 15]⟩, ⟨15, .not, [V 14]⟩, ⟨13, (.call 18), [V 0]⟩], [V 99, V 96, V 93, V 89, V 86, V 83, V 80, V 72, V 64, V 56, V 48, V 40, V 32, V 24, V 13], []⟩
theorem PD (e : Nat → A) (H : Ac T e HE.defs) : ∀ z0, z0 = (Day.HB.mk [(e 1).int, (e 2).int, (e 3).int, (e 4).int, (e 5).int, (e 6).int, (e 7).int, (e 8).int] (e 9).int (e 10).int (e 11).int (e 12).int) → ∀ r1, r1 = Day.AB (e 0).int z0 → (Day.HB.i64 z0) = true →
  ((e 99).bool = true ∧ (e 96).bool = true ∧ (e 93).bool = true ∧ (e 89).bool = true ∧ (e 86).bool = true ∧ (e 83).bool = true ∧ (e 80).bool = true ∧ (e 72).bool = true ∧ (e 64).bool = true ∧ (e 56).bool = true ∧ (e 48).bool = true ∧ (e 40).bool = true ∧ (e 32).bool = true ∧ (e 24).bool = true ∧ (e 13).bool = true) ∧ (((r1)).a 0 = (e 114).int ∧ ((r1)).a 1 = (e 115).int ∧ ((r1)).a 2 = (e 116).int ∧ ((r1)).a 3 = (e 117).int ∧ ((r1)).a 4 = (e 118).int ∧ ((r1)).a 5 = (e 119).int ∧ ((r1)).a 6 = (e 120).int ∧ ((r1)).a 7 = (e 121).int ∧ ((r1)).port = (e 122).int ∧ ((r1)).age = (e 123).int ∧ ((r1)).hold = (e 124).int ∧ ((r1)).pos = (e 125).int ∧ Day.BV (e 0).int = (e 101).int) := by
 intro z0 hz0 r1 hr1 hp
 subst hz0 hr1
 simp only [HE, Ac, Def.q, Bc, L.Ae, L.Aq, L.AE, L.AF, L.ev, A.Ad, A.Ah, A.As, A.AJ, List.map_cons, List.map_nil, Nat.zero_add, Nat.add_zero, and_true, true_and, Nat.reduceAdd, Nat.one_mul] at H
 simp only [C0, C1, CN, A3, De, Dg, Bm, Dw, and_true, true_and] at H
 obtain ⟨q126, ⟨q125, -⟩, ⟨q124, -⟩, ⟨q123, -⟩, ⟨q122, -⟩, ⟨q121, -⟩, ⟨q120, -⟩, ⟨q119, -⟩, ⟨q118, -⟩, ⟨q117, -⟩, ⟨q116, -⟩, ⟨q115, -⟩, ⟨q114, -⟩, ⟨q113, -⟩, ⟨q112, -⟩, ⟨q111, -⟩, ⟨q110, -⟩, ⟨q109, -⟩, ⟨q108, -⟩, ⟨q107, -⟩, ⟨q106, -⟩, ⟨q105, -⟩, ⟨q104, -⟩, ⟨q103, -⟩, ⟨q102, -⟩, ⟨q101, -⟩, q100, q99, q97, q96, q94, q93, q91, ⟨q90, -⟩, q89, q87, q86, q84, q83, q81, q80, q78, ⟨q77, -⟩, q76, q75, q74, q73, q72, q70, ⟨q69, -⟩, q68, q67, q66, q65, q64, q62, ⟨q61, -⟩, q60, q59, q58, q57, q56, q54, ⟨q53, -⟩, q52, q51, q50, q49, q48, q46, ⟨q45, -⟩, q44, q43, q42, q41, q40, q38, ⟨q37, -⟩, q36, q35, q34, q33, q32, q30, ⟨q29, -⟩, q28, q27, q26, q25, q24, q22, ⟨q21, -⟩, q20, q19, q18, q17, q16, q15, q13⟩ := H
 replace q97 := Bj q97
 obtain ⟨q97, q98⟩ := q97
 replace q94 := Bk q94
 obtain ⟨q94, q95⟩ := q94
 replace q91 := Bj q91
 obtain ⟨q91, q92⟩ := q91
 replace q87 := Bk q87
 obtain ⟨q87, q88⟩ := q87
 replace q84 := EP q84
 obtain ⟨q84, q85⟩ := q84
 replace q81 := EP q81
 obtain ⟨q81, q82⟩ := q81
 replace q78 := Bj q78
 obtain ⟨q78, q79⟩ := q78
 replace q70 := Bj q70
 obtain ⟨q70, q71⟩ := q70
 replace q62 := Bj q62
 obtain ⟨q62, q63⟩ := q62
 replace q54 := Bj q54
 obtain ⟨q54, q55⟩ := q54
 replace q46 := Bj q46
 obtain ⟨q46, q47⟩ := q46
 replace q38 := Bj q38
 obtain ⟨q38, q39⟩ := q38
 replace q30 := Bj q30
 obtain ⟨q30, q31⟩ := q30
 replace q22 := Bj q22
 obtain ⟨q22, q23⟩ := q22
 replace q13 := C5 q13
 obtain ⟨q13, q14⟩ := q13
 simp only [L.Ae, L.Aq, L.AE, L.AF, L.ev, A.Ad, A.Ah, A.As] at q97 q98 q94 q95 q91 q92 q87 q88 q84 q85 q81 q82 q78 q79 q70 q71 q62 q63 q54 q55 q46 q47 q38 q39 q30 q31 q22 q23 q13 q14
 generalize (e 0).int = x0, (e 1).int = x1, (e 2).int = x2, (e 3).int = x3, (e 4).int = x4, (e 5).int = x5, (e 6).int = x6, (e 7).int = x7, (e 8).int = x8, (e 9).int = x9, (e 10).int = x10, (e 11).int = x11, (e 12).int = x12, (e 13).bool = v13, (e 14).bool = v14, (e 15).bool = v15, (e 16).bool = v16, (e 17).bool = v17, (e 18).bool = v18, (e 19).bool = v19, (e 20).bool = v20, (e 21).int = v21, (e 22).bool = v22, (e 23).int = v23, (e 24).bool = v24, (e 25).bool = v25, (e 26).bool = v26, (e 27).bool = v27, (e 28).bool = v28, (e 29).int = v29, (e 30).bool = v30, (e 31).int = v31, (e 32).bool = v32, (e 33).bool = v33, (e 34).bool = v34, (e 35).bool = v35, (e 36).bool = v36, (e 37).int = v37, (e 38).bool = v38, (e 39).int = v39, (e 40).bool = v40, (e 41).bool = v41, (e 42).bool = v42, (e 43).bool = v43, (e 44).bool = v44, (e 45).int = v45, (e 46).bool = v46, (e 47).int = v47, (e 48).bool = v48, (e 49).bool = v49, (e 50).bool = v50, (e 51).bool = v51, (e 52).bool = v52, (e 53).int = v53, (e 54).bool = v54, (e 55).int = v55, (e 56).bool = v56, (e 57).bool = v57, (e 58).bool = v58, (e 59).bool = v59, (e 60).bool = v60, (e 61).int = v61, (e 62).bool = v62, (e 63).int = v63, (e 64).bool = v64, (e 65).bool = v65, (e 66).bool = v66, (e 67).bool = v67, (e 68).bool = v68, (e 69).int = v69, (e 70).bool = v70, (e 71).int = v71, (e 72).bool = v72, (e 73).bool = v73, (e 74).bool = v74, (e 75).bool = v75, (e 76).bool = v76, (e 77).int = v77, (e 78).bool = v78, (e 79).int = v79, (e 80).bool = v80, (e 81).bool = v81, (e 82).int = v82, (e 83).bool = v83, (e 84).bool = v84, (e 85).int = v85, (e 86).bool = v86, (e 87).bool = v87, (e 88).int = v88, (e 89).bool = v89, (e 90).int = v90, (e 91).bool = v91, (e 92).int = v92, (e 93).bool = v93, (e 94).bool = v94, (e 95).int = v95, (e 96).bool = v96, (e 97).bool = v97, (e 98).int = v98, (e 99).bool = v99, (e 100).bool = v100, (e 101).int = v101, (e 102).int = v102, (e 103).int = v103, (e 104).int = v104, (e 105).int = v105, (e 106).int = v106, (e 107).int = v107, (e 108).int = v108, (e 109).int = v109, (e 110).int = v110, (e 111).int = v111, (e 112).int = v112, (e 113).int = v113, (e 114).int = v114, (e 115).int = v115, (e 116).int = v116, (e 117).int = v117, (e 118).int = v118, (e 119).int = v119, (e 120).int = v120, (e 121).int = v121, (e 122).int = v122, (e 123).int = v123, (e 124).int = v124, (e 125).int = v125, (e 126).bool = v126 at *
 rcases Day.Ko x0 with rfl | rfl | rfl | rfl | rfl | rfl | hc
 ·subst_vars
  simp [Day.times, wrap64, Day.HB.i64, Day.CM, Day.AS, Day.AY, Day.Bp, Day.Be, Day.Al, Day.AB, Day.BV, Day.Bq, Day.BZ, Day.HB.a, Day.right, Day.i64, Day.BF, Day.BO, Day.sm, Day.AX, Day.AZ] at hp ⊢
  omega
 ·subst_vars
  simp [Day.times, wrap64, Day.HB.i64, Day.CM, Day.AS, Day.AY, Day.Bp, Day.Be, Day.Al, Day.AB, Day.BV, Day.Bq, Day.BZ, Day.HB.a, Day.right, Day.i64, Day.BF, Day.BO, Day.sm, Day.AX, Day.AZ] at hp ⊢
  omega
 ·subst_vars
  simp [Day.times, wrap64, Day.HB.i64, Day.CM, Day.AS, Day.AY, Day.Bp, Day.Be, Day.Al, Day.AB, Day.BV, Day.Bq, Day.BZ, Day.HB.a, Day.right, Day.i64, Day.BF, Day.BO, Day.sm, Day.AX, Day.AZ] at hp ⊢
  omega
 ·subst_vars
  simp [Day.times, wrap64, Day.HB.i64, Day.CM, Day.AS, Day.AY, Day.Bp, Day.Be, Day.Al, Day.AB, Day.BV, Day.Bq, Day.BZ, Day.HB.a, Day.right, Day.i64, Day.BF, Day.BO, Day.sm, Day.AX, Day.AZ] at hp ⊢
  omega
 ·subst_vars
  simp [Day.times, wrap64, Day.HB.i64, Day.CM, Day.AS, Day.AY, Day.Bp, Day.Be, Day.Al, Day.AB, Day.BV, Day.Bq, Day.BZ, Day.HB.a, Day.right, Day.i64, Day.BF, Day.BO, Day.sm, Day.AX, Day.AZ] at hp ⊢
  omega
 ·subst_vars
  simp [Day.times, wrap64, Day.HB.i64, Day.CM, Day.AS, Day.AY, Day.Bp, Day.Be, Day.Al, Day.AB, Day.BV, Day.Bq, Day.BZ, Day.HB.a, Day.right, Day.i64, Day.BF, Day.BO, Day.sm, Day.AX, Day.AZ] at hp ⊢
  omega
 ·subst_vars
  simp [Day.AB, Day.BV, hc, Day.Bp, Day.HB.a]
end Rx.S
