import Derived.Test.YtjipnabidebgbaaHXc
import Derived.Test.YtjipnabidebgbaaHXt
set_option linter.unusedVariables false
set_option linter.unusedSimpArgs false
namespace Rx.S
open Go Rx
set_option maxRecDepth 100000
set_option maxHeartbeats 1000000
def lp_1830 : Lp := ⟨123, [false, true, false, true, true], 1830, 6, 2, 2, ⟨frS 26 [(0, .pv (.one (.k (.fsl 0 (V 0))))), (1, .pv (.one (.k (.fsl 1 (V 1))))), (4, .pv (.one (.k (.bool (B false))))), (5, .pv (.one (.k (.int .i64 (V 2))))), (6, .pv (.one (.k (.fsl 0 (V 0))))), (7, .pv (.one (.k (.int .i64 (V 0))))), (8, .pv (.one (.k (.fsl 1 (V 1))))), (9, .pv (.one (.k (.int .i64 (V 1))))), (10, .pv (.one (.k (.bool (V 3)))))], [⟨false, 0, 0, [], some ⟨false, 0, [.int .i64, .int .i64], V 4, V 0⟩⟩, ⟨false, 0, 0, [], some ⟨false, 0, [.int .i64, .int .i64], V 5, V 1⟩⟩], B true⟩, [(.ret, ⟨frS 26 [(0, .pv (.one (.k (.fsl 0 (V 0))))), (1, .pv (.one (.k (.fsl 1 (V 1))))), (4, .pv (.one (.k (.bool (B false))))), (6, .pv (.one (.k (.fsl 0 (V 0))))), (7, .pv (.one (.k (.int .i64 (V 0))))), (8, .pv (.one (.k (.fsl 1 (V 1))))), (9, .pv (.one (.k (.int .i64 (V 1))))), (10, .pv (.one (.k (.bool (V 3)))))], [⟨false, 0, 0, [], some ⟨false, 0, [.int .i64, .int .i64], V 4, V 0⟩⟩, ⟨false, 0, 0, [], some ⟨false, 0, [.int .i64, .int .i64], V 5, V 1⟩⟩], V 6⟩), (.exit 0, ⟨frS 26 [(0, .pv (.one (.k (.fsl 0 (V 0))))), (1, .pv (.one (.k (.fsl 1 (V 1))))), (4, .pv (.one (.k (.bool (B false))))), (6, .pv (.one (.k (.fsl 0 (V 0))))), (7, .pv (.one (.k (.int .i64 (V 0))))), (8, .pv (.one (.k (.fsl 1 (V 1))))), (9, .pv (.one (.k (.int .i64 (V 1))))), (10, .pv (.one (.k (.bool (V 3)))))], [⟨false, 0, 0, [], some ⟨false, 0, [.int .i64, .int .i64], V 4, V 0⟩⟩, ⟨false, 0, 0, [], some ⟨false, 0, [.int .i64, .int .i64], V 5, V 1⟩⟩], V 7⟩)], [true, true, false, true, true, true], [.b, .b]⟩
def g_L1830 : G := ⟨32, [⟨31, .and, [V 6, V 29]⟩, ⟨30, .and, [V 6, V 26]⟩, ⟨29, .and, [V 28, V 25]⟩, ⟨28, .not, [V 26]⟩, ⟨27, (.ar .add .i64), [V 2, N 1]⟩, ⟨26, .and, [V 22, V 24]⟩, ⟨25, .and, [V 21, V 23]⟩, ⟨24, .and, [V 6, V 22]⟩, ⟨23, .and, [V 6, V 21]⟩, ⟨22, .not, [V 21]⟩, ⟨21, .not, [V 20]⟩, ⟨20, .and, [V 19, V 18]⟩, ⟨19, (.cmp .eql), [V 11, V 16]⟩, ⟨18, (.cmp .eql), [V 12, V 17]⟩, ⟨17, (.pix 1 2), [V 5, V 2]⟩, ⟨16, (.pix 0 2), [V 5, V 2]⟩, ⟨15, .imp, [V 6, V 14]⟩, ⟨14, .and, [V 8, V 13]⟩, ⟨13, (.cmp .lss), [V 2, V 1]⟩, ⟨12, (.pix 1 2), [V 4, V 2]⟩, ⟨11, (.pix 0 2), [V 4, V 2]⟩, ⟨10, .imp, [V 6, V 9]⟩, ⟨9, .and, [V 8, V 6]⟩, ⟨8, (.cmp .leq), [N 0, V 2]⟩, ⟨7, .not, [V 6]⟩, ⟨6, (.cmp .lss), [V 2, V 0]⟩], [V 15, V 10], []⟩
def m_1830 (al : List A) : Nat := (((Day.Ls.mk (ge al 4) (gi al 0))).n - (gi al 2)).toNat
theorem lpureQ_1830 (e : Nat → A) (H : FactsQ T e g_L1830.defs) (hp : (Day.Ls.ok (Day.Ls.mk (e 4) (e 0).int) && (Day.eqB ((Day.Ls.mk (e 4) (e 0).int)).n ((Day.Ls.mk (e 5) (e 1).int)).n && Day.inR (e 2).int ((Day.Ls.mk (e 4) (e 0).int)).n)) = true) :
  ((e 15).bool = true ∧ (e 10).bool = true) ∧ ((e 30).bool = true → (Day.Ls.ok (Day.Ls.mk (e 4) (e 0).int) && (Day.eqB ((Day.Ls.mk (e 4) (e 0).int)).n ((Day.Ls.mk (e 5) (e 1).int)).n && Day.inR (e 27).int ((Day.Ls.mk (e 4) (e 0).int)).n)) = true ∧ ((!Day.allF (Day.sameB (Day.Ls.mk (e 4) (e 0).int) (Day.Ls.mk (e 5) (e 1).int)) (e 27).int ((Day.Ls.mk (e 4) (e 0).int)).n) = (!Day.allF (Day.sameB (Day.Ls.mk (e 4) (e 0).int) (Day.Ls.mk (e 5) (e 1).int)) (e 2).int ((Day.Ls.mk (e 4) (e 0).int)).n) ∧ Day.allF (Day.sameB (Day.Ls.mk (e 4) (e 0).int) (Day.Ls.mk (e 5) (e 1).int)) (e 27).int ((Day.Ls.mk (e 4) (e 0).int)).n = Day.allF (Day.sameB (Day.Ls.mk (e 4) (e 0).int) (Day.Ls.mk (e 5) (e 1).int)) (e 2).int ((Day.Ls.mk (e 4) (e 0).int)).n) ∧ (((Day.Ls.mk (e 4) (e 0).int)).n - (e 27).int).toNat < (((Day.Ls.mk (e 4) (e 0).int)).n - (e 2).int).toNat) ∧ ((e 31).bool = true → true = (!Day.allF (Day.sameB (Day.Ls.mk (e 4) (e 0).int) (Day.Ls.mk (e 5) (e 1).int)) (e 2).int ((Day.Ls.mk (e 4) (e 0).int)).n)) ∧ ((e 7).bool = true → true = Day.allF (Day.sameB (Day.Ls.mk (e 4) (e 0).int) (Day.Ls.mk (e 5) (e 1).int)) (e 2).int ((Day.Ls.mk (e 4) (e 0).int)).n) := by
 simp only [g_L1830, FactsQ, Def.q, updQ, L.ev_var, L.ev_n, L.ev_t, L.ev_e, L.ev, A.int_i, A.bool_b, A.str_v, A.els_l, List.map_cons, List.map_nil, Nat.zero_add, Nat.add_zero, and_true, true_and, Nat.reduceAdd, Nat.one_mul] at H
 simp only [arI, dvI, btI, cmpI, shI, ifQ, updV, ltQ, and_true, true_and] at H
 obtain ⟨q31, q30, q29, q28, ⟨q27, -⟩, q26, q25, q24, q23, q22, q21, q20, q19, q18, q17, q16, q15, q14, q13, q12, q11, q10, q9, q8, q7, q6⟩ := H
 generalize (e 0).int = x0, (e 1).int = x1, (e 2).int = x2, (e 3).int = x3, e 4 = x4, e 5 = x5, (e 6).bool = v6, (e 7).bool = v7, (e 8).bool = v8, (e 9).bool = v9, (e 10).bool = v10, (e 13).bool = v13, (e 14).bool = v14, (e 15).bool = v15, (e 18).bool = v18, (e 19).bool = v19, (e 20).bool = v20, (e 21).bool = v21, (e 22).bool = v22, (e 23).bool = v23, (e 24).bool = v24, (e 25).bool = v25, (e 26).bool = v26, (e 27).int = v27, (e 28).bool = v28, (e 29).bool = v29, (e 30).bool = v30, (e 31).bool = v31 at *
 replace q11 := congrArg A.int q11
 generalize (e 11).int = v11 at *
 replace q12 := congrArg A.int q12
 generalize (e 12).int = v12 at *
 replace q16 := congrArg A.int q16
 generalize (e 16).int = v16 at *
 replace q17 := congrArg A.int q17
 generalize (e 17).int = v17 at *
 generalize hq : Day.Ls.mk x4 x0 = q at *
 generalize hr : Day.Ls.mk x5 x1 = r at *
 have hn : x0 = q.n := by rw [← hq]
 have hm : x1 = r.n := by rw [← hr]
 have hk : q.k x2 = v11 := by rw [q11, ← hq]; rfl
 have hd : q.d x2 = v12 := by rw [q12, ← hq]; rfl
 have hk2 : r.k x2 = v16 := by rw [q16, ← hr]; rfl
 have hd2 : r.d x2 = v17 := by rw [q17, ← hr]; rfl
 clear hq hr q11 q12 q16 q17
 simp only [Bool.and_eq_true, Day.inR_iff, Day.Ls.ok, Day.eqB, decide_eq_true_eq] at hp ⊢
 by_cases hlt : x2 < q.n
 ·have st := Day.allF_step (f := Day.sameB q r) hlt
  have w : IntKind.wrap .i64 (x2 + 1) = x2 + 1 := wrap64 (by omega) (by omega)
  have fb : v20 = Day.sameB q r x2 := by rw [q20, q19, q18, ← hk, ← hd, ← hk2, ← hd2]; rfl
  have hlt2 : x2 < r.n := by omega
  clear q18 q19 q20 hk hd hk2 hd2
  subst_vars
  simp only [st, w]
  cases Day.sameB q r x2 <;> simp [hlt, hlt2, hp] <;> omega
 ·have st := Day.allF_end (f := Day.sameB q r) hlt
  clear q18 q19 q20 hk hd hk2 hd2
  have hlt2 : ¬ x2 < r.n := by omega
  have st2 := st
  rw [hp.2.1] at st2
  subst_vars
  simp [st, st2, hlt, hlt2, hp]
theorem lpure_1830 (as : List A) (e : Nat → A) (h1 : as = (List.range 6).map e) (h2 : (t_1830 as).1 = true) (H : FactsQ T e g_L1830.defs) : ObsAll e g_L1830.obs ∧
   (∀ pc ls, some (V 30, [V 0, V 1, V 27, V 3, V 4, V 5]) = some (pc, ls) → (pc.ev e).bool = true → (t_1830 (ls.map (L.ev e))).1 = true ∧ (t_1830 (ls.map (L.ev e))).2 = (t_1830 as).2 ∧ m_1830 (ls.map (L.ev e)) < m_1830 as) ∧
   ∀ x ∈ ([(V 31, [some (B true), none]), (V 7, [none, some (B true)])] : List (L × List (Option L))), (x.1.ev e).bool = true → ∀ (j : Nat) l, x.2[j]? = some (some l) → Teq (lp_1830.tags.getD j .any) (l.ev e) ((t_1830 as).2.getD j (.i 0)) := by
 subst h1
 obtain ⟨ho, h⟩ := lpureQ_1830 e H h2
 refine ⟨⟨ho.1, ho.2, trivial⟩, fun pc ls hb hpc => ?_, ?_⟩
 ·injection hb with hb
  injection hb with h3 h4
  subst h3 h4
  have h := h.1 hpc
  refine ⟨h.1, ?_, h.2.2⟩
  have h5 := h.2.1
  obtain ⟨z0, z1⟩ := h5
  exact (consB z0 (consB z1 rfl))
 ·intro x hx hpc j l hj
  simp only [List.mem_cons, List.not_mem_nil, or_false] at hx
  rcases hx with rfl | rfl
  ·have h := h.2.1 hpc
   have z0 := h
   match j, hj with
   | 0, hj => cases hj; exact z0
   | 1, hj => cases hj
   | _ + 2, hj => cases hj
  ·have h := h.2.2 hpc
   have z1 := h
   match j, hj with
   | 0, hj => cases hj
   | 1, hj => cases hj; exact z1
   | _ + 2, hj => cases hj
def g_ref10_Same : G := ⟨21, [⟨20, .iteB, [V 5, V 17, V 4]⟩, ⟨19, .iteB, [V 5, V 16, B false]⟩, ⟨18, .not, [V 5]⟩, ⟨17, .iteB, [V 14, V 14, V 13]⟩, ⟨16, .iteB, [V 14, B true, B false]⟩, ⟨15, .not, [V 14]⟩, ⟨14, .and, [V 5, V 8]⟩, ⟨13, .and, [V 5, V 7]⟩, ⟨12, .imp, [V 5, V 11]⟩, ⟨11, .not, [V 10]⟩, ⟨10, .and, [V 7, V 8]⟩, ⟨9, .imp, [V 5, V 6]⟩, ⟨6, (.call 1830), [V 1, V 3, N 0, V 4, V 0, V 2]⟩, ⟨5, .not, [V 4]⟩, ⟨4, (.cmp .neq), [V 1, V 3]⟩], [V 12, V 9], []⟩
theorem pure_ref10_Same (e : Nat → A) (H : FactsQ T e g_ref10_Same.defs) (hp : (Day.Ls.ok (Day.Ls.mk (e 0) (e 1).int)) = true) :
  ((e 12).bool = true ∧ (e 9).bool = true) ∧ (Day.sameL (Day.Ls.mk (e 0) (e 1).int) (Day.Ls.mk (e 2) (e 3).int) = (e 19).bool) := by
 simp only [g_ref10_Same, FactsQ, Def.q, updQ, L.ev_var, L.ev_n, L.ev_t, L.ev_e, L.ev, A.int_i, A.bool_b, A.str_v, A.els_l, List.map_cons, List.map_nil, Nat.zero_add, Nat.add_zero, and_true, true_and, Nat.reduceAdd, Nat.one_mul] at H
 simp only [arI, dvI, btI, cmpI, shI, ifQ, updV, ltQ, and_true, true_and] at H
 obtain ⟨q20, q19, q18, q17, q16, q15, q14, q13, q12, q11, q10, q9, q6, q5, q4⟩ := H
 replace q6 := out_L1830 q6
 obtain ⟨q6, q7, q8⟩ := q6
 simp only [L.ev_var, L.ev_n, L.ev_t, L.ev_e, L.ev, A.int_i, A.bool_b, A.str_v] at q6 q7 q8
 generalize e 0 = x0, (e 1).int = x1, e 2 = x2, (e 3).int = x3, (e 4).bool = v4, (e 5).bool = v5, (e 6).bool = v6, (e 7).bool = v7, (e 8).bool = v8, (e 9).bool = v9, (e 10).bool = v10, (e 11).bool = v11, (e 12).bool = v12, (e 13).bool = v13, (e 14).bool = v14, (e 15).bool = v15, (e 16).bool = v16, (e 17).bool = v17, (e 18).bool = v18, (e 19).bool = v19, (e 20).bool = v20 at *
 generalize hq : Day.Ls.mk x0 x1 = q at *
 generalize hr : Day.Ls.mk x2 x3 = r at *
 have hn : x1 = q.n := by rw [← hq]
 have hm : x3 = r.n := by rw [← hr]
 clear hq hr
 have hI : Day.inR 0 q.n = true := by
  simp only [Day.Ls.ok, Bool.and_eq_true, decide_eq_true_eq] at hp
  rw [Day.inR_iff]; omega
 by_cases c : q.n = r.n
 ·have c2 : (q.n == r.n) = true := by simp [c]
  have c3 : Day.eqB q.n r.n = true := by simp [Day.eqB, c]
  subst_vars
  simp only [hp, hI, c2, c3, Day.sameL, bne]
  cases Day.allF (Day.sameB q r) 0 q.n <;> simp
 ·have c2 : (q.n == r.n) = false := by simp [c]
  subst_vars
  simp only [c2, Day.sameL, bne]
  simp
end Rx.S
