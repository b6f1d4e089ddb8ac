import Derived.Test.YtngghkhjejkelabKXc
import Derived.Test.YtngghkhjejkelabKXt
set_option linter.unusedVariables false
set_option linter.unusedSimpArgs false
namespace Rx.S
open Go Rx
set_option maxRecDepth 100000
set_option maxHeartbeats 1000000
def lp_1640 : Lp := ⟨10, [false, true, false, true], 1640, 4, 2, 1, ⟨frS 51 [(0, .pv (.one (.k (.int .i64 (V 0))))), (1, .pv (.one (.k (.fsl 0 (V 1))))), (4, .pv (.one (.k (.bool (B false))))), (5, .pv (.one (.k (.int .i64 (V 2)))))], [⟨false, 0, 0, [], some ⟨false, 0, [.int .i64, .int .i64], V 3, V 1⟩⟩], B true⟩, [(.ret, ⟨frS 51 [(0, .pv (.one (.k (.int .i64 (V 0))))), (1, .pv (.one (.k (.fsl 0 (V 1))))), (4, .pv (.one (.k (.bool (B false)))))], [⟨false, 0, 0, [], some ⟨false, 0, [.int .i64, .int .i64], V 3, V 1⟩⟩], V 4⟩), (.exit 0, ⟨frS 51 [(0, .pv (.one (.k (.int .i64 (V 0))))), (1, .pv (.one (.k (.fsl 0 (V 1))))), (4, .pv (.one (.k (.bool (B false)))))], [⟨false, 0, 0, [], some ⟨false, 0, [.int .i64, .int .i64], V 3, V 1⟩⟩], V 5⟩)], [true, true, false, true], [.b, .b]⟩
def g_L1640 : G := ⟨40, [⟨39, .and, [V 4, V 37]⟩, ⟨38, .and, [V 4, V 34]⟩, ⟨37, .and, [V 36, V 33]⟩, ⟨36, .not, [V 34]⟩, ⟨35, (.ar .add .i64), [V 2, N 1]⟩, ⟨34, .and, [V 30, V 32]⟩, ⟨33, .and, [V 29, V 31]⟩, ⟨32, .and, [V 4, V 30]⟩, ⟨31, .and, [V 4, V 29]⟩, ⟨30, .not, [V 29]⟩, ⟨29, .iteB, [V 14, V 28, B false]⟩, ⟨28, .iteB, [V 22, B true, V 27]⟩, ⟨27, (.cmp .neq), [V 10, V 2]⟩, ⟨26, .imp, [V 25, V 7]⟩, ⟨25, .and, [V 24, V 14]⟩, ⟨24, .and, [V 4, V 23]⟩, ⟨23, .not, [V 22]⟩, ⟨22, .iteB, [V 17, V 21, B false]⟩, ⟨21, (.cmp .neq), [V 9, N 2]⟩, ⟨20, .imp, [V 19, V 7]⟩, ⟨19, .and, [V 18, V 14]⟩, ⟨18, .and, [V 4, V 17]⟩, ⟨17, (.cmp .neq), [V 9, N 1]⟩, ⟨16, .imp, [V 15, V 7]⟩, ⟨15, .and, [V 4, V 14]⟩, ⟨14, .not, [V 13]⟩, ⟨13, .and, [V 12, V 11]⟩, ⟨12, (.cmp .eql), [V 9, N 0]⟩, ⟨11, (.cmp .eql), [V 10, N 0]⟩, ⟨10, (.pix 1 2), [V 3, V 2]⟩, ⟨9, (.pix 0 2), [V 3, V 2]⟩, ⟨8, .imp, [V 4, V 7]⟩, ⟨7, .and, [V 6, V 4]⟩, ⟨6, (.cmp .leq), [N 0, V 2]⟩, ⟨5, .not, [V 4]⟩, ⟨4, (.cmp .lss), [V 2, V 1]⟩], [V 26, V 20, V 16, V 8], []⟩
def m_1640 (al : List A) : Nat := (((Day.Ls.mk (ge al 3) (gi al 1))).n - (gi al 2)).toNat
theorem lpureQ_1640 (e : Nat → A) (H : FactsQ T e g_L1640.defs) (hp : (Day.Ls.ok (Day.Ls.mk (e 3) (e 1).int) && Day.inR (e 2).int ((Day.Ls.mk (e 3) (e 1).int)).n) = true) :
  ((e 26).bool = true ∧ (e 20).bool = true ∧ (e 16).bool = true ∧ (e 8).bool = true) ∧ ((e 38).bool = true → (Day.Ls.ok (Day.Ls.mk (e 3) (e 1).int) && Day.inR (e 35).int ((Day.Ls.mk (e 3) (e 1).int)).n) = true ∧ ((!Day.allF (Day.fitB (Day.Ls.mk (e 3) (e 1).int)) (e 35).int ((Day.Ls.mk (e 3) (e 1).int)).n) = (!Day.allF (Day.fitB (Day.Ls.mk (e 3) (e 1).int)) (e 2).int ((Day.Ls.mk (e 3) (e 1).int)).n) ∧ Day.allF (Day.fitB (Day.Ls.mk (e 3) (e 1).int)) (e 35).int ((Day.Ls.mk (e 3) (e 1).int)).n = Day.allF (Day.fitB (Day.Ls.mk (e 3) (e 1).int)) (e 2).int ((Day.Ls.mk (e 3) (e 1).int)).n) ∧ (((Day.Ls.mk (e 3) (e 1).int)).n - (e 35).int).toNat < (((Day.Ls.mk (e 3) (e 1).int)).n - (e 2).int).toNat) ∧ ((e 39).bool = true → true = (!Day.allF (Day.fitB (Day.Ls.mk (e 3) (e 1).int)) (e 2).int ((Day.Ls.mk (e 3) (e 1).int)).n)) ∧ ((e 5).bool = true → true = Day.allF (Day.fitB (Day.Ls.mk (e 3) (e 1).int)) (e 2).int ((Day.Ls.mk (e 3) (e 1).int)).n) := by
 simp only [g_L1640, FactsQ, Def.q, updQ, L.ev_var, L.ev_n, L.ev_t, L.ev_e, L.ev, A.int_i, A.bool_b, A.str_v, A.els_l, List.map_cons, List.map_nil, Nat.zero_add, Nat.add_zero, and_true, true_and, Nat.reduceAdd, Nat.one_mul] at H
 simp only [arI, dvI, btI, cmpI, shI, ifQ, updV, ltQ, and_true, true_and] at H
 obtain ⟨q39, q38, q37, q36, ⟨q35, -⟩, q34, q33, q32, q31, q30, q29, q28, q27, q26, q25, q24, q23, q22, q21, q20, q19, q18, q17, q16, q15, q14, q13, q12, q11, q10, q9, q8, q7, q6, q5, q4⟩ := H
 generalize (e 0).int = x0, (e 1).int = x1, (e 2).int = x2, e 3 = x3, (e 4).bool = v4, (e 5).bool = v5, (e 6).bool = v6, (e 7).bool = v7, (e 8).bool = v8, (e 11).bool = v11, (e 12).bool = v12, (e 13).bool = v13, (e 14).bool = v14, (e 15).bool = v15, (e 16).bool = v16, (e 17).bool = v17, (e 18).bool = v18, (e 19).bool = v19, (e 20).bool = v20, (e 21).bool = v21, (e 22).bool = v22, (e 23).bool = v23, (e 24).bool = v24, (e 25).bool = v25, (e 26).bool = v26, (e 27).bool = v27, (e 28).bool = v28, (e 29).bool = v29, (e 30).bool = v30, (e 31).bool = v31, (e 32).bool = v32, (e 33).bool = v33, (e 34).bool = v34, (e 35).int = v35, (e 36).bool = v36, (e 37).bool = v37, (e 38).bool = v38, (e 39).bool = v39 at *
 replace q9 := congrArg A.int q9
 generalize (e 9).int = v9 at *
 replace q10 := congrArg A.int q10
 generalize (e 10).int = v10 at *
 generalize hq : Day.Ls.mk x3 x1 = q at *
 have hn : x1 = q.n := by rw [← hq]
 have hk : q.k x2 = (x3.els.getD (2 * x2.toNat) (.i 0)).int := by rw [← hq]; rfl
 have hd : q.d x2 = (x3.els.getD (1 + 2 * x2.toNat) (.i 0)).int := by rw [← hq]; rfl
 rw [← hk] at q9
 rw [← hd] at q10
 clear hk hd hq
 simp only [Bool.and_eq_true, Day.inR_iff, Day.Ls.ok, decide_eq_true_eq] at hp ⊢
 by_cases hlt : x2 < q.n
 ·have st := Day.allF_step (f := Day.fitB q) hlt
  have w : IntKind.wrap .i64 (x2 + 1) = x2 + 1 := wrap64 (by omega) (by omega)
  have fb : v29 = !Day.fitB q x2 := by
   subst_vars
   simp only [Day.fitB, bne]
   cases (q.k x2 == 0) <;> cases (q.d x2 == 0) <;> cases (q.k x2 == 1) <;> cases (q.k x2 == 2) <;> cases (q.d x2 == x2) <;> rfl
  clear q28 q29
  subst_vars
  simp [st, w, hlt, hp]
  cases Day.fitB q x2 <;> simp <;> omega
 ·have st := Day.allF_end (f := Day.fitB q) hlt
  subst_vars
  simp [st, hlt, hp]
theorem lpure_1640 (as : List A) (e : Nat → A) (h1 : as = (List.range 4).map e) (h2 : (t_1640 as).1 = true) (H : FactsQ T e g_L1640.defs) : ObsAll e g_L1640.obs ∧
   (∀ pc ls, some (V 38, [V 0, V 1, V 35, V 3]) = some (pc, ls) → (pc.ev e).bool = true → (t_1640 (ls.map (L.ev e))).1 = true ∧ (t_1640 (ls.map (L.ev e))).2 = (t_1640 as).2 ∧ m_1640 (ls.map (L.ev e)) < m_1640 as) ∧
   ∀ x ∈ ([(V 39, [some (B true), none]), (V 5, [none, some (B true)])] : List (L × List (Option L))), (x.1.ev e).bool = true → ∀ (j : Nat) l, x.2[j]? = some (some l) → Teq (lp_1640.tags.getD j .any) (l.ev e) ((t_1640 as).2.getD j (.i 0)) := by
 subst h1
 obtain ⟨ho, h⟩ := lpureQ_1640 e H h2
 refine ⟨⟨ho.1, ho.2.1, ho.2.2.1, ho.2.2.2, trivial⟩, fun pc ls hb hpc => ?_, ?_⟩
 ·injection hb with hb
  injection hb with h3 h4
  subst h3 h4
  have h := h.1 hpc
  refine ⟨h.1, ?_, h.2.2⟩
  have h5 := h.2.1
  obtain ⟨z0, z1⟩ := h5
  exact (consB z0 (consB z1 rfl))
 ·intro x hx hpc j l hj
  simp only [List.mem_cons, List.not_mem_nil, or_false] at hx
  rcases hx with rfl | rfl
  ·have h := h.2.1 hpc
   have z0 := h
   match j, hj with
   | 0, hj => cases hj; exact z0
   | 1, hj => cases hj
   | _ + 2, hj => cases hj
  ·have h := h.2.2 hpc
   have z1 := h
   match j, hj with
   | 0, hj => cases hj
   | 1, hj => cases hj; exact z1
   | _ + 2, hj => cases hj
def g_ref12_Fits : G := ⟨17, [⟨16, .iteB, [V 5, V 5, V 4]⟩, ⟨15, .iteB, [V 5, V 13, B false]⟩, ⟨14, .not, [V 5]⟩, ⟨13, .iteB, [V 9, V 12, B false]⟩, ⟨12, (.cmp .eql), [V 2, V 0]⟩, ⟨11, .and, [V 5, V 9]⟩, ⟨10, .imp, [V 5, V 8]⟩, ⟨8, (.call 18), [V 0]⟩, ⟨7, .not, [V 6]⟩, ⟨6, .and, [V 4, V 5]⟩, ⟨3, (.call 1640), [V 0, V 2, N 0, V 1]⟩], [V 10, V 7, V 3], []⟩
theorem pure_ref12_Fits (e : Nat → A) (H : FactsQ T e g_ref12_Fits.defs) (hp : (Day.Ls.ok (Day.Ls.mk (e 1) (e 2).int)) = true) :
  ((e 10).bool = true ∧ (e 7).bool = true ∧ (e 3).bool = true) ∧ (Day.fitsR (e 0).int (Day.Ls.mk (e 1) (e 2).int) = (e 15).bool) := by
 simp only [g_ref12_Fits, FactsQ, Def.q, updQ, L.ev_var, L.ev_n, L.ev_t, L.ev_e, L.ev, A.int_i, A.bool_b, A.str_v, A.els_l, List.map_cons, List.map_nil, Nat.zero_add, Nat.add_zero, and_true, true_and, Nat.reduceAdd, Nat.one_mul] at H
 simp only [arI, dvI, btI, cmpI, shI, ifQ, updV, ltQ, and_true, true_and] at H
 obtain ⟨q16, q15, q14, q13, q12, q11, q10, q8, q7, q6, q3⟩ := H
 replace q8 := out_ref03_Right q8
 obtain ⟨q8, q9⟩ := q8
 replace q3 := out_L1640 q3
 obtain ⟨q3, q4, q5⟩ := q3
 simp only [L.ev_var, L.ev_n, L.ev_t, L.ev_e, L.ev, A.int_i, A.bool_b, A.str_v] at q8 q9 q3 q4 q5
 generalize (e 0).int = x0, e 1 = x1, (e 2).int = x2, (e 3).bool = v3, (e 4).bool = v4, (e 5).bool = v5, (e 6).bool = v6, (e 7).bool = v7, (e 8).bool = v8, (e 9).bool = v9, (e 10).bool = v10, (e 11).bool = v11, (e 12).bool = v12, (e 13).bool = v13, (e 14).bool = v14, (e 15).bool = v15, (e 16).bool = v16 at *
 generalize hq : Day.Ls.mk x1 x2 = q at *
 have hn : x2 = q.n := by rw [← hq]
 clear hq
 have hI : Day.inR 0 q.n = true := by
  simp only [Day.Ls.ok, Bool.and_eq_true, decide_eq_true_eq] at hp
  rw [Day.inR_iff]; omega
 subst_vars
 simp only [hp, hI, Day.fitsR, bne]
 cases Day.right x0 <;> cases (q.n == x0) <;> cases Day.allF (Day.fitB q) 0 q.n <;> simp
def g_gate_Settle : G := ⟨56, [⟨55, .iteB, [V 16, V 16, V 15]⟩, ⟨54, .iteI, [V 16, V 38, N 0]⟩, ⟨53, .iteI, [V 16, V 37, N 0]⟩, ⟨52, .iteI, [V 16, V 10, N 0]⟩, ⟨51, .iteI, [V 16, V 9, N 0]⟩, ⟨50, .iteI, [V 16, V 8, N 0]⟩, ⟨49, .iteI, [V 16, V 7, N 0]⟩, ⟨48, .iteI, [V 16, V 6, N 0]⟩, ⟨47, .iteI, [V 16, V 5, N 0]⟩, ⟨46, .iteI, [V 16, V 4, N 0]⟩, ⟨45, .iteI, [V 16, V 3, N 0]⟩, ⟨44, .iteI, [V 16, V 2, N 0]⟩, ⟨43, .iteI, [V 16, V 1, N 0]⟩, ⟨42, .iteI, [V 16, V 38, V 12]⟩, ⟨41, .iteI, [V 16, V 37, V 11]⟩, ⟨40, .iteI, [V 16, N 0, N 1]⟩, ⟨39, .not, [V 16]⟩, ⟨38, .iteI, [V 30, V 28, V 12]⟩, ⟨37, .iteI, [V 30, V 35, V 11]⟩, ⟨36, .imp, [V 32, V 34]⟩, ⟨34, (.call 40), [V 0]⟩, ⟨33, .and, [V 16, V 31]⟩, ⟨32, .and, [V 16, V 30]⟩, ⟨31, .not, [V 30]⟩, ⟨30, (.cmp .geq), [V 29, N 2]⟩, ⟨29, .iteI, [V 20, V 26, V 18]⟩, ⟨28, .iteI, [V 20, V 25, V 12]⟩, ⟨27, .imp, [V 22, V 24]⟩, ⟨24, (.call 39), [V 0, V 1, V 2, V 3, V 4, V 5, V 6, V 7, V 8, V 9, V 10, V 11, V 12]⟩, ⟨23, .and, [V 16, V 21]⟩, ⟨22, .and, [V 16, V 20]⟩, ⟨21, .not, [V 20]⟩, ⟨20, (.cmp .eql), [V 11, N 0]⟩, ⟨19, .imp, [V 16, V 17]⟩, ⟨17, (.call 38), [V 0, V 1, V 2, V 3, V 4, V 5, V 6, V 7, V 8, V 9, V 10, V 11, V 12, V 12]⟩, ⟨16, .not, [V 15]⟩, ⟨15, .not, [V 14]⟩, ⟨13, (.call 25), [V 0, V 1, V 2, V 3, V 4, V 5, V 6, V 7, V 8, V 9, V 10, V 11, V 12]⟩], [V 36, V 27, V 19, V 13], []⟩
theorem pure_gate_Settle (e : Nat → A) (H : FactsQ T e g_gate_Settle.defs) : ∀ z0, z0 = (Day.HB.mk [(e 1).int, (e 2).int, (e 3).int, (e 4).int, (e 5).int, (e 6).int, (e 7).int, (e 8).int] (e 9).int (e 10).int (e 11).int (e 12).int) → ∀ r1, r1 = Day.settleH (e 0).int z0 → (Day.HB.i64 z0) = true →
  ((e 36).bool = true ∧ (e 27).bool = true ∧ (e 19).bool = true ∧ (e 13).bool = true) ∧ (((r1)).a 0 = (e 43).int ∧ ((r1)).a 1 = (e 44).int ∧ ((r1)).a 2 = (e 45).int ∧ ((r1)).a 3 = (e 46).int ∧ ((r1)).a 4 = (e 47).int ∧ ((r1)).a 5 = (e 48).int ∧ ((r1)).a 6 = (e 49).int ∧ ((r1)).a 7 = (e 50).int ∧ ((r1)).port = (e 51).int ∧ ((r1)).age = (e 52).int ∧ ((r1)).hold = (e 53).int ∧ ((r1)).pos = (e 54).int ∧ Day.argH (e 0).int z0 = (e 40).int) := by
 intro z0 hz0 r1 hr1 hp
 subst hz0 hr1
 simp only [g_gate_Settle, FactsQ, Def.q, updQ, L.ev_var, L.ev_n, L.ev_t, L.ev_e, L.ev, A.int_i, A.bool_b, A.str_v, A.els_l, List.map_cons, List.map_nil, Nat.zero_add, Nat.add_zero, and_true, true_and, Nat.reduceAdd, Nat.one_mul] at H
 simp only [arI, dvI, btI, cmpI, shI, ifQ, updV, ltQ, and_true, true_and] at H
 obtain ⟨q55, ⟨q54, -⟩, ⟨q53, -⟩, ⟨q52, -⟩, ⟨q51, -⟩, ⟨q50, -⟩, ⟨q49, -⟩, ⟨q48, -⟩, ⟨q47, -⟩, ⟨q46, -⟩, ⟨q45, -⟩, ⟨q44, -⟩, ⟨q43, -⟩, ⟨q42, -⟩, ⟨q41, -⟩, ⟨q40, -⟩, q39, ⟨q38, -⟩, ⟨q37, -⟩, q36, q34, q33, q32, q31, q30, ⟨q29, -⟩, ⟨q28, -⟩, q27, q24, q23, q22, q21, q20, q19, q17, q16, q15, q13⟩ := H
 replace q34 := out_conf_Block q34
 obtain ⟨q34, q35⟩ := q34
 replace q24 := out_vote_Best q24 _ rfl
 obtain ⟨q24, q25, q26⟩ := q24
 replace q17 := out_vote_Votes q17 _ rfl
 obtain ⟨q17, q18⟩ := q17
 replace q13 := out_vote_Right q13 _ rfl
 obtain ⟨q13, q14⟩ := q13
 simp only [L.ev_var, L.ev_n, L.ev_t, L.ev_e, L.ev, A.int_i, A.bool_b, A.str_v] at q34 q35 q24 q25 q26 q17 q18 q13 q14
 generalize (e 0).int = x0, (e 1).int = x1, (e 2).int = x2, (e 3).int = x3, (e 4).int = x4, (e 5).int = x5, (e 6).int = x6, (e 7).int = x7, (e 8).int = x8, (e 9).int = x9, (e 10).int = x10, (e 11).int = x11, (e 12).int = x12, (e 13).bool = v13, (e 14).bool = v14, (e 15).bool = v15, (e 16).bool = v16, (e 17).bool = v17, (e 18).int = v18, (e 19).bool = v19, (e 20).bool = v20, (e 21).bool = v21, (e 22).bool = v22, (e 23).bool = v23, (e 24).bool = v24, (e 25).int = v25, (e 26).int = v26, (e 27).bool = v27, (e 28).int = v28, (e 29).int = v29, (e 30).bool = v30, (e 31).bool = v31, (e 32).bool = v32, (e 33).bool = v33, (e 34).bool = v34, (e 35).int = v35, (e 36).bool = v36, (e 37).int = v37, (e 38).int = v38, (e 39).bool = v39, (e 40).int = v40, (e 41).int = v41, (e 42).int = v42, (e 43).int = v43, (e 44).int = v44, (e 45).int = v45, (e 46).int = v46, (e 47).int = v47, (e 48).int = v48, (e 49).int = v49, (e 50).int = v50, (e 51).int = v51, (e 52).int = v52, (e 53).int = v53, (e 54).int = v54, (e 55).bool = v55 at *
 generalize hH : (Day.HB.mk [x1, x2, x3, x4, x5, x6, x7, x8] x9 x10 x11 x12) = h at *
 have g0 : x1 = h.a 0 ∧ x2 = h.a 1 ∧ x3 = h.a 2 ∧ x4 = h.a 3 ∧ x5 = h.a 4 ∧ x6 = h.a 5 ∧ x7 = h.a 6 ∧ x8 = h.a 7 ∧ x9 = h.port ∧ x10 = h.age ∧ x11 = h.hold ∧ x12 = h.pos := by subst hH; simp [Day.HB.a]
 obtain ⟨a1, a2, a3, a4, a5, a6, a7, a8, a9, a10, a11, a12⟩ := g0
 clear hH
 cases hr : Day.rightH x0 h with
 | false =>
  have hR : True := trivial
  rw [hr] at q14
  subst_vars
  simp [Day.settleH, Day.settleV, Day.settleS, Day.argH, hr, hp, Day.ages8, Day.times, hR, Day.HB.a, Day.noHB]
 | true =>
  have hn := Day.right_le hr
  have hR : Day.right x0 = true := by simp [Day.right, hn]
  rw [hr] at q14
  subst_vars
  by_cases c0 : h.hold = 0
  ·by_cases c2 : 2 ≤ Day.bestK x0 h
   ·simp [Day.settleH, Day.settleV, Day.settleS, Day.argH, hr, hp, Day.ages8, Day.times, hR, Day.HB.a, Day.noHB, c0, c2]
   ·simp [Day.settleH, Day.settleV, Day.settleS, Day.argH, hr, hp, Day.ages8, Day.times, hR, Day.HB.a, Day.noHB, c0, c2]
  ·by_cases c2 : 2 ≤ Day.votesH x0 h h.pos
   ·simp [Day.settleH, Day.settleV, Day.settleS, Day.argH, hr, hp, Day.ages8, Day.times, hR, Day.HB.a, Day.noHB, c0, c2]
   ·simp [Day.settleH, Day.settleV, Day.settleS, Day.argH, hr, hp, Day.ages8, Day.times, hR, Day.HB.a, Day.noHB, c0, c2]
def lp_1670 : Lp := ⟨22, [false, true, false, true, true], 1670, 26, 8, 3, ⟨frS 34 [(0, .pv (.one (.k (.int .i64 (V 0))))), (1, .pv (.agg [.k (.int .i64 (V 1)), .k (.int .i64 (V 2)), .k (.int .i64 (V 3)), .k (.int .i64 (V 4)), .k (.int .i64 (V 5)), .k (.int .i64 (V 6)), .k (.int .i64 (V 7)), .k (.int .i64 (V 8)), .k (.int .i64 (V 9)), .k (.int .i64 (V 10)), .k (.int .i64 (V 11)), .k (.int .i64 (V 12))])), (2, .pv (.one (.k (.fsl 0 (V 13))))), (4, .pv (.one (.k (.ptr 1 0)))), (6, .pv (.one (.k (.ptr 2 0)))), (7, .pv (.one (.k (.int .i64 (N 0))))), (8, .pv (.one (.k (.int .i64 (V 14))))), (11, .pv (.one (.k (.int .i64 (V 0))))), (12, .pv (.agg [.k (.int .i64 (V 1)), .k (.int .i64 (V 2)), .k (.int .i64 (V 3)), .k (.int .i64 (V 4)), .k (.int .i64 (V 5)), .k (.int .i64 (V 6)), .k (.int .i64 (V 7)), .k (.int .i64 (V 8)), .k (.int .i64 (V 9)), .k (.int .i64 (V 10)), .k (.int .i64 (V 11)), .k (.int .i64 (V 12))])), (13, .pv (.one (.k (.fsl 0 (V 13))))), (14, .pv (.one (.k (.int .i64 (V 14))))), (15, .pv (.one (.k (.int .i64 (V 14))))), (16, .pv (.one (.k (.bool (V 15))))), (19, .pv (.one (.k (.fsl 0 (V 13))))), (20, .pv (.one (.k (.int .i64 (V 13))))), (21, .pv (.one (.k (.int .i64 (V 16)))))], [⟨false, 0, 0, [], some ⟨false, 0, [.int .i64, .int .i64], V 17, V 13⟩⟩, ⟨true, 24, 12, [.k (.int .i64 (V 18)), .k (.int .i64 (V 19)), .k (.int .i64 (V 20)), .k (.int .i64 (V 21)), .k (.int .i64 (V 22)), .k (.int .i64 (V 23)), .k (.int .i64 (V 24)), .k (.int .i64 (V 25)), .k (.int .i64 (V 9)), .k (.int .i64 (V 10)), .k (.int .i64 (V 11)), .k (.int .i64 (V 12))], none⟩, ⟨true, 24, 12, [.k (.int .i64 (N 0)), .k (.int .i64 (N 0)), .k (.int .i64 (N 0)), .k (.int .i64 (N 0)), .k (.int .i64 (N 0)), .k (.int .i64 (N 0)), .k (.int .i64 (N 0)), .k (.int .i64 (N 0)), .k (.int .i64 (N 0)), .k (.int .i64 (N 0)), .k (.int .i64 (N 0)), .k (.int .i64 (N 0))], none⟩], B true⟩, [(.exit 0, ⟨frS 34 [(0, .pv (.one (.k (.int .i64 (V 0))))), (1, .pv (.agg [.k (.int .i64 (V 1)), .k (.int .i64 (V 2)), .k (.int .i64 (V 3)), .k (.int .i64 (V 4)), .k (.int .i64 (V 5)), .k (.int .i64 (V 6)), .k (.int .i64 (V 7)), .k (.int .i64 (V 8)), .k (.int .i64 (V 9)), .k (.int .i64 (V 10)), .k (.int .i64 (V 11)), .k (.int .i64 (V 12))])), (2, .pv (.one (.k (.fsl 0 (V 13))))), (4, .pv (.one (.k (.ptr 1 0)))), (6, .pv (.one (.k (.ptr 2 0)))), (7, .pv (.one (.k (.int .i64 (N 0))))), (8, .pv (.one (.k (.int .i64 (V 14))))), (11, .pv (.one (.k (.int .i64 (V 0))))), (12, .pv (.agg [.k (.int .i64 (V 1)), .k (.int .i64 (V 2)), .k (.int .i64 (V 3)), .k (.int .i64 (V 4)), .k (.int .i64 (V 5)), .k (.int .i64 (V 6)), .k (.int .i64 (V 7)), .k (.int .i64 (V 8)), .k (.int .i64 (V 9)), .k (.int .i64 (V 10)), .k (.int .i64 (V 11)), .k (.int .i64 (V 12))])), (13, .pv (.one (.k (.fsl 0 (V 13))))), (14, .pv (.one (.k (.int .i64 (V 14))))), (15, .pv (.one (.k (.int .i64 (V 14))))), (16, .pv (.one (.k (.bool (V 15))))), (19, .pv (.one (.k (.fsl 0 (V 13)))))], [⟨false, 0, 0, [], some ⟨false, 0, [.int .i64, .int .i64], V 17, V 13⟩⟩, ⟨true, 24, 12, [.k (.int .i64 (V 26)), .k (.int .i64 (V 27)), .k (.int .i64 (V 28)), .k (.int .i64 (V 29)), .k (.int .i64 (V 30)), .k (.int .i64 (V 31)), .k (.int .i64 (V 32)), .k (.int .i64 (V 33)), .k (.int .i64 (V 9)), .k (.int .i64 (V 10)), .k (.int .i64 (V 11)), .k (.int .i64 (V 12))], none⟩, ⟨true, 24, 12, [.k (.int .i64 (N 0)), .k (.int .i64 (N 0)), .k (.int .i64 (N 0)), .k (.int .i64 (N 0)), .k (.int .i64 (N 0)), .k (.int .i64 (N 0)), .k (.int .i64 (N 0)), .k (.int .i64 (N 0)), .k (.int .i64 (N 0)), .k (.int .i64 (N 0)), .k (.int .i64 (N 0)), .k (.int .i64 (N 0))], none⟩], B true⟩)], [true, true, true, true, true, true, true, true, true, true, true, true, true, true, true, true, false, true, false, false, false, false, false, false, false, false], [.i, .i, .i, .i, .i, .i, .i, .i]⟩
def g_L1670 : G := ⟨57, [⟨56, (.ar .add .i64), [V 16, N 1]⟩, ⟨55, .iteI, [V 33, V 47, V 25]⟩, ⟨54, .iteI, [V 33, V 46, V 24]⟩, ⟨53, .iteI, [V 33, V 45, V 23]⟩, ⟨52, .iteI, [V 33, V 44, V 22]⟩, ⟨51, .iteI, [V 33, V 43, V 21]⟩, ⟨50, .iteI, [V 33, V 42, V 20]⟩, ⟨49, .iteI, [V 33, V 41, V 19]⟩, ⟨48, .iteI, [V 33, V 40, V 18]⟩, ⟨40, .upd, [V 16, N 0, V 18, V 19, V 20, V 21, V 22, V 23, V 24, V 25]⟩, ⟨39, .imp, [V 35, V 38]⟩, ⟨38, .and, [V 28, V 37]⟩, ⟨37, (.cmp .lss), [V 16, N 8]⟩, ⟨36, .and, [V 26, V 34]⟩, ⟨35, .and, [V 26, V 33]⟩, ⟨34, .not, [V 33]⟩, ⟨33, (.cmp .eql), [V 31, N 2]⟩, ⟨32, (.pix 1 2), [V 17, V 16]⟩, ⟨31, (.pix 0 2), [V 17, V 16]⟩, ⟨30, .imp, [V 26, V 29]⟩, ⟨29, .and, [V 28, V 26]⟩, ⟨28, (.cmp .leq), [N 0, V 16]⟩, ⟨27, .not, [V 26]⟩, ⟨26, (.cmp .lss), [V 16, V 13]⟩], [V 39, V 30], []⟩
def m_1670 (al : List A) : Nat := (((Day.Ls.mk (ge al 17) (gi al 13))).n - (gi al 16)).toNat
theorem lpureQ_1670 (e : Nat → A) (H : FactsQ T e g_L1670.defs) (hp : (Day.inR (e 16).int ((Day.Ls.mk (e 17) (e 13).int)).n && Day.inR ((Day.Ls.mk (e 17) (e 13).int)).n 8) = true) :
  ((e 39).bool = true ∧ (e 30).bool = true) ∧ ((e 26).bool = true → (Day.inR (e 56).int ((Day.Ls.mk (e 17) (e 13).int)).n && Day.inR ((Day.Ls.mk (e 17) (e 13).int)).n 8) = true ∧ (Day.noteF ((Day.Ls.mk (e 17) (e 13).int)).n (Day.Ls.mk (e 17) (e 13).int) (e 56).int 0 (e 48).int = Day.noteF ((Day.Ls.mk (e 17) (e 13).int)).n (Day.Ls.mk (e 17) (e 13).int) (e 16).int 0 (e 18).int ∧ Day.noteF ((Day.Ls.mk (e 17) (e 13).int)).n (Day.Ls.mk (e 17) (e 13).int) (e 56).int 1 (e 49).int = Day.noteF ((Day.Ls.mk (e 17) (e 13).int)).n (Day.Ls.mk (e 17) (e 13).int) (e 16).int 1 (e 19).int ∧ Day.noteF ((Day.Ls.mk (e 17) (e 13).int)).n (Day.Ls.mk (e 17) (e 13).int) (e 56).int 2 (e 50).int = Day.noteF ((Day.Ls.mk (e 17) (e 13).int)).n (Day.Ls.mk (e 17) (e 13).int) (e 16).int 2 (e 20).int ∧ Day.noteF ((Day.Ls.mk (e 17) (e 13).int)).n (Day.Ls.mk (e 17) (e 13).int) (e 56).int 3 (e 51).int = Day.noteF ((Day.Ls.mk (e 17) (e 13).int)).n (Day.Ls.mk (e 17) (e 13).int) (e 16).int 3 (e 21).int ∧ Day.noteF ((Day.Ls.mk (e 17) (e 13).int)).n (Day.Ls.mk (e 17) (e 13).int) (e 56).int 4 (e 52).int = Day.noteF ((Day.Ls.mk (e 17) (e 13).int)).n (Day.Ls.mk (e 17) (e 13).int) (e 16).int 4 (e 22).int ∧ Day.noteF ((Day.Ls.mk (e 17) (e 13).int)).n (Day.Ls.mk (e 17) (e 13).int) (e 56).int 5 (e 53).int = Day.noteF ((Day.Ls.mk (e 17) (e 13).int)).n (Day.Ls.mk (e 17) (e 13).int) (e 16).int 5 (e 23).int ∧ Day.noteF ((Day.Ls.mk (e 17) (e 13).int)).n (Day.Ls.mk (e 17) (e 13).int) (e 56).int 6 (e 54).int = Day.noteF ((Day.Ls.mk (e 17) (e 13).int)).n (Day.Ls.mk (e 17) (e 13).int) (e 16).int 6 (e 24).int ∧ Day.noteF ((Day.Ls.mk (e 17) (e 13).int)).n (Day.Ls.mk (e 17) (e 13).int) (e 56).int 7 (e 55).int = Day.noteF ((Day.Ls.mk (e 17) (e 13).int)).n (Day.Ls.mk (e 17) (e 13).int) (e 16).int 7 (e 25).int) ∧ (((Day.Ls.mk (e 17) (e 13).int)).n - (e 56).int).toNat < (((Day.Ls.mk (e 17) (e 13).int)).n - (e 16).int).toNat) ∧ ((e 27).bool = true → (e 18).int = Day.noteF ((Day.Ls.mk (e 17) (e 13).int)).n (Day.Ls.mk (e 17) (e 13).int) (e 16).int 0 (e 18).int ∧ (e 19).int = Day.noteF ((Day.Ls.mk (e 17) (e 13).int)).n (Day.Ls.mk (e 17) (e 13).int) (e 16).int 1 (e 19).int ∧ (e 20).int = Day.noteF ((Day.Ls.mk (e 17) (e 13).int)).n (Day.Ls.mk (e 17) (e 13).int) (e 16).int 2 (e 20).int ∧ (e 21).int = Day.noteF ((Day.Ls.mk (e 17) (e 13).int)).n (Day.Ls.mk (e 17) (e 13).int) (e 16).int 3 (e 21).int ∧ (e 22).int = Day.noteF ((Day.Ls.mk (e 17) (e 13).int)).n (Day.Ls.mk (e 17) (e 13).int) (e 16).int 4 (e 22).int ∧ (e 23).int = Day.noteF ((Day.Ls.mk (e 17) (e 13).int)).n (Day.Ls.mk (e 17) (e 13).int) (e 16).int 5 (e 23).int ∧ (e 24).int = Day.noteF ((Day.Ls.mk (e 17) (e 13).int)).n (Day.Ls.mk (e 17) (e 13).int) (e 16).int 6 (e 24).int ∧ (e 25).int = Day.noteF ((Day.Ls.mk (e 17) (e 13).int)).n (Day.Ls.mk (e 17) (e 13).int) (e 16).int 7 (e 25).int) := by
 simp only [g_L1670, FactsQ, Def.q, updQ, L.ev_var, L.ev_n, L.ev_t, L.ev_e, L.ev, A.int_i, A.bool_b, A.str_v, A.els_l, List.map_cons, List.map_nil, Nat.zero_add, Nat.add_zero, and_true, true_and, Nat.reduceAdd, Nat.one_mul] at H
 simp only [arI, dvI, btI, cmpI, shI, ifQ, updV, ltQ, and_true, true_and] at H
 obtain ⟨⟨q56, -⟩, ⟨q55, -⟩, ⟨q54, -⟩, ⟨q53, -⟩, ⟨q52, -⟩, ⟨q51, -⟩, ⟨q50, -⟩, ⟨q49, -⟩, ⟨q48, -⟩, ⟨q40, q41, q42, q43, q44, q45, q46, q47⟩, q39, q38, q37, q36, q35, q34, q33, q32, q31, q30, q29, q28, q27, q26⟩ := H
 generalize (e 0).int = x0, (e 1).int = x1, (e 2).int = x2, (e 3).int = x3, (e 4).int = x4, (e 5).int = x5, (e 6).int = x6, (e 7).int = x7, (e 8).int = x8, (e 9).int = x9, (e 10).int = x10, (e 11).int = x11, (e 12).int = x12, (e 13).int = x13, (e 14).int = x14, (e 15).int = x15, (e 16).int = x16, e 17 = x17, (e 18).int = x18, (e 19).int = x19, (e 20).int = x20, (e 21).int = x21, (e 22).int = x22, (e 23).int = x23, (e 24).int = x24, (e 25).int = x25, (e 26).bool = v26, (e 27).bool = v27, (e 28).bool = v28, (e 29).bool = v29, (e 30).bool = v30, (e 33).bool = v33, (e 34).bool = v34, (e 35).bool = v35, (e 36).bool = v36, (e 37).bool = v37, (e 38).bool = v38, (e 39).bool = v39, (e 40).int = v40, (e 41).int = v41, (e 42).int = v42, (e 43).int = v43, (e 44).int = v44, (e 45).int = v45, (e 46).int = v46, (e 47).int = v47, (e 48).int = v48, (e 49).int = v49, (e 50).int = v50, (e 51).int = v51, (e 52).int = v52, (e 53).int = v53, (e 54).int = v54, (e 55).int = v55, (e 56).int = v56 at *
 replace q31 := congrArg A.int q31
 generalize (e 31).int = v31 at *
 generalize hq : Day.Ls.mk x17 x13 = q at *
 have hn : x13 = q.n := by rw [← hq]
 have hk : q.k x16 = (x17.els.getD (2 * x16.toNat) (.i 0)).int := by rw [← hq]; rfl
 rw [← hk] at q31
 clear hk hq
 simp only [Bool.and_eq_true, Day.inR_iff, beq_iff_eq] at hp ⊢
 by_cases hlt : x16 < q.n
 ·have w : IntKind.wrap .i64 (x16 + 1) = x16 + 1 := wrap64 (by omega) (by omega)
  have st := fun (j : Nat) (x : Int) => Day.noteF_step (n := q.n) (q := q) (x := x) j (p := x16) ⟨by omega, hlt⟩
  have s0 := st 0; have s1 := st 1; have s2 := st 2; have s3 := st 3; have s4 := st 4; have s5 := st 5; have s6 := st 6; have s7 := st 7
  subst_vars
  simp only [w]
  refine ⟨by simp; omega, fun _ => ⟨by first | omega | (simp only [and_true]; omega), ⟨s0 _, s1 _, s2 _, s3 _, s4 _, s5 _, s6 _, s7 _⟩, by omega⟩, fun h => ?_⟩
  simp [hlt] at h
 ·have st := fun (j : Int) (x : Int) => Day.noteF_end (n := q.n) (q := q) (x := x) (j := j) (p := x16) (by omega)
  subst_vars
  simp [st, hlt]
  try omega
theorem lpure_1670 (as : List A) (e : Nat → A) (h1 : as = (List.range 26).map e) (h2 : (t_1670 as).1 = true) (H : FactsQ T e g_L1670.defs) : ObsAll e g_L1670.obs ∧
   (∀ pc ls, some (V 26, [V 0, V 1, V 2, V 3, V 4, V 5, V 6, V 7, V 8, V 9, V 10, V 11, V 12, V 13, V 14, V 15, V 56, V 17, V 48, V 49, V 50, V 51, V 52, V 53, V 54, V 55]) = some (pc, ls) → (pc.ev e).bool = true → (t_1670 (ls.map (L.ev e))).1 = true ∧ (t_1670 (ls.map (L.ev e))).2 = (t_1670 as).2 ∧ m_1670 (ls.map (L.ev e)) < m_1670 as) ∧
   ∀ x ∈ ([(V 27, [some (V 18), some (V 19), some (V 20), some (V 21), some (V 22), some (V 23), some (V 24), some (V 25)])] : List (L × List (Option L))), (x.1.ev e).bool = true → ∀ (j : Nat) l, x.2[j]? = some (some l) → Teq (lp_1670.tags.getD j .any) (l.ev e) ((t_1670 as).2.getD j (.i 0)) := by
 subst h1
 obtain ⟨ho, h⟩ := lpureQ_1670 e H h2
 refine ⟨⟨ho.1, ho.2, trivial⟩, fun pc ls hb hpc => ?_, ?_⟩
 ·injection hb with hb
  injection hb with h3 h4
  subst h3 h4
  have h := h.1 hpc
  refine ⟨h.1, ?_, h.2.2⟩
  have h5 := h.2.1
  obtain ⟨z0, z1, z2, z3, z4, z5, z6, z7⟩ := h5
  exact (consI z0 (consI z1 (consI z2 (consI z3 (consI z4 (consI z5 (consI z6 (consI z7 rfl))))))))
 ·intro x hx hpc j l hj
  simp only [List.mem_cons, List.not_mem_nil, or_false] at hx
  rcases hx with rfl
  ·have h := h.2 hpc
   obtain ⟨z0, z1, z2, z3, z4, z5, z6, z7⟩ := h
   match j, hj with
   | 0, hj => cases hj; exact z0
   | 1, hj => cases hj; exact z1
   | 2, hj => cases hj; exact z2
   | 3, hj => cases hj; exact z3
   | 4, hj => cases hj; exact z4
   | 5, hj => cases hj; exact z5
   | 6, hj => cases hj; exact z6
   | 7, hj => cases hj; exact z7
   | _ + 8, hj => cases hj
def g_gate_Note : G := ⟨52, [⟨51, .iteB, [V 18, V 18, V 17]⟩, ⟨50, .iteI, [V 18, V 12, N 0]⟩, ⟨49, .iteI, [V 18, V 11, N 0]⟩, ⟨48, .iteI, [V 18, V 10, N 0]⟩, ⟨47, .iteI, [V 18, V 9, N 0]⟩, ⟨46, .iteI, [V 18, V 27, N 0]⟩, ⟨45, .iteI, [V 18, V 26, N 0]⟩, ⟨44, .iteI, [V 18, V 25, N 0]⟩, ⟨43, .iteI, [V 18, V 24, N 0]⟩, ⟨42, .iteI, [V 18, V 23, N 0]⟩, ⟨41, .iteI, [V 18, V 22, N 0]⟩, ⟨40, .iteI, [V 18, V 21, N 0]⟩, ⟨39, .iteI, [V 18, V 20, N 0]⟩, ⟨38, .iteI, [V 18, V 27, V 8]⟩, ⟨37, .iteI, [V 18, V 26, V 7]⟩, ⟨36, .iteI, [V 18, V 25, V 6]⟩, ⟨35, .iteI, [V 18, V 24, V 5]⟩, ⟨34, .iteI, [V 18, V 23, V 4]⟩, ⟨33, .iteI, [V 18, V 22, V 3]⟩, ⟨32, .iteI, [V 18, V 21, V 2]⟩, ⟨31, .iteI, [V 18, V 20, V 1]⟩, ⟨30, .iteI, [V 18, N 0, V 16]⟩, ⟨29, .not, [V 18]⟩, ⟨28, .imp, [V 18, V 19]⟩, ⟨19, (.call 1670), [V 0, V 1, V 2, V 3, V 4, V 5, V 6, V 7, V 8, V 9, V 10, V 11, V 12, V 14, V 16, V 17, N 0, V 13, V 1, V 2, V 3, V 4, V 5, V 6, V 7, V 8]⟩, ⟨18, .not, [V 17]⟩, ⟨17, (.cmp .neq), [V 16, N 0]⟩, ⟨15, (.call 37), [V 0, V 1, V 2, V 3, V 4, V 5, V 6, V 7, V 8, V 9, V 10, V 11, V 12, V 13, V 14]⟩], [V 28, V 15], []⟩
theorem pure_gate_Note (e : Nat → A) (H : FactsQ T e g_gate_Note.defs) : ∀ z0, z0 = (Day.HB.mk [(e 1).int, (e 2).int, (e 3).int, (e 4).int, (e 5).int, (e 6).int, (e 7).int, (e 8).int] (e 9).int (e 10).int (e 11).int (e 12).int) → ∀ r1, r1 = Day.noteH (e 0).int z0 (Day.Ls.mk (e 13) (e 14).int) → (Day.HB.i64 z0 && Day.Ls.ok (Day.Ls.mk (e 13) (e 14).int)) = true →
  ((e 28).bool = true ∧ (e 15).bool = true) ∧ (((r1)).a 0 = (e 39).int ∧ ((r1)).a 1 = (e 40).int ∧ ((r1)).a 2 = (e 41).int ∧ ((r1)).a 3 = (e 42).int ∧ ((r1)).a 4 = (e 43).int ∧ ((r1)).a 5 = (e 44).int ∧ ((r1)).a 6 = (e 45).int ∧ ((r1)).a 7 = (e 46).int ∧ ((r1)).port = (e 47).int ∧ ((r1)).age = (e 48).int ∧ ((r1)).hold = (e 49).int ∧ ((r1)).pos = (e 50).int ∧ Day.gateE (e 0).int z0 (Day.Ls.mk (e 13) (e 14).int) = (e 30).int) := by
 intro z0 hz0 r1 hr1 hp
 subst hz0 hr1
 simp only [g_gate_Note, FactsQ, Def.q, updQ, L.ev_var, L.ev_n, L.ev_t, L.ev_e, L.ev, A.int_i, A.bool_b, A.str_v, A.els_l, List.map_cons, List.map_nil, Nat.zero_add, Nat.add_zero, and_true, true_and, Nat.reduceAdd, Nat.one_mul] at H
 simp only [arI, dvI, btI, cmpI, shI, ifQ, updV, ltQ, and_true, true_and] at H
 obtain ⟨q51, ⟨q50, -⟩, ⟨q49, -⟩, ⟨q48, -⟩, ⟨q47, -⟩, ⟨q46, -⟩, ⟨q45, -⟩, ⟨q44, -⟩, ⟨q43, -⟩, ⟨q42, -⟩, ⟨q41, -⟩, ⟨q40, -⟩, ⟨q39, -⟩, ⟨q38, -⟩, ⟨q37, -⟩, ⟨q36, -⟩, ⟨q35, -⟩, ⟨q34, -⟩, ⟨q33, -⟩, ⟨q32, -⟩, ⟨q31, -⟩, ⟨q30, -⟩, q29, q28, q19, q18, q17, q15⟩ := H
 replace q19 := out_L1670 q19
 obtain ⟨q19, q20, q21, q22, q23, q24, q25, q26, q27⟩ := q19
 replace q15 := out_gate_check q15 _ rfl
 obtain ⟨q15, q16⟩ := q15
 simp only [L.ev_var, L.ev_n, L.ev_t, L.ev_e, L.ev, A.int_i, A.bool_b, A.str_v] at q19 q20 q21 q22 q23 q24 q25 q26 q27 q15 q16
 generalize (e 0).int = x0, (e 1).int = x1, (e 2).int = x2, (e 3).int = x3, (e 4).int = x4, (e 5).int = x5, (e 6).int = x6, (e 7).int = x7, (e 8).int = x8, (e 9).int = x9, (e 10).int = x10, (e 11).int = x11, (e 12).int = x12, e 13 = x13, (e 14).int = x14, (e 15).bool = v15, (e 16).int = v16, (e 17).bool = v17, (e 18).bool = v18, (e 19).bool = v19, (e 20).int = v20, (e 21).int = v21, (e 22).int = v22, (e 23).int = v23, (e 24).int = v24, (e 25).int = v25, (e 26).int = v26, (e 27).int = v27, (e 28).bool = v28, (e 29).bool = v29, (e 30).int = v30, (e 31).int = v31, (e 32).int = v32, (e 33).int = v33, (e 34).int = v34, (e 35).int = v35, (e 36).int = v36, (e 37).int = v37, (e 38).int = v38, (e 39).int = v39, (e 40).int = v40, (e 41).int = v41, (e 42).int = v42, (e 43).int = v43, (e 44).int = v44, (e 45).int = v45, (e 46).int = v46, (e 47).int = v47, (e 48).int = v48, (e 49).int = v49, (e 50).int = v50, (e 51).bool = v51 at *
 generalize hH : (Day.HB.mk [x1, x2, x3, x4, x5, x6, x7, x8] x9 x10 x11 x12) = h at *
 have g0 : x1 = h.a 0 ∧ x2 = h.a 1 ∧ x3 = h.a 2 ∧ x4 = h.a 3 ∧ x5 = h.a 4 ∧ x6 = h.a 5 ∧ x7 = h.a 6 ∧ x8 = h.a 7 ∧ x9 = h.port ∧ x10 = h.age ∧ x11 = h.hold ∧ x12 = h.pos := by subst hH; simp [Day.HB.a]
 obtain ⟨a1, a2, a3, a4, a5, a6, a7, a8, a9, a10, a11, a12⟩ := g0
 clear hH
 generalize hq : Day.Ls.mk x13 x14 = q at *
 have hn0 : x14 = q.n := by rw [← hq]
 have hk : ∀ p, q.k p = (x13.els.getD (2 * p.toNat) (.i 0)).int := fun p => by rw [← hq]; rfl
 have hd : ∀ p, q.d p = (x13.els.getD (1 + 2 * p.toNat) (.i 0)).int := fun p => by rw [← hq]; rfl
 clear hq
 simp only [Bool.and_eq_true] at hp
 by_cases hg : Day.gateE x0 h q = 0
 ·obtain ⟨hr, hf⟩ := Day.gateE_fits.1 hg
  obtain ⟨f1, f2, f3⟩ := Day.fits_n hf
  have hI : Day.inR 0 x0 = true := by rw [Day.inR_iff]; omega
  have hI2 : Day.inR x0 8 = true := by rw [Day.inR_iff]; omega
  clear hk hd
  subst_vars
  simp [hp, hg, hI, hI2, Day.noteH, Day.ages8, Day.HB.a, Day.noteF]
 ·clear hk hd
  subst_vars
  simp [hp, hg, Day.noteH, Day.noHB, Day.HB.a]
def g_gate_check : G := ⟨34, [⟨33, .iteB, [V 30, V 30, V 29]⟩, ⟨32, .iteI, [V 30, N 0, V 28]⟩, ⟨31, .not, [V 30]⟩, ⟨30, .and, [V 18, V 27]⟩, ⟨29, .iteB, [V 17, V 17, V 26]⟩, ⟨28, .iteI, [V 17, N 1, N 2]⟩, ⟨27, .and, [V 23, V 25]⟩, ⟨26, .and, [V 22, V 24]⟩, ⟨25, .and, [V 18, V 23]⟩, ⟨24, .and, [V 18, V 22]⟩, ⟨23, .not, [V 22]⟩, ⟨22, .not, [V 20]⟩, ⟨21, .imp, [V 18, V 19]⟩, ⟨19, (.call 26), [V 0, V 13, V 14]⟩, ⟨18, .not, [V 17]⟩, ⟨17, .not, [V 16]⟩, ⟨15, (.call 25), [V 0, V 1, V 2, V 3, V 4, V 5, V 6, V 7, V 8, V 9, V 10, V 11, V 12]⟩], [V 21, V 15], []⟩
theorem pure_gate_check (e : Nat → A) (H : FactsQ T e g_gate_check.defs) : ∀ z0, z0 = (Day.HB.mk [(e 1).int, (e 2).int, (e 3).int, (e 4).int, (e 5).int, (e 6).int, (e 7).int, (e 8).int] (e 9).int (e 10).int (e 11).int (e 12).int) → (Day.HB.i64 z0 && Day.Ls.ok (Day.Ls.mk (e 13) (e 14).int)) = true →
  ((e 21).bool = true ∧ (e 15).bool = true) ∧ (Day.gateE (e 0).int z0 (Day.Ls.mk (e 13) (e 14).int) = (e 32).int) := by
 intro z0 hz0 hp
 subst hz0
 simp only [g_gate_check, FactsQ, Def.q, updQ, L.ev_var, L.ev_n, L.ev_t, L.ev_e, L.ev, A.int_i, A.bool_b, A.str_v, A.els_l, List.map_cons, List.map_nil, Nat.zero_add, Nat.add_zero, and_true, true_and, Nat.reduceAdd, Nat.one_mul] at H
 simp only [arI, dvI, btI, cmpI, shI, ifQ, updV, ltQ, and_true, true_and] at H
 obtain ⟨q33, ⟨q32, -⟩, q31, q30, q29, ⟨q28, -⟩, q27, q26, q25, q24, q23, q22, q21, q19, q18, q17, q15⟩ := H
 replace q19 := out_gate_Fits q19
 obtain ⟨q19, q20⟩ := q19
 replace q15 := out_vote_Right q15 _ rfl
 obtain ⟨q15, q16⟩ := q15
 simp only [L.ev_var, L.ev_n, L.ev_t, L.ev_e, L.ev, A.int_i, A.bool_b, A.str_v] at q19 q20 q15 q16
 generalize (e 0).int = x0, (e 1).int = x1, (e 2).int = x2, (e 3).int = x3, (e 4).int = x4, (e 5).int = x5, (e 6).int = x6, (e 7).int = x7, (e 8).int = x8, (e 9).int = x9, (e 10).int = x10, (e 11).int = x11, (e 12).int = x12, e 13 = x13, (e 14).int = x14, (e 15).bool = v15, (e 16).bool = v16, (e 17).bool = v17, (e 18).bool = v18, (e 19).bool = v19, (e 20).bool = v20, (e 21).bool = v21, (e 22).bool = v22, (e 23).bool = v23, (e 24).bool = v24, (e 25).bool = v25, (e 26).bool = v26, (e 27).bool = v27, (e 28).int = v28, (e 29).bool = v29, (e 30).bool = v30, (e 31).bool = v31, (e 32).int = v32, (e 33).bool = v33 at *
 generalize hH : (Day.HB.mk [x1, x2, x3, x4, x5, x6, x7, x8] x9 x10 x11 x12) = h at *
 have g0 : x1 = h.a 0 ∧ x2 = h.a 1 ∧ x3 = h.a 2 ∧ x4 = h.a 3 ∧ x5 = h.a 4 ∧ x6 = h.a 5 ∧ x7 = h.a 6 ∧ x8 = h.a 7 ∧ x9 = h.port ∧ x10 = h.age ∧ x11 = h.hold ∧ x12 = h.pos := by subst hH; simp [Day.HB.a]
 obtain ⟨a1, a2, a3, a4, a5, a6, a7, a8, a9, a10, a11, a12⟩ := g0
 clear hH
 generalize hq : Day.Ls.mk x13 x14 = q at *
 have hn0 : x14 = q.n := by rw [← hq]
 have hk : ∀ p, q.k p = (x13.els.getD (2 * p.toNat) (.i 0)).int := fun p => by rw [← hq]; rfl
 have hd : ∀ p, q.d p = (x13.els.getD (1 + 2 * p.toNat) (.i 0)).int := fun p => by rw [← hq]; rfl
 clear hq
 try simp only [Bool.and_eq_true] at hp
 clear hk hd
 subst_vars
 simp only [hp, Day.gateE]
 cases Day.rightH x0 h <;> cases Day.fitsR x0 q <;> simp
def lp_1630 : Lp := ⟨26, [false, true, false, true, true], 1630, 7, 2, 1, ⟨frS 34 [(0, .pv (.one (.k (.int .i64 (V 0))))), (1, .pv (.one (.k (.fsl 0 (V 1))))), (4, .pv (.one (.k (.bool (B false))))), (7, .pv (.one (.k (.int .i64 (V 0))))), (8, .pv (.one (.k (.bool (V 2))))), (9, .pv (.one (.k (.bool (V 3))))), (10, .pv (.one (.k (.bool (V 3))))), (15, .pv (.one (.k (.bool (V 4))))), (16, .pv (.one (.k (.fsl 0 (V 1))))), (17, .pv (.one (.k (.int .i64 (V 1))))), (18, .pv (.one (.k (.int .i64 (V 5)))))], [⟨false, 0, 0, [], some ⟨false, 0, [.int .i64, .int .i64], V 6, V 1⟩⟩], B true⟩, [(.ret, ⟨frS 34 [(0, .pv (.one (.k (.int .i64 (V 0))))), (1, .pv (.one (.k (.fsl 0 (V 1))))), (4, .pv (.one (.k (.bool (B false))))), (7, .pv (.one (.k (.int .i64 (V 0))))), (8, .pv (.one (.k (.bool (V 2))))), (9, .pv (.one (.k (.bool (V 3))))), (10, .pv (.one (.k (.bool (V 3))))), (15, .pv (.one (.k (.bool (V 4))))), (16, .pv (.one (.k (.fsl 0 (V 1)))))], [⟨false, 0, 0, [], some ⟨false, 0, [.int .i64, .int .i64], V 6, V 1⟩⟩], V 7⟩), (.exit 0, ⟨frS 34 [(0, .pv (.one (.k (.int .i64 (V 0))))), (1, .pv (.one (.k (.fsl 0 (V 1))))), (4, .pv (.one (.k (.bool (B false))))), (7, .pv (.one (.k (.int .i64 (V 0))))), (8, .pv (.one (.k (.bool (V 2))))), (9, .pv (.one (.k (.bool (V 3))))), (10, .pv (.one (.k (.bool (V 3))))), (15, .pv (.one (.k (.bool (V 4))))), (16, .pv (.one (.k (.fsl 0 (V 1)))))], [⟨false, 0, 0, [], some ⟨false, 0, [.int .i64, .int .i64], V 6, V 1⟩⟩], V 8⟩)], [true, true, true, true, true, false, true], [.b, .b]⟩
def g_L1630 : G := ⟨40, [⟨39, .and, [V 7, V 37]⟩, ⟨38, .and, [V 7, V 33]⟩, ⟨37, .and, [V 36, V 34]⟩, ⟨36, .not, [V 33]⟩, ⟨35, (.ar .add .i64), [V 5, N 1]⟩, ⟨34, .and, [V 30, V 32]⟩, ⟨33, .and, [V 29, V 31]⟩, ⟨32, .and, [V 7, V 30]⟩, ⟨31, .and, [V 7, V 29]⟩, ⟨30, .not, [V 29]⟩, ⟨29, .iteB, [V 16, V 16, V 28]⟩, ⟨28, .iteB, [V 22, V 22, V 27]⟩, ⟨27, .and, [V 26, V 20]⟩, ⟨26, (.cmp .eql), [V 12, N 2]⟩, ⟨25, .and, [V 19, V 23]⟩, ⟨24, .and, [V 19, V 22]⟩, ⟨23, .not, [V 22]⟩, ⟨22, .and, [V 21, V 20]⟩, ⟨21, (.cmp .eql), [V 12, N 1]⟩, ⟨20, (.cmp .eql), [V 13, V 5]⟩, ⟨19, .and, [V 7, V 17]⟩, ⟨18, .and, [V 7, V 16]⟩, ⟨17, .not, [V 16]⟩, ⟨16, .and, [V 15, V 14]⟩, ⟨15, (.cmp .eql), [V 12, N 0]⟩, ⟨14, (.cmp .eql), [V 13, N 0]⟩, ⟨13, (.pix 1 2), [V 6, V 5]⟩, ⟨12, (.pix 0 2), [V 6, V 5]⟩, ⟨11, .imp, [V 7, V 10]⟩, ⟨10, .and, [V 9, V 7]⟩, ⟨9, (.cmp .leq), [N 0, V 5]⟩, ⟨8, .not, [V 7]⟩, ⟨7, (.cmp .lss), [V 5, V 1]⟩], [V 11], []⟩
def m_1630 (al : List A) : Nat := (((Day.Ls.mk (ge al 6) (gi al 1))).n - (gi al 5)).toNat
theorem lpureQ_1630 (e : Nat → A) (H : FactsQ T e g_L1630.defs) (hp : (Day.Ls.ok (Day.Ls.mk (e 6) (e 1).int) && Day.inR (e 5).int ((Day.Ls.mk (e 6) (e 1).int)).n) = true) :
  ((e 11).bool = true) ∧ ((e 38).bool = true → (Day.Ls.ok (Day.Ls.mk (e 6) (e 1).int) && Day.inR (e 35).int ((Day.Ls.mk (e 6) (e 1).int)).n) = true ∧ ((!Day.allF (Day.fitB (Day.Ls.mk (e 6) (e 1).int)) (e 35).int ((Day.Ls.mk (e 6) (e 1).int)).n) = (!Day.allF (Day.fitB (Day.Ls.mk (e 6) (e 1).int)) (e 5).int ((Day.Ls.mk (e 6) (e 1).int)).n) ∧ Day.allF (Day.fitB (Day.Ls.mk (e 6) (e 1).int)) (e 35).int ((Day.Ls.mk (e 6) (e 1).int)).n = Day.allF (Day.fitB (Day.Ls.mk (e 6) (e 1).int)) (e 5).int ((Day.Ls.mk (e 6) (e 1).int)).n) ∧ (((Day.Ls.mk (e 6) (e 1).int)).n - (e 35).int).toNat < (((Day.Ls.mk (e 6) (e 1).int)).n - (e 5).int).toNat) ∧ ((e 39).bool = true → true = (!Day.allF (Day.fitB (Day.Ls.mk (e 6) (e 1).int)) (e 5).int ((Day.Ls.mk (e 6) (e 1).int)).n)) ∧ ((e 8).bool = true → true = Day.allF (Day.fitB (Day.Ls.mk (e 6) (e 1).int)) (e 5).int ((Day.Ls.mk (e 6) (e 1).int)).n) := by
 simp only [g_L1630, FactsQ, Def.q, updQ, L.ev_var, L.ev_n, L.ev_t, L.ev_e, L.ev, A.int_i, A.bool_b, A.str_v, A.els_l, List.map_cons, List.map_nil, Nat.zero_add, Nat.add_zero, and_true, true_and, Nat.reduceAdd, Nat.one_mul] at H
 simp only [arI, dvI, btI, cmpI, shI, ifQ, updV, ltQ, and_true, true_and] at H
 obtain ⟨q39, q38, q37, q36, ⟨q35, -⟩, q34, q33, q32, q31, q30, q29, q28, q27, q26, q25, q24, q23, q22, q21, q20, q19, q18, q17, q16, q15, q14, q13, q12, q11, q10, q9, q8, q7⟩ := H
 generalize (e 0).int = x0, (e 1).int = x1, (e 2).int = x2, (e 3).int = x3, (e 4).int = x4, (e 5).int = x5, e 6 = x6, (e 7).bool = v7, (e 8).bool = v8, (e 9).bool = v9, (e 10).bool = v10, (e 11).bool = v11, (e 14).bool = v14, (e 15).bool = v15, (e 16).bool = v16, (e 17).bool = v17, (e 18).bool = v18, (e 19).bool = v19, (e 20).bool = v20, (e 21).bool = v21, (e 22).bool = v22, (e 23).bool = v23, (e 24).bool = v24, (e 25).bool = v25, (e 26).bool = v26, (e 27).bool = v27, (e 28).bool = v28, (e 29).bool = v29, (e 30).bool = v30, (e 31).bool = v31, (e 32).bool = v32, (e 33).bool = v33, (e 34).bool = v34, (e 35).int = v35, (e 36).bool = v36, (e 37).bool = v37, (e 38).bool = v38, (e 39).bool = v39 at *
 replace q12 := congrArg A.int q12
 generalize (e 12).int = v12 at *
 replace q13 := congrArg A.int q13
 generalize (e 13).int = v13 at *
 generalize hq : Day.Ls.mk x6 x1 = q at *
 have hn : x1 = q.n := by rw [← hq]
 have hk : q.k x5 = (x6.els.getD (2 * x5.toNat) (.i 0)).int := by rw [← hq]; rfl
 have hd : q.d x5 = (x6.els.getD (1 + 2 * x5.toNat) (.i 0)).int := by rw [← hq]; rfl
 rw [← hk] at q12
 rw [← hd] at q13
 clear hk hd hq
 simp only [Bool.and_eq_true, Day.inR_iff, Day.Ls.ok, decide_eq_true_eq] at hp ⊢
 by_cases hlt : x5 < q.n
 ·have st := Day.allF_step (f := Day.fitB q) hlt
  have w : IntKind.wrap .i64 (x5 + 1) = x5 + 1 := wrap64 (by omega) (by omega)
  have fb : v29 = Day.fitB q x5 := by
   subst_vars
   simp only [Day.fitB, bne]
   cases (q.k x5 == 0) <;> cases (q.d x5 == 0) <;> cases (q.k x5 == 1) <;> cases (q.k x5 == 2) <;> cases (q.d x5 == x5) <;> rfl
  clear q28 q29
  subst_vars
  simp [st, w, hlt, hp]
  cases Day.fitB q x5 <;> simp <;> omega
 ·have st := Day.allF_end (f := Day.fitB q) hlt
  subst_vars
  simp [st, hlt, hp]
theorem lpure_1630 (as : List A) (e : Nat → A) (h1 : as = (List.range 7).map e) (h2 : (t_1630 as).1 = true) (H : FactsQ T e g_L1630.defs) : ObsAll e g_L1630.obs ∧
   (∀ pc ls, some (V 38, [V 0, V 1, V 2, V 3, V 4, V 35, V 6]) = some (pc, ls) → (pc.ev e).bool = true → (t_1630 (ls.map (L.ev e))).1 = true ∧ (t_1630 (ls.map (L.ev e))).2 = (t_1630 as).2 ∧ m_1630 (ls.map (L.ev e)) < m_1630 as) ∧
   ∀ x ∈ ([(V 39, [some (B true), none]), (V 8, [none, some (B true)])] : List (L × List (Option L))), (x.1.ev e).bool = true → ∀ (j : Nat) l, x.2[j]? = some (some l) → Teq (lp_1630.tags.getD j .any) (l.ev e) ((t_1630 as).2.getD j (.i 0)) := by
 subst h1
 obtain ⟨ho, h⟩ := lpureQ_1630 e H h2
 refine ⟨⟨ho, trivial⟩, fun pc ls hb hpc => ?_, ?_⟩
 ·injection hb with hb
  injection hb with h3 h4
  subst h3 h4
  have h := h.1 hpc
  refine ⟨h.1, ?_, h.2.2⟩
  have h5 := h.2.1
  obtain ⟨z0, z1⟩ := h5
  exact (consB z0 (consB z1 rfl))
 ·intro x hx hpc j l hj
  simp only [List.mem_cons, List.not_mem_nil, or_false] at hx
  rcases hx with rfl | rfl
  ·have h := h.2.1 hpc
   have z0 := h
   match j, hj with
   | 0, hj => cases hj; exact z0
   | 1, hj => cases hj
   | _ + 2, hj => cases hj
  ·have h := h.2.2 hpc
   have z1 := h
   match j, hj with
   | 0, hj => cases hj
   | 1, hj => cases hj; exact z1
   | _ + 2, hj => cases hj
def g_gate_Fits : G := ⟨25, [⟨24, .iteB, [V 9, V 21, V 8]⟩, ⟨23, .iteB, [V 9, V 20, B false]⟩, ⟨22, .not, [V 9]⟩, ⟨21, .iteB, [V 18, V 18, V 17]⟩, ⟨20, .iteB, [V 18, B true, B false]⟩, ⟨19, .not, [V 18]⟩, ⟨18, .and, [V 9, V 12]⟩, ⟨17, .and, [V 9, V 11]⟩, ⟨16, .imp, [V 9, V 15]⟩, ⟨15, .not, [V 14]⟩, ⟨14, .and, [V 11, V 12]⟩, ⟨13, .imp, [V 9, V 10]⟩, ⟨10, (.call 1630), [V 0, V 2, V 4, V 5, V 8, N 0, V 1]⟩, ⟨9, .not, [V 8]⟩, ⟨8, .iteB, [V 5, B true, V 7]⟩, ⟨7, (.cmp .neq), [V 2, V 0]⟩, ⟨6, .not, [V 5]⟩, ⟨5, .not, [V 4]⟩, ⟨3, (.call 43), [V 0]⟩], [V 16, V 13, V 3], []⟩
theorem pure_gate_Fits (e : Nat → A) (H : FactsQ T e g_gate_Fits.defs) (hp : (Day.Ls.ok (Day.Ls.mk (e 1) (e 2).int)) = true) :
  ((e 16).bool = true ∧ (e 13).bool = true ∧ (e 3).bool = true) ∧ (Day.fitsR (e 0).int (Day.Ls.mk (e 1) (e 2).int) = (e 23).bool) := by
 simp only [g_gate_Fits, FactsQ, Def.q, updQ, L.ev_var, L.ev_n, L.ev_t, L.ev_e, L.ev, A.int_i, A.bool_b, A.str_v, A.els_l, List.map_cons, List.map_nil, Nat.zero_add, Nat.add_zero, and_true, true_and, Nat.reduceAdd, Nat.one_mul] at H
 simp only [arI, dvI, btI, cmpI, shI, ifQ, updV, ltQ, and_true, true_and] at H
 obtain ⟨q24, q23, q22, q21, q20, q19, q18, q17, q16, q15, q14, q13, q10, q9, q8, q7, q6, q5, q3⟩ := H
 replace q10 := out_L1630 q10
 obtain ⟨q10, q11, q12⟩ := q10
 replace q3 := out_conf_Right q3
 obtain ⟨q3, q4⟩ := q3
 simp only [L.ev_var, L.ev_n, L.ev_t, L.ev_e, L.ev, A.int_i, A.bool_b, A.str_v] at q10 q11 q12 q3 q4
 generalize (e 0).int = x0, e 1 = x1, (e 2).int = x2, (e 3).bool = v3, (e 4).bool = v4, (e 5).bool = v5, (e 6).bool = v6, (e 7).bool = v7, (e 8).bool = v8, (e 9).bool = v9, (e 10).bool = v10, (e 11).bool = v11, (e 12).bool = v12, (e 13).bool = v13, (e 14).bool = v14, (e 15).bool = v15, (e 16).bool = v16, (e 17).bool = v17, (e 18).bool = v18, (e 19).bool = v19, (e 20).bool = v20, (e 21).bool = v21, (e 22).bool = v22, (e 23).bool = v23, (e 24).bool = v24 at *
 generalize hq : Day.Ls.mk x1 x2 = q at *
 have hn : x2 = q.n := by rw [← hq]
 clear hq
 have hI : Day.inR 0 q.n = true := by
  simp only [Day.Ls.ok, Bool.and_eq_true, decide_eq_true_eq] at hp
  rw [Day.inR_iff]; omega
 subst_vars
 simp only [hp, hI, Day.fitsR, bne]
 cases Day.right x0 <;> cases (q.n == x0) <;> cases Day.allF (Day.fitB q) 0 q.n <;> simp
def g_gate_Relay : G := ⟨98, [⟨97, .iteB, [V 18, V 18, V 17]⟩, ⟨96, .iteI, [V 18, V 68, N 0]⟩, ⟨95, .iteI, [V 18, V 67, N 0]⟩, ⟨94, .iteI, [V 18, V 66, N 0]⟩, ⟨93, .iteI, [V 18, V 65, N 0]⟩, ⟨92, .iteI, [V 18, V 64, N 0]⟩, ⟨91, .iteI, [V 18, V 63, N 0]⟩, ⟨90, .iteI, [V 18, V 62, N 0]⟩, ⟨89, .iteI, [V 18, V 61, N 0]⟩, ⟨88, .iteI, [V 18, V 60, N 0]⟩, ⟨87, .iteI, [V 18, V 59, N 0]⟩, ⟨86, .iteI, [V 18, V 58, N 0]⟩, ⟨85, .iteI, [V 18, V 57, N 0]⟩, ⟨84, .iteI, [V 18, V 56, N 0]⟩, ⟨83, .iteI, [V 18, V 55, N 0]⟩, ⟨82, .iteI, [V 18, V 66, V 12]⟩, ⟨81, .iteI, [V 18, V 65, V 11]⟩, ⟨80, .iteI, [V 18, V 64, V 10]⟩, ⟨79, .iteI, [V 18, V 63, V 9]⟩, ⟨78, .iteI, [V 18, V 62, V 8]⟩, ⟨77, .iteI, [V 18, V 61, V 7]⟩, ⟨76, .iteI, [V 18, V 60, V 6]⟩, ⟨75, .iteI, [V 18, V 59, V 5]⟩, ⟨74, .iteI, [V 18, V 58, V 4]⟩, ⟨73, .iteI, [V 18, V 57, V 3]⟩, ⟨72, .iteI, [V 18, V 56, V 2]⟩, ⟨71, .iteI, [V 18, V 55, V 1]⟩, ⟨70, .iteI, [V 18, N 0, V 16]⟩, ⟨69, .not, [V 18]⟩, ⟨68, .iteI, [V 19, V 37, V 53]⟩, ⟨67, .iteI, [V 19, V 36, V 52]⟩, ⟨66, .iteI, [V 19, V 35, V 51]⟩, ⟨65, .iteI, [V 19, V 34, V 50]⟩, ⟨64, .iteI, [V 19, V 33, V 49]⟩, ⟨63, .iteI, [V 19, V 32, V 48]⟩, ⟨62, .iteI, [V 19, V 31, V 47]⟩, ⟨61, .iteI, [V 19, V 30, V 46]⟩, ⟨60, .iteI, [V 19, V 29, V 45]⟩, ⟨59, .iteI, [V 19, V 28, V 44]⟩, ⟨58, .iteI, [V 19, V 27, V 43]⟩, ⟨57, .iteI, [V 19, V 26, V 42]⟩, ⟨56, .iteI, [V 19, V 25, V 41]⟩, ⟨55, .iteI, [V 19, V 24, V 40]⟩, ⟨54, .imp, [V 22, V 39]⟩, ⟨39, (.call 41), [V 0, V 1, V 2, V 3, V 4, V 5, V 6, V 7, V 8, V 9, V 10, V 11, V 12, V 13, V 14]⟩, ⟨38, .imp, [V 21, V 23]⟩, ⟨23, (.call 42), [V 0, V 1, V 2, V 3, V 4, V 5, V 6, V 7, V 8, V 9, V 10, V 11, V 12, V 13, V 14]⟩, ⟨22, .and, [V 18, V 20]⟩, ⟨21, .and, [V 18, V 19]⟩, ⟨20, .not, [V 19]⟩, ⟨19, (.cmp .gtr), [V 11, N 0]⟩, ⟨18, .not, [V 17]⟩, ⟨17, (.cmp .neq), [V 16, N 0]⟩, ⟨15, (.call 37), [V 0, V 1, V 2, V 3, V 4, V 5, V 6, V 7, V 8, V 9, V 10, V 11, V 12, V 13, V 14]⟩], [V 54, V 38, V 15], []⟩
theorem pure_gate_Relay (e : Nat → A) (H : FactsQ T e g_gate_Relay.defs) : ∀ z0, z0 = (Day.HB.mk [(e 1).int, (e 2).int, (e 3).int, (e 4).int, (e 5).int, (e 6).int, (e 7).int, (e 8).int] (e 9).int (e 10).int (e 11).int (e 12).int) → ∀ r1, r1 = Day.relayH (e 0).int z0 (Day.Ls.mk (e 13) (e 14).int) → (Day.HB.i64 z0 && Day.Ls.ok (Day.Ls.mk (e 13) (e 14).int)) = true →
  ((e 54).bool = true ∧ (e 38).bool = true ∧ (e 15).bool = true) ∧ (((r1)).a 0 = (e 83).int ∧ ((r1)).a 1 = (e 84).int ∧ ((r1)).a 2 = (e 85).int ∧ ((r1)).a 3 = (e 86).int ∧ ((r1)).a 4 = (e 87).int ∧ ((r1)).a 5 = (e 88).int ∧ ((r1)).a 6 = (e 89).int ∧ ((r1)).a 7 = (e 90).int ∧ ((r1)).port = (e 91).int ∧ ((r1)).age = (e 92).int ∧ ((r1)).hold = (e 93).int ∧ ((r1)).pos = (e 94).int ∧ ((Day.relayF (e 0).int z0 (Day.Ls.mk (e 13) (e 14).int))).kind = (e 95).int ∧ ((Day.relayF (e 0).int z0 (Day.Ls.mk (e 13) (e 14).int))).id = (e 96).int ∧ Day.gateE (e 0).int z0 (Day.Ls.mk (e 13) (e 14).int) = (e 70).int) := by
 intro z0 hz0 r1 hr1 hp
 subst hz0 hr1
 simp only [g_gate_Relay, FactsQ, Def.q, updQ, L.ev_var, L.ev_n, L.ev_t, L.ev_e, L.ev, A.int_i, A.bool_b, A.str_v, A.els_l, List.map_cons, List.map_nil, Nat.zero_add, Nat.add_zero, and_true, true_and, Nat.reduceAdd, Nat.one_mul] at H
 simp only [arI, dvI, btI, cmpI, shI, ifQ, updV, ltQ, and_true, true_and] at H
 obtain ⟨q97, ⟨q96, -⟩, ⟨q95, -⟩, ⟨q94, -⟩, ⟨q93, -⟩, ⟨q92, -⟩, ⟨q91, -⟩, ⟨q90, -⟩, ⟨q89, -⟩, ⟨q88, -⟩, ⟨q87, -⟩, ⟨q86, -⟩, ⟨q85, -⟩, ⟨q84, -⟩, ⟨q83, -⟩, ⟨q82, -⟩, ⟨q81, -⟩, ⟨q80, -⟩, ⟨q79, -⟩, ⟨q78, -⟩, ⟨q77, -⟩, ⟨q76, -⟩, ⟨q75, -⟩, ⟨q74, -⟩, ⟨q73, -⟩, ⟨q72, -⟩, ⟨q71, -⟩, ⟨q70, -⟩, q69, ⟨q68, -⟩, ⟨q67, -⟩, ⟨q66, -⟩, ⟨q65, -⟩, ⟨q64, -⟩, ⟨q63, -⟩, ⟨q62, -⟩, ⟨q61, -⟩, ⟨q60, -⟩, ⟨q59, -⟩, ⟨q58, -⟩, ⟨q57, -⟩, ⟨q56, -⟩, ⟨q55, -⟩, q54, q39, q38, q23, q22, q21, q20, q19, q18, q17, q15⟩ := H
 replace q39 := out_gate_first q39 _ rfl _ rfl
 obtain ⟨q39, q40, q41, q42, q43, q44, q45, q46, q47, q48, q49, q50, q51, q52, q53⟩ := q39
 replace q23 := out_gate_owner q23 _ rfl _ rfl
 obtain ⟨q23, q24, q25, q26, q27, q28, q29, q30, q31, q32, q33, q34, q35, q36, q37⟩ := q23
 replace q15 := out_gate_check q15 _ rfl
 obtain ⟨q15, q16⟩ := q15
 simp only [L.ev_var, L.ev_n, L.ev_t, L.ev_e, L.ev, A.int_i, A.bool_b, A.str_v] at q39 q40 q41 q42 q43 q44 q45 q46 q47 q48 q49 q50 q51 q52 q53 q23 q24 q25 q26 q27 q28 q29 q30 q31 q32 q33 q34 q35 q36 q37 q15 q16
 generalize (e 0).int = x0, (e 1).int = x1, (e 2).int = x2, (e 3).int = x3, (e 4).int = x4, (e 5).int = x5, (e 6).int = x6, (e 7).int = x7, (e 8).int = x8, (e 9).int = x9, (e 10).int = x10, (e 11).int = x11, (e 12).int = x12, e 13 = x13, (e 14).int = x14, (e 15).bool = v15, (e 16).int = v16, (e 17).bool = v17, (e 18).bool = v18, (e 19).bool = v19, (e 20).bool = v20, (e 21).bool = v21, (e 22).bool = v22, (e 23).bool = v23, (e 24).int = v24, (e 25).int = v25, (e 26).int = v26, (e 27).int = v27, (e 28).int = v28, (e 29).int = v29, (e 30).int = v30, (e 31).int = v31, (e 32).int = v32, (e 33).int = v33, (e 34).int = v34, (e 35).int = v35, (e 36).int = v36, (e 37).int = v37, (e 38).bool = v38, (e 39).bool = v39, (e 40).int = v40, (e 41).int = v41, (e 42).int = v42, (e 43).int = v43, (e 44).int = v44, (e 45).int = v45, (e 46).int = v46, (e 47).int = v47, (e 48).int = v48, (e 49).int = v49, (e 50).int = v50, (e 51).int = v51, (e 52).int = v52, (e 53).int = v53, (e 54).bool = v54, (e 55).int = v55, (e 56).int = v56, (e 57).int = v57, (e 58).int = v58, (e 59).int = v59, (e 60).int = v60, (e 61).int = v61, (e 62).int = v62, (e 63).int = v63, (e 64).int = v64, (e 65).int = v65, (e 66).int = v66, (e 67).int = v67, (e 68).int = v68, (e 69).bool = v69, (e 70).int = v70, (e 71).int = v71, (e 72).int = v72, (e 73).int = v73, (e 74).int = v74, (e 75).int = v75, (e 76).int = v76, (e 77).int = v77, (e 78).int = v78, (e 79).int = v79, (e 80).int = v80, (e 81).int = v81, (e 82).int = v82, (e 83).int = v83, (e 84).int = v84, (e 85).int = v85, (e 86).int = v86, (e 87).int = v87, (e 88).int = v88, (e 89).int = v89, (e 90).int = v90, (e 91).int = v91, (e 92).int = v92, (e 93).int = v93, (e 94).int = v94, (e 95).int = v95, (e 96).int = v96, (e 97).bool = v97 at *
 generalize hH : (Day.HB.mk [x1, x2, x3, x4, x5, x6, x7, x8] x9 x10 x11 x12) = h at *
 have g0 : x1 = h.a 0 ∧ x2 = h.a 1 ∧ x3 = h.a 2 ∧ x4 = h.a 3 ∧ x5 = h.a 4 ∧ x6 = h.a 5 ∧ x7 = h.a 6 ∧ x8 = h.a 7 ∧ x9 = h.port ∧ x10 = h.age ∧ x11 = h.hold ∧ x12 = h.pos := by subst hH; simp [Day.HB.a]
 obtain ⟨a1, a2, a3, a4, a5, a6, a7, a8, a9, a10, a11, a12⟩ := g0
 clear hH
 generalize hq : Day.Ls.mk x13 x14 = q at *
 have hn0 : x14 = q.n := by rw [← hq]
 have hk : ∀ p, q.k p = (x13.els.getD (2 * p.toNat) (.i 0)).int := fun p => by rw [← hq]; rfl
 have hd : ∀ p, q.d p = (x13.els.getD (1 + 2 * p.toNat) (.i 0)).int := fun p => by rw [← hq]; rfl
 clear hq
 simp only [Bool.and_eq_true] at hp
 clear hk hd
 by_cases hg : Day.gateE x0 h q = 0
 ·obtain ⟨hr, hf⟩ := Day.gateE_fits.1 hg
  by_cases c : 0 < h.hold
  ·subst_vars
   simp [hp, hg, hr, hf, c, Day.relayH, Day.relayF]
  ·subst_vars
   simp [hp, hg, hr, hf, c, Day.relayH, Day.relayF]
 ·subst_vars
  simp [hp, hg, Day.relayH, Day.relayF, Day.noHB, Day.noFr, Day.HB.a]
def g_gate_owner : G := ⟨30, [⟨29, .iteB, [V 21, V 21, V 20]⟩, ⟨28, .iteI, [V 21, V 19, N 0]⟩, ⟨27, .iteI, [V 21, V 18, N 0]⟩, ⟨26, .iteI, [V 21, V 23, V 11]⟩, ⟨25, .not, [V 21]⟩, ⟨24, .imp, [V 21, V 22]⟩, ⟨22, (.call 40), [V 0]⟩, ⟨21, .not, [V 20]⟩, ⟨20, (.cmp .neq), [V 18, N 2]⟩, ⟨19, (.pix 1 2), [V 13, V 12]⟩, ⟨18, (.pix 0 2), [V 13, V 12]⟩, ⟨17, .and, [V 15, V 16]⟩, ⟨16, (.cmp .lss), [V 12, V 14]⟩, ⟨15, (.cmp .leq), [N 0, V 12]⟩], [V 24, V 17], []⟩
theorem pure_gate_owner (e : Nat → A) (H : FactsQ T e g_gate_owner.defs) : ∀ z0, z0 = (Day.HB.mk [(e 1).int, (e 2).int, (e 3).int, (e 4).int, (e 5).int, (e 6).int, (e 7).int, (e 8).int] (e 9).int (e 10).int (e 11).int (e 12).int) → ∀ r1, r1 = Day.ownerH (e 0).int z0 (Day.Ls.mk (e 13) (e 14).int) → (Day.rightH (e 0).int z0 && Day.fitsR (e 0).int (Day.Ls.mk (e 13) (e 14).int)) = true →
  ((e 24).bool = true ∧ (e 17).bool = true) ∧ (((r1)).a 0 = (e 1).int ∧ ((r1)).a 1 = (e 2).int ∧ ((r1)).a 2 = (e 3).int ∧ ((r1)).a 3 = (e 4).int ∧ ((r1)).a 4 = (e 5).int ∧ ((r1)).a 5 = (e 6).int ∧ ((r1)).a 6 = (e 7).int ∧ ((r1)).a 7 = (e 8).int ∧ ((r1)).port = (e 9).int ∧ ((r1)).age = (e 10).int ∧ ((r1)).hold = (e 26).int ∧ ((r1)).pos = (e 12).int ∧ ((Day.ownerF z0 (Day.Ls.mk (e 13) (e 14).int))).kind = (e 27).int ∧ ((Day.ownerF z0 (Day.Ls.mk (e 13) (e 14).int))).id = (e 28).int) := by
 intro z0 hz0 r1 hr1 hp
 subst hz0 hr1
 simp only [g_gate_owner, FactsQ, Def.q, updQ, L.ev_var, L.ev_n, L.ev_t, L.ev_e, L.ev, A.int_i, A.bool_b, A.str_v, A.els_l, List.map_cons, List.map_nil, Nat.zero_add, Nat.add_zero, and_true, true_and, Nat.reduceAdd, Nat.one_mul] at H
 simp only [arI, dvI, btI, cmpI, shI, ifQ, updV, ltQ, and_true, true_and] at H
 obtain ⟨q29, ⟨q28, -⟩, ⟨q27, -⟩, ⟨q26, -⟩, q25, q24, q22, q21, q20, q19, q18, q17, q16, q15⟩ := H
 replace q22 := out_conf_Block q22
 obtain ⟨q22, q23⟩ := q22
 simp only [L.ev_var, L.ev_n, L.ev_t, L.ev_e, L.ev, A.int_i, A.bool_b, A.str_v] at q22 q23
 generalize (e 0).int = x0, (e 1).int = x1, (e 2).int = x2, (e 3).int = x3, (e 4).int = x4, (e 5).int = x5, (e 6).int = x6, (e 7).int = x7, (e 8).int = x8, (e 9).int = x9, (e 10).int = x10, (e 11).int = x11, (e 12).int = x12, e 13 = x13, (e 14).int = x14, (e 15).bool = v15, (e 16).bool = v16, (e 17).bool = v17, (e 20).bool = v20, (e 21).bool = v21, (e 22).bool = v22, (e 23).int = v23, (e 24).bool = v24, (e 25).bool = v25, (e 26).int = v26, (e 27).int = v27, (e 28).int = v28, (e 29).bool = v29 at *
 replace q18 := congrArg A.int q18
 generalize (e 18).int = v18 at *
 replace q19 := congrArg A.int q19
 generalize (e 19).int = v19 at *
 generalize hH : (Day.HB.mk [x1, x2, x3, x4, x5, x6, x7, x8] x9 x10 x11 x12) = h at *
 have g0 : x1 = h.a 0 ∧ x2 = h.a 1 ∧ x3 = h.a 2 ∧ x4 = h.a 3 ∧ x5 = h.a 4 ∧ x6 = h.a 5 ∧ x7 = h.a 6 ∧ x8 = h.a 7 ∧ x9 = h.port ∧ x10 = h.age ∧ x11 = h.hold ∧ x12 = h.pos := by subst hH; simp [Day.HB.a]
 obtain ⟨a1, a2, a3, a4, a5, a6, a7, a8, a9, a10, a11, a12⟩ := g0
 clear hH
 generalize hq : Day.Ls.mk x13 x14 = q at *
 have hn0 : x14 = q.n := by rw [← hq]
 have hk : ∀ p, q.k p = (x13.els.getD (2 * p.toNat) (.i 0)).int := fun p => by rw [← hq]; rfl
 have hd : ∀ p, q.d p = (x13.els.getD (1 + 2 * p.toNat) (.i 0)).int := fun p => by rw [← hq]; rfl
 clear hq
 simp only [Bool.and_eq_true] at hp
 obtain ⟨hr, hf⟩ := hp
 obtain ⟨f1, f2, f3⟩ := Day.fits_n hf
 have hb := Day.hub_bounds hr
 have hR : Day.right x0 = true := by simp [Day.right, f2]
 rw [← hk] at q18
 rw [← hd] at q19
 clear hk hd
 subst_vars
 by_cases c : q.k h.pos = 2
 ·simp [c, Day.ownerH, Day.ownerF, Day.ages8, Day.HB.a, Day.times, hR]
  omega
 ·simp [c, Day.ownerH, Day.ownerF, Day.sameH, Day.ages8, Day.HB.a, Day.noFr]
  omega
def lp_1700 : Lp := ⟨57, [false, true, false, true], 1700, 15, 3, 4, ⟨frS 19 [(0, .pv (.one (.k (.fsl 0 (V 0))))), (1, .pv (.one (.clo 58 [] []))), (4, .pv (.one (.k (.int .i64 (N 0))))), (6, .pv (.one (.k (.fsl 0 (V 0))))), (7, .pv (.one (.k (.int .i64 (V 0))))), (8, .pv (.one (.k (.int .i64 (V 1)))))], [⟨false, 0, 0, [], some ⟨false, 0, [.int .i64, .int .i64], V 2, V 0⟩⟩, ⟨true, 24, 12, [.k (.int .i64 (V 3)), .k (.int .i64 (V 4)), .k (.int .i64 (V 5)), .k (.int .i64 (V 6)), .k (.int .i64 (V 7)), .k (.int .i64 (V 8)), .k (.int .i64 (V 9)), .k (.int .i64 (V 10)), .k (.int .i64 (V 11)), .k (.int .i64 (V 12)), .k (.int .i64 (V 13)), .k (.int .i64 (V 14))], none⟩, ⟨true, 24, 12, [.k (.int .i64 (N 0)), .k (.int .i64 (N 0)), .k (.int .i64 (N 0)), .k (.int .i64 (N 0)), .k (.int .i64 (N 0)), .k (.int .i64 (N 0)), .k (.int .i64 (N 0)), .k (.int .i64 (N 0)), .k (.int .i64 (N 0)), .k (.int .i64 (N 0)), .k (.int .i64 (N 0)), .k (.int .i64 (N 0))], none⟩, ⟨true, 32, 2, [.k (.int .i64 (N 0)), .k (.int .i64 (N 0))], none⟩], B true⟩, [(.ret, ⟨frS 19 [(0, .pv (.one (.k (.fsl 0 (V 0))))), (4, .pv (.one (.k (.int .i64 (V 15))))), (6, .pv (.one (.k (.fsl 0 (V 0)))))], [⟨false, 0, 0, [], some ⟨false, 0, [.int .i64, .int .i64], V 2, V 0⟩⟩, ⟨true, 24, 12, [.k (.int .i64 (V 3)), .k (.int .i64 (V 4)), .k (.int .i64 (V 5)), .k (.int .i64 (V 6)), .k (.int .i64 (V 7)), .k (.int .i64 (V 8)), .k (.int .i64 (V 9)), .k (.int .i64 (V 10)), .k (.int .i64 (V 11)), .k (.int .i64 (V 12)), .k (.int .i64 (V 13)), .k (.int .i64 (V 14))], none⟩, ⟨true, 24, 12, [.k (.int .i64 (N 0)), .k (.int .i64 (N 0)), .k (.int .i64 (N 0)), .k (.int .i64 (N 0)), .k (.int .i64 (N 0)), .k (.int .i64 (N 0)), .k (.int .i64 (N 0)), .k (.int .i64 (N 0)), .k (.int .i64 (N 0)), .k (.int .i64 (N 0)), .k (.int .i64 (N 0)), .k (.int .i64 (N 0))], none⟩, ⟨true, 32, 2, [.k (.int .i64 (N 0)), .k (.int .i64 (N 0))], none⟩], V 16⟩), (.exit 0, ⟨frS 19 [(0, .pv (.one (.k (.fsl 0 (V 0))))), (4, .pv (.one (.k (.int .i64 (N 0))))), (6, .pv (.one (.k (.fsl 0 (V 0)))))], [⟨false, 0, 0, [], some ⟨false, 0, [.int .i64, .int .i64], V 2, V 0⟩⟩, ⟨true, 24, 12, [.k (.int .i64 (V 3)), .k (.int .i64 (V 4)), .k (.int .i64 (V 5)), .k (.int .i64 (V 6)), .k (.int .i64 (V 7)), .k (.int .i64 (V 8)), .k (.int .i64 (V 9)), .k (.int .i64 (V 10)), .k (.int .i64 (V 11)), .k (.int .i64 (V 12)), .k (.int .i64 (V 13)), .k (.int .i64 (V 14))], none⟩, ⟨true, 24, 12, [.k (.int .i64 (N 0)), .k (.int .i64 (N 0)), .k (.int .i64 (N 0)), .k (.int .i64 (N 0)), .k (.int .i64 (N 0)), .k (.int .i64 (N 0)), .k (.int .i64 (N 0)), .k (.int .i64 (N 0)), .k (.int .i64 (N 0)), .k (.int .i64 (N 0)), .k (.int .i64 (N 0)), .k (.int .i64 (N 0))], none⟩, ⟨true, 32, 2, [.k (.int .i64 (N 0)), .k (.int .i64 (N 0))], none⟩], V 17⟩)], [true, false, true, true, true, true, true, true, true, true, true, true, true, true, true], [.i, .b, .b]⟩
def g_L1700 : G := ⟨33, [⟨32, .and, [V 15, V 30]⟩, ⟨31, .and, [V 15, V 27]⟩, ⟨30, .and, [V 29, V 26]⟩, ⟨29, .not, [V 27]⟩, ⟨28, (.ar .add .i64), [V 1, N 1]⟩, ⟨27, .and, [V 23, V 25]⟩, ⟨26, .and, [V 22, V 24]⟩, ⟨25, .and, [V 15, V 23]⟩, ⟨24, .and, [V 15, V 22]⟩, ⟨23, .not, [V 22]⟩, ⟨22, (.cmp .eql), [V 20, N 1]⟩, ⟨21, (.pix 1 2), [V 2, V 1]⟩, ⟨20, (.pix 0 2), [V 2, V 1]⟩, ⟨19, .imp, [V 15, V 18]⟩, ⟨18, .and, [V 17, V 15]⟩, ⟨17, (.cmp .leq), [N 0, V 1]⟩, ⟨16, .not, [V 15]⟩, ⟨15, (.cmp .lss), [V 1, V 0]⟩], [V 19], []⟩
def m_1700 (al : List A) : Nat := (((Day.Ls.mk (ge al 2) (gi al 0))).n - (gi al 1)).toNat
theorem lpureQ_1700 (e : Nat → A) (H : FactsQ T e g_L1700.defs) (hp : (Day.Ls.ok (Day.Ls.mk (e 2) (e 0).int) && Day.inR (e 1).int ((Day.Ls.mk (e 2) (e 0).int)).n) = true) :
  ((e 19).bool = true) ∧ ((e 31).bool = true → (Day.Ls.ok (Day.Ls.mk (e 2) (e 0).int) && Day.inR (e 28).int ((Day.Ls.mk (e 2) (e 0).int)).n) = true ∧ (Day.firstF (Day.isCs (Day.Ls.mk (e 2) (e 0).int)) (e 28).int ((Day.Ls.mk (e 2) (e 0).int)).n = Day.firstF (Day.isCs (Day.Ls.mk (e 2) (e 0).int)) (e 1).int ((Day.Ls.mk (e 2) (e 0).int)).n ∧ Day.anyF (Day.isCs (Day.Ls.mk (e 2) (e 0).int)) (e 28).int ((Day.Ls.mk (e 2) (e 0).int)).n = Day.anyF (Day.isCs (Day.Ls.mk (e 2) (e 0).int)) (e 1).int ((Day.Ls.mk (e 2) (e 0).int)).n ∧ (!Day.anyF (Day.isCs (Day.Ls.mk (e 2) (e 0).int)) (e 28).int ((Day.Ls.mk (e 2) (e 0).int)).n) = (!Day.anyF (Day.isCs (Day.Ls.mk (e 2) (e 0).int)) (e 1).int ((Day.Ls.mk (e 2) (e 0).int)).n)) ∧ (((Day.Ls.mk (e 2) (e 0).int)).n - (e 28).int).toNat < (((Day.Ls.mk (e 2) (e 0).int)).n - (e 1).int).toNat) ∧ ((e 32).bool = true → (e 1).int = Day.firstF (Day.isCs (Day.Ls.mk (e 2) (e 0).int)) (e 1).int ((Day.Ls.mk (e 2) (e 0).int)).n ∧ true = Day.anyF (Day.isCs (Day.Ls.mk (e 2) (e 0).int)) (e 1).int ((Day.Ls.mk (e 2) (e 0).int)).n) ∧ ((e 16).bool = true → true = (!Day.anyF (Day.isCs (Day.Ls.mk (e 2) (e 0).int)) (e 1).int ((Day.Ls.mk (e 2) (e 0).int)).n)) := by
 simp only [g_L1700, FactsQ, Def.q, updQ, L.ev_var, L.ev_n, L.ev_t, L.ev_e, L.ev, A.int_i, A.bool_b, A.str_v, A.els_l, List.map_cons, List.map_nil, Nat.zero_add, Nat.add_zero, and_true, true_and, Nat.reduceAdd, Nat.one_mul] at H
 simp only [arI, dvI, btI, cmpI, shI, ifQ, updV, ltQ, and_true, true_and] at H
 obtain ⟨q32, q31, q30, q29, ⟨q28, -⟩, q27, q26, q25, q24, q23, q22, q21, q20, q19, q18, q17, q16, q15⟩ := H
 generalize (e 0).int = x0, (e 1).int = x1, e 2 = x2, (e 3).int = x3, (e 4).int = x4, (e 5).int = x5, (e 6).int = x6, (e 7).int = x7, (e 8).int = x8, (e 9).int = x9, (e 10).int = x10, (e 11).int = x11, (e 12).int = x12, (e 13).int = x13, (e 14).int = x14, (e 15).bool = v15, (e 16).bool = v16, (e 17).bool = v17, (e 18).bool = v18, (e 19).bool = v19, (e 22).bool = v22, (e 23).bool = v23, (e 24).bool = v24, (e 25).bool = v25, (e 26).bool = v26, (e 27).bool = v27, (e 28).int = v28, (e 29).bool = v29, (e 30).bool = v30, (e 31).bool = v31, (e 32).bool = v32 at *
 replace q20 := congrArg A.int q20
 generalize (e 20).int = v20 at *
 generalize hq : Day.Ls.mk x2 x0 = q at *
 have hn : x0 = q.n := by rw [← hq]
 have hk : q.k x1 = (x2.els.getD (2 * x1.toNat) (.i 0)).int := by rw [← hq]; rfl
 rw [← hk] at q20
 clear hk hq
 simp only [Bool.and_eq_true, Day.inR_iff, Day.Ls.ok, decide_eq_true_eq] at hp ⊢
 by_cases hlt : x1 < q.n
 ·have w : IntKind.wrap .i64 (x1 + 1) = x1 + 1 := wrap64 (by omega) (by omega)
  have st := Day.firstF_step (f := Day.isCs q) hlt
  have st2 := Day.anyF_step (f := Day.isCs q) hlt
  have fb : v22 = Day.isCs q x1 := by rw [q22, q20]; rfl
  clear q22
  subst_vars
  simp only [st, st2, w]
  cases Day.isCs q x1 <;> simp [hlt, hp] <;> omega
 ·have st := Day.firstF_end (f := Day.isCs q) hlt
  have st2 := Day.anyF_end (f := Day.isCs q) hlt
  subst_vars
  simp [st, st2, hlt, hp]
theorem lpure_1700 (as : List A) (e : Nat → A) (h1 : as = (List.range 15).map e) (h2 : (t_1700 as).1 = true) (H : FactsQ T e g_L1700.defs) : ObsAll e g_L1700.obs ∧
   (∀ pc ls, some (V 31, [V 0, V 28, V 2, V 3, V 4, V 5, V 6, V 7, V 8, V 9, V 10, V 11, V 12, V 13, V 14]) = some (pc, ls) → (pc.ev e).bool = true → (t_1700 (ls.map (L.ev e))).1 = true ∧ (t_1700 (ls.map (L.ev e))).2 = (t_1700 as).2 ∧ m_1700 (ls.map (L.ev e)) < m_1700 as) ∧
   ∀ x ∈ ([(V 32, [some (V 1), some (B true), none]), (V 16, [none, none, some (B true)])] : List (L × List (Option L))), (x.1.ev e).bool = true → ∀ (j : Nat) l, x.2[j]? = some (some l) → Teq (lp_1700.tags.getD j .any) (l.ev e) ((t_1700 as).2.getD j (.i 0)) := by
 subst h1
 obtain ⟨ho, h⟩ := lpureQ_1700 e H h2
 refine ⟨⟨ho, trivial⟩, fun pc ls hb hpc => ?_, ?_⟩
 ·injection hb with hb
  injection hb with h3 h4
  subst h3 h4
  have h := h.1 hpc
  refine ⟨h.1, ?_, h.2.2⟩
  have h5 := h.2.1
  obtain ⟨z0, z1, z2⟩ := h5
  exact (consI z0 (consB z1 (consB z2 rfl)))
 ·intro x hx hpc j l hj
  simp only [List.mem_cons, List.not_mem_nil, or_false] at hx
  rcases hx with rfl | rfl
  ·have h := h.2.1 hpc
   obtain ⟨z0, z1⟩ := h
   match j, hj with
   | 0, hj => cases hj; exact z0
   | 1, hj => cases hj; exact z1
   | 2, hj => cases hj
   | _ + 3, hj => cases hj
  ·have h := h.2.2 hpc
   have z2 := h
   match j, hj with
   | 0, hj => cases hj
   | 1, hj => cases hj
   | 2, hj => cases hj; exact z2
   | _ + 3, hj => cases hj
def lp_1701 : Lp := ⟨41, [false, true, false, true, true, true], 1701, 27, 8, 4, ⟨frS 40 [(0, .pv (.one (.k (.int .i64 (V 0))))), (1, .pv (.agg [.k (.int .i64 (V 1)), .k (.int .i64 (V 2)), .k (.int .i64 (V 3)), .k (.int .i64 (V 4)), .k (.int .i64 (V 5)), .k (.int .i64 (V 6)), .k (.int .i64 (V 7)), .k (.int .i64 (V 8)), .k (.int .i64 (V 9)), .k (.int .i64 (V 10)), .k (.int .i64 (V 11)), .k (.int .i64 (V 12))])), (2, .pv (.one (.k (.fsl 0 (V 13))))), (4, .pv (.one (.k (.ptr 1 0)))), (6, .pv (.one (.k (.ptr 2 0)))), (7, .pv (.one (.k (.ptr 3 0)))), (8, .pv (.one (.k (.int .i64 (V 14))))), (10, .pv (.one (.k (.fsl 0 (V 13))))), (11, .pv (.one (.k (.int .i64 (V 14))))), (12, .pv (.one (.k (.int .i64 (V 14))))), (13, .pv (.one (.k (.bool (V 15))))), (14, .pv (.one (.k (.bool (V 15))))), (20, .pv (.one (.k (.bool (V 16))))), (23, .pv (.one (.k (.int .i64 (V 0))))), (24, .pv (.one (.k (.int .i64 (V 17)))))], [⟨false, 0, 0, [], some ⟨false, 0, [.int .i64, .int .i64], V 18, V 13⟩⟩, ⟨true, 24, 12, [.k (.int .i64 (V 19)), .k (.int .i64 (V 20)), .k (.int .i64 (V 21)), .k (.int .i64 (V 22)), .k (.int .i64 (V 23)), .k (.int .i64 (V 24)), .k (.int .i64 (V 25)), .k (.int .i64 (V 26)), .k (.int .i64 (V 9)), .k (.int .i64 (V 10)), .k (.int .i64 (V 11)), .k (.int .i64 (V 12))], none⟩, ⟨true, 24, 12, [.k (.int .i64 (N 0)), .k (.int .i64 (N 0)), .k (.int .i64 (N 0)), .k (.int .i64 (N 0)), .k (.int .i64 (N 0)), .k (.int .i64 (N 0)), .k (.int .i64 (N 0)), .k (.int .i64 (N 0)), .k (.int .i64 (N 0)), .k (.int .i64 (N 0)), .k (.int .i64 (N 0)), .k (.int .i64 (N 0))], none⟩, ⟨true, 32, 2, [.k (.int .i64 (N 0)), .k (.int .i64 (N 0))], none⟩], B true⟩, [(.exit 0, ⟨frS 40 [(0, .pv (.one (.k (.int .i64 (V 0))))), (1, .pv (.agg [.k (.int .i64 (V 1)), .k (.int .i64 (V 2)), .k (.int .i64 (V 3)), .k (.int .i64 (V 4)), .k (.int .i64 (V 5)), .k (.int .i64 (V 6)), .k (.int .i64 (V 7)), .k (.int .i64 (V 8)), .k (.int .i64 (V 9)), .k (.int .i64 (V 10)), .k (.int .i64 (V 11)), .k (.int .i64 (V 12))])), (2, .pv (.one (.k (.fsl 0 (V 13))))), (4, .pv (.one (.k (.ptr 1 0)))), (6, .pv (.one (.k (.ptr 2 0)))), (7, .pv (.one (.k (.ptr 3 0)))), (8, .pv (.one (.k (.int .i64 (V 14))))), (10, .pv (.one (.k (.fsl 0 (V 13))))), (11, .pv (.one (.k (.int .i64 (V 14))))), (12, .pv (.one (.k (.int .i64 (V 14))))), (13, .pv (.one (.k (.bool (V 15))))), (14, .pv (.one (.k (.bool (V 15))))), (20, .pv (.one (.k (.bool (V 16)))))], [⟨false, 0, 0, [], some ⟨false, 0, [.int .i64, .int .i64], V 18, V 13⟩⟩, ⟨true, 24, 12, [.k (.int .i64 (V 27)), .k (.int .i64 (V 28)), .k (.int .i64 (V 29)), .k (.int .i64 (V 30)), .k (.int .i64 (V 31)), .k (.int .i64 (V 32)), .k (.int .i64 (V 33)), .k (.int .i64 (V 34)), .k (.int .i64 (V 9)), .k (.int .i64 (V 10)), .k (.int .i64 (V 11)), .k (.int .i64 (V 12))], none⟩, ⟨true, 24, 12, [.k (.int .i64 (N 0)), .k (.int .i64 (N 0)), .k (.int .i64 (N 0)), .k (.int .i64 (N 0)), .k (.int .i64 (N 0)), .k (.int .i64 (N 0)), .k (.int .i64 (N 0)), .k (.int .i64 (N 0)), .k (.int .i64 (N 0)), .k (.int .i64 (N 0)), .k (.int .i64 (N 0)), .k (.int .i64 (N 0))], none⟩, ⟨true, 32, 2, [.k (.int .i64 (N 0)), .k (.int .i64 (N 0))], none⟩], B true⟩)], [true, true, true, true, true, true, true, true, true, true, true, true, true, true, true, true, true, false, true, false, false, false, false, false, false, false, false], [.i, .i, .i, .i, .i, .i, .i, .i]⟩
def g_L1701 : G := ⟨42, [⟨41, (.ar .add .i64), [V 17, N 1]⟩, ⟨33, .upd, [V 17, V 0, V 19, V 20, V 21, V 22, V 23, V 24, V 25, V 26]⟩, ⟨32, .imp, [V 27, V 31]⟩, ⟨31, .and, [V 29, V 30]⟩, ⟨30, (.cmp .lss), [V 17, N 8]⟩, ⟨29, (.cmp .leq), [N 0, V 17]⟩, ⟨28, .not, [V 27]⟩, ⟨27, (.cmp .lss), [V 17, V 0]⟩], [V 32], []⟩
def m_1701 (al : List A) : Nat := ((gi al 0) - (gi al 17)).toNat
theorem lpureQ_1701 (e : Nat → A) (H : FactsQ T e g_L1701.defs) (hp : (Day.loP (e 0).int (e 17).int) = true) :
  ((e 32).bool = true) ∧ ((e 27).bool = true → (Day.loP (e 0).int (e 41).int) = true ∧ (Day.fillF (e 0).int (e 41).int 0 (e 33).int = Day.fillF (e 0).int (e 17).int 0 (e 19).int ∧ Day.fillF (e 0).int (e 41).int 1 (e 34).int = Day.fillF (e 0).int (e 17).int 1 (e 20).int ∧ Day.fillF (e 0).int (e 41).int 2 (e 35).int = Day.fillF (e 0).int (e 17).int 2 (e 21).int ∧ Day.fillF (e 0).int (e 41).int 3 (e 36).int = Day.fillF (e 0).int (e 17).int 3 (e 22).int ∧ Day.fillF (e 0).int (e 41).int 4 (e 37).int = Day.fillF (e 0).int (e 17).int 4 (e 23).int ∧ Day.fillF (e 0).int (e 41).int 5 (e 38).int = Day.fillF (e 0).int (e 17).int 5 (e 24).int ∧ Day.fillF (e 0).int (e 41).int 6 (e 39).int = Day.fillF (e 0).int (e 17).int 6 (e 25).int ∧ Day.fillF (e 0).int (e 41).int 7 (e 40).int = Day.fillF (e 0).int (e 17).int 7 (e 26).int) ∧ ((e 0).int - (e 41).int).toNat < ((e 0).int - (e 17).int).toNat) ∧ ((e 28).bool = true → (e 19).int = Day.fillF (e 0).int (e 17).int 0 (e 19).int ∧ (e 20).int = Day.fillF (e 0).int (e 17).int 1 (e 20).int ∧ (e 21).int = Day.fillF (e 0).int (e 17).int 2 (e 21).int ∧ (e 22).int = Day.fillF (e 0).int (e 17).int 3 (e 22).int ∧ (e 23).int = Day.fillF (e 0).int (e 17).int 4 (e 23).int ∧ (e 24).int = Day.fillF (e 0).int (e 17).int 5 (e 24).int ∧ (e 25).int = Day.fillF (e 0).int (e 17).int 6 (e 25).int ∧ (e 26).int = Day.fillF (e 0).int (e 17).int 7 (e 26).int) := by
 simp only [g_L1701, FactsQ, Def.q, updQ, L.ev_var, L.ev_n, L.ev_t, L.ev_e, L.ev, A.int_i, A.bool_b, A.str_v, A.els_l, List.map_cons, List.map_nil, Nat.zero_add, Nat.add_zero, and_true, true_and, Nat.reduceAdd, Nat.one_mul] at H
 simp only [arI, dvI, btI, cmpI, shI, ifQ, updV, ltQ, and_true, true_and] at H
 obtain ⟨⟨q41, -⟩, ⟨q33, q34, q35, q36, q37, q38, q39, q40⟩, q32, q31, q30, q29, q28, q27⟩ := H
 generalize (e 0).int = x0, (e 1).int = x1, (e 2).int = x2, (e 3).int = x3, (e 4).int = x4, (e 5).int = x5, (e 6).int = x6, (e 7).int = x7, (e 8).int = x8, (e 9).int = x9, (e 10).int = x10, (e 11).int = x11, (e 12).int = x12, (e 13).int = x13, (e 14).int = x14, (e 15).int = x15, (e 16).int = x16, (e 17).int = x17, (e 18).int = x18, (e 19).int = x19, (e 20).int = x20, (e 21).int = x21, (e 22).int = x22, (e 23).int = x23, (e 24).int = x24, (e 25).int = x25, (e 26).int = x26, (e 27).bool = v27, (e 28).bool = v28, (e 29).bool = v29, (e 30).bool = v30, (e 31).bool = v31, (e 32).bool = v32, (e 33).int = v33, (e 34).int = v34, (e 35).int = v35, (e 36).int = v36, (e 37).int = v37, (e 38).int = v38, (e 39).int = v39, (e 40).int = v40, (e 41).int = v41 at *
 simp only [Day.loP_iff] at hp
 have hx : x17 = 0 ∨ x17 = 1 ∨ x17 = 2 ∨ x17 = 3 ∨ x17 = 4 ∨ x17 = 5 ∨ x17 = 6 ∨ x17 = 7 ∨ x17 = 8 := by omega
 rcases hx with rfl | rfl | rfl | rfl | rfl | rfl | rfl | rfl | rfl
 all_goals
  subst_vars
  simp [Day.loP_iff, Day.fillF, Day.sm, wrap64] at *
  omega
theorem lpure_1701 (as : List A) (e : Nat → A) (h1 : as = (List.range 27).map e) (h2 : (t_1701 as).1 = true) (H : FactsQ T e g_L1701.defs) : ObsAll e g_L1701.obs ∧
   (∀ pc ls, some (V 27, [V 0, V 1, V 2, V 3, V 4, V 5, V 6, V 7, V 8, V 9, V 10, V 11, V 12, V 13, V 14, V 15, V 16, V 41, V 18, V 33, V 34, V 35, V 36, V 37, V 38, V 39, V 40]) = some (pc, ls) → (pc.ev e).bool = true → (t_1701 (ls.map (L.ev e))).1 = true ∧ (t_1701 (ls.map (L.ev e))).2 = (t_1701 as).2 ∧ m_1701 (ls.map (L.ev e)) < m_1701 as) ∧
   ∀ x ∈ ([(V 28, [some (V 19), some (V 20), some (V 21), some (V 22), some (V 23), some (V 24), some (V 25), some (V 26)])] : List (L × List (Option L))), (x.1.ev e).bool = true → ∀ (j : Nat) l, x.2[j]? = some (some l) → Teq (lp_1701.tags.getD j .any) (l.ev e) ((t_1701 as).2.getD j (.i 0)) := by
 subst h1
 obtain ⟨ho, h⟩ := lpureQ_1701 e H h2
 refine ⟨⟨ho, trivial⟩, fun pc ls hb hpc => ?_, ?_⟩
 ·injection hb with hb
  injection hb with h3 h4
  subst h3 h4
  have h := h.1 hpc
  refine ⟨h.1, ?_, h.2.2⟩
  have h5 := h.2.1
  obtain ⟨z0, z1, z2, z3, z4, z5, z6, z7⟩ := h5
  exact (consI z0 (consI z1 (consI z2 (consI z3 (consI z4 (consI z5 (consI z6 (consI z7 rfl))))))))
 ·intro x hx hpc j l hj
  simp only [List.mem_cons, List.not_mem_nil, or_false] at hx
  rcases hx with rfl
  ·have h := h.2 hpc
   obtain ⟨z0, z1, z2, z3, z4, z5, z6, z7⟩ := h
   match j, hj with
   | 0, hj => cases hj; exact z0
   | 1, hj => cases hj; exact z1
   | 2, hj => cases hj; exact z2
   | 3, hj => cases hj; exact z3
   | 4, hj => cases hj; exact z4
   | 5, hj => cases hj; exact z5
   | 6, hj => cases hj; exact z6
   | 7, hj => cases hj; exact z7
   | _ + 8, hj => cases hj
def g_gate_first : G := ⟨62, [⟨61, .iteB, [V 31, V 31, V 30]⟩, ⟨60, .iteI, [V 31, V 47, N 0]⟩, ⟨59, .iteI, [V 31, V 46, N 0]⟩, ⟨58, .iteI, [V 31, N 0, V 10]⟩, ⟨57, .iteI, [V 31, V 22, V 9]⟩, ⟨56, .iteI, [V 31, V 40, V 8]⟩, ⟨55, .iteI, [V 31, V 39, V 7]⟩, ⟨54, .iteI, [V 31, V 38, V 6]⟩, ⟨53, .iteI, [V 31, V 37, V 5]⟩, ⟨52, .iteI, [V 31, V 36, V 4]⟩, ⟨51, .iteI, [V 31, V 35, V 3]⟩, ⟨50, .iteI, [V 31, V 34, V 2]⟩, ⟨49, .iteI, [V 31, V 33, V 1]⟩, ⟨48, .not, [V 31]⟩, ⟨47, (.pix 1 2), [V 13, V 22]⟩, ⟨46, (.pix 0 2), [V 13, V 22]⟩, ⟨45, .imp, [V 31, V 44]⟩, ⟨44, .and, [V 42, V 43]⟩, ⟨43, (.cmp .lss), [V 22, V 14]⟩, ⟨42, (.cmp .leq), [N 0, V 22]⟩, ⟨41, .imp, [V 31, V 32]⟩, ⟨32, (.call 1701), [V 0, V 1, V 2, V 3, V 4, V 5, V 6, V 7, V 8, V 9, V 10, V 11, V 12, V 14, V 22, V 24, V 30, N 0, V 13, V 1, V 2, V 3, V 4, V 5, V 6, V 7, V 8]⟩, ⟨31, .not, [V 30]⟩, ⟨30, .iteB, [V 24, B true, V 29]⟩, ⟨29, (.cmp .leq), [V 10, V 27]⟩, ⟨28, .imp, [V 25, V 26]⟩, ⟨26, (.call 40), [V 0]⟩, ⟨25, .not, [V 24]⟩, ⟨24, (.cmp .lss), [V 22, N 0]⟩, ⟨23, .iteB, [V 18, V 18, V 17]⟩, ⟨22, .iteI, [V 18, N (-1), V 16]⟩, ⟨21, .not, [V 18]⟩, ⟨20, .not, [V 19]⟩, ⟨19, .and, [V 17, V 18]⟩, ⟨15, (.call 1700), [V 14, N 0, V 13, V 1, V 2, V 3, V 4, V 5, V 6, V 7, V 8, V 9, V 10, V 11, V 12]⟩], [V 45, V 41, V 28, V 20, V 15], []⟩
theorem pure_gate_first (e : Nat → A) (H : FactsQ T e g_gate_first.defs) : ∀ z0, z0 = (Day.HB.mk [(e 1).int, (e 2).int, (e 3).int, (e 4).int, (e 5).int, (e 6).int, (e 7).int, (e 8).int] (e 9).int (e 10).int (e 11).int (e 12).int) → ∀ r1, r1 = Day.firstH (e 0).int z0 (Day.Ls.mk (e 13) (e 14).int) → (Day.rightH (e 0).int z0 && Day.fitsR (e 0).int (Day.Ls.mk (e 13) (e 14).int)) = true →
  ((e 45).bool = true ∧ (e 41).bool = true ∧ (e 28).bool = true ∧ (e 20).bool = true ∧ (e 15).bool = true) ∧ (((r1)).a 0 = (e 49).int ∧ ((r1)).a 1 = (e 50).int ∧ ((r1)).a 2 = (e 51).int ∧ ((r1)).a 3 = (e 52).int ∧ ((r1)).a 4 = (e 53).int ∧ ((r1)).a 5 = (e 54).int ∧ ((r1)).a 6 = (e 55).int ∧ ((r1)).a 7 = (e 56).int ∧ ((r1)).port = (e 57).int ∧ ((r1)).age = (e 58).int ∧ ((r1)).hold = (e 11).int ∧ ((r1)).pos = (e 12).int ∧ ((Day.firstFr (e 0).int z0 (Day.Ls.mk (e 13) (e 14).int))).kind = (e 59).int ∧ ((Day.firstFr (e 0).int z0 (Day.Ls.mk (e 13) (e 14).int))).id = (e 60).int) := by
 intro z0 hz0 r1 hr1 hp
 subst hz0 hr1
 simp only [g_gate_first, FactsQ, Def.q, updQ, L.ev_var, L.ev_n, L.ev_t, L.ev_e, L.ev, A.int_i, A.bool_b, A.str_v, A.els_l, List.map_cons, List.map_nil, Nat.zero_add, Nat.add_zero, and_true, true_and, Nat.reduceAdd, Nat.one_mul] at H
 simp only [arI, dvI, btI, cmpI, shI, ifQ, updV, ltQ, and_true, true_and] at H
 obtain ⟨q61, ⟨q60, -⟩, ⟨q59, -⟩, ⟨q58, -⟩, ⟨q57, -⟩, ⟨q56, -⟩, ⟨q55, -⟩, ⟨q54, -⟩, ⟨q53, -⟩, ⟨q52, -⟩, ⟨q51, -⟩, ⟨q50, -⟩, ⟨q49, -⟩, q48, q47, q46, q45, q44, q43, q42, q41, q32, q31, q30, q29, q28, q26, q25, q24, q23, ⟨q22, -⟩, q21, q20, q19, q15⟩ := H
 replace q32 := out_L1701 q32
 obtain ⟨q32, q33, q34, q35, q36, q37, q38, q39, q40⟩ := q32
 replace q26 := out_conf_Block q26
 obtain ⟨q26, q27⟩ := q26
 replace q15 := out_L1700 q15
 obtain ⟨q15, q16, q17, q18⟩ := q15
 simp only [L.ev_var, L.ev_n, L.ev_t, L.ev_e, L.ev, A.int_i, A.bool_b, A.str_v] at q32 q33 q34 q35 q36 q37 q38 q39 q40 q26 q27 q15 q16 q17 q18
 generalize (e 0).int = x0, (e 1).int = x1, (e 2).int = x2, (e 3).int = x3, (e 4).int = x4, (e 5).int = x5, (e 6).int = x6, (e 7).int = x7, (e 8).int = x8, (e 9).int = x9, (e 10).int = x10, (e 11).int = x11, (e 12).int = x12, e 13 = x13, (e 14).int = x14, (e 15).bool = v15, (e 16).int = v16, (e 17).bool = v17, (e 18).bool = v18, (e 19).bool = v19, (e 20).bool = v20, (e 21).bool = v21, (e 22).int = v22, (e 23).bool = v23, (e 24).bool = v24, (e 25).bool = v25, (e 26).bool = v26, (e 27).int = v27, (e 28).bool = v28, (e 29).bool = v29, (e 30).bool = v30, (e 31).bool = v31, (e 32).bool = v32, (e 33).int = v33, (e 34).int = v34, (e 35).int = v35, (e 36).int = v36, (e 37).int = v37, (e 38).int = v38, (e 39).int = v39, (e 40).int = v40, (e 41).bool = v41, (e 42).bool = v42, (e 43).bool = v43, (e 44).bool = v44, (e 45).bool = v45, (e 48).bool = v48, (e 49).int = v49, (e 50).int = v50, (e 51).int = v51, (e 52).int = v52, (e 53).int = v53, (e 54).int = v54, (e 55).int = v55, (e 56).int = v56, (e 57).int = v57, (e 58).int = v58, (e 59).int = v59, (e 60).int = v60, (e 61).bool = v61 at *
 replace q46 := congrArg A.int q46
 generalize (e 46).int = v46 at *
 replace q47 := congrArg A.int q47
 generalize (e 47).int = v47 at *
 generalize hH : (Day.HB.mk [x1, x2, x3, x4, x5, x6, x7, x8] x9 x10 x11 x12) = h at *
 have g0 : x1 = h.a 0 ∧ x2 = h.a 1 ∧ x3 = h.a 2 ∧ x4 = h.a 3 ∧ x5 = h.a 4 ∧ x6 = h.a 5 ∧ x7 = h.a 6 ∧ x8 = h.a 7 ∧ x9 = h.port ∧ x10 = h.age ∧ x11 = h.hold ∧ x12 = h.pos := by subst hH; simp [Day.HB.a]
 obtain ⟨a1, a2, a3, a4, a5, a6, a7, a8, a9, a10, a11, a12⟩ := g0
 clear hH
 generalize hq : Day.Ls.mk x13 x14 = q at *
 have hn0 : x14 = q.n := by rw [← hq]
 have hk : ∀ p, q.k p = (x13.els.getD (2 * p.toNat) (.i 0)).int := fun p => by rw [← hq]; rfl
 have hd : ∀ p, q.d p = (x13.els.getD (1 + 2 * p.toNat) (.i 0)).int := fun p => by rw [← hq]; rfl
 clear hq
 simp only [Bool.and_eq_true] at hp
 obtain ⟨hr, hf⟩ := hp
 obtain ⟨f1, f2, f3⟩ := Day.fits_n hf
 have hok := Day.fits_ok hf
 have hb := Day.hub_bounds hr
 have hR : Day.right x0 = true := by simp [Day.right, f2]
 have hI : Day.inR 0 x0 = true := by rw [Day.inR_iff]; omega
 have hlo : Day.loP x0 0 = true := by rw [Day.loP_iff]; omega
 have h27 : v27 = 2 * x0 := by rw [q27]; simp [Day.times, hR]
 clear q27
 rw [← hk] at q46
 rw [← hd] at q47
 clear hk hd
 have hx : x14 = x0 := hn0.trans f1
 clear hn0
 simp only [hx] at *
 cases hA : Day.anyF (Day.isCs q) 0 x0 with
 | true =>
  obtain ⟨s1, s2, s3, s4⟩ := Day.first_spec hA
  have hkp : q.k (Day.firstF (Day.isCs q) 0 x0) = 1 := by simpa [Day.isCs] using s3
  rw [hA] at q17 q18
  by_cases c : h.age ≤ 2 * x0
  ·have n1 : ¬ (2 * x0 < h.age) := by omega
   have n2 : ¬ Day.firstF (Day.isCs q) 0 x0 < 0 := by omega
   subst_vars
   simp [Day.firstH, Day.firstFr, Day.goesB, hA, c, n1, n2, Day.sameH, Day.ages8, Day.HB.a, Day.noFr, hok, hI]
  ·have n1 : 2 * x0 < h.age := by omega
   have n2 : ¬ Day.firstF (Day.isCs q) 0 x0 < 0 := by omega
   subst_vars
   simp [Day.firstH, Day.firstFr, Day.goesB, hA, c, n1, n2, Day.fillF, Day.ages8, Day.HB.a, Day.noFr, hok, hI, hlo, hkp, s1, s2]
 | false =>
  have n0 := Day.firstF_none hA
  rw [hA] at q17 q18
  subst_vars
  simp [Day.firstH, Day.firstFr, Day.goesB, hA, n0, Day.sameH, Day.ages8, Day.HB.a, Day.noFr, hok, hI]
end Rx.S
