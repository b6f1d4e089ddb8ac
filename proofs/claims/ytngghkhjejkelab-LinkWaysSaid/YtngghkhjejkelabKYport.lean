import Derived.Test.YtngghkhjejkelabKXc
import Derived.Test.YtngghkhjejkelabKXt
set_option linter.unusedVariables false
set_option linter.unusedSimpArgs false
namespace Rx.S
open Go Rx
set_option maxRecDepth 100000
set_option maxHeartbeats 1000000
def lp_1890 : Lp := ⟨44, [false, true, false, true, true, true], 1890, 8, 1, 3, ⟨frS 32 [(0, .pv (.one (.k (.fsl 0 (V 0))))), (1, .pv (.one (.k (.fsl 1 (V 1))))), (4, .pv (.one (.k (.nilslc)))), (5, .pv (.one (.k (.int .i64 (N 0))))), (6, .pv (.one (.k (.lsl 2 (V 2))))), (9, .pv (.one (.k (.fsl 0 (V 0))))), (10, .pv (.one (.k (.int .i64 (V 0))))), (11, .pv (.one (.k (.fsl 1 (V 1))))), (12, .pv (.one (.k (.int .i64 (V 1))))), (13, .pv (.one (.k (.bool (V 3))))), (14, .pv (.one (.k (.fsl 1 (V 1))))), (15, .pv (.one (.k (.lsl 2 (V 2))))), (16, .pv (.one (.k (.fsl 0 (V 0))))), (17, .pv (.one (.k (.int .i64 (V 0))))), (18, .pv (.one (.k (.int .i64 (V 4)))))], [⟨false, 0, 0, [], some ⟨false, 0, [.int .i64, .int .i64], V 5, V 0⟩⟩, ⟨false, 0, 0, [], some ⟨false, 0, [.int .i64, .int .i64], V 6, V 1⟩⟩, ⟨false, 0, 0, [], some ⟨true, 32, [.int .i64, .int .i64], V 7, V 2⟩⟩], B true⟩, [(.exit 0, ⟨frS 32 [(0, .pv (.one (.k (.fsl 0 (V 0))))), (1, .pv (.one (.k (.fsl 1 (V 1))))), (4, .pv (.one (.k (.nilslc)))), (5, .pv (.one (.k (.int .i64 (N 0))))), (6, .pv (.one (.k (.lsl 2 (V 2))))), (9, .pv (.one (.k (.fsl 0 (V 0))))), (10, .pv (.one (.k (.int .i64 (V 0))))), (11, .pv (.one (.k (.fsl 1 (V 1))))), (12, .pv (.one (.k (.int .i64 (V 1))))), (13, .pv (.one (.k (.bool (V 3))))), (14, .pv (.one (.k (.fsl 1 (V 1))))), (15, .pv (.one (.k (.lsl 2 (V 2))))), (16, .pv (.one (.k (.fsl 0 (V 0)))))], [⟨false, 0, 0, [], some ⟨false, 0, [.int .i64, .int .i64], V 5, V 0⟩⟩, ⟨false, 0, 0, [], some ⟨false, 0, [.int .i64, .int .i64], V 6, V 1⟩⟩, ⟨false, 0, 0, [], some ⟨true, 32, [.int .i64, .int .i64], V 8, V 2⟩⟩], B true⟩)], [true, true, true, true, false, true, true, false], [.any]⟩
def g_L1890 : G := ⟨29, [⟨28, (.ar .add .i64), [V 4, N 1]⟩, ⟨27, .iteA, [V 18, V 26, V 7]⟩, ⟨26, (.pset 1 2), [V 25, V 4, V 14]⟩, ⟨25, (.pset 0 2), [V 7, V 4, V 13]⟩, ⟨24, .imp, [V 20, V 23]⟩, ⟨23, .and, [V 10, V 22]⟩, ⟨22, (.cmp .lss), [V 4, V 2]⟩, ⟨21, .and, [V 8, V 19]⟩, ⟨20, .and, [V 8, V 18]⟩, ⟨19, .not, [V 18]⟩, ⟨18, .not, [V 17]⟩, ⟨17, .and, [V 16, V 15]⟩, ⟨16, (.cmp .eql), [V 13, N 0]⟩, ⟨15, (.cmp .eql), [V 14, N 0]⟩, ⟨14, (.pix 1 2), [V 5, V 4]⟩, ⟨13, (.pix 0 2), [V 5, V 4]⟩, ⟨12, .imp, [V 8, V 11]⟩, ⟨11, .and, [V 10, V 8]⟩, ⟨10, (.cmp .leq), [N 0, V 4]⟩, ⟨9, .not, [V 8]⟩, ⟨8, (.cmp .lss), [V 4, V 0]⟩], [V 24, V 12], []⟩
def m_1890 (al : List A) : Nat := (((Day.Ls.mk (ge al 5) (gi al 0))).n - (gi al 4)).toNat
theorem lpureQ_1890 (e : Nat → A) (H : FactsQ T e g_L1890.defs) (hp : (Day.Ls.fok (Day.Ls.mk (e 5) (e 0).int) && (Day.inR (e 4).int ((Day.Ls.mk (e 5) (e 0).int)).n && (Day.lenIs (e 7) ((Day.Ls.mk (e 5) (e 0).int)).n && (Day.isL (e 7) && Day.eqB (e 2).int ((Day.Ls.mk (e 5) (e 0).int)).n)))) = true) :
  ((e 24).bool = true ∧ (e 12).bool = true) ∧ ((e 8).bool = true → (Day.Ls.fok (Day.Ls.mk (e 5) (e 0).int) && (Day.inR (e 28).int ((Day.Ls.mk (e 5) (e 0).int)).n && (Day.lenIs (e 27) ((Day.Ls.mk (e 5) (e 0).int)).n && (Day.isL (e 27) && Day.eqB (e 2).int ((Day.Ls.mk (e 5) (e 0).int)).n)))) = true ∧ (Day.bothX (Day.Ls.mk (e 5) (e 0).int) (e 28).int (e 27) = Day.bothX (Day.Ls.mk (e 5) (e 0).int) (e 4).int (e 7)) ∧ (((Day.Ls.mk (e 5) (e 0).int)).n - (e 28).int).toNat < (((Day.Ls.mk (e 5) (e 0).int)).n - (e 4).int).toNat) ∧ ((e 9).bool = true → (e 7) = Day.bothX (Day.Ls.mk (e 5) (e 0).int) (e 4).int (e 7)) := by
 simp only [g_L1890, FactsQ, Def.q, updQ, L.ev_var, L.ev_n, L.ev_t, L.ev_e, L.ev, A.int_i, A.bool_b, A.str_v, A.els_l, List.map_cons, List.map_nil, Nat.zero_add, Nat.add_zero, and_true, true_and, Nat.reduceAdd, Nat.one_mul] at H
 simp only [arI, dvI, btI, cmpI, shI, ifQ, updV, ltQ, and_true, true_and] at H
 obtain ⟨⟨q28, -⟩, q27, q26, q25, q24, q23, q22, q21, q20, q19, q18, q17, q16, q15, q14, q13, q12, q11, q10, q9, q8⟩ := H
 generalize (e 0).int = x0, (e 1).int = x1, (e 2).int = x2, (e 3).int = x3, (e 4).int = x4, e 5 = x5, (e 6).int = x6, e 7 = x7, (e 8).bool = v8, (e 9).bool = v9, (e 10).bool = v10, (e 11).bool = v11, (e 12).bool = v12, (e 15).bool = v15, (e 16).bool = v16, (e 17).bool = v17, (e 18).bool = v18, (e 19).bool = v19, (e 20).bool = v20, (e 21).bool = v21, (e 22).bool = v22, (e 23).bool = v23, (e 24).bool = v24, e 25 = v25, e 26 = v26, e 27 = v27, (e 28).int = v28 at *
 have a13 := q13
 replace q13 := congrArg A.int q13
 generalize (e 13).int = v13 at *
 have a14 := q14
 replace q14 := congrArg A.int q14
 generalize (e 14).int = v14 at *
 simp only [Bool.and_eq_true, Day.inR_iff, Day.lenIs_iff, Day.eqB, decide_eq_true_eq] at hp ⊢
 obtain ⟨hf, ⟨h0, h1⟩, hl, hL, hx⟩ := hp
 subst hx
 have hf2 := Day.Ls.fok_iff.1 hf
 simp only at hf2 h1 hl ⊢
 generalize hT : Day.Ls.mk x5 x2 = T at *
 have hn : x2 = T.n := by rw [← hT]
 have hk : T.k x4 = v13 := by rw [q13, ← hT]; rfl
 have hd : T.d x4 = v14 := by rw [q14, ← hT]; rfl
 have ha : e 13 = T.x.els.getD (2 * x4.toNat) (.i 0) := by rw [a13, ← hT]
 have hb : e 14 = T.x.els.getD (1 + 2 * x4.toNat) (.i 0) := by rw [a14, ← hT]
 clear hT q13 q14 a13 a14
 rw [ha] at q25
 rw [hb] at q26
 clear ha hb
 subst hn
 by_cases hlt : x4 < T.n
 ·have w : IntKind.wrap .i64 (x4 + 1) = x4 + 1 := wrap64 (by omega) (by omega)
  have e17 : v17 = Day.quietB T x4 := by rw [q17, q16, q15, ← hk, ← hd]; rfl
  have e26 : v26 = Day.put2 x7 x4 (T.x.els.getD (2 * x4.toNat) (.i 0)) (T.x.els.getD (1 + 2 * x4.toNat) (.i 0)) := by rw [q26, q25]; rfl
  have e27 : v27 = if Day.quietB T x4 = true then x7 else Day.put2 x7 x4 (T.x.els.getD (2 * x4.toNat) (.i 0)) (T.x.els.getD (1 + 2 * x4.toNat) (.i 0)) := by
   rw [q27, q18, e17, e26]
   cases Day.quietB T x4 <;> simp
  have st := Day.bothX_step (a := T) h0 hlt hl
  rw [← e27] at st
  have hl27 : (v27.els.length : Int) = 2 * T.n := by
   rw [e27]
   split
   ·exact hl
   ·rw [Day.put2_len']; exact hl
  have hL27 : Day.isL v27 = true := by
   rw [e27]
   split
   ·exact hL
   ·rfl
  rw [q28, w, st]
  refine ⟨?_, fun _ => ⟨⟨hf, by omega, hl27, hL27, trivial⟩, rfl, by omega⟩, fun h => ?_⟩
  ·rw [q24, q23, q22, q12, q11, q10, q8]
   simp [h0, hlt]
  ·rw [q9, q8] at h
   simp [hlt] at h
 ·have st := Day.bothX_end (a := T) hL hlt
  refine ⟨?_, fun h => ?_, fun _ => st.symm⟩
  ·rw [q24, q20, q12, q8]
   simp [hlt]
  ·rw [q8] at h
   simp [hlt] at h
theorem lpure_1890 (as : List A) (e : Nat → A) (h1 : as = (List.range 8).map e) (h2 : (t_1890 as).1 = true) (H : FactsQ T e g_L1890.defs) : ObsAll e g_L1890.obs ∧
   (∀ pc ls, some (V 8, [V 0, V 1, V 2, V 3, V 28, V 5, V 6, V 27]) = some (pc, ls) → (pc.ev e).bool = true → (t_1890 (ls.map (L.ev e))).1 = true ∧ (t_1890 (ls.map (L.ev e))).2 = (t_1890 as).2 ∧ m_1890 (ls.map (L.ev e)) < m_1890 as) ∧
   ∀ x ∈ ([(V 9, [some (V 7)])] : List (L × List (Option L))), (x.1.ev e).bool = true → ∀ (j : Nat) l, x.2[j]? = some (some l) → Teq (lp_1890.tags.getD j .any) (l.ev e) ((t_1890 as).2.getD j (.i 0)) := by
 subst h1
 obtain ⟨ho, h⟩ := lpureQ_1890 e H h2
 refine ⟨⟨ho.1, ho.2, trivial⟩, fun pc ls hb hpc => ?_, ?_⟩
 ·injection hb with hb
  injection hb with h3 h4
  subst h3 h4
  have h := h.1 hpc
  refine ⟨h.1, ?_, h.2.2⟩
  have h5 := h.2.1
  have z0 := h5
  exact (consL z0 rfl)
 ·intro x hx hpc j l hj
  simp only [List.mem_cons, List.not_mem_nil, or_false] at hx
  rcases hx with rfl
  ·have h := h.2 hpc
   have z0 := h
   match j, hj with
   | 0, hj => cases hj; exact z0
   | _ + 1, hj => cases hj
def g_port_Both : G := ⟨18, [⟨17, .iteB, [V 5, V 5, V 4]⟩, ⟨16, .iteA, [V 5, V 11, .e]⟩, ⟨15, .iteI, [V 5, N 0, N 2]⟩, ⟨14, .iteI, [V 5, V 8, N 0]⟩, ⟨13, .not, [V 5]⟩, ⟨12, .imp, [V 5, V 10]⟩, ⟨10, (.call 1890), [V 1, V 3, V 8, V 4, N 0, V 0, V 2, V 7]⟩, ⟨9, .imp, [V 5, V 6]⟩, ⟨6, (.call 59), [V 2, V 3]⟩, ⟨5, .not, [V 4]⟩, ⟨4, (.cmp .neq), [V 1, V 3]⟩], [V 12, V 9], []⟩
theorem pure_port_Both (e : Nat → A) (H : FactsQ T e g_port_Both.defs) (hp : (Day.Ls.fok (Day.Ls.mk (e 0) (e 1).int) && (Day.Ls.fok (Day.Ls.mk (e 2) (e 3).int) && (Day.inR ((Day.Ls.mk (e 0) (e 1).int)).n 1000000 && (Day.leB 1 ((Day.Ls.mk (e 0) (e 1).int)).n && Day.leB 1 ((Day.Ls.mk (e 2) (e 3).int)).n)))) = true) :
  ((e 12).bool = true ∧ (e 9).bool = true) ∧ (((Day.bothL (Day.Ls.mk (e 0) (e 1).int) (Day.Ls.mk (e 2) (e 3).int))).1 = (e 16) ∧ ((Day.bothL (Day.Ls.mk (e 0) (e 1).int) (Day.Ls.mk (e 2) (e 3).int))).2 = (e 14).int ∧ Day.bothE (Day.Ls.mk (e 0) (e 1).int) (Day.Ls.mk (e 2) (e 3).int) = (e 15).int) := by
 simp only [g_port_Both, FactsQ, Def.q, updQ, L.ev_var, L.ev_n, L.ev_t, L.ev_e, L.ev, A.int_i, A.bool_b, A.str_v, A.els_l, List.map_cons, List.map_nil, Nat.zero_add, Nat.add_zero, and_true, true_and, Nat.reduceAdd, Nat.one_mul] at H
 simp only [arI, dvI, btI, cmpI, shI, ifQ, updV, ltQ, and_true, true_and] at H
 obtain ⟨q17, q16, ⟨q15, -⟩, ⟨q14, -⟩, q13, q12, q10, q9, q6, q5, q4⟩ := H
 replace q10 := out_L1890 q10
 obtain ⟨q10, q11⟩ := q10
 replace q6 := out_Clone q6
 obtain ⟨q6, q7, q8⟩ := q6
 simp only [L.ev_var, L.ev_n, L.ev_t, L.ev_e, L.ev, A.int_i, A.bool_b, A.str_v] at q10 q11 q6 q7 q8
 generalize e 0 = x0, (e 1).int = x1, e 2 = x2, (e 3).int = x3, (e 4).bool = v4, (e 5).bool = v5, (e 6).bool = v6, e 7 = v7, (e 8).int = v8, (e 9).bool = v9, (e 10).bool = v10, e 11 = v11, (e 12).bool = v12, (e 13).bool = v13, (e 14).int = v14, (e 15).int = v15, e 16 = v16, (e 17).bool = v17 at *
 simp only [Bool.and_eq_true, Day.inR_iff, Day.leB_iff] at hp
 obtain ⟨ha, hb, ⟨h0, h1⟩, h2, h3⟩ := hp
 obtain ⟨f1, f2⟩ := Day.Ls.fok_iff.1 ha
 obtain ⟨g1, g2⟩ := Day.Ls.fok_iff.1 hb
 simp only at f1 f2 g1 g2 h0 h1 h2 h3
 by_cases hn : x1 = x3
 ·subst hn
  have hC : Day.lenIs (A.l x2.els) x1 = true := by rw [Day.lenIs_iff]; exact g2
  have hI : Day.inR 0 x1 = true := by rw [Day.inR_iff]; omega
  have hI2 : Day.inR x1 1000000 = true := by rw [Day.inR_iff]; omega
  have hB : Day.leB 1 x1 = true := by rw [Day.leB_iff]; omega
  subst_vars
  simp [ha, hb, hC, hI, hI2, hB, Day.bothL, Day.bothE, Day.eqB, Day.isL]
  try rfl
 ·have e4 : v4 = true := by rw [q4]; simp [hn]
  subst_vars
  simp [hn, Day.bothL, Day.bothE]
end Rx.S
