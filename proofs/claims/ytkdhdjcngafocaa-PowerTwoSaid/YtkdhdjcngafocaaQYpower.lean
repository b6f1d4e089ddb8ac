import Derived.Test.YtkdhdjcngafocaaQXc
import Derived.Test.YtkdhdjcngafocaaQXt
set_option linter.unusedVariables false
set_option linter.unusedSimpArgs false
namespace Rx.S
open Go Rx
set_option maxRecDepth 100000
set_option maxHeartbeats 1000000
def Ii : G := ⟨13, [⟨12, .iteB, [V 6, V 11, B false]⟩, ⟨11, (.cmp .geq), [V 3, V 10]⟩, ⟨10, (.pix 0 1), [V 0, V 2]⟩, ⟨9, .imp, [V 6, V 8]⟩, ⟨8, .and, [V 7, V 5]⟩, ⟨7, (.cmp .leq), [N 0, V 2]⟩, ⟨6, .iteB, [V 4, V 5, B false]⟩, ⟨5, (.cmp .lss), [V 2, V 1]⟩, ⟨4, (.cmp .geq), [V 2, N 0]⟩], [V 9], []⟩
theorem Mp (e : Nat → A) (H : Ar T e Ii.defs) (hp : (Day.L1.ok (Day.L1.mk (e 0) (e 1).int)) = true) :
  ((e 9).bool = true) ∧ (Day.Nb (Day.L1.mk (e 0) (e 1).int) (e 2).int (e 3).int = (e 12).bool) := by
 simp only [Ii, Ar, Def.q, Fh, L.Au, L.A6, L.CL, L.C3, L.ev, A.AA, A.AN, A.Bu, A.Dh, List.map_cons, List.map_nil, Nat.zero_add, Nat.add_zero, and_true, true_and, Nat.reduceAdd, Nat.one_mul] at H
 simp only [JQ, J8, I5, Cf, Kz, Ly, Ge, N7, and_true, true_and] at H
 obtain ⟨q12, q11, q10, q9, q8, q7, q6, q5, q4⟩ := H
 generalize e 0 = x0, (e 1).int = x1, (e 2).int = x2, (e 3).int = x3, (e 4).bool = v4, (e 5).bool = v5, (e 6).bool = v6, (e 7).bool = v7, (e 8).bool = v8, (e 9).bool = v9, (e 11).bool = v11, (e 12).bool = v12 at *
 replace q10 := congrArg A.int q10
 generalize (e 10).int = v10 at *
 have hk : Day.L1.k ⟨x0, x1⟩ x2 = v10 := by rw [q10]; rfl
 simp only [Day.Nb, hk]
 clear q10 hk
 grind
def EO : G := ⟨16, [⟨15, .iteB, [V 6, V 6, V 5]⟩, ⟨14, .iteI, [V 6, N (-1), V 12]⟩, ⟨13, .not, [V 6]⟩, ⟨12, (.ar .sub .i64), [V 3, V 11]⟩, ⟨11, (.pix 0 1), [V 0, V 2]⟩, ⟨10, .imp, [V 5, V 9]⟩, ⟨9, .and, [V 7, V 8]⟩, ⟨8, (.cmp .lss), [V 2, V 1]⟩, ⟨7, (.cmp .leq), [N 0, V 2]⟩, ⟨6, .not, [V 5]⟩, ⟨4, (.call 8), [V 0, V 1, V 2, V 3]⟩], [V 10, V 4], []⟩
theorem JH (e : Nat → A) (H : Ar T e EO.defs) (hp : (Day.L1.ok (Day.L1.mk (e 0) (e 1).int) && (Day.N8 (Day.L1.mk (e 0) (e 1).int) && Day.i64 (e 3).int)) = true) :
  ((e 10).bool = true ∧ (e 4).bool = true) ∧ (Day.BD (Day.L1.mk (e 0) (e 1).int) (e 2).int (e 3).int = (e 14).int) := by
 simp only [EO, Ar, Def.q, Fh, L.Au, L.A6, L.CL, L.C3, L.ev, A.AA, A.AN, A.Bu, A.Dh, List.map_cons, List.map_nil, Nat.zero_add, Nat.add_zero, and_true, true_and, Nat.reduceAdd, Nat.one_mul] at H
 simp only [JQ, J8, I5, Cf, Kz, Ly, Ge, N7, and_true, true_and] at H
 obtain ⟨q15, ⟨q14, -⟩, q13, ⟨q12, -⟩, q11, q10, q9, q8, q7, q6, q4⟩ := H
 replace q4 := CW q4
 obtain ⟨q4, q5⟩ := q4
 simp only [L.Au, L.A6, L.CL, L.C3, L.ev, A.AA, A.AN, A.Bu] at q4 q5
 generalize e 0 = x0, (e 1).int = x1, (e 2).int = x2, (e 3).int = x3, (e 4).bool = v4, (e 5).bool = v5, (e 6).bool = v6, (e 7).bool = v7, (e 8).bool = v8, (e 9).bool = v9, (e 10).bool = v10, (e 12).int = v12, (e 13).bool = v13, (e 14).int = v14, (e 15).bool = v15 at *
 replace q11 := congrArg A.int q11
 generalize (e 11).int = v11 at *
 simp only [Bool.and_eq_true] at hp
 obtain ⟨hk, ha, ht⟩ := hp
 have hv : Day.L1.k ⟨x0, x1⟩ x2 = v11 := by rw [q11]; rfl
 cases hon : Day.Nb ⟨x0, x1⟩ x2 x3 with
 | false =>
  rw [hon] at q5
  clear q11 q12
  subst_vars
  simp [Day.BD, hon, hk]
 | true =>
  have hw := Day.Tc hk ha ht hon
  obtain ⟨b1, b2, b3⟩ := Day.JD hon
  have b2 : x2 < x1 := b2
  rw [hv] at hw
  rw [hw] at q12
  rw [hon] at q5
  clear q11
  subst_vars
  simp [Day.BD, hon, hk, b1, b2]
def FP : Lp := ⟨10, [false, true, false, true, true, true, true], 1160, 7, 1, 2, ⟨RM 31 [(0, .pv (.one (.k (.int .i64 (V 0))))), (1, .pv (.one (.k (.fsl 0 (V 1))))), (4, .pv (.one (.k (.nilslc)))), (5, .pv (.one (.k (.int .i64 (N 0))))), (6, .pv (.one (.k (.lsl 1 (V 0))))), (8, .pv (.one (.k (.int .i64 (V 0))))), (9, .pv (.one (.k (.bool (V 2))))), (10, .pv (.one (.k (.bool (V 3))))), (11, .pv (.one (.k (.int .i64 (V 0))))), (12, .pv (.one (.k (.lsl 1 (V 0))))), (13, .pv (.one (.k (.lsl 1 (V 0))))), (14, .pv (.one (.k (.fsl 0 (V 1))))), (16, .pv (.one (.k (.lsl 1 (V 0))))), (17, .pv (.one (.k (.int .i64 (V 0))))), (18, .pv (.one (.k (.int .i64 (V 4)))))], [⟨false, 0, 0, [], some ⟨false, 0, [.int .i64], V 5, V 1⟩⟩, ⟨false, 0, 0, [], some ⟨true, 3, [.int .i64], V 6, V 0⟩⟩], B true⟩, [(.exit 0, ⟨RM 31 [(0, .pv (.one (.k (.int .i64 (V 0))))), (1, .pv (.one (.k (.fsl 0 (V 1))))), (4, .pv (.one (.k (.nilslc)))), (5, .pv (.one (.k (.int .i64 (N 0))))), (6, .pv (.one (.k (.lsl 1 (V 0))))), (8, .pv (.one (.k (.int .i64 (V 0))))), (9, .pv (.one (.k (.bool (V 2))))), (10, .pv (.one (.k (.bool (V 3))))), (11, .pv (.one (.k (.int .i64 (V 0))))), (12, .pv (.one (.k (.lsl 1 (V 0))))), (13, .pv (.one (.k (.lsl 1 (V 0))))), (14, .pv (.one (.k (.fsl 0 (V 1))))), (16, .pv (.one (.k (.lsl 1 (V 0)))))], [⟨false, 0, 0, [], some ⟨false, 0, [.int .i64], V 5, V 1⟩⟩, ⟨false, 0, 0, [], some ⟨true, 3, [.int .i64], V 7, V 0⟩⟩], B true⟩)], [true, true, true, true, false, true, false], [.any]⟩
def IW : G := ⟨18, [⟨17, (.ar .add .i64), [V 4, N 1]⟩, ⟨16, (.pset 0 1), [V 6, V 4, V 14]⟩, ⟨15, .imp, [V 7, V 13]⟩, ⟨13, (.call 22), [V 12, N 0, N 2000]⟩, ⟨12, (.pix 0 1), [V 6, V 4]⟩, ⟨11, .imp, [V 7, V 10]⟩, ⟨10, .and, [V 9, V 7]⟩, ⟨9, (.cmp .leq), [N 0, V 4]⟩, ⟨8, .not, [V 7]⟩, ⟨7, (.cmp .lss), [V 4, V 0]⟩], [V 15, V 11], []⟩
def Qf (al : List A) : Nat := ((gi al 0) - (gi al 4)).toNat
theorem Pj (e : Nat → A) (H : Ar T e IW.defs) (hp : (Day.HL (e 4).int (e 0).int && Day.Pa (e 6) (e 0).int) = true) :
  ((e 15).bool = true ∧ (e 11).bool = true) ∧ ((e 7).bool = true → (Day.HL (e 17).int (e 0).int && Day.Pa (e 16) (e 0).int) = true ∧ (Day.CV (e 16) ((e 0).int - (e 17).int).toNat (e 17).int.toNat = Day.CV (e 6) ((e 0).int - (e 4).int).toNat (e 4).int.toNat) ∧ ((e 0).int - (e 17).int).toNat < ((e 0).int - (e 4).int).toNat) ∧ ((e 8).bool = true → (e 6) = Day.CV (e 6) ((e 0).int - (e 4).int).toNat (e 4).int.toNat) := by
 simp only [IW, Ar, Def.q, Fh, L.Au, L.A6, L.CL, L.C3, L.ev, A.AA, A.AN, A.Bu, A.Dh, List.map_cons, List.map_nil, Nat.zero_add, Nat.add_zero, and_true, true_and, Nat.reduceAdd, Nat.one_mul] at H
 simp only [JQ, J8, I5, Cf, Kz, Ly, Ge, N7, and_true, true_and] at H
 obtain ⟨⟨q17, -⟩, q16, q15, q13, q12, q11, q10, q9, q8, q7⟩ := H
 obtain k14 := JG q13
 unfold Tr at k14
 replace q13 := Kc q13
 obtain ⟨q13, q14⟩ := q13
 simp only [L.Au, L.A6, L.CL, L.C3, L.ev, A.AA, A.AN, A.Bu] at q13 q14
 generalize (e 0).int = x0, (e 1).int = x1, (e 2).int = x2, (e 3).int = x3, (e 4).int = x4, (e 5).int = x5, e 6 = x6, (e 7).bool = v7, (e 8).bool = v8, (e 9).bool = v9, (e 10).bool = v10, (e 11).bool = v11, (e 13).bool = v13, (e 14).int = v14, (e 15).bool = v15, e 16 = v16, (e 17).int = v17 at *
 rw [k14] at q16
 replace q12 := congrArg A.int q12
 generalize (e 12).int = v12 at *
 simp only [Bool.and_eq_true] at hp
 obtain ⟨hu, hl⟩ := hp
 by_cases h : x4 < x0
 ·obtain ⟨s1, s2, s3, s4, s5⟩ := Day.Pb hu hl h (y := v16) (by rw [q16, q14, q12]; rfl)
  have h0 : 0 ≤ x4 := by
   simp only [Day.HL, Bool.and_eq_true, decide_eq_true_eq] at hu
   exact hu.1
  rw [s5] at q17
  clear q16 k14 q14 q12
  subst_vars
  simp [h, h0, s1, s2, s3, s4]
 ·have e1 := Day.Qb (x := x6) h
  clear q16 k14 q14 q12 q17
  subst_vars
  simp [h, e1]
theorem Qg (as : List A) (e : Nat → A) (h1 : as = (List.range 7).map e) (h2 : (GI as).1 = true) (H : Ar T e IW.defs) : Ee e IW.obs ∧
   (∀ pc ls, some (V 7, [V 0, V 1, V 2, V 3, V 17, V 5, V 16]) = some (pc, ls) → (pc.ev e).bool = true → (GI (ls.map (L.ev e))).1 = true ∧ (GI (ls.map (L.ev e))).2 = (GI as).2 ∧ Qf (ls.map (L.ev e)) < Qf as) ∧
   ∀ x ∈ ([(V 8, [some (V 6)])] : List (L × List (Option L))), (x.1.ev e).bool = true → ∀ (j : Nat) l, x.2[j]? = some (some l) → Gh (FP.tags.getD j .any) (l.ev e) ((GI as).2.getD j (.i 0)) := by
 subst h1
 obtain ⟨ho, h⟩ := Pj e H h2
 refine ⟨⟨ho.1, ho.2, trivial⟩, fun pc ls hb hpc => ?_, ?_⟩
 ·injection hb with hb
  injection hb with h3 h4
  subst h3 h4
  have h := h.1 hpc
  refine ⟨h.1, ?_, h.2.2⟩
  have h5 := h.2.1
  have z0 := h5
  exact (Rc z0 rfl)
 ·intro x hx hpc j l hj
  simp only [List.mem_cons, List.not_mem_nil, or_false] at hx
  rcases hx with rfl
  ·have h := h.2 hpc
   have z0 := h
   match j, hj with
   | 0, hj => cases hj; exact z0
   | _ + 1, hj => cases hj
def ER : G := ⟨24, [⟨23, .iteB, [V 6, V 6, V 5]⟩, ⟨22, .iteA, [V 6, V 17, .e]⟩, ⟨21, .iteI, [V 6, N 0, N 1]⟩, ⟨20, .iteI, [V 6, V 0, N 0]⟩, ⟨19, .not, [V 6]⟩, ⟨18, .imp, [V 6, V 16]⟩, ⟨16, (.call 1160), [V 0, V 2, V 4, V 5, N 0, V 1, V 15]⟩, ⟨15, .cpy, [V 11, V 1, V 14]⟩, ⟨14, .mn, [V 0, V 2]⟩, ⟨13, .imp, [V 6, V 12]⟩, ⟨12, (.cmp .leq), [N 1, V 0]⟩, ⟨11, .rep, [V 0, N 0]⟩, ⟨10, .imp, [V 6, V 9]⟩, ⟨9, .and, [V 7, V 8]⟩, ⟨8, (.cmp .lss), [V 0, N 1000001]⟩, ⟨7, (.cmp .leq), [N 0, V 0]⟩, ⟨6, .not, [V 5]⟩, ⟨5, .not, [V 4]⟩, ⟨3, (.call 21), [V 0]⟩], [V 18, V 13, V 10, V 3], []⟩
theorem JJ (e : Nat → A) (H : Ar T e ER.defs) (hp : (Day.L1.ok (Day.L1.mk (e 1) (e 2).int)) = true) :
  ((e 18).bool = true ∧ (e 13).bool = true ∧ (e 10).bool = true ∧ (e 3).bool = true) ∧ (((Day.Ih (e 0).int (Day.L1.mk (e 1) (e 2).int))).x = (e 22) ∧ ((Day.Ih (e 0).int (Day.L1.mk (e 1) (e 2).int))).n = (e 20).int ∧ Day.Ky (e 0).int = (e 21).int) := by
 simp only [ER, Ar, Def.q, Fh, L.Au, L.A6, L.CL, L.C3, L.ev, A.AA, A.AN, A.Bu, A.Dh, List.map_cons, List.map_nil, Nat.zero_add, Nat.add_zero, and_true, true_and, Nat.reduceAdd, Nat.one_mul] at H
 simp only [JQ, J8, I5, Cf, Kz, Ly, Ge, N7, and_true, true_and] at H
 obtain ⟨q23, q22, ⟨q21, -⟩, ⟨q20, -⟩, q19, q18, q16, q15, q14, q13, q12, q11, q10, q9, q8, q7, q6, q5, q3⟩ := H
 replace q16 := RT q16
 obtain ⟨q16, q17⟩ := q16
 replace q3 := LL q3
 obtain ⟨q3, q4⟩ := q3
 simp only [L.Au, L.A6, L.CL, L.C3, L.ev, A.AA, A.AN, A.Bu] at q16 q17 q3 q4
 generalize (e 0).int = x0, e 1 = x1, (e 2).int = x2, (e 3).bool = v3, (e 4).bool = v4, (e 5).bool = v5, (e 6).bool = v6, (e 7).bool = v7, (e 8).bool = v8, (e 9).bool = v9, (e 10).bool = v10, e 11 = v11, (e 12).bool = v12, (e 13).bool = v13, (e 14).int = v14, e 15 = v15, (e 16).bool = v16, e 17 = v17, (e 18).bool = v18, (e 19).bool = v19, (e 20).int = v20, (e 21).int = v21, e 22 = v22, (e 23).bool = v23 at *
 simp only [Day.Ih, Day.Ky]
 cases hr : Day.right x0 with
 | false =>
  rw [hr] at q4
  clear q17 q15 q11
  subst_vars
  simp
 | true =>
  have hn : 3 ≤ x0 ∧ x0 ≤ 8 := by simpa [Day.right] using hr
  obtain ⟨c1, c2⟩ := Day.TV hn hp q11 (c := v15) (by rw [q15, q14]; rfl)
  have e17 : v17 = Day.UU (Day.N9 x0 ⟨x1, x2⟩) := by rw [q17, show (x0 - 0).toNat = x0.toNat by omega]; exact c2
  have u0 : Day.HL 0 x0 = true := by
   simp only [Day.HL, Bool.and_eq_true, decide_eq_true_eq]
   omega
  have h7 : 0 ≤ x0 := by omega
  have h8 : x0 < 1000001 := by omega
  have h9 : 1 ≤ x0 := by omega
  rw [c1, u0] at q16
  rw [hr] at q4
  clear q17 q15 q11
  subst_vars
  simp [h7, h8, h9, hp]
def FR : Lp := ⟨7, [false, true, false, true, true], 1180, 7, 2, 2, ⟨RM 32 [(0, .pv (.one (.k (.fsl 0 (V 0))))), (1, .pv (.agg [.k (.int .i64 (V 1)), .k (.int .i64 (V 2))])), (3, .pv (.one (.k (.ptr 1 0)))), (4, .pv (.one (.k (.int .i64 (N 0))))), (5, .pv (.one (.k (.lsl 2 (V 3))))), (8, .pv (.one (.k (.fsl 0 (V 0))))), (9, .pv (.one (.k (.int .i64 (V 0))))), (10, .pv (.one (.k (.int .i64 (V 4)))))], [⟨false, 0, 0, [], some ⟨false, 0, [.int .i64], V 5, V 0⟩⟩, ⟨true, 24, 2, [.k (.int .i64 (V 1)), .k (.int .i64 (V 2))], none⟩, ⟨false, 0, 0, [], some ⟨true, 3, [.int .i64], V 6, V 3⟩⟩], B true⟩, [(.exit 0, ⟨RM 32 [(0, .pv (.one (.k (.fsl 0 (V 0))))), (1, .pv (.agg [.k (.int .i64 (V 1)), .k (.int .i64 (V 2))])), (4, .pv (.one (.k (.int .i64 (N 0))))), (5, .pv (.one (.k (.lsl 2 (V 7))))), (8, .pv (.one (.k (.fsl 0 (V 0)))))], [⟨false, 0, 0, [], some ⟨false, 0, [.int .i64], V 5, V 0⟩⟩, ⟨true, 24, 2, [.k (.int .i64 (V 1)), .k (.int .i64 (V 2))], none⟩, ⟨false, 0, 0, [], some ⟨true, 3, [.int .i64], V 8, V 7⟩⟩], B true⟩)], [true, true, true, false, false, true, false], [.i, .any]⟩
def IZ : G := ⟨30, [⟨29, (.ar .add .i64), [V 4, N 1]⟩, ⟨28, .iteA, [V 16, V 21, V 6]⟩, ⟨27, .iteI, [V 16, V 22, V 3]⟩, ⟨26, .imp, [V 18, V 25]⟩, ⟨25, .and, [V 23, V 24]⟩, ⟨24, (.cmp .lss), [V 22, N 1000001]⟩, ⟨23, (.cmp .leq), [N 0, V 22]⟩, ⟨22, (.lln 1), [V 21]⟩, ⟨21, .cat, [V 6, V 20]⟩, ⟨20, .mkl, [V 12]⟩, ⟨19, .and, [V 7, V 17]⟩, ⟨18, .and, [V 7, V 16]⟩, ⟨17, .not, [V 16]⟩, ⟨16, .not, [V 14]⟩, ⟨15, .imp, [V 7, V 13]⟩, ⟨13, (.call 19), [V 1, V 2, V 4]⟩, ⟨12, (.pix 0 1), [V 5, V 4]⟩, ⟨11, .imp, [V 7, V 10]⟩, ⟨10, .and, [V 9, V 7]⟩, ⟨9, (.cmp .leq), [N 0, V 4]⟩, ⟨8, .not, [V 7]⟩, ⟨7, (.cmp .lss), [V 4, V 0]⟩], [V 26, V 15, V 11], []⟩
def Qh (al : List A) : Nat := (Day.L1.n (Day.L1.mk (ge al 5) (gi al 0)) - (gi al 4)).toNat
theorem Pk (e : Nat → A) (H : Ar T e IZ.defs) (hp : (Day.L1.at (Day.L1.mk (e 5) (e 0).int) (e 4).int && Day.Be (Day.L1.mk (e 6) (e 3).int) (e 4).int) = true) :
  ((e 26).bool = true ∧ (e 15).bool = true ∧ (e 11).bool = true) ∧ ((e 7).bool = true → (Day.L1.at (Day.L1.mk (e 5) (e 0).int) (e 29).int && Day.Be (Day.L1.mk (e 28) (e 27).int) (e 29).int) = true ∧ (Day.IQ (Day.L1.mk (e 5) (e 0).int) (Day.Fl.mk (e 1).int (e 2).int) (e 29).int (Day.L1.mk (e 28) (e 27).int) = Day.IQ (Day.L1.mk (e 5) (e 0).int) (Day.Fl.mk (e 1).int (e 2).int) (e 4).int (Day.L1.mk (e 6) (e 3).int) ∧ Day.IP (Day.L1.mk (e 5) (e 0).int) (Day.Fl.mk (e 1).int (e 2).int) (e 29).int (Day.L1.mk (e 28) (e 27).int) = Day.IP (Day.L1.mk (e 5) (e 0).int) (Day.Fl.mk (e 1).int (e 2).int) (e 4).int (Day.L1.mk (e 6) (e 3).int)) ∧ (Day.L1.n (Day.L1.mk (e 5) (e 0).int) - (e 29).int).toNat < (Day.L1.n (Day.L1.mk (e 5) (e 0).int) - (e 4).int).toNat) ∧ ((e 8).bool = true → (e 3).int = Day.IQ (Day.L1.mk (e 5) (e 0).int) (Day.Fl.mk (e 1).int (e 2).int) (e 4).int (Day.L1.mk (e 6) (e 3).int) ∧ (e 6) = Day.IP (Day.L1.mk (e 5) (e 0).int) (Day.Fl.mk (e 1).int (e 2).int) (e 4).int (Day.L1.mk (e 6) (e 3).int)) := by
 simp only [IZ, Ar, Def.q, Fh, L.Au, L.A6, L.CL, L.C3, L.ev, A.AA, A.AN, A.Bu, A.Dh, List.map_cons, List.map_nil, Nat.zero_add, Nat.add_zero, and_true, true_and, Nat.reduceAdd, Nat.one_mul] at H
 simp only [JQ, J8, I5, Cf, Kz, Ly, Ge, N7, and_true, true_and] at H
 obtain ⟨⟨q29, -⟩, q28, ⟨q27, -⟩, q26, q25, q24, q23, q22, q21, q20, q19, q18, q17, q16, q15, q13, q12, q11, q10, q9, q8, q7⟩ := H
 replace q13 := LM q13
 obtain ⟨q13, q14⟩ := q13
 simp only [L.Au, L.A6, L.CL, L.C3, L.ev, A.AA, A.AN, A.Bu] at q13 q14
 generalize (e 0).int = x0, (e 1).int = x1, (e 2).int = x2, (e 3).int = x3, (e 4).int = x4, e 5 = x5, e 6 = x6, (e 7).bool = v7, (e 8).bool = v8, (e 9).bool = v9, (e 10).bool = v10, (e 11).bool = v11, (e 13).bool = v13, (e 14).bool = v14, (e 15).bool = v15, (e 16).bool = v16, (e 17).bool = v17, (e 18).bool = v18, (e 19).bool = v19, e 20 = v20, e 21 = v21, (e 22).int = v22, (e 23).bool = v23, (e 24).bool = v24, (e 25).bool = v25, (e 26).bool = v26, (e 27).int = v27, e 28 = v28, (e 29).int = v29 at *
 simp only [Bool.and_eq_true] at hp
 obtain ⟨ha, ho⟩ := hp
 have h0 : 0 ≤ x4 := (Day.L1.BE.1 ha).2.1
 have hx1 : x4 ≤ x0 ∧ x0 ≤ 1000 := by
  have := Day.L1.BE.1 ha
  exact ⟨this.2.2, this.1.2⟩
 by_cases h : x4 < x0
 ·obtain ⟨j1, j2⟩ := Day.Ho ha h q29
  have hm : (x0 - (x4 + 1)).toNat < (x0 - x4).toNat := by omega
  rw [q12] at q20
  clear q29 q12
  cases hn : Day.isNode ⟨x1, x2⟩ x4 with
  | true =>
   obtain ⟨s1, s2, s3⟩ := Day.Tg ha h hn ho
   rw [hn] at q14
   clear q21 q22
   subst_vars
   simp [h, h0, s1, s2, s3, j2, hm]
  | false =>
   obtain ⟨s1, s2, s3⟩ := Day.Th (p := ⟨v21, v22⟩) ha h hn ho (by show v21 = _; rw [q21, q20]; rfl) (by show v22 = _; rw [q22, Nat.div_one])
   have hb : 0 ≤ v22 ∧ v22 < 1000001 := by
    simp only [Day.Be, Bool.and_eq_true, decide_eq_true_eq] at s3
    have a1 : v22 ≤ x4 + 1 := s3.2.1
    have a2 : ((v21.AW.length : Nat) : Int) = v22 := s3.1
    omega
   rw [hn] at q14
   clear q21 q22 q20
   subst_vars
   simp [h, h0, s1, s2, s3, j2, hm, hb.1, hb.2]
 ·obtain ⟨s1, s2⟩ := Day.TW (f := ⟨x1, x2⟩) ha h ho
  clear q29 q12 q20 q21 q22
  subst_vars
  simp [h, s1, s2]
theorem Qi (as : List A) (e : Nat → A) (h1 : as = (List.range 7).map e) (h2 : (GJ as).1 = true) (H : Ar T e IZ.defs) : Ee e IZ.obs ∧
   (∀ pc ls, some (V 7, [V 0, V 1, V 2, V 27, V 29, V 5, V 28]) = some (pc, ls) → (pc.ev e).bool = true → (GJ (ls.map (L.ev e))).1 = true ∧ (GJ (ls.map (L.ev e))).2 = (GJ as).2 ∧ Qh (ls.map (L.ev e)) < Qh as) ∧
   ∀ x ∈ ([(V 8, [some (V 3), some (V 6)])] : List (L × List (Option L))), (x.1.ev e).bool = true → ∀ (j : Nat) l, x.2[j]? = some (some l) → Gh (FR.tags.getD j .any) (l.ev e) ((GJ as).2.getD j (.i 0)) := by
 subst h1
 obtain ⟨ho, h⟩ := Pk e H h2
 refine ⟨⟨ho.1, ho.2.1, ho.2.2, trivial⟩, fun pc ls hb hpc => ?_, ?_⟩
 ·injection hb with hb
  injection hb with h3 h4
  subst h3 h4
  have h := h.1 hpc
  refine ⟨h.1, ?_, h.2.2⟩
  have h5 := h.2.1
  obtain ⟨z0, z1⟩ := h5
  exact (Nf z0 (Rc z1 rfl))
 ·intro x hx hpc j l hj
  simp only [List.mem_cons, List.not_mem_nil, or_false] at hx
  rcases hx with rfl
  ·have h := h.2 hpc
   obtain ⟨z0, z1⟩ := h
   match j, hj with
   | 0, hj => cases hj; exact z0
   | 1, hj => cases hj; exact z1
   | _ + 2, hj => cases hj
def GQ : G := ⟨21, [⟨20, .iteB, [V 8, V 8, V 7]⟩, ⟨19, .iteA, [V 8, V 12, V 6]⟩, ⟨18, .iteI, [V 8, V 16, N (-1)]⟩, ⟨17, .not, [V 8]⟩, ⟨16, (.pix 0 1), [V 12, N 1]⟩, ⟨15, .imp, [V 8, V 14]⟩, ⟨14, (.cmp .lss), [N 1, V 5]⟩, ⟨13, .imp, [V 8, V 11]⟩, ⟨11, (.call 20), [V 6, V 5]⟩, ⟨10, .imp, [V 8, V 9]⟩, ⟨9, (.cmp .leq), [N 1, V 5]⟩, ⟨8, .not, [V 7]⟩, ⟨7, (.cmp .lss), [V 5, N 2]⟩, ⟨4, (.call 1180), [V 1, V 2, V 3, N 0, N 0, V 0, .e]⟩], [V 15, V 13, V 10, V 4], []⟩
theorem LQ (e : Nat → A) (H : Ar T e GQ.defs) (hp : (Day.L1.ok (Day.L1.mk (e 0) (e 1).int)) = true) :
  ((e 15).bool = true ∧ (e 13).bool = true ∧ (e 10).bool = true ∧ (e 4).bool = true) ∧ (Day.Hr (Day.L1.mk (e 0) (e 1).int) (Day.Fl.mk (e 2).int (e 3).int) = (e 18).int) := by
 simp only [GQ, Ar, Def.q, Fh, L.Au, L.A6, L.CL, L.C3, L.ev, A.AA, A.AN, A.Bu, A.Dh, List.map_cons, List.map_nil, Nat.zero_add, Nat.add_zero, and_true, true_and, Nat.reduceAdd, Nat.one_mul] at H
 simp only [JQ, J8, I5, Cf, Kz, Ly, Ge, N7, and_true, true_and] at H
 obtain ⟨q20, q19, ⟨q18, -⟩, q17, q16, q15, q14, q13, q11, q10, q9, q8, q7, q4⟩ := H
 replace q11 := Kd q11
 obtain ⟨q11, q12⟩ := q11
 replace q4 := RU q4
 obtain ⟨q4, q5, q6⟩ := q4
 simp only [L.Au, L.A6, L.CL, L.C3, L.ev, A.AA, A.AN, A.Bu] at q11 q12 q4 q5 q6
 generalize e 0 = x0, (e 1).int = x1, (e 2).int = x2, (e 3).int = x3, (e 4).bool = v4, (e 5).int = v5, e 6 = v6, (e 7).bool = v7, (e 8).bool = v8, (e 9).bool = v9, (e 10).bool = v10, (e 11).bool = v11, e 12 = v12, (e 13).bool = v13, (e 14).bool = v14, (e 15).bool = v15, (e 17).bool = v17, (e 18).int = v18, e 19 = v19, (e 20).bool = v20 at *
 replace q16 := congrArg A.int q16
 generalize (e 16).int = v16 at *
 obtain ⟨m1, m2, m3⟩ := Day.Ti hp q5 q6
 have ha := Day.Hp hp
 have ho : Day.Be ⟨A.l [], 0⟩ 0 = true := by rfl
 have h16 : v16 = (Day.F2 (Day.DN ⟨x0, x1⟩ ⟨x2, x3⟩)).getD 1 0 := by rw [q16, q12]; exact m3
 unfold Day.Hr
 rw [← h16]
 rw [m1] at q11
 rw [ha, ho] at q4
 clear q16 q12 q19 q5 q6 h16 m3 m1
 by_cases h : v5 < 2
 ·have hl : (Day.DN ⟨x0, x1⟩ ⟨x2, x3⟩).length < 2 := by omega
  rw [if_pos hl]
  clear m2
  subst_vars
  simp [h]
 ·have hl : ¬ (Day.DN ⟨x0, x1⟩ ⟨x2, x3⟩).length < 2 := by omega
  rw [if_neg hl]
  have h1 : 1 ≤ v5 := by omega
  have h2 : 1 < v5 := by omega
  clear m2
  subst_vars
  simp [h, h1, h2]
end Rx.S
