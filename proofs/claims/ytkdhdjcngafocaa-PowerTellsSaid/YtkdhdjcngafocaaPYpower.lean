import Derived.Test.YtkdhdjcngafocaaPXc
import Derived.Test.YtkdhdjcngafocaaPXt
set_option linter.unusedVariables false
set_option linter.unusedSimpArgs false
namespace Rx.S
open Go Rx
set_option maxRecDepth 100000
set_option maxHeartbeats 1000000
def Jl : G := ⟨13, [⟨12, .iteB, [V 6, V 11, B false]⟩, ⟨11, (.cmp .geq), [V 3, V 10]⟩, ⟨10, (.pix 0 1), [V 0, V 2]⟩, ⟨9, .imp, [V 6, V 8]⟩, ⟨8, .and, [V 7, V 5]⟩, ⟨7, (.cmp .leq), [N 0, V 2]⟩, ⟨6, .iteB, [V 4, V 5, B false]⟩, ⟨5, (.cmp .lss), [V 2, V 1]⟩, ⟨4, (.cmp .geq), [V 2, N 0]⟩], [V 9], []⟩
theorem Oj (e : Nat → A) (H : Ai T e Jl.defs) (hp : (Day.L1.ok (Day.L1.mk (e 0) (e 1).int)) = true) :
  ((e 9).bool = true) ∧ (Day.Og (Day.L1.mk (e 0) (e 1).int) (e 2).int (e 3).int = (e 12).bool) := by
 simp only [Jl, Ai, Def.q, Cn, L.Al, L.AB, L.A3, L.A9, L.ev, A.Am, A.At, A.AF, A.Bh, List.map_cons, List.map_nil, Nat.zero_add, Nat.add_zero, and_true, true_and, Nat.reduceAdd, Nat.one_mul] at H
 simp only [F6, GR, FC, Br, Hg, Hi, CC, IP, and_true, true_and] at H
 obtain ⟨q12, q11, q10, q9, q8, q7, q6, q5, q4⟩ := H
 generalize e 0 = x0, (e 1).int = x1, (e 2).int = x2, (e 3).int = x3, (e 4).bool = v4, (e 5).bool = v5, (e 6).bool = v6, (e 7).bool = v7, (e 8).bool = v8, (e 9).bool = v9, (e 11).bool = v11, (e 12).bool = v12 at *
 replace q10 := congrArg A.int q10
 generalize (e 10).int = v10 at *
 have hk : Day.L1.k ⟨x0, x1⟩ x2 = v10 := by rw [q10]; rfl
 simp only [Day.Og, hk]
 clear q10 hk
 grind
def Fo : G := ⟨16, [⟨15, .iteB, [V 6, V 6, V 5]⟩, ⟨14, .iteI, [V 6, N (-1), V 12]⟩, ⟨13, .not, [V 6]⟩, ⟨12, (.ar .sub .i64), [V 3, V 11]⟩, ⟨11, (.pix 0 1), [V 0, V 2]⟩, ⟨10, .imp, [V 5, V 9]⟩, ⟨9, .and, [V 7, V 8]⟩, ⟨8, (.cmp .lss), [V 2, V 1]⟩, ⟨7, (.cmp .leq), [N 0, V 2]⟩, ⟨6, .not, [V 5]⟩, ⟨4, (.call 8), [V 0, V 1, V 2, V 3]⟩], [V 10, V 4], []⟩
theorem KW (e : Nat → A) (H : Ai T e Fo.defs) (hp : (Day.L1.ok (Day.L1.mk (e 0) (e 1).int) && (Day.Fk (Day.L1.mk (e 0) (e 1).int) && Day.i64 (e 3).int)) = true) :
  ((e 10).bool = true ∧ (e 4).bool = true) ∧ (Day.C6 (Day.L1.mk (e 0) (e 1).int) (e 2).int (e 3).int = (e 14).int) := by
 simp only [Fo, Ai, Def.q, Cn, L.Al, L.AB, L.A3, L.A9, L.ev, A.Am, A.At, A.AF, A.Bh, List.map_cons, List.map_nil, Nat.zero_add, Nat.add_zero, and_true, true_and, Nat.reduceAdd, Nat.one_mul] at H
 simp only [F6, GR, FC, Br, Hg, Hi, CC, IP, and_true, true_and] at H
 obtain ⟨q15, ⟨q14, -⟩, q13, ⟨q12, -⟩, q11, q10, q9, q8, q7, q6, q4⟩ := H
 replace q4 := Gy q4
 obtain ⟨q4, q5⟩ := q4
 simp only [L.Al, L.AB, L.A3, L.A9, L.ev, A.Am, A.At, A.AF] at q4 q5
 generalize e 0 = x0, (e 1).int = x1, (e 2).int = x2, (e 3).int = x3, (e 4).bool = v4, (e 5).bool = v5, (e 6).bool = v6, (e 7).bool = v7, (e 8).bool = v8, (e 9).bool = v9, (e 10).bool = v10, (e 12).int = v12, (e 13).bool = v13, (e 14).int = v14, (e 15).bool = v15 at *
 replace q11 := congrArg A.int q11
 generalize (e 11).int = v11 at *
 simp only [Bool.and_eq_true] at hp
 obtain ⟨hk, ha, ht⟩ := hp
 have hv : Day.L1.k ⟨x0, x1⟩ x2 = v11 := by rw [q11]; rfl
 cases hon : Day.Og ⟨x0, x1⟩ x2 x3 with
 | false =>
  rw [hon] at q5
  clear q11 q12
  subst_vars
  simp [Day.C6, hon, hk]
 | true =>
  have hw := Day.Rm hk ha ht hon
  obtain ⟨b1, b2, b3⟩ := Day.Pl hon
  have b2 : x2 < x1 := b2
  rw [hv] at hw
  rw [hw] at q12
  rw [hon] at q5
  clear q11
  subst_vars
  simp [Day.C6, hon, hk, b1, b2]
def GB : Lp := ⟨31, [false, true, false, true], 1130, 3, 3, 1, ⟨Nn 19 [(0, .pv (.one (.k (.fsl 0 (V 0))))), (1, .pv (.one (.clo 26 [] []))), (4, .pv (.one (.k (.int .i64 (N 0))))), (6, .pv (.one (.k (.fsl 0 (V 0))))), (7, .pv (.one (.k (.int .i64 (V 0))))), (8, .pv (.one (.k (.int .i64 (V 1)))))], [⟨false, 0, 0, [], some ⟨false, 0, [.int .i64], V 2, V 0⟩⟩], B true⟩, [(.ret, ⟨Nn 19 [(0, .pv (.one (.k (.fsl 0 (V 0))))), (4, .pv (.one (.k (.int .i64 (V 3))))), (6, .pv (.one (.k (.fsl 0 (V 0)))))], [⟨false, 0, 0, [], some ⟨false, 0, [.int .i64], V 2, V 0⟩⟩], V 4⟩), (.exit 0, ⟨Nn 19 [(0, .pv (.one (.k (.fsl 0 (V 0))))), (4, .pv (.one (.k (.int .i64 (N 0))))), (6, .pv (.one (.k (.fsl 0 (V 0)))))], [⟨false, 0, 0, [], some ⟨false, 0, [.int .i64], V 2, V 0⟩⟩], V 5⟩)], [true, false, true], [.i, .b, .b]⟩
def J1 : G := ⟨22, [⟨21, .and, [V 3, V 19]⟩, ⟨20, .and, [V 3, V 16]⟩, ⟨19, .and, [V 18, V 15]⟩, ⟨18, .not, [V 16]⟩, ⟨17, (.ar .add .i64), [V 1, N 1]⟩, ⟨16, .and, [V 12, V 14]⟩, ⟨15, .and, [V 10, V 13]⟩, ⟨14, .and, [V 3, V 12]⟩, ⟨13, .and, [V 3, V 10]⟩, ⟨12, .not, [V 10]⟩, ⟨11, .imp, [V 3, V 9]⟩, ⟨9, (.call 26), [V 8]⟩, ⟨8, (.pix 0 1), [V 2, V 1]⟩, ⟨7, .imp, [V 3, V 6]⟩, ⟨6, .and, [V 5, V 3]⟩, ⟨5, (.cmp .leq), [N 0, V 1]⟩, ⟨4, .not, [V 3]⟩, ⟨3, (.cmp .lss), [V 1, V 0]⟩], [V 11, V 7], []⟩
def So (al : List A) : Nat := (Day.L1.n (Day.L1.mk (ge al 2) (gi al 0)) - (gi al 1)).toNat
theorem Rs (e : Nat → A) (H : Ai T e J1.defs) (hp : (Day.L1.at (Day.L1.mk (e 2) (e 0).int) (e 1).int) = true) :
  ((e 11).bool = true ∧ (e 7).bool = true) ∧ ((e 20).bool = true → (Day.L1.at (Day.L1.mk (e 2) (e 0).int) (e 17).int) = true ∧ (Day.FY (Day.L1.mk (e 2) (e 0).int) (e 17).int = Day.FY (Day.L1.mk (e 2) (e 0).int) (e 1).int ∧ Day.AU (Day.L1.mk (e 2) (e 0).int) (e 17).int = Day.AU (Day.L1.mk (e 2) (e 0).int) (e 1).int ∧ Day.AQ (Day.L1.mk (e 2) (e 0).int) (e 17).int = Day.AQ (Day.L1.mk (e 2) (e 0).int) (e 1).int) ∧ (Day.L1.n (Day.L1.mk (e 2) (e 0).int) - (e 17).int).toNat < (Day.L1.n (Day.L1.mk (e 2) (e 0).int) - (e 1).int).toNat) ∧ ((e 21).bool = true → (e 1).int = Day.FY (Day.L1.mk (e 2) (e 0).int) (e 1).int ∧ true = Day.AU (Day.L1.mk (e 2) (e 0).int) (e 1).int) ∧ ((e 4).bool = true → true = Day.AQ (Day.L1.mk (e 2) (e 0).int) (e 1).int) := by
 simp only [J1, Ai, Def.q, Cn, L.Al, L.AB, L.A3, L.A9, L.ev, A.Am, A.At, A.AF, A.Bh, List.map_cons, List.map_nil, Nat.zero_add, Nat.add_zero, and_true, true_and, Nat.reduceAdd, Nat.one_mul] at H
 simp only [F6, GR, FC, Br, Hg, Hi, CC, IP, and_true, true_and] at H
 obtain ⟨q21, q20, q19, q18, ⟨q17, -⟩, q16, q15, q14, q13, q12, q11, q9, q8, q7, q6, q5, q4, q3⟩ := H
 replace q9 := KU q9
 obtain ⟨q9, q10⟩ := q9
 simp only [L.Al, L.AB, L.A3, L.A9, L.ev, A.Am, A.At, A.AF] at q9 q10
 generalize (e 0).int = x0, (e 1).int = x1, e 2 = x2, (e 3).bool = v3, (e 4).bool = v4, (e 5).bool = v5, (e 6).bool = v6, (e 7).bool = v7, (e 9).bool = v9, (e 10).bool = v10, (e 11).bool = v11, (e 12).bool = v12, (e 13).bool = v13, (e 14).bool = v14, (e 15).bool = v15, (e 16).bool = v16, (e 17).int = v17, (e 18).bool = v18, (e 19).bool = v19, (e 20).bool = v20, (e 21).bool = v21 at *
 replace q8 := congrArg A.int q8
 generalize (e 8).int = v8 at *
 by_cases h : x1 < x0
 ·obtain ⟨j1, j2⟩ := Day.Gw hp h q17
  have s1 := Day.Np hp h
  have s2 := Day.Nq hp h
  have hk : Day.L1.k ⟨x2, x0⟩ x1 = v8 := by rw [q8]; rfl
  have h0 : 0 ≤ x1 := (Day.L1.B3.1 hp).2.1
  rw [hk] at s1 s2
  have hm : (x0 - (x1 + 1)).toNat < (x0 - x1).toNat := by omega
  simp only [Day.EZ] at q10
  clear q17 q8 hk
  subst j1
  simp only [Day.AU, s1, s2]
  generalize Day.AQ ⟨x2, x0⟩ (x1 + 1) = af at *
  generalize Day.FY ⟨x2, x0⟩ (x1 + 1) = ba at *
  clear s1 s2
  generalize Day.CQ v8 = tk at *
  cases tk <;> subst_vars <;> simp [h, h0, j2, hm]
 ·have s1 := Day.Qj hp h
  simp only [Day.AU, s1]
  clear q17 q8
  subst_vars
  simp [h]
theorem Sp (as : List A) (e : Nat → A) (h1 : as = (List.range 3).map e) (h2 : (HJ as).1 = true) (H : Ai T e J1.defs) : C3 e J1.obs ∧
   (∀ pc ls, some (V 20, [V 0, V 17, V 2]) = some (pc, ls) → (pc.ev e).bool = true → (HJ (ls.map (L.ev e))).1 = true ∧ (HJ (ls.map (L.ev e))).2 = (HJ as).2 ∧ So (ls.map (L.ev e)) < So as) ∧
   ∀ x ∈ ([(V 21, [some (V 1), some (B true), none]), (V 4, [none, none, some (B true)])] : List (L × List (Option L))), (x.1.ev e).bool = true → ∀ (j : Nat) l, x.2[j]? = some (some l) → Gr (GB.tags.getD j .any) (l.ev e) ((HJ as).2.getD j (.i 0)) := by
 subst h1
 obtain ⟨ho, h⟩ := Rs e H h2
 refine ⟨⟨ho.1, ho.2, trivial⟩, fun pc ls hb hpc => ?_, ?_⟩
 ·injection hb with hb
  injection hb with h3 h4
  subst h3 h4
  have h := h.1 hpc
  refine ⟨h.1, ?_, h.2.2⟩
  have h5 := h.2.1
  obtain ⟨z0, z1, z2⟩ := h5
  exact (Pn z0 (HS z1 (HS z2 rfl)))
 ·intro x hx hpc j l hj
  simp only [List.mem_cons, List.not_mem_nil, or_false] at hx
  rcases hx with rfl | rfl
  ·have h := h.2.1 hpc
   obtain ⟨z0, z1⟩ := h
   match j, hj with
   | 0, hj => cases hj; exact z0
   | 1, hj => cases hj; exact z1
   | 2, hj => cases hj
   | _ + 3, hj => cases hj
  ·have h := h.2.2 hpc
   have z2 := h
   match j, hj with
   | 0, hj => cases hj
   | 1, hj => cases hj
   | 2, hj => cases hj; exact z2
   | _ + 3, hj => cases hj
def Fq : G := ⟨23, [⟨22, .iteB, [V 6, V 21, B false]⟩, ⟨21, .not, [V 20]⟩, ⟨20, (.cmp .geq), [V 18, N 0]⟩, ⟨19, .iteB, [V 16, V 16, V 15]⟩, ⟨18, .iteI, [V 16, N (-1), V 8]⟩, ⟨17, .not, [V 16]⟩, ⟨16, .and, [V 6, V 10]⟩, ⟨15, .and, [V 6, V 9]⟩, ⟨14, .imp, [V 6, V 13]⟩, ⟨13, .not, [V 12]⟩, ⟨12, .and, [V 9, V 10]⟩, ⟨11, .imp, [V 6, V 7]⟩, ⟨7, (.call 1130), [V 2, N 0, V 1]⟩, ⟨6, .iteB, [V 4, V 5, B false]⟩, ⟨5, (.cmp .eql), [V 2, V 0]⟩, ⟨3, (.call 21), [V 0]⟩], [V 14, V 11, V 3], []⟩
theorem KY (e : Nat → A) (H : Ai T e Fq.defs) (hp : (Day.L1.ok (Day.L1.mk (e 1) (e 2).int)) = true) :
  ((e 14).bool = true ∧ (e 11).bool = true ∧ (e 3).bool = true) ∧ (Day.HH (e 0).int (Day.L1.mk (e 1) (e 2).int) = (e 22).bool) := by
 simp only [Fq, Ai, Def.q, Cn, L.Al, L.AB, L.A3, L.A9, L.ev, A.Am, A.At, A.AF, A.Bh, List.map_cons, List.map_nil, Nat.zero_add, Nat.add_zero, and_true, true_and, Nat.reduceAdd, Nat.one_mul] at H
 simp only [F6, GR, FC, Br, Hg, Hi, CC, IP, and_true, true_and] at H
 obtain ⟨q22, q21, q20, q19, ⟨q18, -⟩, q17, q16, q15, q14, q13, q12, q11, q7, q6, q5, q3⟩ := H
 replace q7 := Ug q7
 obtain ⟨q7, q8, q9, q10⟩ := q7
 replace q3 := HT q3
 obtain ⟨q3, q4⟩ := q3
 simp only [L.Al, L.AB, L.A3, L.A9, L.ev, A.Am, A.At, A.AF] at q7 q8 q9 q10 q3 q4
 generalize (e 0).int = x0, e 1 = x1, (e 2).int = x2, (e 3).bool = v3, (e 4).bool = v4, (e 5).bool = v5, (e 6).bool = v6, (e 7).bool = v7, (e 8).int = v8, (e 9).bool = v9, (e 10).bool = v10, (e 11).bool = v11, (e 12).bool = v12, (e 13).bool = v13, (e 14).bool = v14, (e 15).bool = v15, (e 16).bool = v16, (e 17).bool = v17, (e 18).int = v18, (e 19).bool = v19, (e 20).bool = v20, (e 21).bool = v21, (e 22).bool = v22 at *
 have ha := Day.Gx hp
 have hb := Day.Xz ⟨x1, x2⟩
 have hz := Day.all_zero ⟨x1, x2⟩
 simp only [Day.AU, hz, ha] at *
 simp only [Day.HH]
 generalize Day.Fk ⟨x1, x2⟩ = al at *
 generalize Day.FY ⟨x1, x2⟩ 0 = ba at *
 generalize Day.right x0 = rr at *
 clear hz
 subst_vars
 have hb' : ¬ ba < 0 := by omega
 cases al <;> cases rr <;> by_cases h : x2 = x0 <;> simp_all
def ED : G := ⟨4, [⟨3, .not, [V 2]⟩, ⟨1, (.call 27), [V 0]⟩], [V 1], []⟩
theorem J2 (e : Nat → A) (H : Ai T e ED.defs) (hp : (true) = true) :
  ((e 1).bool = true) ∧ (Day.EZ (e 0).int = (e 3).bool) := by
 simp only [ED, Ai, Def.q, Cn, L.Al, L.AB, L.A3, L.A9, L.ev, A.Am, A.At, A.AF, A.Bh, List.map_cons, List.map_nil, Nat.zero_add, Nat.add_zero, and_true, true_and, Nat.reduceAdd, Nat.one_mul] at H
 obtain ⟨q3, q1⟩ := H
 replace q1 := NC q1
 obtain ⟨q1, q2⟩ := q1
 simp only [L.Al, L.AB, L.A3, L.A9, L.ev, A.Am, A.At, A.AF] at q1 q2
 generalize (e 0).int = x0, (e 1).bool = v1, (e 2).bool = v2, (e 3).bool = v3 at *
 grind [Day.right, Day.isNode, Day.CQ, Day.EZ, Day.Og, Day.C6]
def GD : G := ⟨4, [⟨3, .iteB, [V 1, V 2, B false]⟩, ⟨2, (.cmp .leq), [V 0, N 2000]⟩, ⟨1, (.cmp .geq), [V 0, N 0]⟩], [], []⟩
theorem LQ (e : Nat → A) (H : Ai T e GD.defs) (hp : (true) = true) :
  (True) ∧ (Day.CQ (e 0).int = (e 3).bool) := by
 simp only [GD, Ai, Def.q, Cn, L.Al, L.AB, L.A3, L.A9, L.ev, A.Am, A.At, A.AF, A.Bh, List.map_cons, List.map_nil, Nat.zero_add, Nat.add_zero, and_true, true_and, Nat.reduceAdd, Nat.one_mul] at H
 simp only [F6, GR, FC, Br, Hg, Hi, CC, IP, and_true, true_and] at H
 obtain ⟨q3, q2, q1⟩ := H
 generalize (e 0).int = x0, (e 1).bool = v1, (e 2).bool = v2, (e 3).bool = v3 at *
 grind [Day.right, Day.isNode, Day.CQ, Day.EZ, Day.Og, Day.C6]
def GH : Lp := ⟨10, [false, true, false, true, true, true, true], 1160, 7, 1, 2, ⟨Nn 31 [(0, .pv (.one (.k (.int .i64 (V 0))))), (1, .pv (.one (.k (.fsl 0 (V 1))))), (4, .pv (.one (.k (.nilslc)))), (5, .pv (.one (.k (.int .i64 (N 0))))), (6, .pv (.one (.k (.lsl 1 (V 0))))), (8, .pv (.one (.k (.int .i64 (V 0))))), (9, .pv (.one (.k (.bool (V 2))))), (10, .pv (.one (.k (.bool (V 3))))), (11, .pv (.one (.k (.int .i64 (V 0))))), (12, .pv (.one (.k (.lsl 1 (V 0))))), (13, .pv (.one (.k (.lsl 1 (V 0))))), (14, .pv (.one (.k (.fsl 0 (V 1))))), (16, .pv (.one (.k (.lsl 1 (V 0))))), (17, .pv (.one (.k (.int .i64 (V 0))))), (18, .pv (.one (.k (.int .i64 (V 4)))))], [⟨false, 0, 0, [], some ⟨false, 0, [.int .i64], V 5, V 1⟩⟩, ⟨false, 0, 0, [], some ⟨true, 3, [.int .i64], V 6, V 0⟩⟩], B true⟩, [(.exit 0, ⟨Nn 31 [(0, .pv (.one (.k (.int .i64 (V 0))))), (1, .pv (.one (.k (.fsl 0 (V 1))))), (4, .pv (.one (.k (.nilslc)))), (5, .pv (.one (.k (.int .i64 (N 0))))), (6, .pv (.one (.k (.lsl 1 (V 0))))), (8, .pv (.one (.k (.int .i64 (V 0))))), (9, .pv (.one (.k (.bool (V 2))))), (10, .pv (.one (.k (.bool (V 3))))), (11, .pv (.one (.k (.int .i64 (V 0))))), (12, .pv (.one (.k (.lsl 1 (V 0))))), (13, .pv (.one (.k (.lsl 1 (V 0))))), (14, .pv (.one (.k (.fsl 0 (V 1))))), (16, .pv (.one (.k (.lsl 1 (V 0)))))], [⟨false, 0, 0, [], some ⟨false, 0, [.int .i64], V 5, V 1⟩⟩, ⟨false, 0, 0, [], some ⟨true, 3, [.int .i64], V 7, V 0⟩⟩], B true⟩)], [true, true, true, true, false, true, false], [.any]⟩
def J9 : G := ⟨18, [⟨17, (.ar .add .i64), [V 4, N 1]⟩, ⟨16, (.pset 0 1), [V 6, V 4, V 14]⟩, ⟨15, .imp, [V 7, V 13]⟩, ⟨13, (.call 22), [V 12, N 0, N 2000]⟩, ⟨12, (.pix 0 1), [V 6, V 4]⟩, ⟨11, .imp, [V 7, V 10]⟩, ⟨10, .and, [V 9, V 7]⟩, ⟨9, (.cmp .leq), [N 0, V 4]⟩, ⟨8, .not, [V 7]⟩, ⟨7, (.cmp .lss), [V 4, V 0]⟩], [V 15, V 11], []⟩
def Sv (al : List A) : Nat := ((gi al 0) - (gi al 4)).toNat
theorem Rv (e : Nat → A) (H : Ai T e J9.defs) (hp : (Day.CR (e 4).int (e 0).int && Day.He (e 6) (e 0).int) = true) :
  ((e 15).bool = true ∧ (e 11).bool = true) ∧ ((e 7).bool = true → (Day.CR (e 17).int (e 0).int && Day.He (e 16) (e 0).int) = true ∧ (Day.C8 (e 16) ((e 0).int - (e 17).int).toNat (e 17).int.toNat = Day.C8 (e 6) ((e 0).int - (e 4).int).toNat (e 4).int.toNat) ∧ ((e 0).int - (e 17).int).toNat < ((e 0).int - (e 4).int).toNat) ∧ ((e 8).bool = true → (e 6) = Day.C8 (e 6) ((e 0).int - (e 4).int).toNat (e 4).int.toNat) := by
 simp only [J9, Ai, Def.q, Cn, L.Al, L.AB, L.A3, L.A9, L.ev, A.Am, A.At, A.AF, A.Bh, List.map_cons, List.map_nil, Nat.zero_add, Nat.add_zero, and_true, true_and, Nat.reduceAdd, Nat.one_mul] at H
 simp only [F6, GR, FC, Br, Hg, Hi, CC, IP, and_true, true_and] at H
 obtain ⟨⟨q17, -⟩, q16, q15, q13, q12, q11, q10, q9, q8, q7⟩ := H
 obtain k14 := KS q13
 unfold V7 at k14
 replace q13 := LC q13
 obtain ⟨q13, q14⟩ := q13
 simp only [L.Al, L.AB, L.A3, L.A9, L.ev, A.Am, A.At, A.AF] at q13 q14
 generalize (e 0).int = x0, (e 1).int = x1, (e 2).int = x2, (e 3).int = x3, (e 4).int = x4, (e 5).int = x5, e 6 = x6, (e 7).bool = v7, (e 8).bool = v8, (e 9).bool = v9, (e 10).bool = v10, (e 11).bool = v11, (e 13).bool = v13, (e 14).int = v14, (e 15).bool = v15, e 16 = v16, (e 17).int = v17 at *
 rw [k14] at q16
 replace q12 := congrArg A.int q12
 generalize (e 12).int = v12 at *
 simp only [Bool.and_eq_true] at hp
 obtain ⟨hu, hl⟩ := hp
 by_cases h : x4 < x0
 ·obtain ⟨s1, s2, s3, s4, s5⟩ := Day.Rn hu hl h (y := v16) (by rw [q16, q14, q12]; rfl)
  have h0 : 0 ≤ x4 := by
   simp only [Day.CR, Bool.and_eq_true, decide_eq_true_eq] at hu
   exact hu.1
  rw [s5] at q17
  clear q16 k14 q14 q12
  subst_vars
  simp [h, h0, s1, s2, s3, s4]
 ·have e1 := Day.Sl (x := x6) h
  clear q16 k14 q14 q12 q17
  subst_vars
  simp [h, e1]
theorem Sw (as : List A) (e : Nat → A) (h1 : as = (List.range 7).map e) (h2 : (HM as).1 = true) (H : Ai T e J9.defs) : C3 e J9.obs ∧
   (∀ pc ls, some (V 7, [V 0, V 1, V 2, V 3, V 17, V 5, V 16]) = some (pc, ls) → (pc.ev e).bool = true → (HM (ls.map (L.ev e))).1 = true ∧ (HM (ls.map (L.ev e))).2 = (HM as).2 ∧ Sv (ls.map (L.ev e)) < Sv as) ∧
   ∀ x ∈ ([(V 8, [some (V 6)])] : List (L × List (Option L))), (x.1.ev e).bool = true → ∀ (j : Nat) l, x.2[j]? = some (some l) → Gr (GH.tags.getD j .any) (l.ev e) ((HM as).2.getD j (.i 0)) := by
 subst h1
 obtain ⟨ho, h⟩ := Rv e H h2
 refine ⟨⟨ho.1, ho.2, trivial⟩, fun pc ls hb hpc => ?_, ?_⟩
 ·injection hb with hb
  injection hb with h3 h4
  subst h3 h4
  have h := h.1 hpc
  refine ⟨h.1, ?_, h.2.2⟩
  have h5 := h.2.1
  have z0 := h5
  exact (V4 z0 rfl)
 ·intro x hx hpc j l hj
  simp only [List.mem_cons, List.not_mem_nil, or_false] at hx
  rcases hx with rfl
  ·have h := h.2 hpc
   have z0 := h
   match j, hj with
   | 0, hj => cases hj; exact z0
   | _ + 1, hj => cases hj
def Fu : G := ⟨24, [⟨23, .iteB, [V 6, V 6, V 5]⟩, ⟨22, .iteA, [V 6, V 17, .e]⟩, ⟨21, .iteI, [V 6, N 0, N 1]⟩, ⟨20, .iteI, [V 6, V 0, N 0]⟩, ⟨19, .not, [V 6]⟩, ⟨18, .imp, [V 6, V 16]⟩, ⟨16, (.call 1160), [V 0, V 2, V 4, V 5, N 0, V 1, V 15]⟩, ⟨15, .cpy, [V 11, V 1, V 14]⟩, ⟨14, .mn, [V 0, V 2]⟩, ⟨13, .imp, [V 6, V 12]⟩, ⟨12, (.cmp .leq), [N 1, V 0]⟩, ⟨11, .rep, [V 0, N 0]⟩, ⟨10, .imp, [V 6, V 9]⟩, ⟨9, .and, [V 7, V 8]⟩, ⟨8, (.cmp .lss), [V 0, N 1000001]⟩, ⟨7, (.cmp .leq), [N 0, V 0]⟩, ⟨6, .not, [V 5]⟩, ⟨5, .not, [V 4]⟩, ⟨3, (.call 21), [V 0]⟩], [V 18, V 13, V 10, V 3], []⟩
theorem K6 (e : Nat → A) (H : Ai T e Fu.defs) (hp : (Day.L1.ok (Day.L1.mk (e 1) (e 2).int)) = true) :
  ((e 18).bool = true ∧ (e 13).bool = true ∧ (e 10).bool = true ∧ (e 3).bool = true) ∧ (((Day.B1 (e 0).int (Day.L1.mk (e 1) (e 2).int))).x = (e 22) ∧ ((Day.B1 (e 0).int (Day.L1.mk (e 1) (e 2).int))).n = (e 20).int ∧ Day.E0 (e 0).int = (e 21).int) := by
 simp only [Fu, Ai, Def.q, Cn, L.Al, L.AB, L.A3, L.A9, L.ev, A.Am, A.At, A.AF, A.Bh, List.map_cons, List.map_nil, Nat.zero_add, Nat.add_zero, and_true, true_and, Nat.reduceAdd, Nat.one_mul] at H
 simp only [F6, GR, FC, Br, Hg, Hi, CC, IP, and_true, true_and] at H
 obtain ⟨q23, q22, ⟨q21, -⟩, ⟨q20, -⟩, q19, q18, q16, q15, q14, q13, q12, q11, q10, q9, q8, q7, q6, q5, q3⟩ := H
 replace q16 := Uj q16
 obtain ⟨q16, q17⟩ := q16
 replace q3 := HT q3
 obtain ⟨q3, q4⟩ := q3
 simp only [L.Al, L.AB, L.A3, L.A9, L.ev, A.Am, A.At, A.AF] at q16 q17 q3 q4
 generalize (e 0).int = x0, e 1 = x1, (e 2).int = x2, (e 3).bool = v3, (e 4).bool = v4, (e 5).bool = v5, (e 6).bool = v6, (e 7).bool = v7, (e 8).bool = v8, (e 9).bool = v9, (e 10).bool = v10, e 11 = v11, (e 12).bool = v12, (e 13).bool = v13, (e 14).int = v14, e 15 = v15, (e 16).bool = v16, e 17 = v17, (e 18).bool = v18, (e 19).bool = v19, (e 20).int = v20, (e 21).int = v21, e 22 = v22, (e 23).bool = v23 at *
 simp only [Day.B1, Day.E0]
 cases hr : Day.right x0 with
 | false =>
  rw [hr] at q4
  clear q17 q15 q11
  subst_vars
  simp
 | true =>
  have hn : 3 ≤ x0 ∧ x0 ≤ 8 := by simpa [Day.right] using hr
  obtain ⟨c1, c2⟩ := Day.WA hn hp q11 (c := v15) (by rw [q15, q14]; rfl)
  have e17 : v17 = Day.VC (Day.Gv x0 ⟨x1, x2⟩) := by rw [q17, show (x0 - 0).toNat = x0.toNat by omega]; exact c2
  have u0 : Day.CR 0 x0 = true := by
   simp only [Day.CR, Bool.and_eq_true, decide_eq_true_eq]
   omega
  have h7 : 0 ≤ x0 := by omega
  have h8 : x0 < 1000001 := by omega
  have h9 : 1 ≤ x0 := by omega
  rw [c1, u0] at q16
  rw [hr] at q4
  clear q17 q15 q11
  subst_vars
  simp [h7, h8, h9, hp]
def GJ : Lp := ⟨7, [false, true, false, true, true], 1180, 7, 2, 2, ⟨Nn 32 [(0, .pv (.one (.k (.fsl 0 (V 0))))), (1, .pv (.agg [.k (.int .i64 (V 1)), .k (.int .i64 (V 2))])), (3, .pv (.one (.k (.ptr 1 0)))), (4, .pv (.one (.k (.int .i64 (N 0))))), (5, .pv (.one (.k (.lsl 2 (V 3))))), (8, .pv (.one (.k (.fsl 0 (V 0))))), (9, .pv (.one (.k (.int .i64 (V 0))))), (10, .pv (.one (.k (.int .i64 (V 4)))))], [⟨false, 0, 0, [], some ⟨false, 0, [.int .i64], V 5, V 0⟩⟩, ⟨true, 24, 2, [.k (.int .i64 (V 1)), .k (.int .i64 (V 2))], none⟩, ⟨false, 0, 0, [], some ⟨true, 3, [.int .i64], V 6, V 3⟩⟩], B true⟩, [(.exit 0, ⟨Nn 32 [(0, .pv (.one (.k (.fsl 0 (V 0))))), (1, .pv (.agg [.k (.int .i64 (V 1)), .k (.int .i64 (V 2))])), (4, .pv (.one (.k (.int .i64 (N 0))))), (5, .pv (.one (.k (.lsl 2 (V 7))))), (8, .pv (.one (.k (.fsl 0 (V 0)))))], [⟨false, 0, 0, [], some ⟨false, 0, [.int .i64], V 5, V 0⟩⟩, ⟨true, 24, 2, [.k (.int .i64 (V 1)), .k (.int .i64 (V 2))], none⟩, ⟨false, 0, 0, [], some ⟨true, 3, [.int .i64], V 8, V 7⟩⟩], B true⟩)], [true, true, true, false, false, true, false], [.i, .any]⟩
def Kf : G := ⟨30, [⟨29, (.ar .add .i64), [V 4, N 1]⟩, ⟨28, .iteA, [V 16, V 21, V 6]⟩, ⟨27, .iteI, [V 16, V 22, V 3]⟩, ⟨26, .imp, [V 18, V 25]⟩, ⟨25, .and, [V 23, V 24]⟩, ⟨24, (.cmp .lss), [V 22, N 1000001]⟩, ⟨23, (.cmp .leq), [N 0, V 22]⟩, ⟨22, (.lln 1), [V 21]⟩, ⟨21, .cat, [V 6, V 20]⟩, ⟨20, .mkl, [V 12]⟩, ⟨19, .and, [V 7, V 17]⟩, ⟨18, .and, [V 7, V 16]⟩, ⟨17, .not, [V 16]⟩, ⟨16, .not, [V 14]⟩, ⟨15, .imp, [V 7, V 13]⟩, ⟨13, (.call 19), [V 1, V 2, V 4]⟩, ⟨12, (.pix 0 1), [V 5, V 4]⟩, ⟨11, .imp, [V 7, V 10]⟩, ⟨10, .and, [V 9, V 7]⟩, ⟨9, (.cmp .leq), [N 0, V 4]⟩, ⟨8, .not, [V 7]⟩, ⟨7, (.cmp .lss), [V 4, V 0]⟩], [V 26, V 15, V 11], []⟩
def Sz (al : List A) : Nat := (Day.L1.n (Day.L1.mk (ge al 5) (gi al 0)) - (gi al 4)).toNat
theorem Ry (e : Nat → A) (H : Ai T e Kf.defs) (hp : (Day.L1.at (Day.L1.mk (e 5) (e 0).int) (e 4).int && Day.E1 (Day.L1.mk (e 6) (e 3).int) (e 4).int) = true) :
  ((e 26).bool = true ∧ (e 15).bool = true ∧ (e 11).bool = true) ∧ ((e 7).bool = true → (Day.L1.at (Day.L1.mk (e 5) (e 0).int) (e 29).int && Day.E1 (Day.L1.mk (e 28) (e 27).int) (e 29).int) = true ∧ (Day.JW (Day.L1.mk (e 5) (e 0).int) (Day.Fl.mk (e 1).int (e 2).int) (e 29).int (Day.L1.mk (e 28) (e 27).int) = Day.JW (Day.L1.mk (e 5) (e 0).int) (Day.Fl.mk (e 1).int (e 2).int) (e 4).int (Day.L1.mk (e 6) (e 3).int) ∧ Day.JV (Day.L1.mk (e 5) (e 0).int) (Day.Fl.mk (e 1).int (e 2).int) (e 29).int (Day.L1.mk (e 28) (e 27).int) = Day.JV (Day.L1.mk (e 5) (e 0).int) (Day.Fl.mk (e 1).int (e 2).int) (e 4).int (Day.L1.mk (e 6) (e 3).int)) ∧ (Day.L1.n (Day.L1.mk (e 5) (e 0).int) - (e 29).int).toNat < (Day.L1.n (Day.L1.mk (e 5) (e 0).int) - (e 4).int).toNat) ∧ ((e 8).bool = true → (e 3).int = Day.JW (Day.L1.mk (e 5) (e 0).int) (Day.Fl.mk (e 1).int (e 2).int) (e 4).int (Day.L1.mk (e 6) (e 3).int) ∧ (e 6) = Day.JV (Day.L1.mk (e 5) (e 0).int) (Day.Fl.mk (e 1).int (e 2).int) (e 4).int (Day.L1.mk (e 6) (e 3).int)) := by
 simp only [Kf, Ai, Def.q, Cn, L.Al, L.AB, L.A3, L.A9, L.ev, A.Am, A.At, A.AF, A.Bh, List.map_cons, List.map_nil, Nat.zero_add, Nat.add_zero, and_true, true_and, Nat.reduceAdd, Nat.one_mul] at H
 simp only [F6, GR, FC, Br, Hg, Hi, CC, IP, and_true, true_and] at H
 obtain ⟨⟨q29, -⟩, q28, ⟨q27, -⟩, q26, q25, q24, q23, q22, q21, q20, q19, q18, q17, q16, q15, q13, q12, q11, q10, q9, q8, q7⟩ := H
 replace q13 := NA q13
 obtain ⟨q13, q14⟩ := q13
 simp only [L.Al, L.AB, L.A3, L.A9, L.ev, A.Am, A.At, A.AF] at q13 q14
 generalize (e 0).int = x0, (e 1).int = x1, (e 2).int = x2, (e 3).int = x3, (e 4).int = x4, e 5 = x5, e 6 = x6, (e 7).bool = v7, (e 8).bool = v8, (e 9).bool = v9, (e 10).bool = v10, (e 11).bool = v11, (e 13).bool = v13, (e 14).bool = v14, (e 15).bool = v15, (e 16).bool = v16, (e 17).bool = v17, (e 18).bool = v18, (e 19).bool = v19, e 20 = v20, e 21 = v21, (e 22).int = v22, (e 23).bool = v23, (e 24).bool = v24, (e 25).bool = v25, (e 26).bool = v26, (e 27).int = v27, e 28 = v28, (e 29).int = v29 at *
 simp only [Bool.and_eq_true] at hp
 obtain ⟨ha, ho⟩ := hp
 have h0 : 0 ≤ x4 := (Day.L1.B3.1 ha).2.1
 have hx1 : x4 ≤ x0 ∧ x0 ≤ 1000 := by
  have := Day.L1.B3.1 ha
  exact ⟨this.2.2, this.1.2⟩
 by_cases h : x4 < x0
 ·obtain ⟨j1, j2⟩ := Day.Gw ha h q29
  have hm : (x0 - (x4 + 1)).toNat < (x0 - x4).toNat := by omega
  rw [q12] at q20
  clear q29 q12
  cases hn : Day.isNode ⟨x1, x2⟩ x4 with
  | true =>
   obtain ⟨s1, s2, s3⟩ := Day.VG ha h hn ho
   rw [hn] at q14
   clear q21 q22
   subst_vars
   simp [h, h0, s1, s2, s3, j2, hm]
  | false =>
   obtain ⟨s1, s2, s3⟩ := Day.VH (p := ⟨v21, v22⟩) ha h hn ho (by show v21 = _; rw [q21, q20]; rfl) (by show v22 = _; rw [q22, Nat.div_one])
   have hb : 0 ≤ v22 ∧ v22 < 1000001 := by
    simp only [Day.E1, Bool.and_eq_true, decide_eq_true_eq] at s3
    have a1 : v22 ≤ x4 + 1 := s3.2.1
    have a2 : ((v21.Bq.length : Nat) : Int) = v22 := s3.1
    omega
   rw [hn] at q14
   clear q21 q22 q20
   subst_vars
   simp [h, h0, s1, s2, s3, j2, hm, hb.1, hb.2]
 ·obtain ⟨s1, s2⟩ := Day.WC (f := ⟨x1, x2⟩) ha h ho
  clear q29 q12 q20 q21 q22
  subst_vars
  simp [h, s1, s2]
theorem SA (as : List A) (e : Nat → A) (h1 : as = (List.range 7).map e) (h2 : (HO as).1 = true) (H : Ai T e Kf.defs) : C3 e Kf.obs ∧
   (∀ pc ls, some (V 7, [V 0, V 1, V 2, V 27, V 29, V 5, V 28]) = some (pc, ls) → (pc.ev e).bool = true → (HO (ls.map (L.ev e))).1 = true ∧ (HO (ls.map (L.ev e))).2 = (HO as).2 ∧ Sz (ls.map (L.ev e)) < Sz as) ∧
   ∀ x ∈ ([(V 8, [some (V 3), some (V 6)])] : List (L × List (Option L))), (x.1.ev e).bool = true → ∀ (j : Nat) l, x.2[j]? = some (some l) → Gr (GJ.tags.getD j .any) (l.ev e) ((HO as).2.getD j (.i 0)) := by
 subst h1
 obtain ⟨ho, h⟩ := Ry e H h2
 refine ⟨⟨ho.1, ho.2.1, ho.2.2, trivial⟩, fun pc ls hb hpc => ?_, ?_⟩
 ·injection hb with hb
  injection hb with h3 h4
  subst h3 h4
  have h := h.1 hpc
  refine ⟨h.1, ?_, h.2.2⟩
  have h5 := h.2.1
  obtain ⟨z0, z1⟩ := h5
  exact (Pn z0 (V4 z1 rfl))
 ·intro x hx hpc j l hj
  simp only [List.mem_cons, List.not_mem_nil, or_false] at hx
  rcases hx with rfl
  ·have h := h.2 hpc
   obtain ⟨z0, z1⟩ := h
   match j, hj with
   | 0, hj => cases hj; exact z0
   | 1, hj => cases hj; exact z1
   | _ + 2, hj => cases hj
def HX : G := ⟨21, [⟨20, .iteB, [V 8, V 8, V 7]⟩, ⟨19, .iteA, [V 8, V 12, V 6]⟩, ⟨18, .iteI, [V 8, V 16, N (-1)]⟩, ⟨17, .not, [V 8]⟩, ⟨16, (.pix 0 1), [V 12, N 1]⟩, ⟨15, .imp, [V 8, V 14]⟩, ⟨14, (.cmp .lss), [N 1, V 5]⟩, ⟨13, .imp, [V 8, V 11]⟩, ⟨11, (.call 20), [V 6, V 5]⟩, ⟨10, .imp, [V 8, V 9]⟩, ⟨9, (.cmp .leq), [N 1, V 5]⟩, ⟨8, .not, [V 7]⟩, ⟨7, (.cmp .lss), [V 5, N 2]⟩, ⟨4, (.call 1180), [V 1, V 2, V 3, N 0, N 0, V 0, .e]⟩], [V 15, V 13, V 10, V 4], []⟩
theorem NM (e : Nat → A) (H : Ai T e HX.defs) (hp : (Day.L1.ok (Day.L1.mk (e 0) (e 1).int)) = true) :
  ((e 15).bool = true ∧ (e 13).bool = true ∧ (e 10).bool = true ∧ (e 4).bool = true) ∧ (Day.JR (Day.L1.mk (e 0) (e 1).int) (Day.Fl.mk (e 2).int (e 3).int) = (e 18).int) := by
 simp only [HX, Ai, Def.q, Cn, L.Al, L.AB, L.A3, L.A9, L.ev, A.Am, A.At, A.AF, A.Bh, List.map_cons, List.map_nil, Nat.zero_add, Nat.add_zero, and_true, true_and, Nat.reduceAdd, Nat.one_mul] at H
 simp only [F6, GR, FC, Br, Hg, Hi, CC, IP, and_true, true_and] at H
 obtain ⟨q20, q19, ⟨q18, -⟩, q17, q16, q15, q14, q13, q11, q10, q9, q8, q7, q4⟩ := H
 replace q11 := LF q11
 obtain ⟨q11, q12⟩ := q11
 replace q4 := Ul q4
 obtain ⟨q4, q5, q6⟩ := q4
 simp only [L.Al, L.AB, L.A3, L.A9, L.ev, A.Am, A.At, A.AF] at q11 q12 q4 q5 q6
 generalize e 0 = x0, (e 1).int = x1, (e 2).int = x2, (e 3).int = x3, (e 4).bool = v4, (e 5).int = v5, e 6 = v6, (e 7).bool = v7, (e 8).bool = v8, (e 9).bool = v9, (e 10).bool = v10, (e 11).bool = v11, e 12 = v12, (e 13).bool = v13, (e 14).bool = v14, (e 15).bool = v15, (e 17).bool = v17, (e 18).int = v18, e 19 = v19, (e 20).bool = v20 at *
 replace q16 := congrArg A.int q16
 generalize (e 16).int = v16 at *
 obtain ⟨m1, m2, m3⟩ := Day.VI hp q5 q6
 have ha := Day.Gx hp
 have ho : Day.E1 ⟨A.l [], 0⟩ 0 = true := by rfl
 have h16 : v16 = (Day.GV (Day.EB ⟨x0, x1⟩ ⟨x2, x3⟩)).getD 1 0 := by rw [q16, q12]; exact m3
 unfold Day.JR
 rw [← h16]
 rw [m1] at q11
 rw [ha, ho] at q4
 clear q16 q12 q19 q5 q6 h16 m3 m1
 by_cases h : v5 < 2
 ·have hl : (Day.EB ⟨x0, x1⟩ ⟨x2, x3⟩).length < 2 := by omega
  rw [if_pos hl]
  clear m2
  subst_vars
  simp [h]
 ·have hl : ¬ (Day.EB ⟨x0, x1⟩ ⟨x2, x3⟩).length < 2 := by omega
  rw [if_neg hl]
  have h1 : 1 ≤ v5 := by omega
  have h2 : 1 < v5 := by omega
  clear m2
  subst_vars
  simp [h, h1, h2]
end Rx.S
