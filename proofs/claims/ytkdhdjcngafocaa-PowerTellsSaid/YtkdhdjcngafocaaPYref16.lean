import Derived.Test.YtkdhdjcngafocaaPXc
import Derived.Test.YtkdhdjcngafocaaPXt
set_option linter.unusedVariables false
set_option linter.unusedSimpArgs false
namespace Rx.S
open Go Rx
set_option maxRecDepth 100000
set_option maxHeartbeats 1000000
def Jm : G := ⟨13, [⟨12, .iteB, [V 6, V 11, B false]⟩, ⟨11, (.cmp .leq), [V 10, V 3]⟩, ⟨10, (.pix 0 1), [V 0, V 2]⟩, ⟨9, .imp, [V 6, V 8]⟩, ⟨8, .and, [V 7, V 5]⟩, ⟨7, (.cmp .leq), [N 0, V 2]⟩, ⟨6, .iteB, [V 4, V 5, B false]⟩, ⟨5, (.cmp .lss), [V 2, V 1]⟩, ⟨4, (.cmp .geq), [V 2, N 0]⟩], [V 9], []⟩
theorem Ol (e : Nat → A) (H : Ai T e Jm.defs) (hp : (Day.L1.ok (Day.L1.mk (e 0) (e 1).int)) = true) :
  ((e 9).bool = true) ∧ (Day.Og (Day.L1.mk (e 0) (e 1).int) (e 2).int (e 3).int = (e 12).bool) := by
 simp only [Jm, Ai, Def.q, Cn, L.Al, L.AB, L.A3, L.A9, L.ev, A.Am, A.At, A.AF, A.Bh, List.map_cons, List.map_nil, Nat.zero_add, Nat.add_zero, and_true, true_and, Nat.reduceAdd, Nat.one_mul] at H
 simp only [F6, GR, FC, Br, Hg, Hi, CC, IP, and_true, true_and] at H
 obtain ⟨q12, q11, q10, q9, q8, q7, q6, q5, q4⟩ := H
 generalize e 0 = x0, (e 1).int = x1, (e 2).int = x2, (e 3).int = x3, (e 4).bool = v4, (e 5).bool = v5, (e 6).bool = v6, (e 7).bool = v7, (e 8).bool = v8, (e 9).bool = v9, (e 11).bool = v11, (e 12).bool = v12 at *
 replace q10 := congrArg A.int q10
 generalize (e 10).int = v10 at *
 have hk : Day.L1.k ⟨x0, x1⟩ x2 = v10 := by rw [q10]; rfl
 simp only [Day.Og, hk]
 clear q10 hk
 grind
def Fp : G := ⟨17, [⟨16, .iteB, [V 7, V 7, V 6]⟩, ⟨15, .iteI, [V 7, V 13, N (-1)]⟩, ⟨14, .not, [V 7]⟩, ⟨13, (.ar .sub .i64), [V 3, V 12]⟩, ⟨12, (.pix 0 1), [V 0, V 2]⟩, ⟨11, .imp, [V 7, V 10]⟩, ⟨10, .and, [V 8, V 9]⟩, ⟨9, (.cmp .lss), [V 2, V 1]⟩, ⟨8, (.cmp .leq), [N 0, V 2]⟩, ⟨7, .not, [V 6]⟩, ⟨6, .not, [V 5]⟩, ⟨4, (.call 15), [V 0, V 1, V 2, V 3]⟩], [V 11, V 4], []⟩
theorem KX (e : Nat → A) (H : Ai T e Fp.defs) (hp : (Day.L1.ok (Day.L1.mk (e 0) (e 1).int) && (Day.Fk (Day.L1.mk (e 0) (e 1).int) && Day.i64 (e 3).int)) = true) :
  ((e 11).bool = true ∧ (e 4).bool = true) ∧ (Day.C6 (Day.L1.mk (e 0) (e 1).int) (e 2).int (e 3).int = (e 15).int) := by
 simp only [Fp, Ai, Def.q, Cn, L.Al, L.AB, L.A3, L.A9, L.ev, A.Am, A.At, A.AF, A.Bh, List.map_cons, List.map_nil, Nat.zero_add, Nat.add_zero, and_true, true_and, Nat.reduceAdd, Nat.one_mul] at H
 simp only [F6, GR, FC, Br, Hg, Hi, CC, IP, and_true, true_and] at H
 obtain ⟨q16, ⟨q15, -⟩, q14, ⟨q13, -⟩, q12, q11, q10, q9, q8, q7, q6, q4⟩ := H
 replace q4 := Gz q4
 obtain ⟨q4, q5⟩ := q4
 simp only [L.Al, L.AB, L.A3, L.A9, L.ev, A.Am, A.At, A.AF] at q4 q5
 generalize e 0 = x0, (e 1).int = x1, (e 2).int = x2, (e 3).int = x3, (e 4).bool = v4, (e 5).bool = v5, (e 6).bool = v6, (e 7).bool = v7, (e 8).bool = v8, (e 9).bool = v9, (e 10).bool = v10, (e 11).bool = v11, (e 13).int = v13, (e 14).bool = v14, (e 15).int = v15, (e 16).bool = v16 at *
 replace q12 := congrArg A.int q12
 generalize (e 12).int = v12 at *
 simp only [Bool.and_eq_true] at hp
 obtain ⟨hk, ha, ht⟩ := hp
 have hv : Day.L1.k ⟨x0, x1⟩ x2 = v12 := by rw [q12]; rfl
 cases hon : Day.Og ⟨x0, x1⟩ x2 x3 with
 | false =>
  rw [hon] at q5
  clear q12 q13
  subst_vars
  simp [Day.C6, hon, hk]
 | true =>
  have hw := Day.Rm hk ha ht hon
  obtain ⟨b1, b2, b3⟩ := Day.Pl hon
  have b2 : x2 < x1 := b2
  rw [hv] at hw
  rw [hw] at q13
  rw [hon] at q5
  clear q12
  subst_vars
  simp [Day.C6, hon, hk, b1, b2]
def GF : Lp := ⟨14, [false, true, false, true], 1140, 4, 2, 1, ⟨Nn 32 [(0, .pv (.one (.k (.int .i64 (V 0))))), (1, .pv (.one (.k (.fsl 0 (V 1))))), (4, .pv (.one (.k (.bool (B false))))), (5, .pv (.one (.k (.int .i64 (V 2)))))], [⟨false, 0, 0, [], some ⟨false, 0, [.int .i64], V 3, V 1⟩⟩], B true⟩, [(.ret, ⟨Nn 32 [(0, .pv (.one (.k (.int .i64 (V 0))))), (1, .pv (.one (.k (.fsl 0 (V 1))))), (4, .pv (.one (.k (.bool (B false)))))], [⟨false, 0, 0, [], some ⟨false, 0, [.int .i64], V 3, V 1⟩⟩], V 4⟩), (.exit 0, ⟨Nn 32 [(0, .pv (.one (.k (.int .i64 (V 0))))), (1, .pv (.one (.k (.fsl 0 (V 1))))), (4, .pv (.one (.k (.bool (B false)))))], [⟨false, 0, 0, [], some ⟨false, 0, [.int .i64], V 3, V 1⟩⟩], V 5⟩)], [true, true, false, true], [.b, .b]⟩
def J4 : G := ⟨26, [⟨25, .and, [V 4, V 23]⟩, ⟨24, .and, [V 4, V 20]⟩, ⟨23, .and, [V 22, V 19]⟩, ⟨22, .not, [V 20]⟩, ⟨21, (.ar .add .i64), [V 2, N 1]⟩, ⟨20, .and, [V 16, V 18]⟩, ⟨19, .and, [V 15, V 17]⟩, ⟨18, .and, [V 4, V 16]⟩, ⟨17, .and, [V 4, V 15]⟩, ⟨16, .not, [V 15]⟩, ⟨15, .iteB, [V 10, B true, V 14]⟩, ⟨14, (.cmp .gtr), [V 9, N 2000]⟩, ⟨13, .imp, [V 12, V 7]⟩, ⟨12, .and, [V 4, V 11]⟩, ⟨11, .not, [V 10]⟩, ⟨10, (.cmp .lss), [V 9, N 0]⟩, ⟨9, (.pix 0 1), [V 3, V 2]⟩, ⟨8, .imp, [V 4, V 7]⟩, ⟨7, .and, [V 6, V 4]⟩, ⟨6, (.cmp .leq), [N 0, V 2]⟩, ⟨5, .not, [V 4]⟩, ⟨4, (.cmp .lss), [V 2, V 1]⟩], [V 13, V 8], []⟩
def Sq (al : List A) : Nat := (Day.L1.n (Day.L1.mk (ge al 3) (gi al 1)) - (gi al 2)).toNat
theorem Rt (e : Nat → A) (H : Ai T e J4.defs) (hp : (Day.L1.at (Day.L1.mk (e 3) (e 1).int) (e 2).int) = true) :
  ((e 13).bool = true ∧ (e 8).bool = true) ∧ ((e 24).bool = true → (Day.L1.at (Day.L1.mk (e 3) (e 1).int) (e 21).int) = true ∧ (Day.AU (Day.L1.mk (e 3) (e 1).int) (e 21).int = Day.AU (Day.L1.mk (e 3) (e 1).int) (e 2).int ∧ Day.AQ (Day.L1.mk (e 3) (e 1).int) (e 21).int = Day.AQ (Day.L1.mk (e 3) (e 1).int) (e 2).int) ∧ (Day.L1.n (Day.L1.mk (e 3) (e 1).int) - (e 21).int).toNat < (Day.L1.n (Day.L1.mk (e 3) (e 1).int) - (e 2).int).toNat) ∧ ((e 25).bool = true → true = Day.AU (Day.L1.mk (e 3) (e 1).int) (e 2).int) ∧ ((e 5).bool = true → true = Day.AQ (Day.L1.mk (e 3) (e 1).int) (e 2).int) := by
 simp only [J4, Ai, Def.q, Cn, L.Al, L.AB, L.A3, L.A9, L.ev, A.Am, A.At, A.AF, A.Bh, List.map_cons, List.map_nil, Nat.zero_add, Nat.add_zero, and_true, true_and, Nat.reduceAdd, Nat.one_mul] at H
 simp only [F6, GR, FC, Br, Hg, Hi, CC, IP, and_true, true_and] at H
 obtain ⟨q25, q24, q23, q22, ⟨q21, -⟩, q20, q19, q18, q17, q16, q15, q14, q13, q12, q11, q10, q9, q8, q7, q6, q5, q4⟩ := H
 generalize (e 0).int = x0, (e 1).int = x1, (e 2).int = x2, e 3 = x3, (e 4).bool = v4, (e 5).bool = v5, (e 6).bool = v6, (e 7).bool = v7, (e 8).bool = v8, (e 10).bool = v10, (e 11).bool = v11, (e 12).bool = v12, (e 13).bool = v13, (e 14).bool = v14, (e 15).bool = v15, (e 16).bool = v16, (e 17).bool = v17, (e 18).bool = v18, (e 19).bool = v19, (e 20).bool = v20, (e 21).int = v21, (e 22).bool = v22, (e 23).bool = v23, (e 24).bool = v24, (e 25).bool = v25 at *
 replace q9 := congrArg A.int q9
 generalize (e 9).int = v9 at *
 by_cases h : x2 < x1
 ·obtain ⟨j1, j2⟩ := Day.Gw hp h q21
  have s1 := Day.Np hp h
  have s2 := Day.Nq hp h
  have hk : Day.L1.k ⟨x3, x1⟩ x2 = v9 := by rw [q9]; rfl
  have h0 : 0 ≤ x2 := (Day.L1.B3.1 hp).2.1
  rw [hk] at s1 s2
  have hm : (x1 - (x2 + 1)).toNat < (x1 - x2).toNat := by omega
  have tn := Day.Rl q10 q14 q15
  clear q15
  clear q14
  clear q21 q9 hk
  subst j1
  simp only [Day.AU, s1, s2]
  generalize Day.AQ ⟨x3, x1⟩ (x2 + 1) = af at *
  generalize Day.FY ⟨x3, x1⟩ (x2 + 1) = ba at *
  clear s1 s2
  generalize Day.CQ v9 = tk at *
  cases tk <;> subst_vars <;> simp [h, h0, j2, hm]
 ·have s1 := Day.Qj hp h
  simp only [Day.AU, s1]
  clear q21 q9
  subst_vars
  simp [h]
theorem Sr (as : List A) (e : Nat → A) (h1 : as = (List.range 4).map e) (h2 : (HK as).1 = true) (H : Ai T e J4.defs) : C3 e J4.obs ∧
   (∀ pc ls, some (V 24, [V 0, V 1, V 21, V 3]) = some (pc, ls) → (pc.ev e).bool = true → (HK (ls.map (L.ev e))).1 = true ∧ (HK (ls.map (L.ev e))).2 = (HK as).2 ∧ Sq (ls.map (L.ev e)) < Sq as) ∧
   ∀ x ∈ ([(V 25, [some (B true), none]), (V 5, [none, some (B true)])] : List (L × List (Option L))), (x.1.ev e).bool = true → ∀ (j : Nat) l, x.2[j]? = some (some l) → Gr (GF.tags.getD j .any) (l.ev e) ((HK as).2.getD j (.i 0)) := by
 subst h1
 obtain ⟨ho, h⟩ := Rt e H h2
 refine ⟨⟨ho.1, ho.2, trivial⟩, fun pc ls hb hpc => ?_, ?_⟩
 ·injection hb with hb
  injection hb with h3 h4
  subst h3 h4
  have h := h.1 hpc
  refine ⟨h.1, ?_, h.2.2⟩
  have h5 := h.2.1
  obtain ⟨z0, z1⟩ := h5
  exact (HS z0 (HS z1 rfl))
 ·intro x hx hpc j l hj
  simp only [List.mem_cons, List.not_mem_nil, or_false] at hx
  rcases hx with rfl | rfl
  ·have h := h.2.1 hpc
   have z0 := h
   match j, hj with
   | 0, hj => cases hj; exact z0
   | 1, hj => cases hj
   | _ + 2, hj => cases hj
  ·have h := h.2.2 hpc
   have z1 := h
   match j, hj with
   | 0, hj => cases hj
   | 1, hj => cases hj; exact z1
   | _ + 2, hj => cases hj
def Fs : G := ⟨17, [⟨16, .iteB, [V 5, V 5, V 4]⟩, ⟨15, .iteB, [V 5, V 13, B false]⟩, ⟨14, .not, [V 5]⟩, ⟨13, .iteB, [V 9, V 12, B false]⟩, ⟨12, (.cmp .eql), [V 2, V 0]⟩, ⟨11, .and, [V 5, V 9]⟩, ⟨10, .imp, [V 5, V 8]⟩, ⟨8, (.call 23), [V 0]⟩, ⟨7, .not, [V 6]⟩, ⟨6, .and, [V 4, V 5]⟩, ⟨3, (.call 1140), [V 0, V 2, N 0, V 1]⟩], [V 10, V 7, V 3], []⟩
theorem K2 (e : Nat → A) (H : Ai T e Fs.defs) (hp : (Day.L1.ok (Day.L1.mk (e 1) (e 2).int)) = true) :
  ((e 10).bool = true ∧ (e 7).bool = true ∧ (e 3).bool = true) ∧ (Day.HH (e 0).int (Day.L1.mk (e 1) (e 2).int) = (e 15).bool) := by
 simp only [Fs, Ai, Def.q, Cn, L.Al, L.AB, L.A3, L.A9, L.ev, A.Am, A.At, A.AF, A.Bh, List.map_cons, List.map_nil, Nat.zero_add, Nat.add_zero, and_true, true_and, Nat.reduceAdd, Nat.one_mul] at H
 simp only [F6, GR, FC, Br, Hg, Hi, CC, IP, and_true, true_and] at H
 obtain ⟨q16, q15, q14, q13, q12, q11, q10, q8, q7, q6, q3⟩ := H
 replace q8 := GW q8
 obtain ⟨q8, q9⟩ := q8
 replace q3 := Uh q3
 obtain ⟨q3, q4, q5⟩ := q3
 simp only [L.Al, L.AB, L.A3, L.A9, L.ev, A.Am, A.At, A.AF] at q8 q9 q3 q4 q5
 generalize (e 0).int = x0, e 1 = x1, (e 2).int = x2, (e 3).bool = v3, (e 4).bool = v4, (e 5).bool = v5, (e 6).bool = v6, (e 7).bool = v7, (e 8).bool = v8, (e 9).bool = v9, (e 10).bool = v10, (e 11).bool = v11, (e 12).bool = v12, (e 13).bool = v13, (e 14).bool = v14, (e 15).bool = v15, (e 16).bool = v16 at *
 have ha := Day.Gx hp
 have hz := Day.all_zero ⟨x1, x2⟩
 simp only [Day.AU, hz, ha] at *
 simp only [Day.HH]
 generalize Day.Fk ⟨x1, x2⟩ = al at *
 generalize Day.right x0 = rr at *
 clear hz
 subst_vars
 cases al <;> cases rr <;> by_cases h : x2 = x0 <;> simp_all
def GG : Lp := ⟨16, [false, true, false, true], 1150, 3, 2, 1, ⟨Nn 22 [(0, .pv (.one (.k (.fsl 0 (V 0))))), (2, .pv (.one (.k (.bool (B false))))), (3, .pv (.one (.k (.int .i64 (V 1)))))], [⟨false, 0, 0, [], some ⟨false, 0, [.int .i64], V 2, V 0⟩⟩], B true⟩, [(.ret, ⟨Nn 22 [(2, .pv (.one (.k (.bool (B false)))))], [⟨false, 0, 0, [], some ⟨false, 0, [.int .i64], V 2, V 0⟩⟩], V 3⟩), (.exit 0, ⟨Nn 22 [(2, .pv (.one (.k (.bool (B false)))))], [⟨false, 0, 0, [], some ⟨false, 0, [.int .i64], V 2, V 0⟩⟩], V 4⟩)], [true, false, true], [.b, .b]⟩
def J7 : G := ⟨25, [⟨24, .and, [V 3, V 22]⟩, ⟨23, .and, [V 3, V 19]⟩, ⟨22, .and, [V 21, V 18]⟩, ⟨21, .not, [V 19]⟩, ⟨20, (.ar .add .i64), [V 1, N 1]⟩, ⟨19, .and, [V 15, V 17]⟩, ⟨18, .and, [V 14, V 16]⟩, ⟨17, .and, [V 3, V 15]⟩, ⟨16, .and, [V 3, V 14]⟩, ⟨15, .not, [V 14]⟩, ⟨14, .iteB, [V 9, B true, V 13]⟩, ⟨13, (.cmp .gtr), [V 8, N 2000]⟩, ⟨12, .imp, [V 11, V 6]⟩, ⟨11, .and, [V 3, V 10]⟩, ⟨10, .not, [V 9]⟩, ⟨9, (.cmp .lss), [V 8, N 0]⟩, ⟨8, (.pix 0 1), [V 2, V 1]⟩, ⟨7, .imp, [V 3, V 6]⟩, ⟨6, .and, [V 5, V 3]⟩, ⟨5, (.cmp .leq), [N 0, V 1]⟩, ⟨4, .not, [V 3]⟩, ⟨3, (.cmp .lss), [V 1, V 0]⟩], [V 12, V 7], []⟩
def Ss (al : List A) : Nat := (Day.L1.n (Day.L1.mk (ge al 2) (gi al 0)) - (gi al 1)).toNat
theorem Ru (e : Nat → A) (H : Ai T e J7.defs) (hp : (Day.L1.at (Day.L1.mk (e 2) (e 0).int) (e 1).int) = true) :
  ((e 12).bool = true ∧ (e 7).bool = true) ∧ ((e 23).bool = true → (Day.L1.at (Day.L1.mk (e 2) (e 0).int) (e 20).int) = true ∧ (Day.AU (Day.L1.mk (e 2) (e 0).int) (e 20).int = Day.AU (Day.L1.mk (e 2) (e 0).int) (e 1).int ∧ Day.AQ (Day.L1.mk (e 2) (e 0).int) (e 20).int = Day.AQ (Day.L1.mk (e 2) (e 0).int) (e 1).int) ∧ (Day.L1.n (Day.L1.mk (e 2) (e 0).int) - (e 20).int).toNat < (Day.L1.n (Day.L1.mk (e 2) (e 0).int) - (e 1).int).toNat) ∧ ((e 24).bool = true → true = Day.AU (Day.L1.mk (e 2) (e 0).int) (e 1).int) ∧ ((e 4).bool = true → true = Day.AQ (Day.L1.mk (e 2) (e 0).int) (e 1).int) := by
 simp only [J7, Ai, Def.q, Cn, L.Al, L.AB, L.A3, L.A9, L.ev, A.Am, A.At, A.AF, A.Bh, List.map_cons, List.map_nil, Nat.zero_add, Nat.add_zero, and_true, true_and, Nat.reduceAdd, Nat.one_mul] at H
 simp only [F6, GR, FC, Br, Hg, Hi, CC, IP, and_true, true_and] at H
 obtain ⟨q24, q23, q22, q21, ⟨q20, -⟩, q19, q18, q17, q16, q15, q14, q13, q12, q11, q10, q9, q8, q7, q6, q5, q4, q3⟩ := H
 generalize (e 0).int = x0, (e 1).int = x1, e 2 = x2, (e 3).bool = v3, (e 4).bool = v4, (e 5).bool = v5, (e 6).bool = v6, (e 7).bool = v7, (e 9).bool = v9, (e 10).bool = v10, (e 11).bool = v11, (e 12).bool = v12, (e 13).bool = v13, (e 14).bool = v14, (e 15).bool = v15, (e 16).bool = v16, (e 17).bool = v17, (e 18).bool = v18, (e 19).bool = v19, (e 20).int = v20, (e 21).bool = v21, (e 22).bool = v22, (e 23).bool = v23, (e 24).bool = v24 at *
 replace q8 := congrArg A.int q8
 generalize (e 8).int = v8 at *
 by_cases h : x1 < x0
 ·obtain ⟨j1, j2⟩ := Day.Gw hp h q20
  have s1 := Day.Np hp h
  have s2 := Day.Nq hp h
  have hk : Day.L1.k ⟨x2, x0⟩ x1 = v8 := by rw [q8]; rfl
  have h0 : 0 ≤ x1 := (Day.L1.B3.1 hp).2.1
  rw [hk] at s1 s2
  have hm : (x0 - (x1 + 1)).toNat < (x0 - x1).toNat := by omega
  have tn := Day.Rl q9 q13 q14
  clear q14
  clear q13
  clear q20 q8 hk
  subst j1
  simp only [Day.AU, s1, s2]
  generalize Day.AQ ⟨x2, x0⟩ (x1 + 1) = af at *
  generalize Day.FY ⟨x2, x0⟩ (x1 + 1) = ba at *
  clear s1 s2
  generalize Day.CQ v8 = tk at *
  cases tk <;> subst_vars <;> simp [h, h0, j2, hm]
 ·have s1 := Day.Qj hp h
  simp only [Day.AU, s1]
  clear q20 q8
  subst_vars
  simp [h]
theorem Su (as : List A) (e : Nat → A) (h1 : as = (List.range 3).map e) (h2 : (HL as).1 = true) (H : Ai T e J7.defs) : C3 e J7.obs ∧
   (∀ pc ls, some (V 23, [V 0, V 20, V 2]) = some (pc, ls) → (pc.ev e).bool = true → (HL (ls.map (L.ev e))).1 = true ∧ (HL (ls.map (L.ev e))).2 = (HL as).2 ∧ Ss (ls.map (L.ev e)) < Ss as) ∧
   ∀ x ∈ ([(V 24, [some (B true), none]), (V 4, [none, some (B true)])] : List (L × List (Option L))), (x.1.ev e).bool = true → ∀ (j : Nat) l, x.2[j]? = some (some l) → Gr (GG.tags.getD j .any) (l.ev e) ((HL as).2.getD j (.i 0)) := by
 subst h1
 obtain ⟨ho, h⟩ := Ru e H h2
 refine ⟨⟨ho.1, ho.2, trivial⟩, fun pc ls hb hpc => ?_, ?_⟩
 ·injection hb with hb
  injection hb with h3 h4
  subst h3 h4
  have h := h.1 hpc
  refine ⟨h.1, ?_, h.2.2⟩
  have h5 := h.2.1
  obtain ⟨z0, z1⟩ := h5
  exact (HS z0 (HS z1 rfl))
 ·intro x hx hpc j l hj
  simp only [List.mem_cons, List.not_mem_nil, or_false] at hx
  rcases hx with rfl | rfl
  ·have h := h.2.1 hpc
   have z0 := h
   match j, hj with
   | 0, hj => cases hj; exact z0
   | 1, hj => cases hj
   | _ + 2, hj => cases hj
  ·have h := h.2.2 hpc
   have z1 := h
   match j, hj with
   | 0, hj => cases hj
   | 1, hj => cases hj; exact z1
   | _ + 2, hj => cases hj
def EE : G := ⟨10, [⟨9, .iteB, [V 4, V 4, V 3]⟩, ⟨8, .iteB, [V 4, B true, B false]⟩, ⟨7, .not, [V 4]⟩, ⟨6, .not, [V 5]⟩, ⟨5, .and, [V 3, V 4]⟩, ⟨2, (.call 1150), [V 1, N 0, V 0]⟩], [V 6, V 2], []⟩
theorem J8 (e : Nat → A) (H : Ai T e EE.defs) (hp : (Day.L1.ok (Day.L1.mk (e 0) (e 1).int)) = true) :
  ((e 6).bool = true ∧ (e 2).bool = true) ∧ (Day.Fk (Day.L1.mk (e 0) (e 1).int) = (e 8).bool) := by
 simp only [EE, Ai, Def.q, Cn, L.Al, L.AB, L.A3, L.A9, L.ev, A.Am, A.At, A.AF, A.Bh, List.map_cons, List.map_nil, Nat.zero_add, Nat.add_zero, and_true, true_and, Nat.reduceAdd, Nat.one_mul] at H
 simp only [F6, GR, FC, Br, Hg, Hi, CC, IP, and_true, true_and] at H
 obtain ⟨q9, q8, q7, q6, q5, q2⟩ := H
 replace q2 := Ui q2
 obtain ⟨q2, q3, q4⟩ := q2
 simp only [L.Al, L.AB, L.A3, L.A9, L.ev, A.Am, A.At, A.AF] at q2 q3 q4
 generalize e 0 = x0, (e 1).int = x1, (e 2).bool = v2, (e 3).bool = v3, (e 4).bool = v4, (e 5).bool = v5, (e 6).bool = v6, (e 7).bool = v7, (e 8).bool = v8, (e 9).bool = v9 at *
 have ha := Day.Gx hp
 have hz := Day.all_zero ⟨x0, x1⟩
 simp only [Day.AU, hz, ha] at *
 generalize Day.Fk ⟨x0, x1⟩ = al at *
 clear hz
 subst_vars
 cases al <;> simp
def GI : Lp := ⟨11, [false, true, false, true, true, true], 1170, 7, 1, 2, ⟨Nn 33 [(0, .pv (.one (.k (.int .i64 (V 0))))), (1, .pv (.one (.k (.fsl 0 (V 1))))), (4, .pv (.one (.k (.nilslc)))), (5, .pv (.one (.k (.int .i64 (N 0))))), (6, .pv (.one (.k (.lsl 1 (V 0))))), (7, .pv (.one (.k (.int .i64 (V 2))))), (8, .pv (.one (.k (.int .i64 (V 0))))), (9, .pv (.one (.k (.bool (V 3))))), (10, .pv (.one (.k (.bool (V 4))))), (11, .pv (.one (.k (.int .i64 (V 0))))), (12, .pv (.one (.k (.lsl 1 (V 0)))))], [⟨false, 0, 0, [], some ⟨false, 0, [.int .i64], V 5, V 1⟩⟩, ⟨false, 0, 0, [], some ⟨true, 3, [.int .i64], V 6, V 0⟩⟩], B true⟩, [(.exit 0, ⟨Nn 33 [(0, .pv (.one (.k (.int .i64 (V 0))))), (4, .pv (.one (.k (.nilslc)))), (5, .pv (.one (.k (.int .i64 (N 0))))), (6, .pv (.one (.k (.lsl 1 (V 0))))), (8, .pv (.one (.k (.int .i64 (V 0))))), (9, .pv (.one (.k (.bool (V 3))))), (10, .pv (.one (.k (.bool (V 4))))), (11, .pv (.one (.k (.int .i64 (V 0))))), (12, .pv (.one (.k (.lsl 1 (V 0)))))], [⟨false, 0, 0, [], some ⟨false, 0, [.int .i64], V 5, V 1⟩⟩, ⟨false, 0, 0, [], some ⟨true, 3, [.int .i64], V 7, V 0⟩⟩], B true⟩)], [true, true, false, true, true, true, false], [.any]⟩
def Kc : G := ⟨22, [⟨21, (.ar .add .i64), [V 2, N 1]⟩, ⟨20, (.pset 0 1), [V 6, V 2, V 16]⟩, ⟨19, .imp, [V 9, V 18]⟩, ⟨18, .and, [V 11, V 7]⟩, ⟨17, .imp, [V 9, V 15]⟩, ⟨15, (.call 24), [V 14, N 0, N 2000]⟩, ⟨14, (.pix 0 1), [V 5, V 2]⟩, ⟨13, .imp, [V 9, V 12]⟩, ⟨12, .and, [V 11, V 8]⟩, ⟨11, (.cmp .leq), [N 0, V 2]⟩, ⟨10, .not, [V 9]⟩, ⟨9, .iteB, [V 7, V 8, B false]⟩, ⟨8, (.cmp .lss), [V 2, V 1]⟩, ⟨7, (.cmp .lss), [V 2, V 0]⟩], [V 19, V 17, V 13], []⟩
def Sx (al : List A) : Nat := (Day.Fm (gi al 0) (Day.L1.n (Day.L1.mk (ge al 5) (gi al 1))) - (gi al 2)).toNat
theorem Rw (e : Nat → A) (H : Ai T e Kc.defs) (hp : (Day.CR (e 2).int (e 0).int && (Day.He (e 6) (e 0).int && Day.L1.ok (Day.L1.mk (e 5) (e 1).int))) = true) :
  ((e 19).bool = true ∧ (e 17).bool = true ∧ (e 13).bool = true) ∧ ((e 9).bool = true → (Day.CR (e 21).int (e 0).int && (Day.He (e 20) (e 0).int && Day.L1.ok (Day.L1.mk (e 5) (e 1).int))) = true ∧ (Day.JU (Day.L1.mk (e 5) (e 1).int) (e 20) (Day.Fm (e 0).int (Day.L1.n (Day.L1.mk (e 5) (e 1).int)) - (e 21).int).toNat (e 21).int.toNat = Day.JU (Day.L1.mk (e 5) (e 1).int) (e 6) (Day.Fm (e 0).int (Day.L1.n (Day.L1.mk (e 5) (e 1).int)) - (e 2).int).toNat (e 2).int.toNat) ∧ (Day.Fm (e 0).int (Day.L1.n (Day.L1.mk (e 5) (e 1).int)) - (e 21).int).toNat < (Day.Fm (e 0).int (Day.L1.n (Day.L1.mk (e 5) (e 1).int)) - (e 2).int).toNat) ∧ ((e 10).bool = true → (e 6) = Day.JU (Day.L1.mk (e 5) (e 1).int) (e 6) (Day.Fm (e 0).int (Day.L1.n (Day.L1.mk (e 5) (e 1).int)) - (e 2).int).toNat (e 2).int.toNat) := by
 simp only [Kc, Ai, Def.q, Cn, L.Al, L.AB, L.A3, L.A9, L.ev, A.Am, A.At, A.AF, A.Bh, List.map_cons, List.map_nil, Nat.zero_add, Nat.add_zero, and_true, true_and, Nat.reduceAdd, Nat.one_mul] at H
 simp only [F6, GR, FC, Br, Hg, Hi, CC, IP, and_true, true_and] at H
 obtain ⟨⟨q21, -⟩, q20, q19, q18, q17, q15, q14, q13, q12, q11, q10, q9, q8, q7⟩ := H
 obtain k16 := KT q15
 unfold V7 at k16
 replace q15 := LD q15
 obtain ⟨q15, q16⟩ := q15
 simp only [L.Al, L.AB, L.A3, L.A9, L.ev, A.Am, A.At, A.AF] at q15 q16
 generalize (e 0).int = x0, (e 1).int = x1, (e 2).int = x2, (e 3).int = x3, (e 4).int = x4, e 5 = x5, e 6 = x6, (e 7).bool = v7, (e 8).bool = v8, (e 9).bool = v9, (e 10).bool = v10, (e 11).bool = v11, (e 12).bool = v12, (e 13).bool = v13, (e 15).bool = v15, (e 16).int = v16, (e 17).bool = v17, (e 18).bool = v18, (e 19).bool = v19, e 20 = v20, (e 21).int = v21 at *
 rw [k16] at q20
 replace q14 := congrArg A.int q14
 generalize (e 14).int = v14 at *
 simp only [Bool.and_eq_true] at hp
 obtain ⟨hu, hl, hk⟩ := hp
 by_cases h : x2 < x0 ∧ x2 < x1
 ·obtain ⟨s1, s2, s3, s4, s5⟩ := Day.Ua (l := ⟨x5, x1⟩) hu hl h (y := v20) (by rw [q20, q16, q14]; rfl)
  have h0 : 0 ≤ x2 := by
   simp only [Day.CR, Bool.and_eq_true, decide_eq_true_eq] at hu
   exact hu.1
  rw [s5] at q21
  clear q20 k16 q16 q14
  subst_vars
  simp [h.1, h.2, h0, s1, s2, s3, s4, hk]
 ·have e1 := Day.VF (l := ⟨x5, x1⟩) (x := x6) h
  clear q20 k16 q16 q14 q21
  have e9 : v9 = false := by
   rw [q9, q8, q7]
   by_cases a : x2 < x0
   ·have b : ¬ x2 < x1 := fun b => h ⟨a, b⟩
    simp [a, b]
   ·simp [a]
  rw [e1]
  clear q9
  subst_vars
  simp
theorem Sy (as : List A) (e : Nat → A) (h1 : as = (List.range 7).map e) (h2 : (HN as).1 = true) (H : Ai T e Kc.defs) : C3 e Kc.obs ∧
   (∀ pc ls, some (V 9, [V 0, V 1, V 21, V 3, V 4, V 5, V 20]) = some (pc, ls) → (pc.ev e).bool = true → (HN (ls.map (L.ev e))).1 = true ∧ (HN (ls.map (L.ev e))).2 = (HN as).2 ∧ Sx (ls.map (L.ev e)) < Sx as) ∧
   ∀ x ∈ ([(V 10, [some (V 6)])] : List (L × List (Option L))), (x.1.ev e).bool = true → ∀ (j : Nat) l, x.2[j]? = some (some l) → Gr (GI.tags.getD j .any) (l.ev e) ((HN as).2.getD j (.i 0)) := by
 subst h1
 obtain ⟨ho, h⟩ := Rw e H h2
 refine ⟨⟨ho.1, ho.2.1, ho.2.2, trivial⟩, fun pc ls hb hpc => ?_, ?_⟩
 ·injection hb with hb
  injection hb with h3 h4
  subst h3 h4
  have h := h.1 hpc
  refine ⟨h.1, ?_, h.2.2⟩
  have h5 := h.2.1
  have z0 := h5
  exact (V4 z0 rfl)
 ·intro x hx hpc j l hj
  simp only [List.mem_cons, List.not_mem_nil, or_false] at hx
  rcases hx with rfl
  ·have h := h.2 hpc
   have z0 := h
   match j, hj with
   | 0, hj => cases hj; exact z0
   | _ + 1, hj => cases hj
def Fw : G := ⟨20, [⟨19, .iteB, [V 6, V 6, V 5]⟩, ⟨18, .iteA, [V 6, V 13, .e]⟩, ⟨17, .iteI, [V 6, N 0, N 1]⟩, ⟨16, .iteI, [V 6, V 0, N 0]⟩, ⟨15, .not, [V 6]⟩, ⟨14, .imp, [V 6, V 12]⟩, ⟨12, (.call 1170), [V 0, V 2, N 0, V 4, V 5, V 1, V 11]⟩, ⟨11, .rep, [V 0, N 0]⟩, ⟨10, .imp, [V 6, V 9]⟩, ⟨9, .and, [V 7, V 8]⟩, ⟨8, (.cmp .lss), [V 0, N 1000001]⟩, ⟨7, (.cmp .leq), [N 0, V 0]⟩, ⟨6, .not, [V 5]⟩, ⟨5, .not, [V 4]⟩, ⟨3, (.call 23), [V 0]⟩], [V 14, V 10, V 3], []⟩
theorem K8 (e : Nat → A) (H : Ai T e Fw.defs) (hp : (Day.L1.ok (Day.L1.mk (e 1) (e 2).int)) = true) :
  ((e 14).bool = true ∧ (e 10).bool = true ∧ (e 3).bool = true) ∧ (((Day.B1 (e 0).int (Day.L1.mk (e 1) (e 2).int))).x = (e 18) ∧ ((Day.B1 (e 0).int (Day.L1.mk (e 1) (e 2).int))).n = (e 16).int ∧ Day.E0 (e 0).int = (e 17).int) := by
 simp only [Fw, Ai, Def.q, Cn, L.Al, L.AB, L.A3, L.A9, L.ev, A.Am, A.At, A.AF, A.Bh, List.map_cons, List.map_nil, Nat.zero_add, Nat.add_zero, and_true, true_and, Nat.reduceAdd, Nat.one_mul] at H
 simp only [F6, GR, FC, Br, Hg, Hi, CC, IP, and_true, true_and] at H
 obtain ⟨q19, q18, ⟨q17, -⟩, ⟨q16, -⟩, q15, q14, q12, q11, q10, q9, q8, q7, q6, q5, q3⟩ := H
 replace q12 := Uk q12
 obtain ⟨q12, q13⟩ := q12
 replace q3 := GW q3
 obtain ⟨q3, q4⟩ := q3
 simp only [L.Al, L.AB, L.A3, L.A9, L.ev, A.Am, A.At, A.AF] at q12 q13 q3 q4
 generalize (e 0).int = x0, e 1 = x1, (e 2).int = x2, (e 3).bool = v3, (e 4).bool = v4, (e 5).bool = v5, (e 6).bool = v6, (e 7).bool = v7, (e 8).bool = v8, (e 9).bool = v9, (e 10).bool = v10, e 11 = v11, (e 12).bool = v12, e 13 = v13, (e 14).bool = v14, (e 15).bool = v15, (e 16).int = v16, (e 17).int = v17, e 18 = v18, (e 19).bool = v19 at *
 simp only [Day.B1, Day.E0]
 cases hr : Day.right x0 with
 | false =>
  rw [hr] at q4
  clear q13 q11
  subst_vars
  simp
 | true =>
  have hn : 3 ≤ x0 ∧ x0 ≤ 8 := by simpa [Day.right] using hr
  obtain ⟨c1, c2⟩ := Day.WB hn hp q11
  have e13 : v13 = Day.VC (Day.Gv x0 ⟨x1, x2⟩) := by rw [q13, show (Day.Fm x0 x2 - 0).toNat = (Day.Fm x0 x2).toNat by omega]; exact c2
  have u0 : Day.CR 0 x0 = true := by
   simp only [Day.CR, Bool.and_eq_true, decide_eq_true_eq]
   omega
  have h7 : 0 ≤ x0 := by omega
  have h8 : x0 < 1000001 := by omega
  have h9 : 1 ≤ x0 := by omega
  rw [c1, u0] at q12
  rw [hr] at q4
  clear q13 q11
  subst_vars
  simp [h7, h8, h9, hp]
def E6 : Lp := ⟨18, [false, true, false, true, false, false, true, false, false, true, false, true], 1190, 11, 4, 2, ⟨Nn 33 [(0, .pv (.one (.k (.fsl 0 (V 0))))), (1, .pv (.agg [.k (.int .i64 (V 1)), .k (.int .i64 (V 2))])), (3, .pv (.one (.k (.ptr 1 0)))), (4, .pv (.one (.k (.int .i64 (V 3))))), (5, .pv (.one (.k (.int .i64 (V 4))))), (6, .pv (.one (.k (.int .i64 (V 5))))), (7, .pv (.one (.k (.int .i64 (V 6))))), (8, .pv (.one (.k (.int .i64 (V 4))))), (9, .pv (.one (.k (.bool (V 7)))))], [⟨false, 0, 0, [], some ⟨false, 0, [.int .i64], V 8, V 0⟩⟩, ⟨true, 24, 2, [.k (.int .i64 (V 9)), .k (.int .i64 (V 10))], none⟩], B true⟩, [(.exit 2, ⟨Nn 33 [(0, .pv (.one (.k (.fsl 0 (V 0))))), (1, .pv (.agg [.k (.int .i64 (V 1)), .k (.int .i64 (V 2))])), (3, .pv (.one (.k (.ptr 1 0)))), (4, .pv (.one (.k (.int .i64 (V 3))))), (5, .pv (.one (.k (.int .i64 (V 4))))), (6, .pv (.one (.k (.int .i64 (V 11))))), (7, .pv (.one (.k (.int .i64 (V 12))))), (8, .pv (.one (.k (.int .i64 (V 4))))), (9, .pv (.one (.k (.bool (V 7))))), (12, .pv (.one (.k (.int .i64 (V 13))))), (13, .pv (.one (.k (.fsl 0 (V 0))))), (14, .pv (.one (.k (.int .i64 (V 0))))), (15, .pv (.one (.k (.bool (V 14)))))], [⟨false, 0, 0, [], some ⟨false, 0, [.int .i64], V 8, V 0⟩⟩, ⟨true, 24, 2, [.k (.int .i64 (V 9)), .k (.int .i64 (V 10))], none⟩], B true⟩)], [true, true, true, true, true, false, false, true, true, true, true], [.i, .i, .i, .b]⟩
def Ki : G := ⟨28, [⟨27, (.ar .add .i64), [V 6, N 1]⟩, ⟨26, .iteI, [V 21, V 25, V 5]⟩, ⟨25, (.ar .add .i64), [V 5, N 1]⟩, ⟨24, .and, [V 11, V 22]⟩, ⟨23, .and, [V 11, V 21]⟩, ⟨22, .not, [V 21]⟩, ⟨21, .iteB, [V 14, V 20, B false]⟩, ⟨20, .not, [V 18]⟩, ⟨19, .imp, [V 16, V 17]⟩, ⟨17, (.call 28), [V 9, V 10, V 6]⟩, ⟨16, .and, [V 11, V 14]⟩, ⟨15, .imp, [V 11, V 13]⟩, ⟨13, (.call 15), [V 8, V 0, V 6, V 4]⟩, ⟨12, .not, [V 11]⟩, ⟨11, (.cmp .lss), [V 6, V 0]⟩], [V 19, V 15], []⟩
def SE (al : List A) : Nat := (Day.L1.n (Day.L1.mk (ge al 8) (gi al 0)) - (gi al 6)).toNat
theorem RC (e : Nat → A) (H : Ai T e Ki.defs) (hp : (Day.L1.at (Day.L1.mk (e 8) (e 0).int) (e 6).int && Day.V8 (e 5).int (e 6).int) = true) :
  ((e 19).bool = true ∧ (e 15).bool = true) ∧ ((e 11).bool = true → (Day.L1.at (Day.L1.mk (e 8) (e 0).int) (e 27).int && Day.V8 (e 26).int (e 27).int) = true ∧ ((e 26).int + Day.F0 (Day.L1.mk (e 8) (e 0).int) (Day.Fl.mk (e 9).int (e 10).int) (e 4).int (e 27).int = (e 5).int + Day.F0 (Day.L1.mk (e 8) (e 0).int) (Day.Fl.mk (e 9).int (e 10).int) (e 4).int (e 6).int ∧ Day.L1.n (Day.L1.mk (e 8) (e 0).int) = Day.L1.n (Day.L1.mk (e 8) (e 0).int) ∧ Day.L1.n (Day.L1.mk (e 8) (e 0).int) = Day.L1.n (Day.L1.mk (e 8) (e 0).int) ∧ Day.no (e 4).int = Day.no (e 4).int) ∧ (Day.L1.n (Day.L1.mk (e 8) (e 0).int) - (e 27).int).toNat < (Day.L1.n (Day.L1.mk (e 8) (e 0).int) - (e 6).int).toNat) ∧ ((e 12).bool = true → (e 5).int = (e 5).int + Day.F0 (Day.L1.mk (e 8) (e 0).int) (Day.Fl.mk (e 9).int (e 10).int) (e 4).int (e 6).int ∧ (e 6).int = Day.L1.n (Day.L1.mk (e 8) (e 0).int) ∧ (e 6).int = Day.L1.n (Day.L1.mk (e 8) (e 0).int) ∧ (e 11).bool = Day.no (e 4).int) := by
 simp only [Ki, Ai, Def.q, Cn, L.Al, L.AB, L.A3, L.A9, L.ev, A.Am, A.At, A.AF, A.Bh, List.map_cons, List.map_nil, Nat.zero_add, Nat.add_zero, and_true, true_and, Nat.reduceAdd, Nat.one_mul] at H
 simp only [F6, GR, FC, Br, Hg, Hi, CC, IP, and_true, true_and] at H
 obtain ⟨⟨q27, -⟩, ⟨q26, -⟩, ⟨q25, -⟩, q24, q23, q22, q21, q20, q19, q17, q16, q15, q13, q12, q11⟩ := H
 replace q17 := NB q17
 obtain ⟨q17, q18⟩ := q17
 replace q13 := Gz q13
 obtain ⟨q13, q14⟩ := q13
 simp only [L.Al, L.AB, L.A3, L.A9, L.ev, A.Am, A.At, A.AF] at q17 q18 q13 q14
 generalize (e 0).int = x0, (e 1).int = x1, (e 2).int = x2, (e 3).int = x3, (e 4).int = x4, (e 5).int = x5, (e 6).int = x6, (e 7).int = x7, e 8 = x8, (e 9).int = x9, (e 10).int = x10, (e 11).bool = v11, (e 12).bool = v12, (e 13).bool = v13, (e 14).bool = v14, (e 15).bool = v15, (e 16).bool = v16, (e 17).bool = v17, (e 18).bool = v18, (e 19).bool = v19, (e 20).bool = v20, (e 21).bool = v21, (e 22).bool = v22, (e 23).bool = v23, (e 24).bool = v24, (e 25).int = v25, (e 26).int = v26, (e 27).int = v27 at *
 simp only [Bool.and_eq_true] at hp
 obtain ⟨ha, hk⟩ := hp
 have h0 : 0 ≤ x6 := (Day.L1.B3.1 ha).2.1
 have hx : x6 ≤ x0 ∧ x0 ≤ 1000 := by
  have := Day.L1.B3.1 ha
  exact ⟨this.2.2, this.1.2⟩
 have hk' : 0 ≤ x5 ∧ x5 ≤ x6 := by simpa [Day.V8] using hk
 have hok : Day.L1.ok ⟨x8, x0⟩ = true := Day.L1.DO.2 (Day.L1.B3.1 ha).1
 by_cases h : x6 < x0
 ·obtain ⟨j1, j2⟩ := Day.Gw ha h q27
  have s1 := Day.VJ (f := ⟨x9, x10⟩) (t := x4) ha h
  rw [Day.Yj (t := x4) ha h] at q14
  have w : v25 = x5 + 1 := by rw [q25]; exact wrap64 (by omega) (by omega)
  have hm : (x0 - (x6 + 1)).toNat < (x0 - x6).toNat := by omega
  rw [s1]
  clear q27 q25 s1
  subst j1 w
  generalize decide (Day.L1.k ⟨x8, x0⟩ x6 ≤ x4) = b1 at *
  generalize Day.isNode ⟨x9, x10⟩ x6 = b2 at *
  generalize Day.F0 ⟨x8, x0⟩ ⟨x9, x10⟩ x4 (x6 + 1) = cc at *
  have k1 : Day.V8 (x5 + 1) (x6 + 1) = true := by simp only [Day.V8, Bool.and_eq_true, decide_eq_true_eq]; omega
  have k2 : Day.V8 x5 (x6 + 1) = true := by simp only [Day.V8, Bool.and_eq_true, decide_eq_true_eq]; omega
  have k3 : x5 + 1 + cc = x5 + (1 + cc) := by omega
  cases b1 <;> cases b2 <;> subst_vars <;> simp [h, j2, hm, hok, k1, k2, k3]
 ·have s1 := Day.WE (f := ⟨x9, x10⟩) (t := x4) ha h
  have hn : x6 = x0 := by omega
  clear q27 q25 q26
  rw [s1]
  subst_vars
  simp [hok, Day.no]
theorem SF (as : List A) (e : Nat → A) (h1 : as = (List.range 11).map e) (h2 : (HP as).1 = true) (H : Ai T e Ki.defs) : C3 e Ki.obs ∧
   (∀ pc ls, some (V 11, [V 0, V 1, V 2, V 3, V 4, V 26, V 27, V 7, V 8, V 9, V 10]) = some (pc, ls) → (pc.ev e).bool = true → (HP (ls.map (L.ev e))).1 = true ∧ (HP (ls.map (L.ev e))).2 = (HP as).2 ∧ SE (ls.map (L.ev e)) < SE as) ∧
   ∀ x ∈ ([(V 12, [some (V 5), some (V 6), some (V 6), some (V 11)])] : List (L × List (Option L))), (x.1.ev e).bool = true → ∀ (j : Nat) l, x.2[j]? = some (some l) → Gr (E6.tags.getD j .any) (l.ev e) ((HP as).2.getD j (.i 0)) := by
 subst h1
 obtain ⟨ho, h⟩ := RC e H h2
 refine ⟨⟨ho.1, ho.2, trivial⟩, fun pc ls hb hpc => ?_, ?_⟩
 ·injection hb with hb
  injection hb with h3 h4
  subst h3 h4
  have h := h.1 hpc
  refine ⟨h.1, ?_, h.2.2⟩
  have h5 := h.2.1
  obtain ⟨z0, z1, z2, z3⟩ := h5
  exact (Pn z0 (Pn z1 (Pn z2 (HS z3 rfl))))
 ·intro x hx hpc j l hj
  simp only [List.mem_cons, List.not_mem_nil, or_false] at hx
  rcases hx with rfl
  ·have h := h.2 hpc
   obtain ⟨z0, z1, z2, z3⟩ := h
   match j, hj with
   | 0, hj => cases hj; exact z0
   | 1, hj => cases hj; exact z1
   | 2, hj => cases hj; exact z2
   | 3, hj => cases hj; exact z3
   | _ + 4, hj => cases hj
def GM : Lp := ⟨18, [false, true, false, true], 1191, 5, 3, 2, ⟨Nn 33 [(0, .pv (.one (.k (.fsl 0 (V 0))))), (1, .pv (.agg [.k (.int .i64 (V 1)), .k (.int .i64 (V 2))])), (3, .pv (.one (.k (.ptr 1 0)))), (4, .pv (.one (.k (.int .i64 (N 0))))), (5, .pv (.one (.k (.int .i64 (V 3)))))], [⟨false, 0, 0, [], some ⟨false, 0, [.int .i64], V 4, V 0⟩⟩, ⟨true, 24, 2, [.k (.int .i64 (V 1)), .k (.int .i64 (V 2))], none⟩], B true⟩, [(.ret, ⟨Nn 33 [(1, .pv (.agg [.k (.int .i64 (V 1)), .k (.int .i64 (V 2))])), (4, .pv (.one (.k (.int .i64 (V 5)))))], [⟨false, 0, 0, [], some ⟨false, 0, [.int .i64], V 4, V 0⟩⟩, ⟨true, 24, 2, [.k (.int .i64 (V 1)), .k (.int .i64 (V 2))], none⟩], V 6⟩), (.exit 0, ⟨Nn 33 [(1, .pv (.agg [.k (.int .i64 (V 1)), .k (.int .i64 (V 2))])), (4, .pv (.one (.k (.int .i64 (N 0)))))], [⟨false, 0, 0, [], some ⟨false, 0, [.int .i64], V 4, V 0⟩⟩, ⟨true, 24, 2, [.k (.int .i64 (V 1)), .k (.int .i64 (V 2))], none⟩], V 7⟩)], [true, true, true, false, true], [.i, .b, .b]⟩
def Kj : G := ⟨24, [⟨23, .and, [V 5, V 21]⟩, ⟨22, .and, [V 5, V 18]⟩, ⟨21, .and, [V 20, V 17]⟩, ⟨20, .not, [V 18]⟩, ⟨19, (.ar .add .i64), [V 3, N 1]⟩, ⟨18, .and, [V 14, V 16]⟩, ⟨17, .and, [V 13, V 15]⟩, ⟨16, .and, [V 5, V 14]⟩, ⟨15, .and, [V 5, V 13]⟩, ⟨14, .not, [V 13]⟩, ⟨13, (.cmp .geq), [V 8, N 2]⟩, ⟨12, .imp, [V 5, V 7]⟩, ⟨7, (.call 1190), [V 0, V 1, V 2, N 0, V 3, N 0, N 0, V 5, V 4, V 1, V 2]⟩, ⟨6, .not, [V 5]⟩, ⟨5, (.cmp .leq), [V 3, N 2000]⟩], [V 12], []⟩
def SG (al : List A) : Nat := (2001 - (gi al 3)).toNat
theorem RD (e : Nat → A) (H : Ai T e Kj.defs) (hp : (Day.L1.ok (Day.L1.mk (e 4) (e 0).int) && Day.Xa (e 3).int) = true) :
  ((e 12).bool = true) ∧ ((e 22).bool = true → (Day.L1.ok (Day.L1.mk (e 4) (e 0).int) && Day.Xa (e 19).int) = true ∧ (Day.Oh (Day.L1.mk (e 4) (e 0).int) (Day.Fl.mk (e 1).int (e 2).int) (e 19).int = Day.Oh (Day.L1.mk (e 4) (e 0).int) (Day.Fl.mk (e 1).int (e 2).int) (e 3).int ∧ Day.HI (Day.L1.mk (e 4) (e 0).int) (Day.Fl.mk (e 1).int (e 2).int) (e 19).int = Day.HI (Day.L1.mk (e 4) (e 0).int) (Day.Fl.mk (e 1).int (e 2).int) (e 3).int ∧ Day.W9 (Day.L1.mk (e 4) (e 0).int) (Day.Fl.mk (e 1).int (e 2).int) (e 19).int = Day.W9 (Day.L1.mk (e 4) (e 0).int) (Day.Fl.mk (e 1).int (e 2).int) (e 3).int) ∧ (2001 - (e 19).int).toNat < (2001 - (e 3).int).toNat) ∧ ((e 23).bool = true → (e 3).int = Day.Oh (Day.L1.mk (e 4) (e 0).int) (Day.Fl.mk (e 1).int (e 2).int) (e 3).int ∧ true = Day.HI (Day.L1.mk (e 4) (e 0).int) (Day.Fl.mk (e 1).int (e 2).int) (e 3).int) ∧ ((e 6).bool = true → true = Day.W9 (Day.L1.mk (e 4) (e 0).int) (Day.Fl.mk (e 1).int (e 2).int) (e 3).int) := by
 simp only [Kj, Ai, Def.q, Cn, L.Al, L.AB, L.A3, L.A9, L.ev, A.Am, A.At, A.AF, A.Bh, List.map_cons, List.map_nil, Nat.zero_add, Nat.add_zero, and_true, true_and, Nat.reduceAdd, Nat.one_mul] at H
 simp only [F6, GR, FC, Br, Hg, Hi, CC, IP, and_true, true_and] at H
 obtain ⟨q23, q22, q21, q20, ⟨q19, -⟩, q18, q17, q16, q15, q14, q13, q12, q7, q6, q5⟩ := H
 replace q7 := Um q7
 obtain ⟨q7, q8, q9, q10, q11⟩ := q7
 simp only [L.Al, L.AB, L.A3, L.A9, L.ev, A.Am, A.At, A.AF] at q7 q8 q9 q10 q11
 generalize (e 0).int = x0, (e 1).int = x1, (e 2).int = x2, (e 3).int = x3, e 4 = x4, (e 5).bool = v5, (e 6).bool = v6, (e 7).bool = v7, (e 8).int = v8, (e 9).int = v9, (e 10).int = v10, (e 11).bool = v11, (e 12).bool = v12, (e 13).bool = v13, (e 14).bool = v14, (e 15).bool = v15, (e 16).bool = v16, (e 17).bool = v17, (e 18).bool = v18, (e 19).int = v19, (e 20).bool = v20, (e 21).bool = v21, (e 22).bool = v22, (e 23).bool = v23 at *
 simp only [Bool.and_eq_true] at hp
 obtain ⟨hk, ht⟩ := hp
 have ht' : 0 ≤ x3 ∧ x3 ≤ 2001 := by simpa [Day.Xa] using ht
 have ha := Day.Gx hk
 have hz : Day.V8 0 0 = true := rfl
 rw [ha, hz] at q7
 by_cases h : x3 ≤ 2000
 ·obtain ⟨s1, s2⟩ := Day.VK (l := ⟨x4, x0⟩) (f := ⟨x1, x2⟩) h
  have w : v19 = x3 + 1 := by rw [q19]; exact wrap64 (by omega) (by omega)
  have hb : v13 = Day.LB ⟨x4, x0⟩ ⟨x1, x2⟩ x3 := by rw [q13, q8, Int.zero_add]; rfl
  have hm : (2001 - (x3 + 1)).toNat < (2001 - x3).toNat := by omega
  have k1 : Day.Xa (x3 + 1) = true := by simp only [Day.Xa, Bool.and_eq_true, decide_eq_true_eq]; omega
  simp only [Day.W9, s1, s2]
  clear q19 q13 q8 s1 s2
  subst w
  generalize Day.LB ⟨x4, x0⟩ ⟨x1, x2⟩ x3 = tb at *
  generalize Day.HI ⟨x4, x0⟩ ⟨x1, x2⟩ (x3 + 1) = fb at *
  generalize Day.Oh ⟨x4, x0⟩ ⟨x1, x2⟩ (x3 + 1) = fi at *
  cases tb <;> subst_vars <;> simp [h, hk, hm, k1]
 ·have s1 := Day.WH (l := ⟨x4, x0⟩) (f := ⟨x1, x2⟩) h
  simp only [Day.W9, s1]
  clear q19 q13 q8
  subst_vars
  simp [h]
theorem SH (as : List A) (e : Nat → A) (h1 : as = (List.range 5).map e) (h2 : (HQ as).1 = true) (H : Ai T e Kj.defs) : C3 e Kj.obs ∧
   (∀ pc ls, some (V 22, [V 0, V 1, V 2, V 19, V 4]) = some (pc, ls) → (pc.ev e).bool = true → (HQ (ls.map (L.ev e))).1 = true ∧ (HQ (ls.map (L.ev e))).2 = (HQ as).2 ∧ SG (ls.map (L.ev e)) < SG as) ∧
   ∀ x ∈ ([(V 23, [some (V 3), some (B true), none]), (V 6, [none, none, some (B true)])] : List (L × List (Option L))), (x.1.ev e).bool = true → ∀ (j : Nat) l, x.2[j]? = some (some l) → Gr (GM.tags.getD j .any) (l.ev e) ((HQ as).2.getD j (.i 0)) := by
 subst h1
 obtain ⟨ho, h⟩ := RD e H h2
 refine ⟨⟨ho, trivial⟩, fun pc ls hb hpc => ?_, ?_⟩
 ·injection hb with hb
  injection hb with h3 h4
  subst h3 h4
  have h := h.1 hpc
  refine ⟨h.1, ?_, h.2.2⟩
  have h5 := h.2.1
  obtain ⟨z0, z1, z2⟩ := h5
  exact (Pn z0 (HS z1 (HS z2 rfl)))
 ·intro x hx hpc j l hj
  simp only [List.mem_cons, List.not_mem_nil, or_false] at hx
  rcases hx with rfl | rfl
  ·have h := h.2.1 hpc
   obtain ⟨z0, z1⟩ := h
   match j, hj with
   | 0, hj => cases hj; exact z0
   | 1, hj => cases hj; exact z1
   | 2, hj => cases hj
   | _ + 3, hj => cases hj
  ·have h := h.2.2 hpc
   have z2 := h
   match j, hj with
   | 0, hj => cases hj
   | 1, hj => cases hj
   | 2, hj => cases hj; exact z2
   | _ + 3, hj => cases hj
def H3 : G := ⟨13, [⟨12, .iteB, [V 7, V 7, V 6]⟩, ⟨11, .iteI, [V 7, N (-1), V 5]⟩, ⟨10, .not, [V 7]⟩, ⟨9, .not, [V 8]⟩, ⟨8, .and, [V 6, V 7]⟩, ⟨4, (.call 1191), [V 1, V 2, V 3, N 0, V 0]⟩], [V 9, V 4], []⟩
theorem NR (e : Nat → A) (H : Ai T e H3.defs) (hp : (Day.L1.ok (Day.L1.mk (e 0) (e 1).int) && Day.Fk (Day.L1.mk (e 0) (e 1).int)) = true) :
  ((e 9).bool = true ∧ (e 4).bool = true) ∧ (Day.JR (Day.L1.mk (e 0) (e 1).int) (Day.Fl.mk (e 2).int (e 3).int) = (e 11).int) := by
 simp only [H3, Ai, Def.q, Cn, L.Al, L.AB, L.A3, L.A9, L.ev, A.Am, A.At, A.AF, A.Bh, List.map_cons, List.map_nil, Nat.zero_add, Nat.add_zero, and_true, true_and, Nat.reduceAdd, Nat.one_mul] at H
 simp only [F6, GR, FC, Br, Hg, Hi, CC, IP, and_true, true_and] at H
 obtain ⟨q12, ⟨q11, -⟩, q10, q9, q8, q4⟩ := H
 replace q4 := Un q4
 obtain ⟨q4, q5, q6, q7⟩ := q4
 simp only [L.Al, L.AB, L.A3, L.A9, L.ev, A.Am, A.At, A.AF] at q4 q5 q6 q7
 generalize e 0 = x0, (e 1).int = x1, (e 2).int = x2, (e 3).int = x3, (e 4).bool = v4, (e 5).int = v5, (e 6).bool = v6, (e 7).bool = v7, (e 8).bool = v8, (e 9).bool = v9, (e 10).bool = v10, (e 11).int = v11, (e 12).bool = v12 at *
 simp only [Bool.and_eq_true] at hp
 obtain ⟨hk, ha⟩ := hp
 obtain ⟨t1, t2⟩ := Day.WJ ⟨x2, x3⟩ ha
 have hz : Day.Xa 0 = true := rfl
 rw [hk, hz] at q4
 simp only [Day.W9] at q7
 cases hf : Day.HI ⟨x0, x1⟩ ⟨x2, x3⟩ 0 with
 | true =>
  rw [t1 hf]
  rw [hf] at q6 q7
  clear t1 t2
  subst_vars
  simp
 | false =>
  rw [t2 hf]
  rw [hf] at q6 q7
  clear t1 t2
  subst_vars
  simp
end Rx.S
