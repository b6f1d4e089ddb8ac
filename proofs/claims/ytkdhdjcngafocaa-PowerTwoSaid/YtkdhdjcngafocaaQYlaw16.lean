import Derived.Test.YtkdhdjcngafocaaQXc
import Derived.Test.YtkdhdjcngafocaaQXt
set_option linter.unusedVariables false
set_option linter.unusedSimpArgs false
namespace Rx.S
open Go Rx
set_option maxRecDepth 100000
set_option maxHeartbeats 1000000
def EP : G := ⟨31, [⟨30, .iteB, [V 23, V 28, B false]⟩, ⟨29, .imp, [V 23, V 27]⟩, ⟨27, (.call 8), [V 25, V 26, N 0, N 5]⟩, ⟨26, .iteI, [V 23, N 1, N 0]⟩, ⟨25, .iteA, [V 23, V 24, .e]⟩, ⟨24, .mkl, [N 5]⟩, ⟨23, .iteB, [V 21, V 22, B false]⟩, ⟨22, (.cmp .eql), [V 8, N 1]⟩, ⟨21, .iteB, [V 14, V 19, B false]⟩, ⟨20, .imp, [V 14, V 18]⟩, ⟨18, (.call 12), [V 2, V 3, V 16, V 17]⟩, ⟨17, .iteI, [V 14, N 3, N 0]⟩, ⟨16, .iteA, [V 14, V 15, .e]⟩, ⟨15, .mkl, [N 0, N 2000, N 0]⟩, ⟨14, .iteB, [V 12, V 13, B false]⟩, ⟨13, (.cmp .eql), [V 4, N 0]⟩, ⟨12, (.cmp .eql), [V 11, N 5]⟩, ⟨10, (.call 7), [V 9, N 3, N 0, N 0]⟩, ⟨9, .mkl, [N 5, N 0, N 9]⟩, ⟨5, (.call 10), [N 9, .e, N 0]⟩, ⟨1, (.call 10), [N 3, V 0, N 2]⟩, ⟨0, .mkl, [N (-4), N 3000]⟩], [V 29, V 20, V 10, V 5, V 1], []⟩
theorem JI (e : Nat → A) (H : Ar T e EP.defs) (hp : (true) = true) :
  ((e 29).bool = true ∧ (e 20).bool = true ∧ (e 10).bool = true ∧ (e 5).bool = true ∧ (e 1).bool = true) ∧ (true = (e 30).bool) := by
 simp only [EP, Ar, Def.q, Fh, L.Au, L.A6, L.CL, L.C3, L.ev, A.AA, A.AN, A.Bu, A.Dh, List.map_cons, List.map_nil, Nat.zero_add, Nat.add_zero, and_true, true_and, Nat.reduceAdd, Nat.one_mul] at H
 simp only [JQ, J8, I5, Cf, Kz, Ly, Ge, N7, and_true, true_and] at H
 obtain ⟨q30, q29, q27, ⟨q26, -⟩, q25, q24, q23, q22, q21, q20, q18, ⟨q17, -⟩, q16, q15, q14, q13, q12, q10, q9, q5, q1, q0⟩ := H
 replace q27 := CW q27
 obtain ⟨q27, q28⟩ := q27
 replace q18 := LN q18
 obtain ⟨q18, q19⟩ := q18
 replace q10 := HM q10
 obtain ⟨q10, q11⟩ := q10
 replace q5 := F4 q5
 obtain ⟨q5, q6, q7, q8⟩ := q5
 replace q1 := F4 q1
 obtain ⟨q1, q2, q3, q4⟩ := q1
 simp only [L.Au, L.A6, L.CL, L.C3, L.ev, A.AA, A.AN, A.Bu] at q27 q28 q18 q19 q10 q11 q5 q6 q7 q8 q1 q2 q3 q4
 generalize e 0 = v0, (e 1).bool = v1, e 2 = v2, (e 3).int = v3, (e 4).int = v4, (e 5).bool = v5, e 6 = v6, (e 7).int = v7, (e 8).int = v8, e 9 = v9, (e 10).bool = v10, (e 11).int = v11, (e 12).bool = v12, (e 13).bool = v13, (e 14).bool = v14, e 15 = v15, e 16 = v16, (e 17).int = v17, (e 18).bool = v18, (e 19).bool = v19, (e 20).bool = v20, (e 21).bool = v21, (e 22).bool = v22, (e 23).bool = v23, e 24 = v24, e 25 = v25, (e 26).int = v26, (e 27).bool = v27, (e 28).bool = v28, (e 29).bool = v29, (e 30).bool = v30 at *
 subst_vars
 rw [Day.UM]
 decide +kernel
def FV : Lp := ⟨12, [false, true, false, true, true], 1200, 6, 2, 2, ⟨RM 26 [(0, .pv (.one (.k (.fsl 0 (V 0))))), (1, .pv (.one (.k (.fsl 1 (V 1))))), (4, .pv (.one (.k (.bool (B false))))), (5, .pv (.one (.k (.int .i64 (V 2))))), (6, .pv (.one (.k (.fsl 0 (V 0))))), (7, .pv (.one (.k (.int .i64 (V 0))))), (8, .pv (.one (.k (.fsl 1 (V 1))))), (9, .pv (.one (.k (.int .i64 (V 1))))), (10, .pv (.one (.k (.bool (V 3)))))], [⟨false, 0, 0, [], some ⟨false, 0, [.int .i64], V 4, V 0⟩⟩, ⟨false, 0, 0, [], some ⟨false, 0, [.int .i64], V 5, V 1⟩⟩], B true⟩, [(.ret, ⟨RM 26 [(0, .pv (.one (.k (.fsl 0 (V 0))))), (1, .pv (.one (.k (.fsl 1 (V 1))))), (4, .pv (.one (.k (.bool (B false))))), (6, .pv (.one (.k (.fsl 0 (V 0))))), (7, .pv (.one (.k (.int .i64 (V 0))))), (8, .pv (.one (.k (.fsl 1 (V 1))))), (9, .pv (.one (.k (.int .i64 (V 1))))), (10, .pv (.one (.k (.bool (V 3)))))], [⟨false, 0, 0, [], some ⟨false, 0, [.int .i64], V 4, V 0⟩⟩, ⟨false, 0, 0, [], some ⟨false, 0, [.int .i64], V 5, V 1⟩⟩], V 6⟩), (.exit 0, ⟨RM 26 [(0, .pv (.one (.k (.fsl 0 (V 0))))), (1, .pv (.one (.k (.fsl 1 (V 1))))), (4, .pv (.one (.k (.bool (B false))))), (6, .pv (.one (.k (.fsl 0 (V 0))))), (7, .pv (.one (.k (.int .i64 (V 0))))), (8, .pv (.one (.k (.fsl 1 (V 1))))), (9, .pv (.one (.k (.int .i64 (V 1))))), (10, .pv (.one (.k (.bool (V 3)))))], [⟨false, 0, 0, [], some ⟨false, 0, [.int .i64], V 4, V 0⟩⟩, ⟨false, 0, 0, [], some ⟨false, 0, [.int .i64], V 5, V 1⟩⟩], V 7⟩)], [true, true, false, true, true, true], [.b, .b]⟩
def I1 : G := ⟨27, [⟨26, .and, [V 6, V 24]⟩, ⟨25, .and, [V 6, V 21]⟩, ⟨24, .and, [V 23, V 20]⟩, ⟨23, .not, [V 21]⟩, ⟨22, (.ar .add .i64), [V 2, N 1]⟩, ⟨21, .and, [V 17, V 19]⟩, ⟨20, .and, [V 16, V 18]⟩, ⟨19, .and, [V 6, V 17]⟩, ⟨18, .and, [V 6, V 16]⟩, ⟨17, .not, [V 16]⟩, ⟨16, (.cmp .neq), [V 11, V 15]⟩, ⟨15, (.pix 0 1), [V 5, V 2]⟩, ⟨14, .imp, [V 6, V 13]⟩, ⟨13, .and, [V 8, V 12]⟩, ⟨12, (.cmp .lss), [V 2, V 1]⟩, ⟨11, (.pix 0 1), [V 4, V 2]⟩, ⟨10, .imp, [V 6, V 9]⟩, ⟨9, .and, [V 8, V 6]⟩, ⟨8, (.cmp .leq), [N 0, V 2]⟩, ⟨7, .not, [V 6]⟩, ⟨6, (.cmp .lss), [V 2, V 0]⟩], [V 14, V 10], []⟩
def Ql (al : List A) : Nat := (Day.L1.n (Day.L1.mk (ge al 4) (gi al 0)) - (gi al 2)).toNat
theorem Pq (e : Nat → A) (H : Ar T e I1.defs) (hp : (Day.L1.at (Day.L1.mk (e 4) (e 0).int) (e 2).int && (Day.L1.at (Day.L1.mk (e 5) (e 1).int) (e 2).int && Day.UL (Day.L1.n (Day.L1.mk (e 4) (e 0).int)) (Day.L1.n (Day.L1.mk (e 5) (e 1).int)))) = true) :
  ((e 14).bool = true ∧ (e 10).bool = true) ∧ ((e 25).bool = true → (Day.L1.at (Day.L1.mk (e 4) (e 0).int) (e 22).int && (Day.L1.at (Day.L1.mk (e 5) (e 1).int) (e 22).int && Day.UL (Day.L1.n (Day.L1.mk (e 4) (e 0).int)) (Day.L1.n (Day.L1.mk (e 5) (e 1).int)))) = true ∧ (Day.Dq (Day.L1.mk (e 4) (e 0).int) (Day.L1.mk (e 5) (e 1).int) (e 22).int = Day.Dq (Day.L1.mk (e 4) (e 0).int) (Day.L1.mk (e 5) (e 1).int) (e 2).int ∧ Day.Bv (Day.L1.mk (e 4) (e 0).int) (Day.L1.mk (e 5) (e 1).int) (e 22).int = Day.Bv (Day.L1.mk (e 4) (e 0).int) (Day.L1.mk (e 5) (e 1).int) (e 2).int) ∧ (Day.L1.n (Day.L1.mk (e 4) (e 0).int) - (e 22).int).toNat < (Day.L1.n (Day.L1.mk (e 4) (e 0).int) - (e 2).int).toNat) ∧ ((e 26).bool = true → true = Day.Dq (Day.L1.mk (e 4) (e 0).int) (Day.L1.mk (e 5) (e 1).int) (e 2).int) ∧ ((e 7).bool = true → true = Day.Bv (Day.L1.mk (e 4) (e 0).int) (Day.L1.mk (e 5) (e 1).int) (e 2).int) := by
 simp only [I1, Ar, Def.q, Fh, L.Au, L.A6, L.CL, L.C3, L.ev, A.AA, A.AN, A.Bu, A.Dh, List.map_cons, List.map_nil, Nat.zero_add, Nat.add_zero, and_true, true_and, Nat.reduceAdd, Nat.one_mul] at H
 simp only [JQ, J8, I5, Cf, Kz, Ly, Ge, N7, and_true, true_and] at H
 obtain ⟨q26, q25, q24, q23, ⟨q22, -⟩, q21, q20, q19, q18, q17, q16, q15, q14, q13, q12, q11, q10, q9, q8, q7, q6⟩ := H
 generalize (e 0).int = x0, (e 1).int = x1, (e 2).int = x2, (e 3).int = x3, e 4 = x4, e 5 = x5, (e 6).bool = v6, (e 7).bool = v7, (e 8).bool = v8, (e 9).bool = v9, (e 10).bool = v10, (e 12).bool = v12, (e 13).bool = v13, (e 14).bool = v14, (e 16).bool = v16, (e 17).bool = v17, (e 18).bool = v18, (e 19).bool = v19, (e 20).bool = v20, (e 21).bool = v21, (e 22).int = v22, (e 23).bool = v23, (e 24).bool = v24, (e 25).bool = v25, (e 26).bool = v26 at *
 replace q11 := congrArg A.int q11
 generalize (e 11).int = v11 at *
 replace q15 := congrArg A.int q15
 generalize (e 15).int = v15 at *
 simp only [Bool.and_eq_true, Day.UL, decide_eq_true_eq] at hp
 obtain ⟨pa, pb, hn⟩ := hp
 have hn : x0 = x1 := hn
 subst hn
 by_cases h : x2 < x0
 ·obtain ⟨j1, j2⟩ := Day.Ho pa h q22
  obtain ⟨_, j3⟩ := Day.Ho pb h q22
  have s1 := Day.RN pa pb h h
  have ka : Day.L1.k ⟨x4, x0⟩ x2 = v11 := by rw [q11]; rfl
  have kb : Day.L1.k ⟨x5, x0⟩ x2 = v15 := by rw [q15]; rfl
  have h0 : 0 ≤ x2 := (Day.L1.BE.1 pa).2.1
  rw [ka, kb] at s1
  have hm : (x0 - (x2 + 1)).toNat < (x0 - x2).toNat := by omega
  clear q22 q11 q15 ka kb
  subst j1
  simp only [Day.Dq, s1]
  generalize Day.Bv ⟨x4, x0⟩ ⟨x5, x0⟩ (x2 + 1) = af at *
  clear s1
  by_cases e : v11 = v15 <;> subst_vars <;> simp [h, h0, j2, j3, hm, Day.UL, *]
 ·have s1 := Day.Td pa pb h h
  simp only [Day.Dq, s1]
  clear q22 q11 q15
  subst_vars
  simp [h]
theorem Qm (as : List A) (e : Nat → A) (h1 : as = (List.range 6).map e) (h2 : (GK as).1 = true) (H : Ar T e I1.defs) : Ee e I1.obs ∧
   (∀ pc ls, some (V 25, [V 0, V 1, V 22, V 3, V 4, V 5]) = some (pc, ls) → (pc.ev e).bool = true → (GK (ls.map (L.ev e))).1 = true ∧ (GK (ls.map (L.ev e))).2 = (GK as).2 ∧ Ql (ls.map (L.ev e)) < Ql as) ∧
   ∀ x ∈ ([(V 26, [some (B true), none]), (V 7, [none, some (B true)])] : List (L × List (Option L))), (x.1.ev e).bool = true → ∀ (j : Nat) l, x.2[j]? = some (some l) → Gh (FV.tags.getD j .any) (l.ev e) ((GK as).2.getD j (.i 0)) := by
 subst h1
 obtain ⟨ho, h⟩ := Pq e H h2
 refine ⟨⟨ho.1, ho.2, trivial⟩, fun pc ls hb hpc => ?_, ?_⟩
 ·injection hb with hb
  injection hb with h3 h4
  subst h3 h4
  have h := h.1 hpc
  refine ⟨h.1, ?_, h.2.2⟩
  have h5 := h.2.1
  obtain ⟨z0, z1⟩ := h5
  exact (Ul z0 (Ul z1 rfl))
 ·intro x hx hpc j l hj
  simp only [List.mem_cons, List.not_mem_nil, or_false] at hx
  rcases hx with rfl | rfl
  ·have h := h.2.1 hpc
   have z0 := h
   match j, hj with
   | 0, hj => cases hj; exact z0
   | 1, hj => cases hj
   | _ + 2, hj => cases hj
  ·have h := h.2.2 hpc
   have z1 := h
   match j, hj with
   | 0, hj => cases hj
   | 1, hj => cases hj; exact z1
   | _ + 2, hj => cases hj
def FW : G := ⟨21, [⟨20, .iteB, [V 5, V 17, V 4]⟩, ⟨19, .iteB, [V 5, V 16, B false]⟩, ⟨18, .not, [V 5]⟩, ⟨17, .iteB, [V 14, V 14, V 13]⟩, ⟨16, .iteB, [V 14, B true, B false]⟩, ⟨15, .not, [V 14]⟩, ⟨14, .and, [V 5, V 8]⟩, ⟨13, .and, [V 5, V 7]⟩, ⟨12, .imp, [V 5, V 11]⟩, ⟨11, .not, [V 10]⟩, ⟨10, .and, [V 7, V 8]⟩, ⟨9, .imp, [V 5, V 6]⟩, ⟨6, (.call 1200), [V 1, V 3, N 0, V 4, V 0, V 2]⟩, ⟨5, .not, [V 4]⟩, ⟨4, (.cmp .neq), [V 1, V 3]⟩], [V 12, V 9], []⟩
theorem Kl (e : Nat → A) (H : Ar T e FW.defs) (hp : (Day.L1.ok (Day.L1.mk (e 0) (e 1).int) && Day.L1.ok (Day.L1.mk (e 2) (e 3).int)) = true) :
  ((e 12).bool = true ∧ (e 9).bool = true) ∧ (Day.LC (Day.L1.mk (e 0) (e 1).int) (Day.L1.mk (e 2) (e 3).int) = (e 19).bool) := by
 simp only [FW, Ar, Def.q, Fh, L.Au, L.A6, L.CL, L.C3, L.ev, A.AA, A.AN, A.Bu, A.Dh, List.map_cons, List.map_nil, Nat.zero_add, Nat.add_zero, and_true, true_and, Nat.reduceAdd, Nat.one_mul] at H
 simp only [JQ, J8, I5, Cf, Kz, Ly, Ge, N7, and_true, true_and] at H
 obtain ⟨q20, q19, q18, q17, q16, q15, q14, q13, q12, q11, q10, q9, q6, q5, q4⟩ := H
 replace q6 := RV q6
 obtain ⟨q6, q7, q8⟩ := q6
 simp only [L.Au, L.A6, L.CL, L.C3, L.ev, A.AA, A.AN, A.Bu] at q6 q7 q8
 generalize e 0 = x0, (e 1).int = x1, e 2 = x2, (e 3).int = x3, (e 4).bool = v4, (e 5).bool = v5, (e 6).bool = v6, (e 7).bool = v7, (e 8).bool = v8, (e 9).bool = v9, (e 10).bool = v10, (e 11).bool = v11, (e 12).bool = v12, (e 13).bool = v13, (e 14).bool = v14, (e 15).bool = v15, (e 16).bool = v16, (e 17).bool = v17, (e 18).bool = v18, (e 19).bool = v19, (e 20).bool = v20 at *
 simp only [Bool.and_eq_true] at hp
 obtain ⟨pa, pb⟩ := hp
 have ha := Day.Hp pa
 have hb := Day.Hp pb
 have hz := Day.RO ⟨x0, x1⟩ ⟨x2, x3⟩
 by_cases e : x1 = x3
 ·simp only [Day.Dq, hz, ha, hb] at *
  generalize Day.LC ⟨x0, x1⟩ ⟨x2, x3⟩ = sm at *
  clear hz
  subst_vars
  cases sm <;> simp [Day.UL]
 ·have hl := Day.Te pa pb e
  rw [hl]
  clear hz
  subst_vars
  simp [e]
end Rx.S
