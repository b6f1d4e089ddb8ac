import Derived.Test.YtmpinegdphkbjaaDoorVXc
import Derived.Test.YtmpinegdphkbjaaDoorVXt
set_option linter.unusedVariables false
set_option linter.unusedSimpArgs false
namespace Rx.S
open Go Rx
set_option maxRecDepth 100000
set_option maxHeartbeats 1000000
def Ez : G := ⟨9, [⟨8, .iteB, [V 3, V 7, B false]⟩, ⟨7, .eqS, [V 5, .s [97, 50]]⟩, ⟨6, .imp, [V 3, V 4]⟩, ⟨4, (.call 13), [N 0, N 3, N 0, N 2]⟩, ⟨3, .eqS, [V 2, .s [49, 52, 32, 99, 48, 32, 99, 48, 32, 99, 32, 99, 32, 99, 10]]⟩, ⟨1, (.call 9), [N 14, N 1, N 0, N 1, N 0, V 0, N 3]⟩, ⟨0, .mkl, [N 0, N 2, N 0, N 0, N 0, N 2, N 0, N 0, N 0, N 2, N 0, N 0]⟩], [V 6, V 1], []⟩
theorem I8 (e : Nat → A) (H : AH T e Ez.defs) (hp : (true) = true) :
  ((e 6).bool = true ∧ (e 1).bool = true) ∧ (true = (e 8).bool) := by
 simp only [Ez, AH, Def.q, HF, L.Aw, L.By, L.Db, L.Dp, L.ev, A.AI, A.AX, A.B0, A.Fv, List.map_cons, List.map_nil, Nat.zero_add, Nat.add_zero, and_true, true_and, Nat.reduceAdd, Nat.one_mul] at H
 simp only [LL, MJ, K8, CX, NJ, OB, Jx, Q8, and_true, true_and] at H
 obtain ⟨q8, q7, q6, q4, q3, q1, q0⟩ := H
 replace q4 := Lz q4 _ rfl
 obtain ⟨q4, q5⟩ := q4
 replace q1 := LA q1 _ rfl
 obtain ⟨q1, q2⟩ := q1
 simp only [L.Aw, L.By, L.Db, L.Dp, L.ev, A.AI, A.AX, A.B0] at q4 q5 q1 q2
 generalize e 0 = v0, (e 1).bool = v1, (e 2).str = v2, (e 3).bool = v3, (e 4).bool = v4, (e 5).str = v5, (e 6).bool = v6, (e 7).bool = v7, (e 8).bool = v8 at *
 obtain ⟨m1, m2, m3⟩ := Day.Tl
 rw [q0] at q1 q2
 rw [m1] at q1
 rw [q2, m2, Day.KR] at q3
 rw [q5, m3, Day.KR] at q7
 clear q2 q5
 rw [show Day.i64 2 = true from rfl] at q4
 subst_vars
 simp
def Ft : Lp := ⟨6, [false, true, false, true, true], 1110, 4, 2, 1, ⟨Q9 20 [(0, .pv (.one (.k (.fsl 0 (V 0))))), (2, .pv (.one (.k (.bool (B false))))), (3, .pv (.one (.k (.int .i64 (V 1))))), (4, .pv (.one (.k (.fsl 0 (V 0))))), (5, .pv (.one (.k (.int .i64 (V 0))))), (6, .pv (.one (.k (.bool (V 2)))))], [⟨false, 0, 0, [], some ⟨false, 0, [.int .i64, .int .i64, .int .i64, .int .i64, .int .i64, .sl [.int .i64, .int .i64, .int .i64, .int .i64]], V 3, V 0⟩⟩], B true⟩, [(.ret, ⟨Q9 20 [(0, .pv (.one (.k (.fsl 0 (V 0))))), (2, .pv (.one (.k (.bool (B false))))), (4, .pv (.one (.k (.fsl 0 (V 0))))), (5, .pv (.one (.k (.int .i64 (V 0))))), (6, .pv (.one (.k (.bool (V 2)))))], [⟨false, 0, 0, [], some ⟨false, 0, [.int .i64, .int .i64, .int .i64, .int .i64, .int .i64, .sl [.int .i64, .int .i64, .int .i64, .int .i64]], V 3, V 0⟩⟩], V 4⟩), (.exit 0, ⟨Q9 20 [(0, .pv (.one (.k (.fsl 0 (V 0))))), (2, .pv (.one (.k (.bool (B false))))), (4, .pv (.one (.k (.fsl 0 (V 0))))), (5, .pv (.one (.k (.int .i64 (V 0))))), (6, .pv (.one (.k (.bool (V 2)))))], [⟨false, 0, 0, [], some ⟨false, 0, [.int .i64, .int .i64, .int .i64, .int .i64, .int .i64, .sl [.int .i64, .int .i64, .int .i64, .int .i64]], V 3, V 0⟩⟩], V 5⟩)], [true, false, true, true], [.b, .b]⟩
def Ir : G := ⟨22, [⟨21, .and, [V 4, V 19]⟩, ⟨20, .and, [V 4, V 16]⟩, ⟨19, .and, [V 18, V 15]⟩, ⟨18, .not, [V 16]⟩, ⟨17, (.ar .add .i64), [V 1, N 1]⟩, ⟨16, .and, [V 12, V 14]⟩, ⟨15, .and, [V 11, V 13]⟩, ⟨14, .and, [V 4, V 12]⟩, ⟨13, .and, [V 4, V 11]⟩, ⟨12, .not, [V 11]⟩, ⟨11, (.cmp .gtr), [V 10, N 20]⟩, ⟨10, (.lln 4), [V 9]⟩, ⟨9, (.pix 5 6), [V 3, V 1]⟩, ⟨8, .imp, [V 4, V 7]⟩, ⟨7, .and, [V 6, V 4]⟩, ⟨6, (.cmp .leq), [N 0, V 1]⟩, ⟨5, .not, [V 4]⟩, ⟨4, (.cmp .lss), [V 1, V 0]⟩], [V 8], []⟩
def PN (al : List A) : Nat := (Day.L1.n (Day.L1.mk (ge al 3) (gi al 0)) - (gi al 1)).toNat
theorem OR (e : Nat → A) (H : AH T e Ir.defs) (hp : (Day.wP (Day.L1.mk (e 3) (e 0).int) (e 1).int) = true) :
  ((e 8).bool = true) ∧ ((e 20).bool = true → (Day.wP (Day.L1.mk (e 3) (e 0).int) (e 17).int) = true ∧ (Day.KP (Day.L1.mk (e 3) (e 0).int) (e 17).int = Day.KP (Day.L1.mk (e 3) (e 0).int) (e 1).int ∧ Day.GM (Day.L1.mk (e 3) (e 0).int) (e 17).int = Day.GM (Day.L1.mk (e 3) (e 0).int) (e 1).int) ∧ (Day.L1.n (Day.L1.mk (e 3) (e 0).int) - (e 17).int).toNat < (Day.L1.n (Day.L1.mk (e 3) (e 0).int) - (e 1).int).toNat) ∧ ((e 21).bool = true → true = Day.KP (Day.L1.mk (e 3) (e 0).int) (e 1).int) ∧ ((e 5).bool = true → true = Day.GM (Day.L1.mk (e 3) (e 0).int) (e 1).int) := by
 simp only [Ir, AH, Def.q, HF, L.Aw, L.By, L.Db, L.Dp, L.ev, A.AI, A.AX, A.B0, A.Fv, List.map_cons, List.map_nil, Nat.zero_add, Nat.add_zero, and_true, true_and, Nat.reduceAdd, Nat.one_mul] at H
 simp only [LL, MJ, K8, CX, NJ, OB, Jx, Q8, and_true, true_and] at H
 obtain ⟨q21, q20, q19, q18, ⟨q17, -⟩, q16, q15, q14, q13, q12, q11, q10, q9, q8, q7, q6, q5, q4⟩ := H
 generalize (e 0).int = x0, (e 1).int = x1, (e 2).int = x2, e 3 = x3, (e 4).bool = v4, (e 5).bool = v5, (e 6).bool = v6, (e 7).bool = v7, (e 8).bool = v8, (e 10).int = v10, (e 11).bool = v11, (e 12).bool = v12, (e 13).bool = v13, (e 14).bool = v14, (e 15).bool = v15, (e 16).bool = v16, (e 17).int = v17, (e 18).bool = v18, (e 19).bool = v19, (e 20).bool = v20, (e 21).bool = v21, e 9 = v9 at *
 by_cases h : x1 < x0
 ·obtain ⟨s1, s2, hm, b1, b2⟩ := Day.SE hp h
  have hn : Day.Lk.n (Day.Ey x3 x1) = v10 := by rw [q10, q9]; rfl
  have s1 : Day.GM ⟨x3, x0⟩ x1 = (decide (Day.Lk.n (Day.Ey x3 x1) ≤ 20) && Day.GM ⟨x3, x0⟩ (x1 + 1)) := s1
  rw [hn] at s1
  have w : v17 = x1 + 1 := by rw [q17]; exact wrap64 (by omega) (by omega)
  have hm : (x0 - (x1 + 1)).toNat < (x0 - x1).toNat := hm
  have t4 : v4 = true := by rw [q4]; exact decide_eq_true h
  unfold Day.KP
  rw [w, s1]
  refine ⟨by rw [q8]; exact Day.CF (by rw [q7, q6, t4]; simp; omega), fun hh => ?_, fun hh => ?_, fun hh => ?_⟩
  ·have c : v10 ≤ 20 := by
    rw [q20, q16, q12, q11] at hh
    simp at hh
    omega
   exact ⟨s2, by simp [c], hm⟩
  ·have c : ¬ v10 ≤ 20 := by
    rw [q21, q19, q15, q11] at hh
    simp at hh
    omega
   simp [c]
  ·rw [q5, t4] at hh
   cases hh
 ·have t4 : v4 = false := by rw [q4]; exact decide_eq_false h
  have e1 := Day.Tk (l := ⟨x3, x0⟩) h
  refine ⟨by simp [q8, t4], fun hh => ?_, fun hh => ?_, fun _ => e1.symm⟩
  ·rw [q20, t4] at hh
   cases hh
  ·rw [q21, t4] at hh
   cases hh
theorem PO (as : List A) (e : Nat → A) (h1 : as = (List.range 4).map e) (h2 : (Ge as).1 = true) (H : AH T e Ir.defs) : Ew e Ir.obs ∧
   (∀ pc ls, some (V 20, [V 0, V 17, V 2, V 3]) = some (pc, ls) → (pc.ev e).bool = true → (Ge (ls.map (L.ev e))).1 = true ∧ (Ge (ls.map (L.ev e))).2 = (Ge as).2 ∧ PN (ls.map (L.ev e)) < PN as) ∧
   ∀ x ∈ ([(V 21, [some (B true), none]), (V 5, [none, some (B true)])] : List (L × List (Option L))), (x.1.ev e).bool = true → ∀ (j : Nat) l, x.2[j]? = some (some l) → FG (Ft.tags.getD j .any) (l.ev e) ((Ge as).2.getD j (.i 0)) := by
 subst h1
 obtain ⟨ho, h⟩ := OR e H h2
 refine ⟨⟨ho, trivial⟩, fun pc ls hb hpc => ?_, ?_⟩
 ·injection hb with hb
  injection hb with h3 h4
  subst h3 h4
  have h := h.1 hpc
  refine ⟨h.1, ?_, h.2.2⟩
  have h5 := h.2.1
  obtain ⟨z0, z1⟩ := h5
  exact (Qx z0 (Qx z1 rfl))
 ·intro x hx hpc j l hj
  simp only [List.mem_cons, List.not_mem_nil, or_false] at hx
  rcases hx with rfl | rfl
  ·have h := h.2.1 hpc
   have z0 := h
   match j, hj with
   | 0, hj => cases hj; exact z0
   | 1, hj => cases hj
   | _ + 2, hj => cases hj
  ·have h := h.2.2 hpc
   have z1 := h
   match j, hj with
   | 0, hj => cases hj
   | 1, hj => cases hj; exact z1
   | _ + 2, hj => cases hj
def Gn : G := ⟨19, [⟨18, .iteB, [V 3, V 15, V 2]⟩, ⟨17, .iteB, [V 3, V 14, B false]⟩, ⟨16, .not, [V 3]⟩, ⟨15, .iteB, [V 12, V 12, V 11]⟩, ⟨14, .iteB, [V 12, B true, B false]⟩, ⟨13, .not, [V 12]⟩, ⟨12, .and, [V 3, V 6]⟩, ⟨11, .and, [V 3, V 5]⟩, ⟨10, .imp, [V 3, V 9]⟩, ⟨9, .not, [V 8]⟩, ⟨8, .and, [V 5, V 6]⟩, ⟨7, .imp, [V 3, V 4]⟩, ⟨4, (.call 1110), [V 1, N 0, V 2, V 0]⟩, ⟨3, .not, [V 2]⟩, ⟨2, (.cmp .gtr), [V 1, N 60]⟩], [V 10, V 7], []⟩
theorem K7 (e : Nat → A) (H : AH T e Gn.defs) (hp : (Day.L1.EY (Day.L1.mk (e 0) (e 1).int)) = true) :
  ((e 10).bool = true ∧ (e 7).bool = true) ∧ (Day.L1.SR (Day.L1.mk (e 0) (e 1).int) = (e 17).bool) := by
 simp only [Gn, AH, Def.q, HF, L.Aw, L.By, L.Db, L.Dp, L.ev, A.AI, A.AX, A.B0, A.Fv, List.map_cons, List.map_nil, Nat.zero_add, Nat.add_zero, and_true, true_and, Nat.reduceAdd, Nat.one_mul] at H
 simp only [LL, MJ, K8, CX, NJ, OB, Jx, Q8, and_true, true_and] at H
 obtain ⟨q18, q17, q16, q15, q14, q13, q12, q11, q10, q9, q8, q7, q4, q3, q2⟩ := H
 replace q4 := Rk q4
 obtain ⟨q4, q5, q6⟩ := q4
 simp only [L.Aw, L.By, L.Db, L.Dp, L.ev, A.AI, A.AX, A.B0] at q4 q5 q6
 generalize e 0 = x0, (e 1).int = x1, (e 2).bool = v2, (e 3).bool = v3, (e 4).bool = v4, (e 5).bool = v5, (e 6).bool = v6, (e 7).bool = v7, (e 8).bool = v8, (e 9).bool = v9, (e 10).bool = v10, (e 11).bool = v11, (e 12).bool = v12, (e 13).bool = v13, (e 14).bool = v14, (e 15).bool = v15, (e 16).bool = v16, (e 17).bool = v17, (e 18).bool = v18 at *
 by_cases h : x1 > 60
 ·have t2 : v2 = true := by rw [q2]; exact decide_eq_true h
  have hf : Day.L1.SR ⟨x0, x1⟩ = false := by
   unfold Day.L1.SR
   rw [decide_eq_false (show ¬ Day.L1.n ⟨x0, x1⟩ ≤ 60 by show ¬ x1 ≤ 60; omega)]
   rfl
  rw [hf]
  simp [q10, q7, q17, q3, t2]
 ·obtain ⟨m1, m2⟩ := Day.SF hp h
  have t2 : v2 = false := by rw [q2]; exact decide_eq_false h
  unfold Day.KP at q5
  rw [m1] at q4
  rw [m2]
  generalize Day.GM ⟨x0, x1⟩ 0 = ff at *
  clear m2
  subst_vars
  rw [t2]
  cases ff <;> simp
end Rx.S
