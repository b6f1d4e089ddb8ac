import Derived.Test.YtikhhempbdimhaaSXc
import Derived.Test.YtikhhempbdimhaaSXt
set_option linter.unusedVariables false
set_option linter.unusedSimpArgs false
namespace Rx.S
open Go Rx
set_option maxRecDepth 100000
set_option maxHeartbeats 1000000
def Hp : Lp := ⟨15, [false, true, false, true, true], 1190, 6, 2, 2, ⟨Ez 26 [(0, .pv (.one (.k (.fsl 0 (V 0))))), (1, .pv (.one (.k (.fsl 1 (V 1))))), (4, .pv (.one (.k (.bool (B false))))), (5, .pv (.one (.k (.int .i64 (V 2))))), (6, .pv (.one (.k (.fsl 0 (V 0))))), (7, .pv (.one (.k (.int .i64 (V 0))))), (8, .pv (.one (.k (.fsl 1 (V 1))))), (9, .pv (.one (.k (.int .i64 (V 1))))), (10, .pv (.one (.k (.bool (V 3)))))], [⟨false, 0, 0, [], some ⟨false, 0, [.int .i64], V 4, V 0⟩⟩, ⟨false, 0, 0, [], some ⟨false, 0, [.int .i64], V 5, V 1⟩⟩], B true⟩, [(.ret, ⟨Ez 26 [(0, .pv (.one (.k (.fsl 0 (V 0))))), (1, .pv (.one (.k (.fsl 1 (V 1))))), (4, .pv (.one (.k (.bool (B false))))), (6, .pv (.one (.k (.fsl 0 (V 0))))), (7, .pv (.one (.k (.int .i64 (V 0))))), (8, .pv (.one (.k (.fsl 1 (V 1))))), (9, .pv (.one (.k (.int .i64 (V 1))))), (10, .pv (.one (.k (.bool (V 3)))))], [⟨false, 0, 0, [], some ⟨false, 0, [.int .i64], V 4, V 0⟩⟩, ⟨false, 0, 0, [], some ⟨false, 0, [.int .i64], V 5, V 1⟩⟩], V 6⟩), (.exit 0, ⟨Ez 26 [(0, .pv (.one (.k (.fsl 0 (V 0))))), (1, .pv (.one (.k (.fsl 1 (V 1))))), (4, .pv (.one (.k (.bool (B false))))), (6, .pv (.one (.k (.fsl 0 (V 0))))), (7, .pv (.one (.k (.int .i64 (V 0))))), (8, .pv (.one (.k (.fsl 1 (V 1))))), (9, .pv (.one (.k (.int .i64 (V 1))))), (10, .pv (.one (.k (.bool (V 3)))))], [⟨false, 0, 0, [], some ⟨false, 0, [.int .i64], V 4, V 0⟩⟩, ⟨false, 0, 0, [], some ⟨false, 0, [.int .i64], V 5, V 1⟩⟩], V 7⟩)], [true, true, false, true, true, true], [.b, .b]⟩
def L3 : G := ⟨27, [⟨26, .and, [V 6, V 24]⟩, ⟨25, .and, [V 6, V 21]⟩, ⟨24, .and, [V 23, V 20]⟩, ⟨23, .not, [V 21]⟩, ⟨22, (.ar .add .i64), [V 2, N 1]⟩, ⟨21, .and, [V 17, V 19]⟩, ⟨20, .and, [V 16, V 18]⟩, ⟨19, .and, [V 6, V 17]⟩, ⟨18, .and, [V 6, V 16]⟩, ⟨17, .not, [V 16]⟩, ⟨16, (.cmp .neq), [V 11, V 15]⟩, ⟨15, (.pix 0 1), [V 5, V 2]⟩, ⟨14, .imp, [V 6, V 13]⟩, ⟨13, .and, [V 8, V 12]⟩, ⟨12, (.cmp .lss), [V 2, V 1]⟩, ⟨11, (.pix 0 1), [V 4, V 2]⟩, ⟨10, .imp, [V 6, V 9]⟩, ⟨9, .and, [V 8, V 6]⟩, ⟨8, (.cmp .leq), [N 0, V 2]⟩, ⟨7, .not, [V 6]⟩, ⟨6, (.cmp .lss), [V 2, V 0]⟩], [V 14, V 10], []⟩
def Wf (al : List A) : Nat := (Day.L1.n (Day.L1.mk (ge al 4) (gi al 0)) - (gi al 2)).toNat
theorem UF (e : Nat → A) (H : Ab T e L3.defs) (hp : (Day.Y0 (Day.L1.mk (e 4) (e 0).int) (Day.L1.mk (e 5) (e 1).int) (e 2).int) = true) :
  ((e 14).bool = true ∧ (e 10).bool = true) ∧ ((e 25).bool = true → (Day.Y0 (Day.L1.mk (e 4) (e 0).int) (Day.L1.mk (e 5) (e 1).int) (e 22).int) = true ∧ (Day.VO (Day.L1.mk (e 4) (e 0).int) (Day.L1.mk (e 5) (e 1).int) (e 22).int = Day.VO (Day.L1.mk (e 4) (e 0).int) (Day.L1.mk (e 5) (e 1).int) (e 2).int ∧ Day.Nb (Day.L1.mk (e 4) (e 0).int) (Day.L1.mk (e 5) (e 1).int) (e 22).int = Day.Nb (Day.L1.mk (e 4) (e 0).int) (Day.L1.mk (e 5) (e 1).int) (e 2).int) ∧ (Day.L1.n (Day.L1.mk (e 4) (e 0).int) - (e 22).int).toNat < (Day.L1.n (Day.L1.mk (e 4) (e 0).int) - (e 2).int).toNat) ∧ ((e 26).bool = true → true = Day.VO (Day.L1.mk (e 4) (e 0).int) (Day.L1.mk (e 5) (e 1).int) (e 2).int) ∧ ((e 7).bool = true → true = Day.Nb (Day.L1.mk (e 4) (e 0).int) (Day.L1.mk (e 5) (e 1).int) (e 2).int) := by
 simp only [L3, Ab, Def.q, BI, L.Ak, L.Aw, L.AS, L.AV, L.ev, A.Ai, A.Ao, A.AF, A.AT, List.map_cons, List.map_nil, Nat.zero_add, Nat.add_zero, and_true, true_and, Nat.reduceAdd, Nat.one_mul] at H
 simp only [D0, Ee, CW, Bg, Ef, Ey, BV, Fq, and_true, true_and] at H
 obtain ⟨q26, q25, q24, q23, ⟨q22, -⟩, q21, q20, q19, q18, q17, q16, q15, q14, q13, q12, q11, q10, q9, q8, q7, q6⟩ := H
 generalize (e 0).int = x0, (e 1).int = x1, (e 2).int = x2, (e 3).int = x3, e 4 = x4, e 5 = x5, (e 6).bool = v6, (e 7).bool = v7, (e 8).bool = v8, (e 9).bool = v9, (e 10).bool = v10, (e 12).bool = v12, (e 13).bool = v13, (e 14).bool = v14, (e 16).bool = v16, (e 17).bool = v17, (e 18).bool = v18, (e 19).bool = v19, (e 20).bool = v20, (e 21).bool = v21, (e 22).int = v22, (e 23).bool = v23, (e 24).bool = v24, (e 25).bool = v25, (e 26).bool = v26 at *
 replace q11 := congrArg A.int q11
 generalize (e 11).int = v11 at *
 replace q15 := congrArg A.int q15
 generalize (e 15).int = v15 at *
 have hb := Day.Hf.1 hp
 have b0 : 0 ≤ x2 := hb.1
 have b1 : x0 ≤ 1000000 := hb.2.2.1
 have b2 : x0 = x1 := hb.2.2.2
 by_cases h : x2 < x0
 ·obtain ⟨s1, hm⟩ := Day.Na (d := Day.Aae x4 x5) h
  have t6 : v6 = true := by rw [q6]; exact decide_eq_true h
  have w : v22 = x2 + 1 := by rw [q22]; exact wrap64 (by omega) (by omega)
  have hd : Day.Aae x4 x5 x2 = v17 := by
   have : Day.Aae x4 x5 x2 = decide (v11 = v15) := by rw [q11, q15]; rfl
   rw [this, q17, q16]; exact Day.Aa8 _ _
  have s2 : Day.Nb ⟨x4, x0⟩ ⟨x5, x1⟩ x2 = (v17 && Day.Nb ⟨x4, x0⟩ ⟨x5, x1⟩ (x2 + 1)) := by rw [← hd]; exact s1
  unfold Day.VO
  rw [w, s2]
  refine ⟨⟨by rw [q14, q13, q12, q8, t6]; simp; omega, by rw [q10, q9, q8, t6]; simp; omega⟩, fun hh => ?_, fun hh => ?_, fun hh => ?_⟩
  ·have c : v17 = true := by
    rw [q25, q21] at hh; simp only [Bool.and_eq_true] at hh; exact hh.2.1
   exact ⟨Day.Hf.2 ⟨by omega, by show x2 + 1 ≤ x0; omega, b1, b2⟩, by simp [c], hm⟩
  ·have c : v17 = false := by
    rw [q26, q24, q20] at hh; simp only [Bool.and_eq_true] at hh; rw [q17, hh.2.2.1]; rfl
   simp [c]
  ·rw [q7, t6] at hh
   cases hh
 ·have t6 : v6 = false := by rw [q6]; exact decide_eq_false h
  have e1 : Day.Nb ⟨x4, x0⟩ ⟨x5, x1⟩ x2 = true := Day.PF h
  refine ⟨by simp [q14, q10, t6], fun hh => ?_, fun hh => ?_, fun _ => e1.symm⟩
  ·rw [q25, t6] at hh
   cases hh
  ·rw [q26, t6] at hh
   cases hh
theorem Wg (as : List A) (e : Nat → A) (h1 : as = (List.range 6).map e) (h2 : (IS as).1 = true) (H : Ab T e L3.defs) : Bj e L3.obs ∧
   (∀ pc ls, some (V 25, [V 0, V 1, V 22, V 3, V 4, V 5]) = some (pc, ls) → (pc.ev e).bool = true → (IS (ls.map (L.ev e))).1 = true ∧ (IS (ls.map (L.ev e))).2 = (IS as).2 ∧ Wf (ls.map (L.ev e)) < Wf as) ∧
   ∀ x ∈ ([(V 26, [some (B true), none]), (V 7, [none, some (B true)])] : List (L × List (Option L))), (x.1.ev e).bool = true → ∀ (j : Nat) l, x.2[j]? = some (some l) → D6 (Hp.tags.getD j .any) (l.ev e) ((IS as).2.getD j (.i 0)) := by
 subst h1
 obtain ⟨ho, h⟩ := UF e H h2
 refine ⟨⟨ho.1, ho.2, trivial⟩, fun pc ls hb hpc => ?_, ?_⟩
 ·injection hb with hb
  injection hb with h3 h4
  subst h3 h4
  have h := h.1 hpc
  refine ⟨h.1, ?_, h.2.2⟩
  have h5 := h.2.1
  obtain ⟨z0, z1⟩ := h5
  exact (HF z0 (HF z1 rfl))
 ·intro x hx hpc j l hj
  simp only [List.mem_cons, List.not_mem_nil, or_false] at hx
  rcases hx with rfl | rfl
  ·have h := h.2.1 hpc
   have z0 := h
   match j, hj with
   | 0, hj => cases hj; exact z0
   | 1, hj => cases hj
   | _ + 2, hj => cases hj
  ·have h := h.2.2 hpc
   have z1 := h
   match j, hj with
   | 0, hj => cases hj
   | 1, hj => cases hj; exact z1
   | _ + 2, hj => cases hj
def Hq : G := ⟨21, [⟨20, .iteB, [V 5, V 17, V 4]⟩, ⟨19, .iteB, [V 5, V 16, B false]⟩, ⟨18, .not, [V 5]⟩, ⟨17, .iteB, [V 14, V 14, V 13]⟩, ⟨16, .iteB, [V 14, B true, B false]⟩, ⟨15, .not, [V 14]⟩, ⟨14, .and, [V 5, V 8]⟩, ⟨13, .and, [V 5, V 7]⟩, ⟨12, .imp, [V 5, V 11]⟩, ⟨11, .not, [V 10]⟩, ⟨10, .and, [V 7, V 8]⟩, ⟨9, .imp, [V 5, V 6]⟩, ⟨6, (.call 1190), [V 1, V 3, N 0, V 4, V 0, V 2]⟩, ⟨5, .not, [V 4]⟩, ⟨4, (.cmp .neq), [V 1, V 3]⟩], [V 12, V 9], []⟩
theorem N7 (e : Nat → A) (H : Ab T e Hq.defs) (hp : (Day.Yh (Day.L1.mk (e 0) (e 1).int)) = true) :
  ((e 12).bool = true ∧ (e 9).bool = true) ∧ (Day.GJ (Day.L1.mk (e 0) (e 1).int) (Day.L1.mk (e 2) (e 3).int) = (e 19).bool) := by
 simp only [Hq, Ab, Def.q, BI, L.Ak, L.Aw, L.AS, L.AV, L.ev, A.Ai, A.Ao, A.AF, A.AT, List.map_cons, List.map_nil, Nat.zero_add, Nat.add_zero, and_true, true_and, Nat.reduceAdd, Nat.one_mul] at H
 simp only [D0, Ee, CW, Bg, Ef, Ey, BV, Fq, and_true, true_and] at H
 obtain ⟨q20, q19, q18, q17, q16, q15, q14, q13, q12, q11, q10, q9, q6, q5, q4⟩ := H
 replace q6 := YA q6
 obtain ⟨q6, q7, q8⟩ := q6
 simp only [L.Ak, L.Aw, L.AS, L.AV, L.ev, A.Ai, A.Ao, A.AF] at q6 q7 q8
 generalize e 0 = x0, (e 1).int = x1, e 2 = x2, (e 3).int = x3, (e 4).bool = v4, (e 5).bool = v5, (e 6).bool = v6, (e 7).bool = v7, (e 8).bool = v8, (e 9).bool = v9, (e 10).bool = v10, (e 11).bool = v11, (e 12).bool = v12, (e 13).bool = v13, (e 14).bool = v14, (e 15).bool = v15, (e 16).bool = v16, (e 17).bool = v17, (e 18).bool = v18, (e 19).bool = v19, (e 20).bool = v20 at *
 by_cases h : x1 = x3
 ·have t5 : v5 = true := by rw [q5, q4]; simp [h]
  rw [Day.Aad hp h] at q6
  have e : Day.GJ ⟨x0, x1⟩ ⟨x2, x3⟩ = Day.Nb ⟨x0, x1⟩ ⟨x2, x3⟩ 0 := by
   unfold Day.GJ
   rw [decide_eq_true (show (Day.L1.mk x0 x1).n = (Day.L1.mk x2 x3).n from h)]
   rfl
  unfold Day.VO at q7
  rw [e]
  generalize Day.Nb ⟨x0, x1⟩ ⟨x2, x3⟩ 0 = ff at *
  clear e hp h q4 q5
  subst_vars
  cases ff <;> simp
 ·have t5 : v5 = false := by rw [q5, q4]; simp [h]
  have e : Day.GJ ⟨x0, x1⟩ ⟨x2, x3⟩ = false := by
   unfold Day.GJ
   rw [decide_eq_false (show ¬ (Day.L1.mk x0 x1).n = (Day.L1.mk x2 x3).n from h)]
   rfl
  rw [e]
  simp [q12, q9, q19, t5]
def Hr : Lp := ⟨16, [false, true, false, true, true], 1200, 6, 2, 2, ⟨Ez 26 [(0, .pv (.one (.k (.fsl 0 (V 0))))), (1, .pv (.one (.k (.fsl 1 (V 1))))), (4, .pv (.one (.k (.bool (B false))))), (5, .pv (.one (.k (.int .i64 (V 2))))), (6, .pv (.one (.k (.fsl 0 (V 0))))), (7, .pv (.one (.k (.int .i64 (V 0))))), (8, .pv (.one (.k (.fsl 1 (V 1))))), (9, .pv (.one (.k (.int .i64 (V 1))))), (10, .pv (.one (.k (.bool (V 3)))))], [⟨false, 0, 0, [], some ⟨false, 0, [.int .i64, .int .i64, .int .i64, .int .i64], V 4, V 0⟩⟩, ⟨false, 0, 0, [], some ⟨false, 0, [.int .i64, .int .i64, .int .i64, .int .i64], V 5, V 1⟩⟩], B true⟩, [(.ret, ⟨Ez 26 [(0, .pv (.one (.k (.fsl 0 (V 0))))), (1, .pv (.one (.k (.fsl 1 (V 1))))), (4, .pv (.one (.k (.bool (B false))))), (6, .pv (.one (.k (.fsl 0 (V 0))))), (7, .pv (.one (.k (.int .i64 (V 0))))), (8, .pv (.one (.k (.fsl 1 (V 1))))), (9, .pv (.one (.k (.int .i64 (V 1))))), (10, .pv (.one (.k (.bool (V 3)))))], [⟨false, 0, 0, [], some ⟨false, 0, [.int .i64, .int .i64, .int .i64, .int .i64], V 4, V 0⟩⟩, ⟨false, 0, 0, [], some ⟨false, 0, [.int .i64, .int .i64, .int .i64, .int .i64], V 5, V 1⟩⟩], V 6⟩), (.exit 0, ⟨Ez 26 [(0, .pv (.one (.k (.fsl 0 (V 0))))), (1, .pv (.one (.k (.fsl 1 (V 1))))), (4, .pv (.one (.k (.bool (B false))))), (6, .pv (.one (.k (.fsl 0 (V 0))))), (7, .pv (.one (.k (.int .i64 (V 0))))), (8, .pv (.one (.k (.fsl 1 (V 1))))), (9, .pv (.one (.k (.int .i64 (V 1))))), (10, .pv (.one (.k (.bool (V 3)))))], [⟨false, 0, 0, [], some ⟨false, 0, [.int .i64, .int .i64, .int .i64, .int .i64], V 4, V 0⟩⟩, ⟨false, 0, 0, [], some ⟨false, 0, [.int .i64, .int .i64, .int .i64, .int .i64], V 5, V 1⟩⟩], V 7⟩)], [true, true, false, true, true, true], [.b, .b]⟩
def L4 : G := ⟨40, [⟨39, .and, [V 6, V 37]⟩, ⟨38, .and, [V 6, V 34]⟩, ⟨37, .and, [V 36, V 33]⟩, ⟨36, .not, [V 34]⟩, ⟨35, (.ar .add .i64), [V 2, N 1]⟩, ⟨34, .and, [V 30, V 32]⟩, ⟨33, .and, [V 29, V 31]⟩, ⟨32, .and, [V 6, V 30]⟩, ⟨31, .and, [V 6, V 29]⟩, ⟨30, .not, [V 29]⟩, ⟨29, .not, [V 28]⟩, ⟨28, .and, [V 27, V 26]⟩, ⟨27, (.cmp .eql), [V 11, V 18]⟩, ⟨26, .and, [V 25, V 24]⟩, ⟨25, (.cmp .eql), [V 12, V 19]⟩, ⟨24, .and, [V 23, V 22]⟩, ⟨23, (.cmp .eql), [V 13, V 20]⟩, ⟨22, (.cmp .eql), [V 14, V 21]⟩, ⟨21, (.pix 3 4), [V 5, V 2]⟩, ⟨20, (.pix 2 4), [V 5, V 2]⟩, ⟨19, (.pix 1 4), [V 5, V 2]⟩, ⟨18, (.pix 0 4), [V 5, V 2]⟩, ⟨17, .imp, [V 6, V 16]⟩, ⟨16, .and, [V 8, V 15]⟩, ⟨15, (.cmp .lss), [V 2, V 1]⟩, ⟨14, (.pix 3 4), [V 4, V 2]⟩, ⟨13, (.pix 2 4), [V 4, V 2]⟩, ⟨12, (.pix 1 4), [V 4, V 2]⟩, ⟨11, (.pix 0 4), [V 4, V 2]⟩, ⟨10, .imp, [V 6, V 9]⟩, ⟨9, .and, [V 8, V 6]⟩, ⟨8, (.cmp .leq), [N 0, V 2]⟩, ⟨7, .not, [V 6]⟩, ⟨6, (.cmp .lss), [V 2, V 0]⟩], [V 17, V 10], []⟩
def Wh (al : List A) : Nat := (Day.L1.n (Day.L1.mk (ge al 4) (gi al 0)) - (gi al 2)).toNat
theorem UG (e : Nat → A) (H : Ab T e L4.defs) (hp : (Day.Y0 (Day.L1.mk (e 4) (e 0).int) (Day.L1.mk (e 5) (e 1).int) (e 2).int) = true) :
  ((e 17).bool = true ∧ (e 10).bool = true) ∧ ((e 38).bool = true → (Day.Y0 (Day.L1.mk (e 4) (e 0).int) (Day.L1.mk (e 5) (e 1).int) (e 35).int) = true ∧ (Day.PG (Day.L1.mk (e 4) (e 0).int) (Day.L1.mk (e 5) (e 1).int) (e 35).int = Day.PG (Day.L1.mk (e 4) (e 0).int) (Day.L1.mk (e 5) (e 1).int) (e 2).int ∧ Day.GK (Day.L1.mk (e 4) (e 0).int) (Day.L1.mk (e 5) (e 1).int) (e 35).int = Day.GK (Day.L1.mk (e 4) (e 0).int) (Day.L1.mk (e 5) (e 1).int) (e 2).int) ∧ (Day.L1.n (Day.L1.mk (e 4) (e 0).int) - (e 35).int).toNat < (Day.L1.n (Day.L1.mk (e 4) (e 0).int) - (e 2).int).toNat) ∧ ((e 39).bool = true → true = Day.PG (Day.L1.mk (e 4) (e 0).int) (Day.L1.mk (e 5) (e 1).int) (e 2).int) ∧ ((e 7).bool = true → true = Day.GK (Day.L1.mk (e 4) (e 0).int) (Day.L1.mk (e 5) (e 1).int) (e 2).int) := by
 simp only [L4, Ab, Def.q, BI, L.Ak, L.Aw, L.AS, L.AV, L.ev, A.Ai, A.Ao, A.AF, A.AT, List.map_cons, List.map_nil, Nat.zero_add, Nat.add_zero, and_true, true_and, Nat.reduceAdd, Nat.one_mul] at H
 simp only [D0, Ee, CW, Bg, Ef, Ey, BV, Fq, and_true, true_and] at H
 revert H
 simp only [and_imp]
 rintro q39 q38 q37 q36 q35 - q34 q33 q32 q31 q30 q29 q28 q27 q26 q25 q24 q23 q22 q21 q20 q19 q18 q17 q16 q15 q14 q13 q12 q11 q10 q9 q8 q7 q6
 generalize (e 0).int = x0, (e 1).int = x1, (e 2).int = x2, (e 3).int = x3, e 4 = x4, e 5 = x5, (e 6).bool = v6, (e 7).bool = v7, (e 8).bool = v8, (e 9).bool = v9, (e 10).bool = v10, (e 15).bool = v15, (e 16).bool = v16, (e 17).bool = v17, (e 22).bool = v22, (e 23).bool = v23, (e 24).bool = v24, (e 25).bool = v25, (e 26).bool = v26, (e 27).bool = v27, (e 28).bool = v28, (e 29).bool = v29, (e 30).bool = v30, (e 31).bool = v31, (e 32).bool = v32, (e 33).bool = v33, (e 34).bool = v34, (e 35).int = v35, (e 36).bool = v36, (e 37).bool = v37, (e 38).bool = v38, (e 39).bool = v39 at *
 replace q11 := congrArg A.int q11
 generalize (e 11).int = v11 at *
 replace q12 := congrArg A.int q12
 generalize (e 12).int = v12 at *
 replace q13 := congrArg A.int q13
 generalize (e 13).int = v13 at *
 replace q14 := congrArg A.int q14
 generalize (e 14).int = v14 at *
 replace q18 := congrArg A.int q18
 generalize (e 18).int = v18 at *
 replace q19 := congrArg A.int q19
 generalize (e 19).int = v19 at *
 replace q20 := congrArg A.int q20
 generalize (e 20).int = v20 at *
 replace q21 := congrArg A.int q21
 generalize (e 21).int = v21 at *
 have hb := Day.Hf.1 hp
 have b0 : 0 ≤ x2 := hb.1
 have b1 : x0 ≤ 1000000 := hb.2.2.1
 have b2 : x0 = x1 := hb.2.2.2
 by_cases h : x2 < x0
 ·obtain ⟨s1, hm⟩ := Day.Na (d := Day.Ui x4 x5) h
  have t6 : v6 = true := by rw [q6]; exact decide_eq_true h
  have w : v35 = x2 + 1 := by rw [q35]; exact wrap64 (by omega) (by omega)
  have hd : Day.Ui x4 x5 x2 = v28 := by
   unfold Day.Ui Day.Acd Day.Acb; rw [q28, q27, q26, q25, q24, q23, q22, q11, q12, q13, q14, q18, q19, q20, q21]; rfl
  have s2 : Day.GK ⟨x4, x0⟩ ⟨x5, x1⟩ x2 = (v28 && Day.GK ⟨x4, x0⟩ ⟨x5, x1⟩ (x2 + 1)) := by rw [← hd]; exact s1
  unfold Day.PG
  rw [w, s2]
  refine ⟨⟨by rw [q17, q16, q15, q8, t6]; simp; omega, by rw [q10, q9, q8, t6]; simp; omega⟩, fun hh => ?_, fun hh => ?_, fun hh => ?_⟩
  ·have c : v28 = true := by
    rw [q38, q34, q30, q29] at hh; simp only [Bool.and_eq_true, Bool.not_not] at hh; exact hh.2.1
   exact ⟨Day.Hf.2 ⟨by omega, by show x2 + 1 ≤ x0; omega, b1, b2⟩, by simp [c], hm⟩
  ·have c : v28 = false := by
    rw [q39, q37, q33, q29] at hh; simp only [Bool.and_eq_true, Bool.not_eq_true'] at hh; exact hh.2.2.1
   simp [c]
  ·rw [q7, t6] at hh
   cases hh
 ·have t6 : v6 = false := by rw [q6]; exact decide_eq_false h
  have e1 : Day.GK ⟨x4, x0⟩ ⟨x5, x1⟩ x2 = true := Day.PF h
  refine ⟨by simp [q17, q10, t6], fun hh => ?_, fun hh => ?_, fun _ => e1.symm⟩
  ·rw [q38, t6] at hh
   cases hh
  ·rw [q39, t6] at hh
   cases hh
theorem Wi (as : List A) (e : Nat → A) (h1 : as = (List.range 6).map e) (h2 : (IT as).1 = true) (H : Ab T e L4.defs) : Bj e L4.obs ∧
   (∀ pc ls, some (V 38, [V 0, V 1, V 35, V 3, V 4, V 5]) = some (pc, ls) → (pc.ev e).bool = true → (IT (ls.map (L.ev e))).1 = true ∧ (IT (ls.map (L.ev e))).2 = (IT as).2 ∧ Wh (ls.map (L.ev e)) < Wh as) ∧
   ∀ x ∈ ([(V 39, [some (B true), none]), (V 7, [none, some (B true)])] : List (L × List (Option L))), (x.1.ev e).bool = true → ∀ (j : Nat) l, x.2[j]? = some (some l) → D6 (Hr.tags.getD j .any) (l.ev e) ((IT as).2.getD j (.i 0)) := by
 subst h1
 obtain ⟨ho, h⟩ := UG e H h2
 refine ⟨⟨ho.1, ho.2, trivial⟩, fun pc ls hb hpc => ?_, ?_⟩
 ·injection hb with hb
  injection hb with h3 h4
  subst h3 h4
  have h := h.1 hpc
  refine ⟨h.1, ?_, h.2.2⟩
  have h5 := h.2.1
  obtain ⟨z0, z1⟩ := h5
  exact (HF z0 (HF z1 rfl))
 ·intro x hx hpc j l hj
  simp only [List.mem_cons, List.not_mem_nil, or_false] at hx
  rcases hx with rfl | rfl
  ·have h := h.2.1 hpc
   have z0 := h
   match j, hj with
   | 0, hj => cases hj; exact z0
   | 1, hj => cases hj
   | _ + 2, hj => cases hj
  ·have h := h.2.2 hpc
   have z1 := h
   match j, hj with
   | 0, hj => cases hj
   | 1, hj => cases hj; exact z1
   | _ + 2, hj => cases hj
def Gh : G := ⟨21, [⟨20, .iteB, [V 5, V 17, V 4]⟩, ⟨19, .iteB, [V 5, V 16, B false]⟩, ⟨18, .not, [V 5]⟩, ⟨17, .iteB, [V 14, V 14, V 13]⟩, ⟨16, .iteB, [V 14, B true, B false]⟩, ⟨15, .not, [V 14]⟩, ⟨14, .and, [V 5, V 8]⟩, ⟨13, .and, [V 5, V 7]⟩, ⟨12, .imp, [V 5, V 11]⟩, ⟨11, .not, [V 10]⟩, ⟨10, .and, [V 7, V 8]⟩, ⟨9, .imp, [V 5, V 6]⟩, ⟨6, (.call 1200), [V 1, V 3, N 0, V 4, V 0, V 2]⟩, ⟨5, .not, [V 4]⟩, ⟨4, (.cmp .neq), [V 1, V 3]⟩], [V 12, V 9], []⟩
theorem Nq (e : Nat → A) (H : Ab T e Gh.defs) (hp : (Day.Yh (Day.L1.mk (e 0) (e 1).int)) = true) :
  ((e 12).bool = true ∧ (e 9).bool = true) ∧ (Day.D8 (Day.L1.mk (e 0) (e 1).int) (Day.L1.mk (e 2) (e 3).int) = (e 19).bool) := by
 simp only [Gh, Ab, Def.q, BI, L.Ak, L.Aw, L.AS, L.AV, L.ev, A.Ai, A.Ao, A.AF, A.AT, List.map_cons, List.map_nil, Nat.zero_add, Nat.add_zero, and_true, true_and, Nat.reduceAdd, Nat.one_mul] at H
 simp only [D0, Ee, CW, Bg, Ef, Ey, BV, Fq, and_true, true_and] at H
 obtain ⟨q20, q19, q18, q17, q16, q15, q14, q13, q12, q11, q10, q9, q6, q5, q4⟩ := H
 replace q6 := YB q6
 obtain ⟨q6, q7, q8⟩ := q6
 simp only [L.Ak, L.Aw, L.AS, L.AV, L.ev, A.Ai, A.Ao, A.AF] at q6 q7 q8
 generalize e 0 = x0, (e 1).int = x1, e 2 = x2, (e 3).int = x3, (e 4).bool = v4, (e 5).bool = v5, (e 6).bool = v6, (e 7).bool = v7, (e 8).bool = v8, (e 9).bool = v9, (e 10).bool = v10, (e 11).bool = v11, (e 12).bool = v12, (e 13).bool = v13, (e 14).bool = v14, (e 15).bool = v15, (e 16).bool = v16, (e 17).bool = v17, (e 18).bool = v18, (e 19).bool = v19, (e 20).bool = v20 at *
 by_cases h : x1 = x3
 ·have t5 : v5 = true := by rw [q5, q4]; simp [h]
  rw [Day.Aad hp h] at q6
  have e : Day.D8 ⟨x0, x1⟩ ⟨x2, x3⟩ = Day.GK ⟨x0, x1⟩ ⟨x2, x3⟩ 0 := by
   unfold Day.D8
   rw [decide_eq_true (show (Day.L1.mk x0 x1).n = (Day.L1.mk x2 x3).n from h)]
   rfl
  unfold Day.PG at q7
  rw [e]
  generalize Day.GK ⟨x0, x1⟩ ⟨x2, x3⟩ 0 = ff at *
  clear e hp h q4 q5
  subst_vars
  cases ff <;> simp
 ·have t5 : v5 = false := by rw [q5, q4]; simp [h]
  have e : Day.D8 ⟨x0, x1⟩ ⟨x2, x3⟩ = false := by
   unfold Day.D8
   rw [decide_eq_false (show ¬ (Day.L1.mk x0 x1).n = (Day.L1.mk x2 x3).n from h)]
   rfl
  rw [e]
  simp [q12, q9, q19, t5]
end Rx.S
