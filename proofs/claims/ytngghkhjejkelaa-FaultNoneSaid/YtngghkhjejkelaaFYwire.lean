import Derived.Test.YtngghkhjejkelaaFXc
import Derived.Test.YtngghkhjejkelaaFXt
set_option linter.unusedVariables false
set_option linter.unusedSimpArgs false
namespace Rx.S
open Go Rx
set_option maxRecDepth 100000
set_option maxHeartbeats 1000000
def Jh : G := ⟨36, [⟨35, .iteB, [V 15, V 15, V 14]⟩, ⟨34, .iteV, [V 15, V 32, V 13]⟩, ⟨33, .not, [V 15]⟩, ⟨32, .scat, [V 19, V 24]⟩, ⟨31, .imp, [V 15, V 30]⟩, ⟨30, (.cmp .leq), [V 27, N 4611686018427387903]⟩, ⟨29, .imp, [V 15, V 28]⟩, ⟨28, (.cmp .leq), [V 26, N 4611686018427387903]⟩, ⟨27, .slen, [V 24]⟩, ⟨26, .slen, [V 19]⟩, ⟨25, .imp, [V 15, V 23]⟩, ⟨23, (.call 52), [V 21]⟩, ⟨22, .imp, [V 15, V 20]⟩, ⟨20, (.call 53), [V 19]⟩, ⟨19, .mks, [V 18]⟩, ⟨18, .mkl, [N 216, V 16, V 17]⟩, ⟨17, (.conv .u8), [V 1]⟩, ⟨16, (.conv .u8), [V 0]⟩, ⟨15, .and, [V 3, V 12]⟩, ⟨14, .iteB, [V 2, V 2, V 11]⟩, ⟨13, .iteV, [V 2, .s [0], .s []]⟩, ⟨12, .and, [V 8, V 10]⟩, ⟨11, .and, [V 7, V 9]⟩, ⟨10, .and, [V 3, V 8]⟩, ⟨9, .and, [V 3, V 7]⟩, ⟨8, .not, [V 7]⟩, ⟨7, .not, [V 5]⟩, ⟨6, .imp, [V 3, V 4]⟩, ⟨4, (.call 51), [V 0, V 1]⟩, ⟨3, .not, [V 2]⟩, ⟨2, (.cmp .eql), [V 0, N 3]⟩], [V 31, V 29, V 25, V 22, V 6], []⟩
theorem Ol (e : Nat → A) (H : Ah T e Jh.defs) (hp : (true) = true) :
  ((e 31).bool = true ∧ (e 29).bool = true ∧ (e 25).bool = true ∧ (e 22).bool = true ∧ (e 6).bool = true) ∧ (Day.D1 (Day.Fr.mk (e 0).int (e 1).int) = (e 34).str) := by
 simp only [Jh, Ah, Def.q, BQ, L.Al, L.Az, L.AX, L.A1, L.ev, A.Ak, A.Ap, A.AD, A.AW, List.map_cons, List.map_nil, Nat.zero_add, Nat.add_zero, and_true, true_and, Nat.reduceAdd, Nat.one_mul] at H
 simp only [EA, EW, Db, Bc, Fo, FK, B9, GS, and_true, true_and] at H
 obtain ⟨q35, ⟨-, q34⟩, q33, q32, q31, q30, q29, q28, q27, q26, q25, q23, q22, q20, q19, q18, ⟨q17, -⟩, ⟨q16, -⟩, q15, q14, ⟨-, q13⟩, q12, q11, q10, q9, q8, q7, q6, q4, q3, q2⟩ := H
 replace q23 := Qe q23
 obtain ⟨q23, q24⟩ := q23
 replace q20 := Re q20
 obtain ⟨q20, q21⟩ := q20
 replace q4 := Nx q4
 obtain ⟨q4, q5⟩ := q4
 simp only [L.Al, L.Az, L.AX, L.A1, L.ev, A.Ak, A.Ap, A.AD] at q23 q24 q20 q21 q4 q5
 rw [q18] at q19
 simp only [A.AW, List.map_cons, List.map_nil, A.Ak] at q19
 generalize (e 0).int = x0, (e 1).int = x1, (e 2).bool = v2, (e 3).bool = v3, (e 4).bool = v4, (e 5).bool = v5, (e 6).bool = v6, (e 7).bool = v7, (e 8).bool = v8, (e 9).bool = v9, (e 10).bool = v10, (e 11).bool = v11, (e 12).bool = v12, (e 13).str = v13, (e 14).bool = v14, (e 15).bool = v15, (e 16).int = v16, (e 17).int = v17, e 18 = v18, (e 19).str = v19, (e 20).bool = v20, (e 21).int = v21, (e 22).bool = v22, (e 23).bool = v23, (e 24).str = v24, (e 25).bool = v25, (e 26).int = v26, (e 27).int = v27, (e 28).bool = v28, (e 29).bool = v29, (e 30).bool = v30, (e 31).bool = v31, (e 32).str = v32, (e 33).bool = v33, (e 34).str = v34, (e 35).bool = v35 at *
 by_cases h3 : x0 = 3
 ·rw [Day.WS (f := ⟨x0, x1⟩) h3]
  subst_vars
  simp [Day.Hi]
 ·cases hs : Day.BA ⟨x0, x1⟩ with
  | false =>
   rw [Day.Ra (f := ⟨x0, x1⟩) h3 hs]
   rw [hs] at q5
   subst_vars
   simp [h3, Day.Nm]
  | true =>
   have e19 := Day.head_eq hs q16 q17 q19
   rw [Day.Rb (f := ⟨x0, x1⟩) h3 hs]
   have s1 := Day.KL ⟨x0, x1⟩
   have s2 := Day.Pp (Day.Je (Day.Hh ⟨x0, x1⟩))
   have s3 := Day.Nr ⟨x0, x1⟩
   have s4 := Day.S9 (Day.Hh ⟨x0, x1⟩)
   clear q16 q17 q19
   rw [hs] at q5
   subst_vars
   simp [h3, s1, s2, s3, s4]
def Ge : Lp := ⟨53, [false, true, false, true, true], 1040, 5, 1, 1, ⟨WL 19 [(0, .pv (.one (.k (.str (V 0))))), (2, .pv (.one (.k (.int .u32 (N 0))))), (3, .pv (.one (.k (.int .u32 (V 1))))), (6, .pv (.one (.k (.str (V 0))))), (7, .pv (.one (.k (.fsl 0 (V 2))))), (8, .pv (.one (.k (.int .i64 (V 2))))), (9, .pv (.one (.k (.int .i64 (V 3)))))], [⟨false, 0, 0, [], some ⟨false, 0, [.int .u8], V 4, V 2⟩⟩], B true⟩, [(.exit 0, ⟨WL 19 [(0, .pv (.one (.k (.str (V 0))))), (2, .pv (.one (.k (.int .u32 (N 0))))), (3, .pv (.one (.k (.int .u32 (V 5))))), (6, .pv (.one (.k (.str (V 0))))), (7, .pv (.one (.k (.fsl 0 (V 2)))))], [⟨false, 0, 0, [], some ⟨false, 0, [.int .u8], V 4, V 2⟩⟩], B true⟩)], [true, false, true, false, true], [.i]⟩
def JX : G := ⟨15, [⟨14, (.ar .add .i64), [V 3, N 1]⟩, ⟨13, .imp, [V 5, V 11]⟩, ⟨11, (.call 67), [V 1, V 10]⟩, ⟨10, (.pix 0 1), [V 4, V 3]⟩, ⟨9, .imp, [V 5, V 8]⟩, ⟨8, .and, [V 7, V 5]⟩, ⟨7, (.cmp .leq), [N 0, V 3]⟩, ⟨6, .not, [V 5]⟩, ⟨5, (.cmp .lss), [V 3, V 2]⟩], [V 13, V 9], []⟩
def Sf (al : List A) : Nat := ((gi al 2) - (gi al 3)).toNat
theorem Rg (e : Nat → A) (H : Ah T e JX.defs) (hp : (Day.u32 (e 1).int && (Day.upto (e 3).int (e 2).int && (Day.Es (e 4) (e 2).int && Day.Iy (e 2).int))) = true) :
  ((e 13).bool = true ∧ (e 9).bool = true) ∧ ((e 5).bool = true → (Day.u32 (e 12).int && (Day.upto (e 14).int (e 2).int && (Day.Es (e 4) (e 2).int && Day.Iy (e 2).int))) = true ∧ (Day.BR ((e 4).GW.drop (e 14).int.toNat) (e 12).int = Day.BR ((e 4).GW.drop (e 3).int.toNat) (e 1).int) ∧ ((e 2).int - (e 14).int).toNat < ((e 2).int - (e 3).int).toNat) ∧ ((e 6).bool = true → (e 1).int = Day.BR ((e 4).GW.drop (e 3).int.toNat) (e 1).int) := by
 simp only [JX, Ah, Def.q, BQ, L.Al, L.Az, L.AX, L.A1, L.ev, A.Ak, A.Ap, A.AD, A.AW, List.map_cons, List.map_nil, Nat.zero_add, Nat.add_zero, and_true, true_and, Nat.reduceAdd, Nat.one_mul] at H
 simp only [EA, EW, Db, Bc, Fo, FK, B9, GS, and_true, true_and] at H
 obtain ⟨⟨q14, -⟩, q13, q11, q10, q9, q8, q7, q6, q5⟩ := H
 replace q11 := Rd q11
 obtain ⟨q11, q12⟩ := q11
 simp only [L.Al, L.Az, L.AX, L.A1, L.ev, A.Ak, A.Ap, A.AD] at q11 q12
 generalize (e 0).int = x0, (e 1).int = x1, (e 2).int = x2, (e 3).int = x3, e 4 = x4, (e 5).bool = v5, (e 6).bool = v6, (e 7).bool = v7, (e 8).bool = v8, (e 9).bool = v9, (e 11).bool = v11, (e 12).int = v12, (e 13).bool = v13, (e 14).int = v14 at *
 replace q10 := congrArg A.int q10
 generalize (e 10).int = v10 at *
 by_cases h : x3 < x2
 ·obtain ⟨s1, s2, s3⟩ := Day.Sc hp h q10 q12 q14
  have c5 : v5 = true := by rw [q5]; simpa using h
  rw [q13, q9, q8, q7, q6, q11, s1, c5]
  exact ⟨by simp [s2], fun _ => s3, fun h => by simp at h⟩
 ·have c5 : v5 = false := by rw [q5]; simpa using h
  rw [q13, q9, q6, c5]
  exact ⟨by simp, fun h => by simp at h, fun _ => Day.TJ hp h⟩
theorem Sg (as : List A) (e : Nat → A) (h1 : as = (List.range 5).map e) (h2 : (Hl as).1 = true) (H : Ah T e JX.defs) : Hg e JX.obs ∧
   (∀ pc ls, some (V 5, [V 0, V 12, V 2, V 14, V 4]) = some (pc, ls) → (pc.ev e).bool = true → (Hl (ls.map (L.ev e))).1 = true ∧ (Hl (ls.map (L.ev e))).2 = (Hl as).2 ∧ Sf (ls.map (L.ev e)) < Sf as) ∧
   ∀ x ∈ ([(V 6, [some (V 1)])] : List (L × List (Option L))), (x.1.ev e).bool = true → ∀ (j : Nat) l, x.2[j]? = some (some l) → H7 (Ge.tags.getD j .any) (l.ev e) ((Hl as).2.getD j (.i 0)) := by
 subst h1
 obtain ⟨ho, h⟩ := Rg e H h2
 refine ⟨⟨ho.1, ho.2, trivial⟩, fun pc ls hb hpc => ?_, ?_⟩
 ·injection hb with hb
  injection hb with h3 h4
  subst h3 h4
  have h := h.1 hpc
  refine ⟨h.1, ?_, h.2.2⟩
  have h5 := h.2.1
  have z0 := h5
  exact (Ta z0 rfl)
 ·intro x hx hpc j l hj
  simp only [List.mem_cons, List.not_mem_nil, or_false] at hx
  rcases hx with rfl
  ·have h := h.2 hpc
   have z0 := h
   match j, hj with
   | 0, hj => cases hj; exact z0
   | _ + 1, hj => cases hj
def KS : G := ⟨6, [⟨5, (.bt .xor .u32), [N 4294967295, V 4]⟩, ⟨3, (.call 1040), [V 0, N 4294967295, V 2, N 0, V 1]⟩, ⟨2, .slen, [V 0]⟩, ⟨1, .sby, [V 0]⟩], [V 3], []⟩
theorem Qi (e : Nat → A) (H : Ah T e KS.defs) (hp : (Day.B0 (e 0).str) = true) :
  ((e 3).bool = true) ∧ (Day.Je (e 0).str = (e 5).int) := by
 simp only [KS, Ah, Def.q, BQ, L.Al, L.Az, L.AX, L.A1, L.ev, A.Ak, A.Ap, A.AD, A.AW, List.map_cons, List.map_nil, Nat.zero_add, Nat.add_zero, and_true, true_and, Nat.reduceAdd, Nat.one_mul] at H
 simp only [EA, EW, Db, Bc, Fo, FK, B9, GS, and_true, true_and] at H
 obtain ⟨q5, q3, q2, q1⟩ := H
 replace q3 := TP q3
 obtain ⟨q3, q4⟩ := q3
 simp only [L.Al, L.Az, L.AX, L.A1, L.ev, A.Ak, A.Ap, A.AD] at q3 q4
 generalize (e 0).str = x0, e 1 = v1, (e 2).int = v2, (e 3).bool = v3, (e 4).int = v4, (e 5).int = v5 at *
 have hs : (x0.size : Int) ≤ 1000 := by simpa [Day.B0] using hp
 have hb := Day.TI x0 (x := v1) q1
 have e1 : v1.GW = Day.Bp x0 := by rw [q1]; rfl
 have h4 : v4 = Day.BR (Day.Bp x0) 4294967295 := by rw [q4, e1]; rfl
 have hr := Day.ET (Day.Bp x0) (r := 4294967295) (by omega)
 rw [← h4] at hr
 refine ⟨?_, ?_⟩
 ·rw [q3, q2, hb]; simp [Day.upto, Day.u32, Day.Iy, hs]
 ·rw [Day.U4, ← h4]; exact (Day.X4 hr q5).symm
def Gf : Lp := ⟨67, [false, true, false, true, true], 1020, 6, 1, 0, ⟨WL 20 [(0, .pv (.one (.k (.int .u32 (V 0))))), (1, .pv (.one (.k (.int .u8 (V 1))))), (4, .pv (.one (.k (.int .u32 (N 0))))), (5, .pv (.one (.k (.int .u32 (V 2))))), (6, .pv (.one (.k (.int .u8 (V 1))))), (7, .pv (.one (.k (.int .u32 (V 3))))), (8, .pv (.one (.k (.int .u32 (V 4))))), (9, .pv (.one (.k (.int .i64 (V 5)))))], [], B true⟩, [(.exit 0, ⟨WL 20 [(0, .pv (.one (.k (.int .u32 (V 6))))), (1, .pv (.one (.k (.int .u8 (V 1))))), (4, .pv (.one (.k (.int .u32 (N 0))))), (5, .pv (.one (.k (.int .u32 (V 2))))), (6, .pv (.one (.k (.int .u8 (V 1))))), (7, .pv (.one (.k (.int .u32 (V 3))))), (8, .pv (.one (.k (.int .u32 (V 4)))))], [], B true⟩)], [false, true, true, true, true, false], [.i]⟩
def JY : G := ⟨14, [⟨13, (.ar .add .i64), [V 5, N 1]⟩, ⟨12, (.bt .xor .u32), [V 8, V 11]⟩, ⟨11, (.bt .and .u32), [N 3988292384, V 10]⟩, ⟨10, (.neg .u32), [V 9]⟩, ⟨9, (.bt .and .u32), [V 0, N 1]⟩, ⟨8, (.sh .shr .u32), [V 0, N 1]⟩, ⟨7, .not, [V 6]⟩, ⟨6, (.cmp .lss), [V 5, N 8]⟩], [], []⟩
def Sh (al : List A) : Nat := (8 - (gi al 5)).toNat
theorem Rh (e : Nat → A) (H : Ah T e JY.defs) (hp : (Day.u32 (e 0).int && Day.upto (e 5).int 8) = true) :
  (True) ∧ ((e 6).bool = true → (Day.u32 (e 12).int && Day.upto (e 13).int 8) = true ∧ (Day.DG (8 - (e 13).int).toNat (e 12).int = Day.DG (8 - (e 5).int).toNat (e 0).int) ∧ (8 - (e 13).int).toNat < (8 - (e 5).int).toNat) ∧ ((e 7).bool = true → (e 0).int = Day.DG (8 - (e 5).int).toNat (e 0).int) := by
 simp only [JY, Ah, Def.q, BQ, L.Al, L.Az, L.AX, L.A1, L.ev, A.Ak, A.Ap, A.AD, A.AW, List.map_cons, List.map_nil, Nat.zero_add, Nat.add_zero, and_true, true_and, Nat.reduceAdd, Nat.one_mul] at H
 simp only [EA, EW, Db, Bc, Fo, FK, B9, GS, and_true, true_and] at H
 obtain ⟨⟨q13, -⟩, q12, q11, q10, q9, ⟨q8, -⟩, q7, q6⟩ := H
 generalize (e 0).int = x0, (e 1).int = x1, (e 2).int = x2, (e 3).int = x3, (e 4).int = x4, (e 5).int = x5, (e 6).bool = v6, (e 7).bool = v7, (e 8).int = v8, (e 9).int = v9, (e 10).int = v10, (e 11).int = v11, (e 12).int = v12, (e 13).int = v13 at *
 have hr : 0 ≤ x0 ∧ x0 ≤ 4294967295 := by
  simp only [Bool.and_eq_true, Day.Ck] at hp
  exact hp.1
 refine ⟨trivial, fun h => Day.No hp (by rw [q6] at h; simpa using h) (Day.step_eq (s := v8) (a := v9) (g := v10) (p := v11) hr q8 q9 q10 q11 q12) q13, fun h => Day.Po hp (by rw [q7, q6] at h; simpa using h)⟩
theorem Si (as : List A) (e : Nat → A) (h1 : as = (List.range 6).map e) (h2 : (Hj as).1 = true) (H : Ah T e JY.defs) : Hg e JY.obs ∧
   (∀ pc ls, some (V 6, [V 12, V 1, V 2, V 3, V 4, V 13]) = some (pc, ls) → (pc.ev e).bool = true → (Hj (ls.map (L.ev e))).1 = true ∧ (Hj (ls.map (L.ev e))).2 = (Hj as).2 ∧ Sh (ls.map (L.ev e)) < Sh as) ∧
   ∀ x ∈ ([(V 7, [some (V 0)])] : List (L × List (Option L))), (x.1.ev e).bool = true → ∀ (j : Nat) l, x.2[j]? = some (some l) → H7 (Gf.tags.getD j .any) (l.ev e) ((Hj as).2.getD j (.i 0)) := by
 subst h1
 obtain ⟨ho, h⟩ := Rh e H h2
 refine ⟨trivial, fun pc ls hb hpc => ?_, ?_⟩
 ·injection hb with hb
  injection hb with h3 h4
  subst h3 h4
  have h := h.1 hpc
  refine ⟨h.1, ?_, h.2.2⟩
  have h5 := h.2.1
  have z0 := h5
  exact (Ta z0 rfl)
 ·intro x hx hpc j l hj
  simp only [List.mem_cons, List.not_mem_nil, or_false] at hx
  rcases hx with rfl
  ·have h := h.2 hpc
   have z0 := h
   match j, hj with
   | 0, hj => cases hj; exact z0
   | _ + 1, hj => cases hj
def KT : G := ⟨6, [⟨4, (.call 1020), [V 3, V 1, V 0, V 2, V 3, N 0]⟩, ⟨3, (.bt .xor .u32), [V 0, V 2]⟩, ⟨2, (.conv .u32), [V 1]⟩], [V 4], []⟩
theorem Qj (e : Nat → A) (H : Ah T e KT.defs) (hp : (Day.u32 (e 0).int && Day.u8 (e 1).int) = true) :
  ((e 4).bool = true) ∧ (Day.KJ (e 0).int (e 1).int = (e 5).int) := by
 simp only [KT, Ah, Def.q, BQ, L.Al, L.Az, L.AX, L.A1, L.ev, A.Ak, A.Ap, A.AD, A.AW, List.map_cons, List.map_nil, Nat.zero_add, Nat.add_zero, and_true, true_and, Nat.reduceAdd, Nat.one_mul] at H
 simp only [EA, EW, Db, Bc, Fo, FK, B9, GS, and_true, true_and] at H
 obtain ⟨q4, q3, ⟨q2, -⟩⟩ := H
 replace q4 := TN q4
 obtain ⟨q4, q5⟩ := q4
 simp only [L.Al, L.Az, L.AX, L.A1, L.ev, A.Ak, A.Ap, A.AD] at q4 q5
 generalize (e 0).int = x0, (e 1).int = x1, (e 2).int = v2, (e 3).int = v3, (e 4).bool = v4, (e 5).int = v5 at *
 simp only [Bool.and_eq_true, Day.Ck, Day.Sa] at hp
 have w : v2 = x1 := by rw [q2, Day.wrap_u32]; omega
 have h3 : v3 = Day.JR x0 x1 := by rw [q3, w]; rfl
 have hr := Day.H8 x0 x1
 refine ⟨?_, ?_⟩
 ·rw [q4, h3]; simp [Day.upto, Day.u32, hr]
 ·rw [q5, h3]; rfl
def Ji : G := ⟨10, [⟨9, .mks, [V 8]⟩, ⟨8, .mkl, [V 2, V 4, V 6, V 7]⟩, ⟨7, (.conv .u8), [V 0]⟩, ⟨6, (.conv .u8), [V 5]⟩, ⟨5, (.sh .shr .u32), [V 0, N 8]⟩, ⟨4, (.conv .u8), [V 3]⟩, ⟨3, (.sh .shr .u32), [V 0, N 16]⟩, ⟨2, (.conv .u8), [V 1]⟩, ⟨1, (.sh .shr .u32), [V 0, N 24]⟩], [], []⟩
theorem Oo (e : Nat → A) (H : Ah T e Ji.defs) (hp : (Day.u32 (e 0).int) = true) :
  (True) ∧ (Day.JT (e 0).int = (e 9).str) := by
 simp only [Ji, Ah, Def.q, BQ, L.Al, L.Az, L.AX, L.A1, L.ev, A.Ak, A.Ap, A.AD, A.AW, List.map_cons, List.map_nil, Nat.zero_add, Nat.add_zero, and_true, true_and, Nat.reduceAdd, Nat.one_mul] at H
 simp only [EA, EW, Db, Bc, Fo, FK, B9, GS, and_true, true_and] at H
 obtain ⟨q9, q8, ⟨q7, -⟩, ⟨q6, -⟩, ⟨q5, -⟩, ⟨q4, -⟩, ⟨q3, -⟩, ⟨q2, -⟩, ⟨q1, -⟩⟩ := H
 rw [q8] at q9
 simp only [A.AW, List.map_cons, List.map_nil, A.Ak] at q9
 generalize (e 0).int = x0, (e 1).int = v1, (e 2).int = v2, (e 3).int = v3, (e 4).int = v4, (e 5).int = v5, (e 6).int = v6, (e 7).int = v7, e 8 = v8, (e 9).str = v9 at *
 have h0 := Day.Ck.1 hp
 have e1 : v1 = x0 / 16777216 := by rw [q1]; exact Int.fdiv_eq_ediv_of_nonneg _ (by decide)
 have e3 : v3 = x0 / 65536 := by rw [q3]; exact Int.fdiv_eq_ediv_of_nonneg _ (by decide)
 have e5 : v5 = x0 / 256 := by rw [q5]; exact Int.fdiv_eq_ediv_of_nonneg _ (by decide)
 have e7 : x0 = x0 / 1 := by simp
 refine ⟨trivial, ?_⟩
 rw [q9, Day.JU e1 q2, Day.JU e3 q4, Day.JU e5 q6, Day.JU e7 q7]
 rfl
def Gh : G := ⟨10, [⟨9, .iteB, [V 7, V 8, B false]⟩, ⟨8, (.cmp .lss), [V 1, N 8]⟩, ⟨7, .iteB, [V 5, V 6, B false]⟩, ⟨6, (.cmp .geq), [V 1, N 0]⟩, ⟨5, .iteB, [V 2, B true, V 4]⟩, ⟨4, (.cmp .eql), [V 0, N 2]⟩, ⟨3, .not, [V 2]⟩, ⟨2, (.cmp .eql), [V 0, N 1]⟩], [], []⟩
theorem LN (e : Nat → A) (H : Ah T e Gh.defs) (hp : (true) = true) :
  (True) ∧ (Day.BA (Day.Fr.mk (e 0).int (e 1).int) = (e 9).bool) := by
 simp only [Gh, Ah, Def.q, BQ, L.Al, L.Az, L.AX, L.A1, L.ev, A.Ak, A.Ap, A.AD, A.AW, List.map_cons, List.map_nil, Nat.zero_add, Nat.add_zero, and_true, true_and, Nat.reduceAdd, Nat.one_mul] at H
 simp only [EA, EW, Db, Bc, Fo, FK, B9, GS, and_true, true_and] at H
 obtain ⟨q9, q8, q7, q6, q5, q4, q3, q2⟩ := H
 generalize (e 0).int = x0, (e 1).int = x1, (e 2).bool = v2, (e 3).bool = v3, (e 4).bool = v4, (e 5).bool = v5, (e 6).bool = v6, (e 7).bool = v7, (e 8).bool = v8, (e 9).bool = v9 at *
 grind [Day.many, Day.right, Day.Bq, Day.AY, Day.AZ, Day.isNode, Day.Bt, Day.BS, Day.BT, Day.Cf, Day.BE, Day.BA, Day.Cw, Day.CI, Day.Nm]
def HD : G := ⟨36, [⟨35, .iteB, [V 3, V 32, V 2]⟩, ⟨34, .iteV, [V 3, V 31, .s [0]]⟩, ⟨33, .not, [V 3]⟩, ⟨32, .iteB, [V 12, V 12, V 11]⟩, ⟨31, .iteV, [V 12, V 29, .s []]⟩, ⟨30, .not, [V 12]⟩, ⟨29, .scat, [V 16, V 21]⟩, ⟨28, .imp, [V 12, V 27]⟩, ⟨27, (.cmp .leq), [V 24, N 4611686018427387903]⟩, ⟨26, .imp, [V 12, V 25]⟩, ⟨25, (.cmp .leq), [V 23, N 4611686018427387903]⟩, ⟨24, .slen, [V 21]⟩, ⟨23, .slen, [V 16]⟩, ⟨22, .imp, [V 12, V 20]⟩, ⟨20, (.call 34), [V 18]⟩, ⟨19, .imp, [V 12, V 17]⟩, ⟨17, (.call 35), [V 16]⟩, ⟨16, .mks, [V 15]⟩, ⟨15, .mkl, [N 216, V 13, V 14]⟩, ⟨14, (.conv .u8), [V 1]⟩, ⟨13, (.conv .u8), [V 0]⟩, ⟨12, .and, [V 8, V 10]⟩, ⟨11, .and, [V 7, V 9]⟩, ⟨10, .and, [V 3, V 8]⟩, ⟨9, .and, [V 3, V 7]⟩, ⟨8, .not, [V 7]⟩, ⟨7, .not, [V 5]⟩, ⟨6, .imp, [V 3, V 4]⟩, ⟨4, (.call 33), [V 0, V 1]⟩, ⟨3, .not, [V 2]⟩, ⟨2, (.cmp .eql), [V 0, N 3]⟩], [V 28, V 26, V 22, V 19, V 6], []⟩
theorem NN (e : Nat → A) (H : Ah T e HD.defs) (hp : (true) = true) :
  ((e 28).bool = true ∧ (e 26).bool = true ∧ (e 22).bool = true ∧ (e 19).bool = true ∧ (e 6).bool = true) ∧ (Day.D1 (Day.Fr.mk (e 0).int (e 1).int) = (e 34).str) := by
 simp only [HD, Ah, Def.q, BQ, L.Al, L.Az, L.AX, L.A1, L.ev, A.Ak, A.Ap, A.AD, A.AW, List.map_cons, List.map_nil, Nat.zero_add, Nat.add_zero, and_true, true_and, Nat.reduceAdd, Nat.one_mul] at H
 simp only [EA, EW, Db, Bc, Fo, FK, B9, GS, and_true, true_and] at H
 obtain ⟨q35, ⟨-, q34⟩, q33, q32, ⟨-, q31⟩, q30, q29, q28, q27, q26, q25, q24, q23, q22, q20, q19, q17, q16, q15, ⟨q14, -⟩, ⟨q13, -⟩, q12, q11, q10, q9, q8, q7, q6, q4, q3, q2⟩ := H
 replace q20 := Nw q20
 obtain ⟨q20, q21⟩ := q20
 replace q17 := Og q17
 obtain ⟨q17, q18⟩ := q17
 replace q4 := LB q4
 obtain ⟨q4, q5⟩ := q4
 simp only [L.Al, L.Az, L.AX, L.A1, L.ev, A.Ak, A.Ap, A.AD] at q20 q21 q17 q18 q4 q5
 rw [q15] at q16
 simp only [A.AW, List.map_cons, List.map_nil, A.Ak] at q16
 generalize (e 0).int = x0, (e 1).int = x1, (e 2).bool = v2, (e 3).bool = v3, (e 4).bool = v4, (e 5).bool = v5, (e 6).bool = v6, (e 7).bool = v7, (e 8).bool = v8, (e 9).bool = v9, (e 10).bool = v10, (e 11).bool = v11, (e 12).bool = v12, (e 13).int = v13, (e 14).int = v14, e 15 = v15, (e 16).str = v16, (e 17).bool = v17, (e 18).int = v18, (e 19).bool = v19, (e 20).bool = v20, (e 21).str = v21, (e 22).bool = v22, (e 23).int = v23, (e 24).int = v24, (e 25).bool = v25, (e 26).bool = v26, (e 27).bool = v27, (e 28).bool = v28, (e 29).str = v29, (e 30).bool = v30, (e 31).str = v31, (e 32).bool = v32, (e 33).bool = v33, (e 34).str = v34, (e 35).bool = v35 at *
 by_cases h3 : x0 = 3
 ·rw [Day.WS (f := ⟨x0, x1⟩) h3]
  subst_vars
  simp [Day.Hi]
 ·cases hs : Day.BA ⟨x0, x1⟩ with
  | false =>
   rw [Day.Ra (f := ⟨x0, x1⟩) h3 hs]
   rw [hs] at q5
   subst_vars
   simp [h3, Day.Nm]
  | true =>
   have e19 := Day.head_eq hs q13 q14 q16
   rw [Day.Rb (f := ⟨x0, x1⟩) h3 hs]
   have s1 := Day.KL ⟨x0, x1⟩
   have s2 := Day.Pp (Day.Je (Day.Hh ⟨x0, x1⟩))
   have s3 := Day.Nr ⟨x0, x1⟩
   have s4 := Day.S9 (Day.Hh ⟨x0, x1⟩)
   clear q13 q14 q16
   rw [hs] at q5
   subst_vars
   simp [h3, s1, s2, s3, s4]
def Gj : Lp := ⟨35, [false, true, false, true, true], 1050, 3, 1, 0, ⟨WL 18 [(0, .pv (.one (.k (.str (V 0))))), (2, .pv (.one (.k (.int .u32 (N 0))))), (3, .pv (.one (.k (.int .u32 (V 1))))), (4, .pv (.one (.k (.int .i64 (V 2)))))], [], B true⟩, [(.exit 0, ⟨WL 18 [(2, .pv (.one (.k (.int .u32 (N 0))))), (3, .pv (.one (.k (.int .u32 (V 3)))))], [], B true⟩)], [true, false, false], [.i]⟩
def J6 : G := ⟨14, [⟨13, (.ar .add .i64), [V 2, N 1]⟩, ⟨12, .imp, [V 4, V 10]⟩, ⟨10, (.call 50), [V 1, V 9]⟩, ⟨9, .sget, [V 0, V 2]⟩, ⟨8, .imp, [V 4, V 7]⟩, ⟨7, .and, [V 6, V 4]⟩, ⟨6, (.cmp .leq), [N 0, V 2]⟩, ⟨5, .not, [V 4]⟩, ⟨4, (.cmp .lss), [V 2, V 3]⟩, ⟨3, .slen, [V 0]⟩], [V 12, V 8], []⟩
def Sl (al : List A) : Nat := (Day.Er (gs al 0) - (gi al 2)).toNat
theorem Rn (e : Nat → A) (H : Ah T e J6.defs) (hp : (Day.u32 (e 1).int && (Day.upto (e 2).int (Day.Er (e 0).str) && Day.B0 (e 0).str)) = true) :
  ((e 12).bool = true ∧ (e 8).bool = true) ∧ ((e 4).bool = true → (Day.u32 (e 11).int && (Day.upto (e 13).int (Day.Er (e 0).str) && Day.B0 (e 0).str)) = true ∧ (Day.BR ((Day.Bp (e 0).str).drop (e 13).int.toNat) (e 11).int = Day.BR ((Day.Bp (e 0).str).drop (e 2).int.toNat) (e 1).int) ∧ (Day.Er (e 0).str - (e 13).int).toNat < (Day.Er (e 0).str - (e 2).int).toNat) ∧ ((e 5).bool = true → (e 1).int = Day.BR ((Day.Bp (e 0).str).drop (e 2).int.toNat) (e 1).int) := by
 simp only [J6, Ah, Def.q, BQ, L.Al, L.Az, L.AX, L.A1, L.ev, A.Ak, A.Ap, A.AD, A.AW, List.map_cons, List.map_nil, Nat.zero_add, Nat.add_zero, and_true, true_and, Nat.reduceAdd, Nat.one_mul] at H
 simp only [EA, EW, Db, Bc, Fo, FK, B9, GS, and_true, true_and] at H
 obtain ⟨⟨q13, -⟩, q12, q10, q9, q8, q7, q6, q5, q4, q3⟩ := H
 replace q10 := Of q10
 obtain ⟨q10, q11⟩ := q10
 simp only [L.Al, L.Az, L.AX, L.A1, L.ev, A.Ak, A.Ap, A.AD] at q10 q11
 generalize (e 0).str = x0, (e 1).int = x1, (e 2).int = x2, (e 3).int = v3, (e 4).bool = v4, (e 5).bool = v5, (e 6).bool = v6, (e 7).bool = v7, (e 8).bool = v8, (e 9).int = v9, (e 10).bool = v10, (e 11).int = v11, (e 12).bool = v12, (e 13).int = v13 at *
 by_cases h : x2 < (x0.size : Int)
 ·obtain ⟨s1, s2, s3⟩ := Day.Sd hp h q9 q11 q13
  have c5 : v4 = true := by rw [q4, q3]; simpa using h
  rw [q12, q8, q7, q6, q5, q10, s1, c5]
  exact ⟨by simp [s2], fun _ => s3, fun h => by simp at h⟩
 ·have c5 : v4 = false := by rw [q4, q3]; simpa using h
  rw [q12, q8, q5, c5]
  exact ⟨by simp, fun h => by simp at h, fun _ => Day.TL hp h⟩
theorem Sm (as : List A) (e : Nat → A) (h1 : as = (List.range 3).map e) (h2 : (Hm as).1 = true) (H : Ah T e J6.defs) : Hg e J6.obs ∧
   (∀ pc ls, some (V 4, [V 0, V 11, V 13]) = some (pc, ls) → (pc.ev e).bool = true → (Hm (ls.map (L.ev e))).1 = true ∧ (Hm (ls.map (L.ev e))).2 = (Hm as).2 ∧ Sl (ls.map (L.ev e)) < Sl as) ∧
   ∀ x ∈ ([(V 5, [some (V 1)])] : List (L × List (Option L))), (x.1.ev e).bool = true → ∀ (j : Nat) l, x.2[j]? = some (some l) → H7 (Gj.tags.getD j .any) (l.ev e) ((Hm as).2.getD j (.i 0)) := by
 subst h1
 obtain ⟨ho, h⟩ := Rn e H h2
 refine ⟨⟨ho.1, ho.2, trivial⟩, fun pc ls hb hpc => ?_, ?_⟩
 ·injection hb with hb
  injection hb with h3 h4
  subst h3 h4
  have h := h.1 hpc
  refine ⟨h.1, ?_, h.2.2⟩
  have h5 := h.2.1
  have z0 := h5
  exact (Ta z0 rfl)
 ·intro x hx hpc j l hj
  simp only [List.mem_cons, List.not_mem_nil, or_false] at hx
  rcases hx with rfl
  ·have h := h.2 hpc
   have z0 := h
   match j, hj with
   | 0, hj => cases hj; exact z0
   | _ + 1, hj => cases hj
def HE : G := ⟨4, [⟨3, (.ar .sub .u32), [N 4294967295, V 2]⟩, ⟨1, (.call 1050), [V 0, N 4294967295, N 0]⟩], [V 1], []⟩
theorem NO (e : Nat → A) (H : Ah T e HE.defs) (hp : (Day.B0 (e 0).str) = true) :
  ((e 1).bool = true) ∧ (Day.Je (e 0).str = (e 3).int) := by
 simp only [HE, Ah, Def.q, BQ, L.Al, L.Az, L.AX, L.A1, L.ev, A.Ak, A.Ap, A.AD, A.AW, List.map_cons, List.map_nil, Nat.zero_add, Nat.add_zero, and_true, true_and, Nat.reduceAdd, Nat.one_mul] at H
 simp only [EA, EW, Db, Bc, Fo, FK, B9, GS, and_true, true_and] at H
 obtain ⟨⟨q3, -⟩, q1⟩ := H
 replace q1 := TQ q1
 obtain ⟨q1, q2⟩ := q1
 simp only [L.Al, L.Az, L.AX, L.A1, L.ev, A.Ak, A.Ap, A.AD] at q1 q2
 generalize (e 0).str = x0, (e 1).bool = v1, (e 2).int = v2, (e 3).int = v3 at *
 have h2 : v2 = Day.BR (Day.Bp x0) 4294967295 := by rw [q2]; rfl
 have hr := Day.ET (Day.Bp x0) (r := 4294967295) (by omega)
 rw [← h2] at hr
 refine ⟨?_, ?_⟩
 ·rw [q1]; simp [Day.upto, Day.u32, Day.Er, hp]
 ·rw [Day.U4, ← h2, q3, Day.wrap_u32]; omega
def Gk : Lp := ⟨50, [false, true, false, true, true], 1030, 6, 1, 0, ⟨WL 23 [(0, .pv (.one (.k (.int .u32 (V 0))))), (1, .pv (.one (.k (.int .u8 (V 1))))), (4, .pv (.one (.k (.int .u32 (N 0))))), (5, .pv (.one (.k (.int .i64 (V 2))))), (6, .pv (.one (.k (.int .u32 (V 3))))), (7, .pv (.one (.k (.int .u8 (V 1))))), (8, .pv (.one (.k (.int .u32 (V 4))))), (9, .pv (.one (.k (.int .u32 (V 5)))))], [], B true⟩, [(.exit 0, ⟨WL 23 [(0, .pv (.one (.k (.int .u32 (V 6))))), (1, .pv (.one (.k (.int .u8 (V 1))))), (4, .pv (.one (.k (.int .u32 (N 0))))), (6, .pv (.one (.k (.int .u32 (V 3))))), (7, .pv (.one (.k (.int .u8 (V 1))))), (8, .pv (.one (.k (.int .u32 (V 4))))), (9, .pv (.one (.k (.int .u32 (V 5)))))], [], B true⟩)], [false, true, false, true, true, true], [.i]⟩
def J7 : G := ⟨17, [⟨16, (.ar .add .i64), [V 2, N 1]⟩, ⟨15, .iteI, [V 9, V 14, V 13]⟩, ⟨14, (.bt .xor .u32), [V 13, N 3988292384]⟩, ⟨13, (.dv .quo .u32), [V 0, N 2]⟩, ⟨12, .and, [V 6, V 10]⟩, ⟨11, .and, [V 6, V 9]⟩, ⟨10, .not, [V 9]⟩, ⟨9, (.cmp .eql), [V 8, N 1]⟩, ⟨8, (.dv .rem .u32), [V 0, N 2]⟩, ⟨7, .not, [V 6]⟩, ⟨6, (.cmp .lss), [V 2, N 8]⟩], [], []⟩
def Sn (al : List A) : Nat := (8 - (gi al 2)).toNat
theorem Ro (e : Nat → A) (H : Ah T e J7.defs) (hp : (Day.u32 (e 0).int && Day.upto (e 2).int 8) = true) :
  (True) ∧ ((e 6).bool = true → (Day.u32 (e 15).int && Day.upto (e 16).int 8) = true ∧ (Day.DG (8 - (e 16).int).toNat (e 15).int = Day.DG (8 - (e 2).int).toNat (e 0).int) ∧ (8 - (e 16).int).toNat < (8 - (e 2).int).toNat) ∧ ((e 7).bool = true → (e 0).int = Day.DG (8 - (e 2).int).toNat (e 0).int) := by
 simp only [J7, Ah, Def.q, BQ, L.Al, L.Az, L.AX, L.A1, L.ev, A.Ak, A.Ap, A.AD, A.AW, List.map_cons, List.map_nil, Nat.zero_add, Nat.add_zero, and_true, true_and, Nat.reduceAdd, Nat.one_mul] at H
 simp only [EA, EW, Db, Bc, Fo, FK, B9, GS, and_true, true_and] at H
 obtain ⟨⟨q16, -⟩, ⟨q15, -⟩, q14, ⟨q13, -⟩, q12, q11, q10, q9, ⟨q8, -⟩, q7, q6⟩ := H
 generalize (e 0).int = x0, (e 1).int = x1, (e 2).int = x2, (e 3).int = x3, (e 4).int = x4, (e 5).int = x5, (e 6).bool = v6, (e 7).bool = v7, (e 8).int = v8, (e 9).bool = v9, (e 10).bool = v10, (e 11).bool = v11, (e 12).bool = v12, (e 13).int = v13, (e 14).int = v14, (e 15).int = v15, (e 16).int = v16 at *
 have hr : 0 ≤ x0 ∧ x0 ≤ 4294967295 := by
  simp only [Bool.and_eq_true, Day.Ck] at hp
  exact hp.1
 refine ⟨trivial, fun h => Day.No hp (by rw [q6] at h; simpa using h) (Day.U3 (a := v8) (b := v9) (c := v13) (d := v14) hr q8 q9 q13 q14 q15) q16, fun h => Day.Po hp (by rw [q7, q6] at h; simpa using h)⟩
theorem So (as : List A) (e : Nat → A) (h1 : as = (List.range 6).map e) (h2 : (Hk as).1 = true) (H : Ah T e J7.defs) : Hg e J7.obs ∧
   (∀ pc ls, some (V 6, [V 15, V 1, V 16, V 3, V 4, V 5]) = some (pc, ls) → (pc.ev e).bool = true → (Hk (ls.map (L.ev e))).1 = true ∧ (Hk (ls.map (L.ev e))).2 = (Hk as).2 ∧ Sn (ls.map (L.ev e)) < Sn as) ∧
   ∀ x ∈ ([(V 7, [some (V 0)])] : List (L × List (Option L))), (x.1.ev e).bool = true → ∀ (j : Nat) l, x.2[j]? = some (some l) → H7 (Gk.tags.getD j .any) (l.ev e) ((Hk as).2.getD j (.i 0)) := by
 subst h1
 obtain ⟨ho, h⟩ := Ro e H h2
 refine ⟨trivial, fun pc ls hb hpc => ?_, ?_⟩
 ·injection hb with hb
  injection hb with h3 h4
  subst h3 h4
  have h := h.1 hpc
  refine ⟨h.1, ?_, h.2.2⟩
  have h5 := h.2.1
  have z0 := h5
  exact (Ta z0 rfl)
 ·intro x hx hpc j l hj
  simp only [List.mem_cons, List.not_mem_nil, or_false] at hx
  rcases hx with rfl
  ·have h := h.2 hpc
   have z0 := h
   match j, hj with
   | 0, hj => cases hj; exact z0
   | _ + 1, hj => cases hj
def HF : G := ⟨6, [⟨4, (.call 1030), [V 3, V 1, N 0, V 0, V 2, V 3]⟩, ⟨3, (.bt .xor .u32), [V 0, V 2]⟩, ⟨2, (.conv .u32), [V 1]⟩], [V 4], []⟩
theorem NP (e : Nat → A) (H : Ah T e HF.defs) (hp : (Day.u32 (e 0).int && Day.u8 (e 1).int) = true) :
  ((e 4).bool = true) ∧ (Day.KJ (e 0).int (e 1).int = (e 5).int) := by
 simp only [HF, Ah, Def.q, BQ, L.Al, L.Az, L.AX, L.A1, L.ev, A.Ak, A.Ap, A.AD, A.AW, List.map_cons, List.map_nil, Nat.zero_add, Nat.add_zero, and_true, true_and, Nat.reduceAdd, Nat.one_mul] at H
 simp only [EA, EW, Db, Bc, Fo, FK, B9, GS, and_true, true_and] at H
 obtain ⟨q4, q3, ⟨q2, -⟩⟩ := H
 replace q4 := TO q4
 obtain ⟨q4, q5⟩ := q4
 simp only [L.Al, L.Az, L.AX, L.A1, L.ev, A.Ak, A.Ap, A.AD] at q4 q5
 generalize (e 0).int = x0, (e 1).int = x1, (e 2).int = v2, (e 3).int = v3, (e 4).bool = v4, (e 5).int = v5 at *
 simp only [Bool.and_eq_true, Day.Ck, Day.Sa] at hp
 have w : v2 = x1 := by rw [q2, Day.wrap_u32]; omega
 have h3 : v3 = Day.JR x0 x1 := by rw [q3, w]; rfl
 have hr := Day.H8 x0 x1
 refine ⟨?_, ?_⟩
 ·rw [q4, h3]; simp [Day.upto, Day.u32, hr]
 ·rw [q5, h3]; rfl
def Gl : G := ⟨13, [⟨12, .mks, [V 11]⟩, ⟨11, .mkl, [V 2, V 5, V 8, V 10]⟩, ⟨10, (.conv .u8), [V 9]⟩, ⟨9, (.dv .rem .u32), [V 0, N 256]⟩, ⟨8, (.conv .u8), [V 7]⟩, ⟨7, (.dv .rem .u32), [V 6, N 256]⟩, ⟨6, (.dv .quo .u32), [V 0, N 256]⟩, ⟨5, (.conv .u8), [V 4]⟩, ⟨4, (.dv .rem .u32), [V 3, N 256]⟩, ⟨3, (.dv .quo .u32), [V 0, N 65536]⟩, ⟨2, (.conv .u8), [V 1]⟩, ⟨1, (.dv .quo .u32), [V 0, N 16777216]⟩], [], []⟩
theorem L1 (e : Nat → A) (H : Ah T e Gl.defs) (hp : (Day.u32 (e 0).int) = true) :
  (True) ∧ (Day.JT (e 0).int = (e 12).str) := by
 simp only [Gl, Ah, Def.q, BQ, L.Al, L.Az, L.AX, L.A1, L.ev, A.Ak, A.Ap, A.AD, A.AW, List.map_cons, List.map_nil, Nat.zero_add, Nat.add_zero, and_true, true_and, Nat.reduceAdd, Nat.one_mul] at H
 simp only [EA, EW, Db, Bc, Fo, FK, B9, GS, and_true, true_and] at H
 obtain ⟨q12, q11, ⟨q10, -⟩, ⟨q9, -⟩, ⟨q8, -⟩, ⟨q7, -⟩, ⟨q6, -⟩, ⟨q5, -⟩, ⟨q4, -⟩, ⟨q3, -⟩, ⟨q2, -⟩, ⟨q1, -⟩⟩ := H
 rw [q11] at q12
 simp only [A.AW, List.map_cons, List.map_nil, A.Ak] at q12
 generalize (e 0).int = x0, (e 1).int = v1, (e 2).int = v2, (e 3).int = v3, (e 4).int = v4, (e 5).int = v5, (e 6).int = v6, (e 7).int = v7, (e 8).int = v8, (e 9).int = v9, (e 10).int = v10, e 11 = v11, (e 12).str = v12 at *
 have h0 := Day.Ck.1 hp
 have e1 := Day.Se h0 (by decide) q1
 have e4 := Day.U5 h0.1 (by decide) (Day.Se h0 (by decide) q3) q4
 have e7 := Day.U5 h0.1 (by decide) (Day.Se h0 (by decide) q6) q7
 have e9 : v9 = x0 / 1 % 256 := by rw [q9, Int.ediv_one]; exact Int.tmod_eq_emod_of_nonneg h0.1
 refine ⟨trivial, ?_⟩
 rw [q12, Day.JU e1 q2, Day.Nq e4 q5, Day.Nq e7 q8, Day.Nq e9 q10]
 rfl
def Fi : G := ⟨10, [⟨9, .iteB, [V 7, V 8, B false]⟩, ⟨8, (.cmp .lss), [V 1, N 8]⟩, ⟨7, .iteB, [V 5, V 6, B false]⟩, ⟨6, (.cmp .geq), [V 1, N 0]⟩, ⟨5, .iteB, [V 2, B true, V 4]⟩, ⟨4, (.cmp .eql), [V 0, N 2]⟩, ⟨3, .not, [V 2]⟩, ⟨2, (.cmp .eql), [V 0, N 1]⟩], [], []⟩
theorem K2 (e : Nat → A) (H : Ah T e Fi.defs) (hp : (true) = true) :
  (True) ∧ (Day.BA (Day.Fr.mk (e 0).int (e 1).int) = (e 9).bool) := by
 simp only [Fi, Ah, Def.q, BQ, L.Al, L.Az, L.AX, L.A1, L.ev, A.Ak, A.Ap, A.AD, A.AW, List.map_cons, List.map_nil, Nat.zero_add, Nat.add_zero, and_true, true_and, Nat.reduceAdd, Nat.one_mul] at H
 simp only [EA, EW, Db, Bc, Fo, FK, B9, GS, and_true, true_and] at H
 obtain ⟨q9, q8, q7, q6, q5, q4, q3, q2⟩ := H
 generalize (e 0).int = x0, (e 1).int = x1, (e 2).bool = v2, (e 3).bool = v3, (e 4).bool = v4, (e 5).bool = v5, (e 6).bool = v6, (e 7).bool = v7, (e 8).bool = v8, (e 9).bool = v9 at *
 grind [Day.many, Day.right, Day.Bq, Day.AY, Day.AZ, Day.isNode, Day.Bt, Day.BS, Day.BT, Day.Cf, Day.BE, Day.BA, Day.Cw, Day.CI, Day.Nm]
end Rx.S
