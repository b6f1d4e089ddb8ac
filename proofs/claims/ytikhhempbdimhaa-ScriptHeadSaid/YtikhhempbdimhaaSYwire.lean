import Derived.Test.YtikhhempbdimhaaSXc
import Derived.Test.YtikhhempbdimhaaSXt
set_option linter.unusedVariables false
set_option linter.unusedSimpArgs false
namespace Rx.S
open Go Rx
set_option maxRecDepth 100000
set_option maxHeartbeats 1000000
def I7 : G := ⟨36, [⟨35, .iteB, [V 3, V 32, V 2]⟩, ⟨34, .iteV, [V 3, V 31, .s [0]]⟩, ⟨33, .not, [V 3]⟩, ⟨32, .iteB, [V 12, V 12, V 11]⟩, ⟨31, .iteV, [V 12, V 29, .s []]⟩, ⟨30, .not, [V 12]⟩, ⟨29, .scat, [V 16, V 21]⟩, ⟨28, .imp, [V 12, V 27]⟩, ⟨27, (.cmp .leq), [V 24, N 4611686018427387903]⟩, ⟨26, .imp, [V 12, V 25]⟩, ⟨25, (.cmp .leq), [V 23, N 4611686018427387903]⟩, ⟨24, .slen, [V 21]⟩, ⟨23, .slen, [V 16]⟩, ⟨22, .imp, [V 12, V 20]⟩, ⟨20, (.call 59), [V 18]⟩, ⟨19, .imp, [V 12, V 17]⟩, ⟨17, (.call 60), [V 16]⟩, ⟨16, .mks, [V 15]⟩, ⟨15, .mkl, [N 216, V 13, V 14]⟩, ⟨14, (.conv .u8), [V 1]⟩, ⟨13, (.conv .u8), [V 0]⟩, ⟨12, .and, [V 8, V 10]⟩, ⟨11, .and, [V 7, V 9]⟩, ⟨10, .and, [V 3, V 8]⟩, ⟨9, .and, [V 3, V 7]⟩, ⟨8, .not, [V 7]⟩, ⟨7, .not, [V 5]⟩, ⟨6, .imp, [V 3, V 4]⟩, ⟨4, (.call 58), [V 0, V 1]⟩, ⟨3, .not, [V 2]⟩, ⟨2, (.cmp .eql), [V 0, N 3]⟩], [V 28, V 26, V 22, V 19, V 6], []⟩
theorem Qf (e : Nat → A) (H : Ab T e I7.defs) (hp : (true) = true) :
  ((e 28).bool = true ∧ (e 26).bool = true ∧ (e 22).bool = true ∧ (e 19).bool = true ∧ (e 6).bool = true) ∧ (Day.J2 (Day.Fr.mk (e 0).int (e 1).int) = (e 34).str) := by
 simp only [I7, Ab, Def.q, BI, L.Ak, L.Aw, L.AS, L.AV, L.ev, A.Ai, A.Ao, A.AF, A.AT, List.map_cons, List.map_nil, Nat.zero_add, Nat.add_zero, and_true, true_and, Nat.reduceAdd, Nat.one_mul] at H
 simp only [D0, Ee, CW, Bg, Ef, Ey, BV, Fq, and_true, true_and] at H
 revert H
 simp only [and_imp]
 rintro q35 - q34 - q33 q32 - q31 - q30 q29 q28 q27 q26 q25 q24 q23 q22 q20 q19 q17 q16 - q15 q14 k14 q13 k13 q12 q11 q10 q9 q8 q7 q6 q4 q3 q2
 replace q20 := Qc q20
 obtain ⟨q20, q21⟩ := q20
 replace q17 := QT q17
 obtain ⟨q17, q18⟩ := q17
 replace q4 := NW q4
 obtain ⟨q4, q5⟩ := q4
 unfold KW at k13 k14
 simp only [L.Ak, L.Aw, L.AS, L.AV, L.ev, A.Ai, A.Ao, A.AF] at q20 q21 q17 q18 q4 q5
 rw [q15] at q16
 simp only [A.AT, List.map_cons, List.map_nil, A.Ai] at q16
 generalize (e 0).int = x0, (e 1).int = x1, (e 2).bool = v2, (e 3).bool = v3, (e 4).bool = v4, (e 5).bool = v5, (e 6).bool = v6, (e 7).bool = v7, (e 8).bool = v8, (e 9).bool = v9, (e 10).bool = v10, (e 11).bool = v11, (e 12).bool = v12, (e 13).int = v13, (e 14).int = v14, e 15 = v15, (e 16).str = v16, (e 17).bool = v17, (e 18).int = v18, (e 19).bool = v19, (e 20).bool = v20, (e 21).str = v21, (e 22).bool = v22, (e 23).int = v23, (e 24).int = v24, (e 25).bool = v25, (e 26).bool = v26, (e 27).bool = v27, (e 28).bool = v28, (e 29).str = v29, (e 30).bool = v30, (e 31).str = v31, (e 32).bool = v32, (e 33).bool = v33, (e 34).str = v34, (e 35).bool = v35 at *
 rw [k13] at q15
 rw [k14] at q15
 by_cases h3 : x0 = 3
 ·rw [Day.AbI (f := ⟨x0, x1⟩) h3]
  subst_vars
  simp [Day.Py]
 ·cases hs : Day.Fu ⟨x0, x1⟩ with
  | false =>
   rw [Day.Ue (f := ⟨x0, x1⟩) h3 hs]
   rw [hs] at q5
   subst_vars
   simp [h3, Day.Ud]
  | true =>
   have e19 := Day.Xv hs q13 q14 q16
   rw [Day.Uf (f := ⟨x0, x1⟩) h3 hs]
   have s1 := Day.M9 ⟨x0, x1⟩
   have s2 := Day.RX (Day.KX (Day.IB ⟨x0, x1⟩))
   have s3 := Day.PD ⟨x0, x1⟩
   have s4 := Day.Xu (Day.IB ⟨x0, x1⟩)
   clear q13 q14 q16
   rw [hs] at q5
   subst_vars
   simp [h3, s1, s2, s3, s4]
def Hl : Lp := ⟨60, [false, true, false, true, true], 1050, 3, 1, 0, ⟨Ez 18 [(0, .pv (.one (.k (.str (V 0))))), (2, .pv (.one (.k (.int .u32 (N 0))))), (3, .pv (.one (.k (.int .u32 (V 1))))), (4, .pv (.one (.k (.int .i64 (V 2)))))], [], B true⟩, [(.exit 0, ⟨Ez 18 [(2, .pv (.one (.k (.int .u32 (N 0))))), (3, .pv (.one (.k (.int .u32 (V 3)))))], [], B true⟩)], [true, false, false], [.i]⟩
def LX : G := ⟨14, [⟨13, (.ar .add .i64), [V 2, N 1]⟩, ⟨12, .imp, [V 4, V 10]⟩, ⟨10, (.call 62), [V 1, V 9]⟩, ⟨9, .sget, [V 0, V 2]⟩, ⟨8, .imp, [V 4, V 7]⟩, ⟨7, .and, [V 6, V 4]⟩, ⟨6, (.cmp .leq), [N 0, V 2]⟩, ⟨5, .not, [V 4]⟩, ⟨4, (.cmp .lss), [V 2, V 3]⟩, ⟨3, .slen, [V 0]⟩], [V 12, V 8], []⟩
def V9 (al : List A) : Nat := (Day.Fs (gs al 0) - (gi al 2)).toNat
theorem UA (e : Nat → A) (H : Ab T e LX.defs) (hp : (Day.u32 (e 1).int && (Day.CV (e 2).int (Day.Fs (e 0).str) && Day.CH (e 0).str)) = true) :
  ((e 12).bool = true ∧ (e 8).bool = true) ∧ ((e 4).bool = true → (Day.u32 (e 11).int && (Day.CV (e 13).int (Day.Fs (e 0).str) && Day.CH (e 0).str)) = true ∧ (Day.Cv ((Day.BS (e 0).str).drop (e 13).int.toNat) (e 11).int = Day.Cv ((Day.BS (e 0).str).drop (e 2).int.toNat) (e 1).int) ∧ (Day.Fs (e 0).str - (e 13).int).toNat < (Day.Fs (e 0).str - (e 2).int).toNat) ∧ ((e 5).bool = true → (e 1).int = Day.Cv ((Day.BS (e 0).str).drop (e 2).int.toNat) (e 1).int) := by
 simp only [LX, Ab, Def.q, BI, L.Ak, L.Aw, L.AS, L.AV, L.ev, A.Ai, A.Ao, A.AF, A.AT, List.map_cons, List.map_nil, Nat.zero_add, Nat.add_zero, and_true, true_and, Nat.reduceAdd, Nat.one_mul] at H
 simp only [D0, Ee, CW, Bg, Ef, Ey, BV, Fq, and_true, true_and] at H
 obtain ⟨⟨q13, -⟩, q12, q10, ⟨q9, -⟩, q8, q7, q6, q5, q4, q3⟩ := H
 replace q10 := QS q10
 obtain ⟨q10, q11⟩ := q10
 simp only [L.Ak, L.Aw, L.AS, L.AV, L.ev, A.Ai, A.Ao, A.AF] at q10 q11
 generalize (e 0).str = x0, (e 1).int = x1, (e 2).int = x2, (e 3).int = v3, (e 4).bool = v4, (e 5).bool = v5, (e 6).bool = v6, (e 7).bool = v7, (e 8).bool = v8, (e 9).int = v9, (e 10).bool = v10, (e 11).int = v11, (e 12).bool = v12, (e 13).int = v13 at *
 by_cases h : x2 < (x0.size : Int)
 ·obtain ⟨s1, s2, s3⟩ := Day.VM hp h q9 q11 q13
  have c5 : v4 = true := by rw [q4, q3]; simpa using h
  rw [q12, q8, q7, q6, q5, q10, s1, c5]
  exact ⟨by simp [s2], fun _ => s3, fun h => by simp at h⟩
 ·have c5 : v4 = false := by rw [q4, q3]; simpa using h
  rw [q12, q8, q5, c5]
  exact ⟨by simp, fun h => by simp at h, fun _ => Day.Ye hp h⟩
theorem Wc (as : List A) (e : Nat → A) (h1 : as = (List.range 3).map e) (h2 : (II as).1 = true) (H : Ab T e LX.defs) : Bj e LX.obs ∧
   (∀ pc ls, some (V 4, [V 0, V 11, V 13]) = some (pc, ls) → (pc.ev e).bool = true → (II (ls.map (L.ev e))).1 = true ∧ (II (ls.map (L.ev e))).2 = (II as).2 ∧ V9 (ls.map (L.ev e)) < V9 as) ∧
   ∀ x ∈ ([(V 5, [some (V 1)])] : List (L × List (Option L))), (x.1.ev e).bool = true → ∀ (j : Nat) l, x.2[j]? = some (some l) → D6 (Hl.tags.getD j .any) (l.ev e) ((II as).2.getD j (.i 0)) := by
 subst h1
 obtain ⟨ho, h⟩ := UA e H h2
 refine ⟨⟨ho.1, ho.2, trivial⟩, fun pc ls hb hpc => ?_, ?_⟩
 ·injection hb with hb
  injection hb with h3 h4
  subst h3 h4
  have h := h.1 hpc
  refine ⟨h.1, ?_, h.2.2⟩
  have h5 := h.2.1
  have z0 := h5
  exact (A5 z0 rfl)
 ·intro x hx hpc j l hj
  simp only [List.mem_cons, List.not_mem_nil, or_false] at hx
  rcases hx with rfl
  ·have h := h.2 hpc
   have z0 := h
   match j, hj with
   | 0, hj => cases hj; exact z0
   | _ + 1, hj => cases hj
def I8 : G := ⟨4, [⟨3, (.ar .sub .u32), [N 4294967295, V 2]⟩, ⟨1, (.call 1050), [V 0, N 4294967295, N 0]⟩], [V 1], []⟩
theorem Qg (e : Nat → A) (H : Ab T e I8.defs) (hp : (Day.CH (e 0).str) = true) :
  ((e 1).bool = true) ∧ (Day.KX (e 0).str = (e 3).int) := by
 simp only [I8, Ab, Def.q, BI, L.Ak, L.Aw, L.AS, L.AV, L.ev, A.Ai, A.Ao, A.AF, A.AT, List.map_cons, List.map_nil, Nat.zero_add, Nat.add_zero, and_true, true_and, Nat.reduceAdd, Nat.one_mul] at H
 simp only [D0, Ee, CW, Bg, Ef, Ey, BV, Fq, and_true, true_and] at H
 obtain ⟨⟨q3, -⟩, q1⟩ := H
 replace q1 := Ys q1
 obtain ⟨q1, q2⟩ := q1
 simp only [L.Ak, L.Aw, L.AS, L.AV, L.ev, A.Ai, A.Ao, A.AF] at q1 q2
 generalize (e 0).str = x0, (e 1).bool = v1, (e 2).int = v2, (e 3).int = v3 at *
 have h2 : v2 = Day.Cv (Day.BS x0) 4294967295 := by rw [q2]; rfl
 have hr := Day.FU (Day.BS x0) (r := 4294967295) (by omega)
 rw [← h2] at hr
 refine ⟨?_, ?_⟩
 ·rw [q1]; simp [Day.CV, Day.u32, Day.Fs, hp]
 ·rw [Day.Aab, ← h2, q3, Day.wrap_u32]; omega
def Hm : Lp := ⟨62, [false, true, false, true, true], 1030, 6, 1, 0, ⟨Ez 23 [(0, .pv (.one (.k (.int .u32 (V 0))))), (1, .pv (.one (.k (.int .u8 (V 1))))), (4, .pv (.one (.k (.int .u32 (N 0))))), (5, .pv (.one (.k (.int .i64 (V 2))))), (6, .pv (.one (.k (.int .u32 (V 3))))), (7, .pv (.one (.k (.int .u8 (V 1))))), (8, .pv (.one (.k (.int .u32 (V 4))))), (9, .pv (.one (.k (.int .u32 (V 5)))))], [], B true⟩, [(.exit 0, ⟨Ez 23 [(0, .pv (.one (.k (.int .u32 (V 6))))), (1, .pv (.one (.k (.int .u8 (V 1))))), (4, .pv (.one (.k (.int .u32 (N 0))))), (6, .pv (.one (.k (.int .u32 (V 3))))), (7, .pv (.one (.k (.int .u8 (V 1))))), (8, .pv (.one (.k (.int .u32 (V 4))))), (9, .pv (.one (.k (.int .u32 (V 5)))))], [], B true⟩)], [false, true, false, true, true, true], [.i]⟩
def LY : G := ⟨17, [⟨16, (.ar .add .i64), [V 2, N 1]⟩, ⟨15, .iteI, [V 9, V 14, V 13]⟩, ⟨14, (.bt .xor .u32), [V 13, N 3988292384]⟩, ⟨13, (.dv .quo .u32), [V 0, N 2]⟩, ⟨12, .and, [V 6, V 10]⟩, ⟨11, .and, [V 6, V 9]⟩, ⟨10, .not, [V 9]⟩, ⟨9, (.cmp .eql), [V 8, N 1]⟩, ⟨8, (.dv .rem .u32), [V 0, N 2]⟩, ⟨7, .not, [V 6]⟩, ⟨6, (.cmp .lss), [V 2, N 8]⟩], [], []⟩
def Wd (al : List A) : Nat := (8 - (gi al 2)).toNat
theorem UB (e : Nat → A) (H : Ab T e LY.defs) (hp : (Day.u32 (e 0).int && Day.CV (e 2).int 8) = true) :
  (True) ∧ ((e 6).bool = true → (Day.u32 (e 15).int && Day.CV (e 16).int 8) = true ∧ (Day.Eo (8 - (e 16).int).toNat (e 15).int = Day.Eo (8 - (e 2).int).toNat (e 0).int) ∧ (8 - (e 16).int).toNat < (8 - (e 2).int).toNat) ∧ ((e 7).bool = true → (e 0).int = Day.Eo (8 - (e 2).int).toNat (e 0).int) := by
 simp only [LY, Ab, Def.q, BI, L.Ak, L.Aw, L.AS, L.AV, L.ev, A.Ai, A.Ao, A.AF, A.AT, List.map_cons, List.map_nil, Nat.zero_add, Nat.add_zero, and_true, true_and, Nat.reduceAdd, Nat.one_mul] at H
 simp only [D0, Ee, CW, Bg, Ef, Ey, BV, Fq, and_true, true_and] at H
 obtain ⟨⟨q16, -⟩, ⟨q15, -⟩, ⟨q14, -⟩, ⟨q13, -⟩, q12, q11, q10, q9, ⟨q8, -⟩, q7, q6⟩ := H
 generalize (e 0).int = x0, (e 1).int = x1, (e 2).int = x2, (e 3).int = x3, (e 4).int = x4, (e 5).int = x5, (e 6).bool = v6, (e 7).bool = v7, (e 8).int = v8, (e 9).bool = v9, (e 10).bool = v10, (e 11).bool = v11, (e 12).bool = v12, (e 13).int = v13, (e 14).int = v14, (e 15).int = v15, (e 16).int = v16 at *
 have hr : 0 ≤ x0 ∧ x0 ≤ 4294967295 := by
  simp only [Bool.and_eq_true, Day.C0] at hp
  exact hp.1
 refine ⟨trivial, fun h => Day.PA hp (by rw [q6] at h; simpa using h) (Day.Aaa (a := v8) (b := v9) (c := v13) (d := v14) hr q8 q9 q13 q14 q15) q16, fun h => Day.RW hp (by rw [q7, q6] at h; simpa using h)⟩
theorem We (as : List A) (e : Nat → A) (h1 : as = (List.range 6).map e) (h2 : (IF as).1 = true) (H : Ab T e LY.defs) : Bj e LY.obs ∧
   (∀ pc ls, some (V 6, [V 15, V 1, V 16, V 3, V 4, V 5]) = some (pc, ls) → (pc.ev e).bool = true → (IF (ls.map (L.ev e))).1 = true ∧ (IF (ls.map (L.ev e))).2 = (IF as).2 ∧ Wd (ls.map (L.ev e)) < Wd as) ∧
   ∀ x ∈ ([(V 7, [some (V 0)])] : List (L × List (Option L))), (x.1.ev e).bool = true → ∀ (j : Nat) l, x.2[j]? = some (some l) → D6 (Hm.tags.getD j .any) (l.ev e) ((IF as).2.getD j (.i 0)) := by
 subst h1
 obtain ⟨ho, h⟩ := UB e H h2
 refine ⟨trivial, fun pc ls hb hpc => ?_, ?_⟩
 ·injection hb with hb
  injection hb with h3 h4
  subst h3 h4
  have h := h.1 hpc
  refine ⟨h.1, ?_, h.2.2⟩
  have h5 := h.2.1
  have z0 := h5
  exact (A5 z0 rfl)
 ·intro x hx hpc j l hj
  simp only [List.mem_cons, List.not_mem_nil, or_false] at hx
  rcases hx with rfl
  ·have h := h.2 hpc
   have z0 := h
   match j, hj with
   | 0, hj => cases hj; exact z0
   | _ + 1, hj => cases hj
def I9 : G := ⟨6, [⟨4, (.call 1030), [V 3, V 1, N 0, V 0, V 2, V 3]⟩, ⟨3, (.bt .xor .u32), [V 0, V 2]⟩, ⟨2, (.conv .u32), [V 1]⟩], [V 4], []⟩
theorem Qh (e : Nat → A) (H : Ab T e I9.defs) (hp : (Day.u32 (e 0).int && Day.u8 (e 1).int) = true) :
  ((e 4).bool = true) ∧ (Day.M7 (e 0).int (e 1).int = (e 5).int) := by
 simp only [I9, Ab, Def.q, BI, L.Ak, L.Aw, L.AS, L.AV, L.ev, A.Ai, A.Ao, A.AF, A.AT, List.map_cons, List.map_nil, Nat.zero_add, Nat.add_zero, and_true, true_and, Nat.reduceAdd, Nat.one_mul] at H
 simp only [D0, Ee, CW, Bg, Ef, Ey, BV, Fq, and_true, true_and] at H
 obtain ⟨q4, ⟨q3, -⟩, ⟨q2, -⟩⟩ := H
 replace q4 := Yq q4
 obtain ⟨q4, q5⟩ := q4
 simp only [L.Ak, L.Aw, L.AS, L.AV, L.ev, A.Ai, A.Ao, A.AF] at q4 q5
 generalize (e 0).int = x0, (e 1).int = x1, (e 2).int = v2, (e 3).int = v3, (e 4).bool = v4, (e 5).int = v5 at *
 simp only [Bool.and_eq_true, Day.C0, Day.VJ] at hp
 have w : v2 = x1 := by rw [q2, Day.wrap_u32]; omega
 have h3 : v3 = Day.LF x0 x1 := by rw [q3, w]; rfl
 have hr := Day.JR x0 x1
 refine ⟨?_, ?_⟩
 ·rw [q4, h3]; simp [Day.CV, Day.u32, hr]
 ·rw [q5, h3]; rfl
def Hn : G := ⟨13, [⟨12, .mks, [V 11]⟩, ⟨11, .mkl, [V 2, V 5, V 8, V 10]⟩, ⟨10, (.conv .u8), [V 9]⟩, ⟨9, (.dv .rem .u32), [V 0, N 256]⟩, ⟨8, (.conv .u8), [V 7]⟩, ⟨7, (.dv .rem .u32), [V 6, N 256]⟩, ⟨6, (.dv .quo .u32), [V 0, N 256]⟩, ⟨5, (.conv .u8), [V 4]⟩, ⟨4, (.dv .rem .u32), [V 3, N 256]⟩, ⟨3, (.dv .quo .u32), [V 0, N 65536]⟩, ⟨2, (.conv .u8), [V 1]⟩, ⟨1, (.dv .quo .u32), [V 0, N 16777216]⟩], [], []⟩
theorem N1 (e : Nat → A) (H : Ab T e Hn.defs) (hp : (Day.u32 (e 0).int) = true) :
  (True) ∧ (Day.LH (e 0).int = (e 12).str) := by
 simp only [Hn, Ab, Def.q, BI, L.Ak, L.Aw, L.AS, L.AV, L.ev, A.Ai, A.Ao, A.AF, A.AT, List.map_cons, List.map_nil, Nat.zero_add, Nat.add_zero, and_true, true_and, Nat.reduceAdd, Nat.one_mul] at H
 simp only [D0, Ee, CW, Bg, Ef, Ey, BV, Fq, and_true, true_and] at H
 obtain ⟨⟨q12, -⟩, q11, ⟨q10, k10⟩, ⟨q9, -⟩, ⟨q8, k8⟩, ⟨q7, -⟩, ⟨q6, -⟩, ⟨q5, k5⟩, ⟨q4, -⟩, ⟨q3, -⟩, ⟨q2, k2⟩, ⟨q1, -⟩⟩ := H
 unfold KW at k2 k5 k8 k10
 rw [q11] at q12
 simp only [A.AT, List.map_cons, List.map_nil, A.Ai] at q12
 generalize (e 0).int = x0, (e 1).int = v1, (e 2).int = v2, (e 3).int = v3, (e 4).int = v4, (e 5).int = v5, (e 6).int = v6, (e 7).int = v7, (e 8).int = v8, (e 9).int = v9, (e 10).int = v10, e 11 = v11, (e 12).str = v12 at *
 rw [k2] at q11
 rw [k5] at q11
 rw [k8] at q11
 rw [k10] at q11
 have h0 := Day.C0.1 hp
 have e1 := Day.VN h0 (by decide) q1
 have e4 := Day.Aac h0.1 (by decide) (Day.VN h0 (by decide) q3) q4
 have e7 := Day.Aac h0.1 (by decide) (Day.VN h0 (by decide) q6) q7
 have e9 : v9 = x0 / 1 % 256 := by rw [q9, Int.ediv_one]; exact Int.tmod_eq_emod_of_nonneg h0.1
 refine ⟨trivial, ?_⟩
 rw [q12, Day.LI e1 q2, Day.PC e4 q5, Day.PC e7 q8, Day.PC e9 q10]
 rfl
def Gg : G := ⟨10, [⟨9, .iteB, [V 7, V 8, B false]⟩, ⟨8, (.cmp .lss), [V 1, N 8]⟩, ⟨7, .iteB, [V 5, V 6, B false]⟩, ⟨6, (.cmp .geq), [V 1, N 0]⟩, ⟨5, .iteB, [V 2, B true, V 4]⟩, ⟨4, (.cmp .eql), [V 0, N 2]⟩, ⟨3, .not, [V 2]⟩, ⟨2, (.cmp .eql), [V 0, N 1]⟩], [], []⟩
theorem Ng (e : Nat → A) (H : Ab T e Gg.defs) (hp : (true) = true) :
  (True) ∧ (Day.Fu (Day.Fr.mk (e 0).int (e 1).int) = (e 9).bool) := by
 simp only [Gg, Ab, Def.q, BI, L.Ak, L.Aw, L.AS, L.AV, L.ev, A.Ai, A.Ao, A.AF, A.AT, List.map_cons, List.map_nil, Nat.zero_add, Nat.add_zero, and_true, true_and, Nat.reduceAdd, Nat.one_mul] at H
 simp only [D0, Ee, CW, Bg, Ef, Ey, BV, Fq, and_true, true_and] at H
 obtain ⟨q9, q8, q7, q6, q5, q4, q3, q2⟩ := H
 generalize (e 0).int = x0, (e 1).int = x1, (e 2).bool = v2, (e 3).bool = v3, (e 4).bool = v4, (e 5).bool = v5, (e 6).bool = v6, (e 7).bool = v7, (e 8).bool = v8, (e 9).bool = v9 at *
 grind [Day.many, Day.right, Day.VI, Day.Z8, Day.Xo, Day.isNode, Day.Xq, Day.AbG, Day.AbH, Day.Ac1, Day.Z9, Day.Fu, Day.Xr, Day.Ac0, Day.Ud]
def K3 : G := ⟨36, [⟨35, .iteB, [V 15, V 15, V 14]⟩, ⟨34, .iteV, [V 15, V 32, V 13]⟩, ⟨33, .not, [V 15]⟩, ⟨32, .scat, [V 19, V 24]⟩, ⟨31, .imp, [V 15, V 30]⟩, ⟨30, (.cmp .leq), [V 27, N 4611686018427387903]⟩, ⟨29, .imp, [V 15, V 28]⟩, ⟨28, (.cmp .leq), [V 26, N 4611686018427387903]⟩, ⟨27, .slen, [V 24]⟩, ⟨26, .slen, [V 19]⟩, ⟨25, .imp, [V 15, V 23]⟩, ⟨23, (.call 56), [V 21]⟩, ⟨22, .imp, [V 15, V 20]⟩, ⟨20, (.call 57), [V 19]⟩, ⟨19, .mks, [V 18]⟩, ⟨18, .mkl, [N 216, V 16, V 17]⟩, ⟨17, (.conv .u8), [V 1]⟩, ⟨16, (.conv .u8), [V 0]⟩, ⟨15, .and, [V 3, V 12]⟩, ⟨14, .iteB, [V 2, V 2, V 11]⟩, ⟨13, .iteV, [V 2, .s [0], .s []]⟩, ⟨12, .and, [V 8, V 10]⟩, ⟨11, .and, [V 7, V 9]⟩, ⟨10, .and, [V 3, V 8]⟩, ⟨9, .and, [V 3, V 7]⟩, ⟨8, .not, [V 7]⟩, ⟨7, .not, [V 5]⟩, ⟨6, .imp, [V 3, V 4]⟩, ⟨4, (.call 55), [V 0, V 1]⟩, ⟨3, .not, [V 2]⟩, ⟨2, (.cmp .eql), [V 0, N 3]⟩], [V 31, V 29, V 25, V 22, V 6], []⟩
theorem Q3 (e : Nat → A) (H : Ab T e K3.defs) (hp : (true) = true) :
  ((e 31).bool = true ∧ (e 29).bool = true ∧ (e 25).bool = true ∧ (e 22).bool = true ∧ (e 6).bool = true) ∧ (Day.J2 (Day.Fr.mk (e 0).int (e 1).int) = (e 34).str) := by
 simp only [K3, Ab, Def.q, BI, L.Ak, L.Aw, L.AS, L.AV, L.ev, A.Ai, A.Ao, A.AF, A.AT, List.map_cons, List.map_nil, Nat.zero_add, Nat.add_zero, and_true, true_and, Nat.reduceAdd, Nat.one_mul] at H
 simp only [D0, Ee, CW, Bg, Ef, Ey, BV, Fq, and_true, true_and] at H
 revert H
 simp only [and_imp]
 rintro q35 - q34 - q33 q32 q31 q30 q29 q28 q27 q26 q25 q23 q22 q20 q19 - q18 q17 k17 q16 k16 q15 q14 - q13 - q12 q11 q10 q9 q8 q7 q6 q4 q3 q2
 replace q23 := S3 q23
 obtain ⟨q23, q24⟩ := q23
 replace q20 := Us q20
 obtain ⟨q20, q21⟩ := q20
 replace q4 := Qd q4
 obtain ⟨q4, q5⟩ := q4
 unfold KW at k16 k17
 simp only [L.Ak, L.Aw, L.AS, L.AV, L.ev, A.Ai, A.Ao, A.AF] at q23 q24 q20 q21 q4 q5
 rw [q18] at q19
 simp only [A.AT, List.map_cons, List.map_nil, A.Ai] at q19
 generalize (e 0).int = x0, (e 1).int = x1, (e 2).bool = v2, (e 3).bool = v3, (e 4).bool = v4, (e 5).bool = v5, (e 6).bool = v6, (e 7).bool = v7, (e 8).bool = v8, (e 9).bool = v9, (e 10).bool = v10, (e 11).bool = v11, (e 12).bool = v12, (e 13).str = v13, (e 14).bool = v14, (e 15).bool = v15, (e 16).int = v16, (e 17).int = v17, e 18 = v18, (e 19).str = v19, (e 20).bool = v20, (e 21).int = v21, (e 22).bool = v22, (e 23).bool = v23, (e 24).str = v24, (e 25).bool = v25, (e 26).int = v26, (e 27).int = v27, (e 28).bool = v28, (e 29).bool = v29, (e 30).bool = v30, (e 31).bool = v31, (e 32).str = v32, (e 33).bool = v33, (e 34).str = v34, (e 35).bool = v35 at *
 rw [k16] at q18
 rw [k17] at q18
 by_cases h3 : x0 = 3
 ·rw [Day.AbI (f := ⟨x0, x1⟩) h3]
  subst_vars
  simp [Day.Py]
 ·cases hs : Day.Fu ⟨x0, x1⟩ with
  | false =>
   rw [Day.Ue (f := ⟨x0, x1⟩) h3 hs]
   rw [hs] at q5
   subst_vars
   simp [h3, Day.Ud]
  | true =>
   have e19 := Day.Xv hs q16 q17 q19
   rw [Day.Uf (f := ⟨x0, x1⟩) h3 hs]
   have s1 := Day.M9 ⟨x0, x1⟩
   have s2 := Day.RX (Day.KX (Day.IB ⟨x0, x1⟩))
   have s3 := Day.PD ⟨x0, x1⟩
   have s4 := Day.Xu (Day.IB ⟨x0, x1⟩)
   clear q16 q17 q19
   rw [hs] at q5
   subst_vars
   simp [h3, s1, s2, s3, s4]
def Hu : Lp := ⟨57, [false, true, false, true, true], 1040, 5, 1, 1, ⟨Ez 19 [(0, .pv (.one (.k (.str (V 0))))), (2, .pv (.one (.k (.int .u32 (N 0))))), (3, .pv (.one (.k (.int .u32 (V 1))))), (6, .pv (.one (.k (.str (V 0))))), (7, .pv (.one (.k (.fsl 0 (V 2))))), (8, .pv (.one (.k (.int .i64 (V 2))))), (9, .pv (.one (.k (.int .i64 (V 3)))))], [⟨false, 0, 0, [], some ⟨false, 0, [.int .u8], V 4, V 2⟩⟩], B true⟩, [(.exit 0, ⟨Ez 19 [(0, .pv (.one (.k (.str (V 0))))), (2, .pv (.one (.k (.int .u32 (N 0))))), (3, .pv (.one (.k (.int .u32 (V 5))))), (6, .pv (.one (.k (.str (V 0))))), (7, .pv (.one (.k (.fsl 0 (V 2)))))], [⟨false, 0, 0, [], some ⟨false, 0, [.int .u8], V 4, V 2⟩⟩], B true⟩)], [true, false, true, false, true], [.i]⟩
def Mj : G := ⟨15, [⟨14, (.ar .add .i64), [V 3, N 1]⟩, ⟨13, .imp, [V 5, V 11]⟩, ⟨11, (.call 61), [V 1, V 10]⟩, ⟨10, (.pix 0 1), [V 4, V 3]⟩, ⟨9, .imp, [V 5, V 8]⟩, ⟨8, .and, [V 7, V 5]⟩, ⟨7, (.cmp .leq), [N 0, V 3]⟩, ⟨6, .not, [V 5]⟩, ⟨5, (.cmp .lss), [V 3, V 2]⟩], [V 13, V 9], []⟩
def WI (al : List A) : Nat := ((gi al 2) - (gi al 3)).toNat
theorem US (e : Nat → A) (H : Ab T e Mj.defs) (hp : (Day.u32 (e 1).int && (Day.CV (e 3).int (e 2).int && (Day.Ft (e 4) (e 2).int && Day.Kk (e 2).int))) = true) :
  ((e 13).bool = true ∧ (e 9).bool = true) ∧ ((e 5).bool = true → (Day.u32 (e 12).int && (Day.CV (e 14).int (e 2).int && (Day.Ft (e 4) (e 2).int && Day.Kk (e 2).int))) = true ∧ (Day.Cv ((e 4).AJ.drop (e 14).int.toNat) (e 12).int = Day.Cv ((e 4).AJ.drop (e 3).int.toNat) (e 1).int) ∧ ((e 2).int - (e 14).int).toNat < ((e 2).int - (e 3).int).toNat) ∧ ((e 6).bool = true → (e 1).int = Day.Cv ((e 4).AJ.drop (e 3).int.toNat) (e 1).int) := by
 simp only [Mj, Ab, Def.q, BI, L.Ak, L.Aw, L.AS, L.AV, L.ev, A.Ai, A.Ao, A.AF, A.AT, List.map_cons, List.map_nil, Nat.zero_add, Nat.add_zero, and_true, true_and, Nat.reduceAdd, Nat.one_mul] at H
 simp only [D0, Ee, CW, Bg, Ef, Ey, BV, Fq, and_true, true_and] at H
 obtain ⟨⟨q14, -⟩, q13, q11, q10, q9, q8, q7, q6, q5⟩ := H
 replace q11 := Ur q11
 obtain ⟨q11, q12⟩ := q11
 simp only [L.Ak, L.Aw, L.AS, L.AV, L.ev, A.Ai, A.Ao, A.AF] at q11 q12
 generalize (e 0).int = x0, (e 1).int = x1, (e 2).int = x2, (e 3).int = x3, e 4 = x4, (e 5).bool = v5, (e 6).bool = v6, (e 7).bool = v7, (e 8).bool = v8, (e 9).bool = v9, (e 11).bool = v11, (e 12).int = v12, (e 13).bool = v13, (e 14).int = v14 at *
 replace q10 := congrArg A.int q10
 generalize (e 10).int = v10 at *
 by_cases h : x3 < x2
 ·obtain ⟨s1, s2, s3⟩ := Day.VL hp h q10 q12 q14
  have c5 : v5 = true := by rw [q5]; simpa using h
  rw [q13, q9, q8, q7, q6, q11, s1, c5]
  exact ⟨by simp [s2], fun _ => s3, fun h => by simp at h⟩
 ·have c5 : v5 = false := by rw [q5]; simpa using h
  rw [q13, q9, q6, c5]
  exact ⟨by simp, fun h => by simp at h, fun _ => Day.Yd hp h⟩
theorem WJ (as : List A) (e : Nat → A) (h1 : as = (List.range 5).map e) (h2 : (IG as).1 = true) (H : Ab T e Mj.defs) : Bj e Mj.obs ∧
   (∀ pc ls, some (V 5, [V 0, V 12, V 2, V 14, V 4]) = some (pc, ls) → (pc.ev e).bool = true → (IG (ls.map (L.ev e))).1 = true ∧ (IG (ls.map (L.ev e))).2 = (IG as).2 ∧ WI (ls.map (L.ev e)) < WI as) ∧
   ∀ x ∈ ([(V 6, [some (V 1)])] : List (L × List (Option L))), (x.1.ev e).bool = true → ∀ (j : Nat) l, x.2[j]? = some (some l) → D6 (Hu.tags.getD j .any) (l.ev e) ((IG as).2.getD j (.i 0)) := by
 subst h1
 obtain ⟨ho, h⟩ := US e H h2
 refine ⟨⟨ho.1, ho.2, trivial⟩, fun pc ls hb hpc => ?_, ?_⟩
 ·injection hb with hb
  injection hb with h3 h4
  subst h3 h4
  have h := h.1 hpc
  refine ⟨h.1, ?_, h.2.2⟩
  have h5 := h.2.1
  have z0 := h5
  exact (A5 z0 rfl)
 ·intro x hx hpc j l hj
  simp only [List.mem_cons, List.not_mem_nil, or_false] at hx
  rcases hx with rfl
  ·have h := h.2 hpc
   have z0 := h
   match j, hj with
   | 0, hj => cases hj; exact z0
   | _ + 1, hj => cases hj
def Nt : G := ⟨6, [⟨5, (.bt .xor .u32), [N 4294967295, V 4]⟩, ⟨3, (.call 1040), [V 0, N 4294967295, V 2, N 0, V 1]⟩, ⟨2, .slen, [V 0]⟩, ⟨1, .sby, [V 0]⟩], [V 3], []⟩
theorem S9 (e : Nat → A) (H : Ab T e Nt.defs) (hp : (Day.CH (e 0).str) = true) :
  ((e 3).bool = true) ∧ (Day.KX (e 0).str = (e 5).int) := by
 simp only [Nt, Ab, Def.q, BI, L.Ak, L.Aw, L.AS, L.AV, L.ev, A.Ai, A.Ao, A.AF, A.AT, List.map_cons, List.map_nil, Nat.zero_add, Nat.add_zero, and_true, true_and, Nat.reduceAdd, Nat.one_mul] at H
 simp only [D0, Ee, CW, Bg, Ef, Ey, BV, Fq, and_true, true_and] at H
 obtain ⟨⟨q5, -⟩, q3, q2, q1⟩ := H
 replace q3 := Yr q3
 obtain ⟨q3, q4⟩ := q3
 simp only [L.Ak, L.Aw, L.AS, L.AV, L.ev, A.Ai, A.Ao, A.AF] at q3 q4
 generalize (e 0).str = x0, e 1 = v1, (e 2).int = v2, (e 3).bool = v3, (e 4).int = v4, (e 5).int = v5 at *
 have hs : (x0.size : Int) ≤ 1000 := by simpa [Day.CH] using hp
 have hb := Day.Yc x0 (x := v1) q1
 have e1 : v1.AJ = Day.BS x0 := by rw [q1]; rfl
 have h4 : v4 = Day.Cv (Day.BS x0) 4294967295 := by rw [q4, e1]; rfl
 have hr := Day.FU (Day.BS x0) (r := 4294967295) (by omega)
 rw [← h4] at hr
 refine ⟨?_, ?_⟩
 ·rw [q3, q2, hb]; simp [Day.CV, Day.u32, Day.Kk, hs]
 ·rw [Day.Aab, ← h4]; exact (Day.Ac2 hr q5).symm
def Hv : Lp := ⟨61, [false, true, false, true, true], 1020, 6, 1, 0, ⟨Ez 20 [(0, .pv (.one (.k (.int .u32 (V 0))))), (1, .pv (.one (.k (.int .u8 (V 1))))), (4, .pv (.one (.k (.int .u32 (N 0))))), (5, .pv (.one (.k (.int .u32 (V 2))))), (6, .pv (.one (.k (.int .u8 (V 1))))), (7, .pv (.one (.k (.int .u32 (V 3))))), (8, .pv (.one (.k (.int .u32 (V 4))))), (9, .pv (.one (.k (.int .i64 (V 5)))))], [], B true⟩, [(.exit 0, ⟨Ez 20 [(0, .pv (.one (.k (.int .u32 (V 6))))), (1, .pv (.one (.k (.int .u8 (V 1))))), (4, .pv (.one (.k (.int .u32 (N 0))))), (5, .pv (.one (.k (.int .u32 (V 2))))), (6, .pv (.one (.k (.int .u8 (V 1))))), (7, .pv (.one (.k (.int .u32 (V 3))))), (8, .pv (.one (.k (.int .u32 (V 4)))))], [], B true⟩)], [false, true, true, true, true, false], [.i]⟩
def Mk : G := ⟨14, [⟨13, (.ar .add .i64), [V 5, N 1]⟩, ⟨12, (.bt .xor .u32), [V 8, V 11]⟩, ⟨11, (.bt .and .u32), [N 3988292384, V 10]⟩, ⟨10, (.neg .u32), [V 9]⟩, ⟨9, (.bt .and .u32), [V 0, N 1]⟩, ⟨8, (.sh .shr .u32), [V 0, N 1]⟩, ⟨7, .not, [V 6]⟩, ⟨6, (.cmp .lss), [V 5, N 8]⟩], [], []⟩
def WK (al : List A) : Nat := (8 - (gi al 5)).toNat
theorem UT (e : Nat → A) (H : Ab T e Mk.defs) (hp : (Day.u32 (e 0).int && Day.CV (e 5).int 8) = true) :
  (True) ∧ ((e 6).bool = true → (Day.u32 (e 12).int && Day.CV (e 13).int 8) = true ∧ (Day.Eo (8 - (e 13).int).toNat (e 12).int = Day.Eo (8 - (e 5).int).toNat (e 0).int) ∧ (8 - (e 13).int).toNat < (8 - (e 5).int).toNat) ∧ ((e 7).bool = true → (e 0).int = Day.Eo (8 - (e 5).int).toNat (e 0).int) := by
 simp only [Mk, Ab, Def.q, BI, L.Ak, L.Aw, L.AS, L.AV, L.ev, A.Ai, A.Ao, A.AF, A.AT, List.map_cons, List.map_nil, Nat.zero_add, Nat.add_zero, and_true, true_and, Nat.reduceAdd, Nat.one_mul] at H
 simp only [D0, Ee, CW, Bg, Ef, Ey, BV, Fq, and_true, true_and] at H
 obtain ⟨⟨q13, -⟩, ⟨q12, -⟩, ⟨q11, -⟩, q10, ⟨q9, -⟩, ⟨q8, -⟩, q7, q6⟩ := H
 generalize (e 0).int = x0, (e 1).int = x1, (e 2).int = x2, (e 3).int = x3, (e 4).int = x4, (e 5).int = x5, (e 6).bool = v6, (e 7).bool = v7, (e 8).int = v8, (e 9).int = v9, (e 10).int = v10, (e 11).int = v11, (e 12).int = v12, (e 13).int = v13 at *
 have hr : 0 ≤ x0 ∧ x0 ≤ 4294967295 := by
  simp only [Bool.and_eq_true, Day.C0] at hp
  exact hp.1
 refine ⟨trivial, fun h => Day.PA hp (by rw [q6] at h; simpa using h) (Day.step_eq (s := v8) (a := v9) (g := v10) (p := v11) hr q8 q9 q10 q11 q12) q13, fun h => Day.RW hp (by rw [q7, q6] at h; simpa using h)⟩
theorem WL (as : List A) (e : Nat → A) (h1 : as = (List.range 6).map e) (h2 : (IE as).1 = true) (H : Ab T e Mk.defs) : Bj e Mk.obs ∧
   (∀ pc ls, some (V 6, [V 12, V 1, V 2, V 3, V 4, V 13]) = some (pc, ls) → (pc.ev e).bool = true → (IE (ls.map (L.ev e))).1 = true ∧ (IE (ls.map (L.ev e))).2 = (IE as).2 ∧ WK (ls.map (L.ev e)) < WK as) ∧
   ∀ x ∈ ([(V 7, [some (V 0)])] : List (L × List (Option L))), (x.1.ev e).bool = true → ∀ (j : Nat) l, x.2[j]? = some (some l) → D6 (Hv.tags.getD j .any) (l.ev e) ((IE as).2.getD j (.i 0)) := by
 subst h1
 obtain ⟨ho, h⟩ := UT e H h2
 refine ⟨trivial, fun pc ls hb hpc => ?_, ?_⟩
 ·injection hb with hb
  injection hb with h3 h4
  subst h3 h4
  have h := h.1 hpc
  refine ⟨h.1, ?_, h.2.2⟩
  have h5 := h.2.1
  have z0 := h5
  exact (A5 z0 rfl)
 ·intro x hx hpc j l hj
  simp only [List.mem_cons, List.not_mem_nil, or_false] at hx
  rcases hx with rfl
  ·have h := h.2 hpc
   have z0 := h
   match j, hj with
   | 0, hj => cases hj; exact z0
   | _ + 1, hj => cases hj
def Nu : G := ⟨6, [⟨4, (.call 1020), [V 3, V 1, V 0, V 2, V 3, N 0]⟩, ⟨3, (.bt .xor .u32), [V 0, V 2]⟩, ⟨2, (.conv .u32), [V 1]⟩], [V 4], []⟩
theorem Ta (e : Nat → A) (H : Ab T e Nu.defs) (hp : (Day.u32 (e 0).int && Day.u8 (e 1).int) = true) :
  ((e 4).bool = true) ∧ (Day.M7 (e 0).int (e 1).int = (e 5).int) := by
 simp only [Nu, Ab, Def.q, BI, L.Ak, L.Aw, L.AS, L.AV, L.ev, A.Ai, A.Ao, A.AF, A.AT, List.map_cons, List.map_nil, Nat.zero_add, Nat.add_zero, and_true, true_and, Nat.reduceAdd, Nat.one_mul] at H
 simp only [D0, Ee, CW, Bg, Ef, Ey, BV, Fq, and_true, true_and] at H
 obtain ⟨q4, ⟨q3, -⟩, ⟨q2, -⟩⟩ := H
 replace q4 := Yp q4
 obtain ⟨q4, q5⟩ := q4
 simp only [L.Ak, L.Aw, L.AS, L.AV, L.ev, A.Ai, A.Ao, A.AF] at q4 q5
 generalize (e 0).int = x0, (e 1).int = x1, (e 2).int = v2, (e 3).int = v3, (e 4).bool = v4, (e 5).int = v5 at *
 simp only [Bool.and_eq_true, Day.C0, Day.VJ] at hp
 have w : v2 = x1 := by rw [q2, Day.wrap_u32]; omega
 have h3 : v3 = Day.LF x0 x1 := by rw [q3, w]; rfl
 have hr := Day.JR x0 x1
 refine ⟨?_, ?_⟩
 ·rw [q4, h3]; simp [Day.CV, Day.u32, hr]
 ·rw [q5, h3]; rfl
def K4 : G := ⟨10, [⟨9, .mks, [V 8]⟩, ⟨8, .mkl, [V 2, V 4, V 6, V 7]⟩, ⟨7, (.conv .u8), [V 0]⟩, ⟨6, (.conv .u8), [V 5]⟩, ⟨5, (.sh .shr .u32), [V 0, N 8]⟩, ⟨4, (.conv .u8), [V 3]⟩, ⟨3, (.sh .shr .u32), [V 0, N 16]⟩, ⟨2, (.conv .u8), [V 1]⟩, ⟨1, (.sh .shr .u32), [V 0, N 24]⟩], [], []⟩
theorem Q6 (e : Nat → A) (H : Ab T e K4.defs) (hp : (Day.u32 (e 0).int) = true) :
  (True) ∧ (Day.LH (e 0).int = (e 9).str) := by
 simp only [K4, Ab, Def.q, BI, L.Ak, L.Aw, L.AS, L.AV, L.ev, A.Ai, A.Ao, A.AF, A.AT, List.map_cons, List.map_nil, Nat.zero_add, Nat.add_zero, and_true, true_and, Nat.reduceAdd, Nat.one_mul] at H
 simp only [D0, Ee, CW, Bg, Ef, Ey, BV, Fq, and_true, true_and] at H
 obtain ⟨⟨q9, -⟩, q8, ⟨q7, k7⟩, ⟨q6, k6⟩, ⟨q5, -⟩, ⟨q4, k4⟩, ⟨q3, -⟩, ⟨q2, k2⟩, ⟨q1, -⟩⟩ := H
 unfold KW at k2 k4 k6 k7
 rw [q8] at q9
 simp only [A.AT, List.map_cons, List.map_nil, A.Ai] at q9
 generalize (e 0).int = x0, (e 1).int = v1, (e 2).int = v2, (e 3).int = v3, (e 4).int = v4, (e 5).int = v5, (e 6).int = v6, (e 7).int = v7, e 8 = v8, (e 9).str = v9 at *
 rw [k2] at q8
 rw [k4] at q8
 rw [k6] at q8
 rw [k7] at q8
 have h0 := Day.C0.1 hp
 have e1 : v1 = x0 / 16777216 := by rw [q1]; exact Int.fdiv_eq_ediv_of_nonneg _ (by decide)
 have e3 : v3 = x0 / 65536 := by rw [q3]; exact Int.fdiv_eq_ediv_of_nonneg _ (by decide)
 have e5 : v5 = x0 / 256 := by rw [q5]; exact Int.fdiv_eq_ediv_of_nonneg _ (by decide)
 have e7 : x0 = x0 / 1 := by simp
 refine ⟨trivial, ?_⟩
 rw [q9, Day.LI e1 q2, Day.LI e3 q4, Day.LI e5 q6, Day.LI e7 q7]
 rfl
def Hx : G := ⟨10, [⟨9, .iteB, [V 7, V 8, B false]⟩, ⟨8, (.cmp .lss), [V 1, N 8]⟩, ⟨7, .iteB, [V 5, V 6, B false]⟩, ⟨6, (.cmp .geq), [V 1, N 0]⟩, ⟨5, .iteB, [V 2, B true, V 4]⟩, ⟨4, (.cmp .eql), [V 0, N 2]⟩, ⟨3, .not, [V 2]⟩, ⟨2, (.cmp .eql), [V 0, N 1]⟩], [], []⟩
theorem Ob (e : Nat → A) (H : Ab T e Hx.defs) (hp : (true) = true) :
  (True) ∧ (Day.Fu (Day.Fr.mk (e 0).int (e 1).int) = (e 9).bool) := by
 simp only [Hx, Ab, Def.q, BI, L.Ak, L.Aw, L.AS, L.AV, L.ev, A.Ai, A.Ao, A.AF, A.AT, List.map_cons, List.map_nil, Nat.zero_add, Nat.add_zero, and_true, true_and, Nat.reduceAdd, Nat.one_mul] at H
 simp only [D0, Ee, CW, Bg, Ef, Ey, BV, Fq, and_true, true_and] at H
 obtain ⟨q9, q8, q7, q6, q5, q4, q3, q2⟩ := H
 generalize (e 0).int = x0, (e 1).int = x1, (e 2).bool = v2, (e 3).bool = v3, (e 4).bool = v4, (e 5).bool = v5, (e 6).bool = v6, (e 7).bool = v7, (e 8).bool = v8, (e 9).bool = v9 at *
 grind [Day.many, Day.right, Day.VI, Day.Z8, Day.Xo, Day.isNode, Day.Xq, Day.AbG, Day.AbH, Day.Ac1, Day.Z9, Day.Fu, Day.Xr, Day.Ac0, Day.Ud]
end Rx.S
