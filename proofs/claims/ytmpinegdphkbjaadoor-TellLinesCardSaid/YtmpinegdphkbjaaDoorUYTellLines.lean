import Derived.Test.YtmpinegdphkbjaaDoorUXc
import Derived.Test.YtmpinegdphkbjaaDoorUXt
set_option linter.unusedVariables false
set_option linter.unusedSimpArgs false
namespace Rx.S
open Go Rx
set_option maxRecDepth 100000
set_option maxHeartbeats 1000000
def Es : Lp := ⟨3, [false, false, true, false, false, true, false, false, true, false, true, true, true, true], 1130, 9, 7, 1, ⟨NY 61 [(0, .pv (.one (.k (.fsl 0 (V 0))))), (2, .pv (.one (.k (.bool (B false))))), (3, .pv (.one (.k (.str (V 1))))), (4, .pv (.one (.k (.int .i64 (V 2))))), (5, .pv (.one (.k (.int .i64 (V 3))))), (6, .pv (.one (.k (.int .i64 (V 4))))), (7, .pv (.one (.k (.fsl 0 (V 0))))), (8, .pv (.one (.k (.bool (V 5))))), (9, .pv (.one (.k (.bool (V 6))))), (11, .pv (.one (.k (.fsl 0 (V 0))))), (12, .pv (.one (.k (.str (V 1))))), (13, .pv (.one (.k (.int .i64 (V 3))))), (14, .pv (.one (.k (.fsl 0 (V 0))))), (15, .pv (.one (.k (.int .i64 (V 0))))), (16, .pv (.one (.k (.bool (V 7)))))], [⟨false, 0, 0, [], some ⟨false, 0, [.int .i64, .int .i64, .int .i64, .int .i64, .int .i64, .sl [.int .i64, .int .i64, .int .i64, .int .i64]], V 8, V 0⟩⟩], B true⟩, [(.exit 2, ⟨NY 61 [(0, .pv (.one (.k (.fsl 0 (V 0))))), (2, .pv (.one (.k (.bool (B false))))), (3, .pv (.one (.k (.str (V 1))))), (4, .pv (.one (.k (.int .i64 (V 9))))), (5, .pv (.one (.k (.int .i64 (V 3))))), (6, .pv (.one (.k (.int .i64 (V 10))))), (7, .pv (.one (.k (.fsl 0 (V 0))))), (8, .pv (.one (.k (.bool (V 5))))), (9, .pv (.one (.k (.bool (V 6))))), (11, .pv (.one (.k (.fsl 0 (V 0))))), (12, .pv (.one (.k (.str (V 1))))), (13, .pv (.one (.k (.int .i64 (V 3))))), (14, .pv (.one (.k (.fsl 0 (V 0))))), (15, .pv (.one (.k (.int .i64 (V 0))))), (16, .pv (.one (.k (.bool (V 7))))), (19, .pv (.one (.k (.int .i64 (V 11))))), (20, .pv (.one (.k (.str (V 1))))), (21, .pv (.one (.k (.int .i64 (V 12))))), (22, .pv (.one (.k (.bool (V 13))))), (23, .pv (.one (.k (.bool (V 14))))), (28, .pv (.one (.k (.bool (V 15)))))], [⟨false, 0, 0, [], some ⟨false, 0, [.int .i64, .int .i64, .int .i64, .int .i64, .int .i64, .sl [.int .i64, .int .i64, .int .i64, .int .i64]], V 8, V 0⟩⟩], B true⟩)], [true, true, false, true, false, true, true, true, true], [.i, .i, .i, .i, .b, .b, .b]⟩
def It : G := ⟨26, [⟨25, (.ar .add .i64), [V 2, N 1]⟩, ⟨24, .iteI, [V 19, V 23, V 4]⟩, ⟨23, (.ar .add .i64), [V 4, N 1]⟩, ⟨22, .and, [V 16, V 20]⟩, ⟨21, .and, [V 16, V 19]⟩, ⟨20, .not, [V 19]⟩, ⟨19, (.cmp .eql), [V 14, N 32]⟩, ⟨18, .imp, [V 16, V 12]⟩, ⟨17, .not, [V 16]⟩, ⟨16, .iteB, [V 10, V 15, B false]⟩, ⟨15, (.cmp .neq), [V 14, N 10]⟩, ⟨14, .sget, [V 1, V 2]⟩, ⟨13, .imp, [V 10, V 12]⟩, ⟨12, .and, [V 11, V 10]⟩, ⟨11, (.cmp .leq), [N 0, V 2]⟩, ⟨10, (.cmp .lss), [V 2, V 9]⟩, ⟨9, .slen, [V 1]⟩], [V 18, V 13], []⟩
def PX (al : List A) : Nat := (Day.Fg (gs al 1) - (gi al 2)).toNat
theorem OV (e : Nat → A) (H : Ax T e It.defs) (hp : (Day.Td (e 1).str (e 2).int (e 4).int) = true) :
  ((e 18).bool = true ∧ (e 13).bool = true) ∧ ((e 16).bool = true → (Day.Td (e 1).str (e 25).int (e 24).int) = true ∧ (Day.Lw (e 1).str (e 25).int (e 24).int = Day.Lw (e 1).str (e 2).int (e 4).int ∧ Day.QV (e 1).str (e 25).int (e 24).int = Day.QV (e 1).str (e 2).int (e 4).int ∧ Day.Lw (e 1).str (e 25).int (e 24).int = Day.Lw (e 1).str (e 2).int (e 4).int ∧ Day.Fg (e 1).str = Day.Fg (e 1).str ∧ Day.PU (e 1).str (e 25).int (e 24).int = Day.PU (e 1).str (e 2).int (e 4).int ∧ Day.PU (e 1).str (e 25).int (e 24).int = Day.PU (e 1).str (e 2).int (e 4).int ∧ false = false) ∧ (Day.Fg (e 1).str - (e 25).int).toNat < (Day.Fg (e 1).str - (e 2).int).toNat) ∧ ((e 17).bool = true → (e 2).int = Day.Lw (e 1).str (e 2).int (e 4).int ∧ (e 4).int = Day.QV (e 1).str (e 2).int (e 4).int ∧ (e 2).int = Day.Lw (e 1).str (e 2).int (e 4).int ∧ (e 9).int = Day.Fg (e 1).str ∧ (e 10).bool = Day.PU (e 1).str (e 2).int (e 4).int ∧ (e 10).bool = Day.PU (e 1).str (e 2).int (e 4).int ∧ (e 16).bool = false) := by
 simp only [It, Ax, Def.q, Gh, L.Aw, L.Bj, L.CQ, L.CU, L.ev, A.AB, A.AP, A.BC, A.Ea, List.map_cons, List.map_nil, Nat.zero_add, Nat.add_zero, and_true, true_and, Nat.reduceAdd, Nat.one_mul] at H
 simp only [Lu, Lx, JV, CP, M1, NS, Io, PQ, and_true, true_and] at H
 obtain ⟨⟨q25, -⟩, ⟨q24, -⟩, ⟨q23, -⟩, q22, q21, q20, q19, q18, q17, q16, q15, ⟨q14, -⟩, q13, q12, q11, q10, q9⟩ := H
 generalize (e 0).int = x0, (e 1).str = x1, (e 2).int = x2, (e 3).int = x3, (e 4).int = x4, (e 5).int = x5, (e 6).int = x6, (e 7).int = x7, (e 8).int = x8, (e 9).int = v9, (e 10).bool = v10, (e 11).bool = v11, (e 12).bool = v12, (e 13).bool = v13, (e 14).int = v14, (e 15).bool = v15, (e 16).bool = v16, (e 17).bool = v17, (e 18).bool = v18, (e 19).bool = v19, (e 20).bool = v20, (e 21).bool = v21, (e 22).bool = v22, (e 23).int = v23, (e 24).int = v24, (e 25).int = v25 at *
 have hpp := hp
 simp only [Day.Td, Bool.and_eq_true, Day.As, decide_eq_true_eq] at hpp
 obtain ⟨⟨b1, b2⟩, b3, b4, b5⟩ := hpp
 have hz : v9 = Day.Fg x1 := q9
 have g16 : v16 = Day.Tc x1 x2 := by
  rw [q16, q15, q14, q10, q9]
  unfold Day.Tc Day.Gi Day.Fg
  by_cases h : x2 < (x1.size : Int)
  ·simp [h]
   rfl
  ·simp [h]
 have g19 : v19 = decide (Day.Gi x1 x2 = 32) := by
  rw [q19, q14]
  rfl
 have w23 : v23 = x4 + 1 := by rw [q23]; exact wrap64 (by omega) (by omega)
 have o12 : v10 = true → v12 = true := fun h => by
  rw [q12, q11, h]
  simp
  omega
 have o18 : v18 = true := by
  rw [q18]
  cases h : v16 with
  | false => rfl
  | true =>
   have : v10 = true := by
    cases hv : v10 with
    | true => rfl
    | false => rw [q16, hv] at h; simp at h
   rw [o12 this]
   rfl
 have o13 : v13 = true := by
  rw [q13]
  cases h : v10 with
  | false => rfl
  | true => rw [o12 h]; rfl
 refine ⟨⟨o18, o13⟩, fun hh => ?_, fun hh => ?_⟩
 ·rw [g16] at hh
  obtain ⟨s1, s2, s3, s4, hm, _⟩ := Day.TG hp hh (w2 := v24) (by rw [q24, g19, w23]; by_cases c : Day.Gi x1 x2 = 32 <;> simp [c])
  have w : v25 = x2 + 1 := by rw [q25]; exact wrap64 (by omega) (by omega)
  rw [w]
  exact ⟨s1, ⟨s2, s3, s2, rfl, s4, s4, rfl⟩, hm⟩
 ·have hn : v16 = false := by
   rw [q17] at hh
   cases hv : v16 with
   | false => rfl
   | true => rw [hv] at hh; cases hh
  obtain ⟨e1, e2⟩ := Day.Uq (w := x4) (by rw [← g16, hn]; simp : ¬ Day.Tc x1 x2 = true)
  have eL : v10 = Day.PU x1 x2 x4 := by
   unfold Day.PU
   rw [e1, q10, hz]
  exact ⟨e1.symm, e2.symm, e1.symm, hz, eL, eL, hn⟩
theorem PY (as : List A) (e : Nat → A) (h1 : as = (List.range 9).map e) (h2 : (Gq as).1 = true) (H : Ax T e It.defs) : Dm e It.obs ∧
   (∀ pc ls, some (V 16, [V 0, V 1, V 25, V 3, V 24, V 5, V 6, V 7, V 8]) = some (pc, ls) → (pc.ev e).bool = true → (Gq (ls.map (L.ev e))).1 = true ∧ (Gq (ls.map (L.ev e))).2 = (Gq as).2 ∧ PX (ls.map (L.ev e)) < PX as) ∧
   ∀ x ∈ ([(V 17, [some (V 2), some (V 4), some (V 2), some (V 9), some (V 10), some (V 10), some (V 16)])] : List (L × List (Option L))), (x.1.ev e).bool = true → ∀ (j : Nat) l, x.2[j]? = some (some l) → FM (Es.tags.getD j .any) (l.ev e) ((Gq as).2.getD j (.i 0)) := by
 subst h1
 obtain ⟨ho, h⟩ := OV e H h2
 refine ⟨⟨ho.1, ho.2, trivial⟩, fun pc ls hb hpc => ?_, ?_⟩
 ·injection hb with hb
  injection hb with h3 h4
  subst h3 h4
  have h := h.1 hpc
  refine ⟨h.1, ?_, h.2.2⟩
  have h5 := h.2.1
  obtain ⟨z0, z1, z2, z3, z4, z5, z6⟩ := h5
  exact (Fe z0 (Fe z1 (Fe z2 (Fe z3 (Is z4 (Is z5 (Is z6 rfl)))))))
 ·intro x hx hpc j l hj
  simp only [List.mem_cons, List.not_mem_nil, or_false] at hx
  rcases hx with rfl
  ·have h := h.2 hpc
   obtain ⟨z0, z1, z2, z3, z4, z5, z6⟩ := h
   match j, hj with
   | 0, hj => cases hj; exact z0
   | 1, hj => cases hj; exact z1
   | 2, hj => cases hj; exact z2
   | 3, hj => cases hj; exact z3
   | 4, hj => cases hj; exact z4
   | 5, hj => cases hj; exact z5
   | 6, hj => cases hj; exact z6
   | _ + 7, hj => cases hj
def FD : Lp := ⟨3, [false, true, false, true, true, true, true], 1131, 7, 4, 1, ⟨NY 61 [(0, .pv (.one (.k (.fsl 0 (V 0))))), (2, .pv (.one (.k (.bool (B false))))), (3, .pv (.one (.k (.str (V 1))))), (4, .pv (.one (.k (.int .i64 (V 2))))), (5, .pv (.one (.k (.int .i64 (V 3))))), (7, .pv (.one (.k (.fsl 0 (V 0))))), (8, .pv (.one (.k (.bool (V 4))))), (9, .pv (.one (.k (.bool (V 5))))), (11, .pv (.one (.k (.fsl 0 (V 0))))), (12, .pv (.one (.k (.str (V 1)))))], [⟨false, 0, 0, [], some ⟨false, 0, [.int .i64, .int .i64, .int .i64, .int .i64, .int .i64, .sl [.int .i64, .int .i64, .int .i64, .int .i64]], V 6, V 0⟩⟩], B true⟩, [(.ret, ⟨NY 61 [(0, .pv (.one (.k (.fsl 0 (V 0))))), (2, .pv (.one (.k (.bool (B false))))), (3, .pv (.one (.k (.str (V 1))))), (4, .pv (.one (.k (.int .i64 (V 7))))), (7, .pv (.one (.k (.fsl 0 (V 0))))), (8, .pv (.one (.k (.bool (V 4))))), (9, .pv (.one (.k (.bool (V 5))))), (11, .pv (.one (.k (.fsl 0 (V 0))))), (12, .pv (.one (.k (.str (V 1)))))], [⟨false, 0, 0, [], some ⟨false, 0, [.int .i64, .int .i64, .int .i64, .int .i64, .int .i64, .sl [.int .i64, .int .i64, .int .i64, .int .i64]], V 6, V 0⟩⟩], V 8⟩), (.exit 0, ⟨NY 61 [(0, .pv (.one (.k (.fsl 0 (V 0))))), (2, .pv (.one (.k (.bool (B false))))), (3, .pv (.one (.k (.str (V 1))))), (4, .pv (.one (.k (.int .i64 (V 9))))), (7, .pv (.one (.k (.fsl 0 (V 0))))), (8, .pv (.one (.k (.bool (V 4))))), (9, .pv (.one (.k (.bool (V 5))))), (11, .pv (.one (.k (.fsl 0 (V 0))))), (12, .pv (.one (.k (.str (V 1)))))], [⟨false, 0, 0, [], some ⟨false, 0, [.int .i64, .int .i64, .int .i64, .int .i64, .int .i64, .sl [.int .i64, .int .i64, .int .i64, .int .i64]], V 6, V 0⟩⟩], V 10⟩)], [true, true, false, false, true, true, true], [.i, .b, .i, .b]⟩
def Iu : G := ⟨44, [⟨43, .and, [V 7, V 41]⟩, ⟨42, .and, [V 7, V 36]⟩, ⟨41, .and, [V 38, V 39]⟩, ⟨40, (.ar .add .i64), [V 3, N 1]⟩, ⟨39, .and, [V 38, V 35]⟩, ⟨38, .not, [V 36]⟩, ⟨37, (.ar .add .i64), [V 10, N 1]⟩, ⟨36, .and, [V 32, V 34]⟩, ⟨35, .and, [V 31, V 33]⟩, ⟨34, .and, [V 7, V 32]⟩, ⟨33, .and, [V 7, V 31]⟩, ⟨32, .not, [V 31]⟩, ⟨31, .iteB, [V 19, B true, V 30]⟩, ⟨30, (.cmp .neq), [V 11, V 29]⟩, ⟨29, (.ar .add .i64), [N 3, V 28]⟩, ⟨28, .iteI, [V 20, V 26, N 0]⟩, ⟨27, .iteA, [V 20, V 25, .e]⟩, ⟨26, (.lln 4), [V 25]⟩, ⟨25, (.pix 5 6), [V 6, V 3]⟩, ⟨24, .imp, [V 21, V 23]⟩, ⟨23, .and, [V 22, V 7]⟩, ⟨22, (.cmp .leq), [N 0, V 3]⟩, ⟨21, .and, [V 7, V 20]⟩, ⟨20, .not, [V 19]⟩, ⟨19, (.cmp .geq), [V 10, V 18]⟩, ⟨18, .slen, [V 1]⟩, ⟨17, .imp, [V 7, V 9]⟩, ⟨9, (.call 1130), [V 0, V 1, V 2, V 3, N 1, V 4, V 5, V 7, V 6]⟩, ⟨8, .not, [V 7]⟩, ⟨7, (.cmp .lss), [V 3, V 0]⟩], [V 24, V 17], []⟩
def PZ (al : List A) : Nat := (Day.L1.n (Day.L1.mk (ge al 6) (gi al 0)) - (gi al 3)).toNat
theorem OW (e : Nat → A) (H : Ax T e Iu.defs) (hp : (Day.RN (e 1).str (Day.L1.mk (e 6) (e 0).int) (e 2).int (e 3).int) = true) :
  ((e 24).bool = true ∧ (e 17).bool = true) ∧ ((e 42).bool = true → (Day.RN (e 1).str (Day.L1.mk (e 6) (e 0).int) (e 37).int (e 40).int) = true ∧ ((0 : Int) = (0 : Int) ∧ false = false ∧ Day.Fg (e 1).str = Day.Fg (e 1).str ∧ true = true) ∧ (Day.L1.n (Day.L1.mk (e 6) (e 0).int) - (e 40).int).toNat < (Day.L1.n (Day.L1.mk (e 6) (e 0).int) - (e 3).int).toNat) ∧ ((e 43).bool = true → (e 10).int = (0 : Int) ∧ true = false) ∧ ((e 8).bool = true → (e 2).int = Day.Fg (e 1).str ∧ true = true) := by
 simp only [Iu, Ax, Def.q, Gh, L.Aw, L.Bj, L.CQ, L.CU, L.ev, A.AB, A.AP, A.BC, A.Ea, List.map_cons, List.map_nil, Nat.zero_add, Nat.add_zero, and_true, true_and, Nat.reduceAdd, Nat.one_mul] at H
 simp only [Lu, Lx, JV, CP, M1, NS, Io, PQ, and_true, true_and] at H
 obtain ⟨q43, q42, q41, ⟨q40, -⟩, q39, q38, ⟨q37, -⟩, q36, q35, q34, q33, q32, q31, q30, ⟨q29, -⟩, ⟨q28, -⟩, q27, q26, q25, q24, q23, q22, q21, q20, q19, q18, q17, q9, q8, q7⟩ := H
 replace q9 := RE q9
 obtain ⟨q9, q10, q11, q12, q13, q14, q15, q16⟩ := q9
 simp only [L.Aw, L.Bj, L.CQ, L.CU, L.ev, A.AB, A.AP, A.BC] at q9 q10 q11 q12 q13 q14 q15 q16
 generalize (e 0).int = x0, (e 1).str = x1, (e 2).int = x2, (e 3).int = x3, (e 4).int = x4, (e 5).int = x5, e 6 = x6, (e 7).bool = v7, (e 8).bool = v8, (e 9).bool = v9, (e 10).int = v10, (e 11).int = v11, (e 12).int = v12, (e 13).int = v13, (e 14).bool = v14, (e 15).bool = v15, (e 16).bool = v16, (e 17).bool = v17, (e 18).int = v18, (e 19).bool = v19, (e 20).bool = v20, (e 21).bool = v21, (e 22).bool = v22, (e 23).bool = v23, (e 24).bool = v24, (e 26).int = v26, e 27 = v27, (e 28).int = v28, (e 29).int = v29, (e 30).bool = v30, (e 31).bool = v31, (e 32).bool = v32, (e 33).bool = v33, (e 34).bool = v34, (e 35).bool = v35, (e 36).bool = v36, (e 37).int = v37, (e 38).bool = v38, (e 39).bool = v39, (e 40).int = v40, (e 41).bool = v41, (e 42).bool = v42, (e 43).bool = v43, e 25 = v25 at *
 by_cases h : x3 < x0
 ·obtain ⟨p1, b1, b2, b3, b4, m1, m2, m3, m4, m5, hm⟩ := Day.TH hp h
  have b3 : 0 ≤ Day.Lk.n (Day.CC x6 x3) := b3
  have b4 : Day.Lk.n (Day.CC x6 x3) ≤ 20 := b4
  have m1 : Day.QV x1 x2 1 = 3 + Day.Lk.n (Day.CC x6 x3) := m1
  have hn : Day.Lk.n (Day.CC x6 x3) = v26 := by rw [q26, q25]; rfl
  rw [hn] at b3 b4 m1
  rw [← q11] at m1
  rw [← q10] at m2 m3 m5
  have t7 : v7 = true := by rw [q7]; exact decide_eq_true h
  have hz : v18 = Day.Fg x1 := q18
  have t19 : v19 = false := by rw [q19, hz]; exact decide_eq_false (by omega)
  have t20 : v20 = true := by rw [q20, t19]; rfl
  have e28 : v28 = v26 := by rw [q28, t20]; rfl
  have e29 : v29 = 3 + v26 := by rw [q29, e28]; exact wrap64 (by omega) (by omega)
  have t31 : v31 = false := by
   rw [q31, t19, q30, e29, m1]
   simp
  have t36 : v36 = true := by rw [q36, q32, q34, q32, t31, t7]; rfl
  have w37 : v37 = v10 + 1 := by rw [q37]; exact wrap64 (by omega) (by omega)
  have w40 : v40 = x3 + 1 := by rw [q40]; exact wrap64 (by omega) (by omega)
  have hm : (x0 - (x3 + 1)).toNat < (x0 - x3).toNat := hm
  rw [w37, w40]
  refine ⟨⟨by rw [q24]; exact Day.DM (by rw [q23, q22, t7]; simp; omega), by rw [q17]; exact Day.DM (by rw [q9]; exact p1)⟩, fun _ => ⟨m5, ⟨rfl, rfl, rfl, rfl⟩, hm⟩, fun hh => ?_, fun hh => ?_⟩
  ·rw [q43, q41, q38, t36] at hh
   simp at hh
  ·rw [q8, t7] at hh
   cases hh
 ·have t7 : v7 = false := by rw [q7]; exact decide_eq_false h
  have e := Day.Ur hp h
  refine ⟨by simp [q24, q21, q17, t7], fun hh => ?_, fun hh => ?_, fun _ => ⟨e, rfl⟩⟩
  ·rw [q42, t7] at hh
   cases hh
  ·rw [q43, t7] at hh
   cases hh
theorem P0 (as : List A) (e : Nat → A) (h1 : as = (List.range 7).map e) (h2 : (Gr as).1 = true) (H : Ax T e Iu.defs) : Dm e Iu.obs ∧
   (∀ pc ls, some (V 42, [V 0, V 1, V 37, V 40, V 4, V 5, V 6]) = some (pc, ls) → (pc.ev e).bool = true → (Gr (ls.map (L.ev e))).1 = true ∧ (Gr (ls.map (L.ev e))).2 = (Gr as).2 ∧ PZ (ls.map (L.ev e)) < PZ as) ∧
   ∀ x ∈ ([(V 43, [some (V 10), some (B true), none, none]), (V 8, [none, none, some (V 2), some (B true)])] : List (L × List (Option L))), (x.1.ev e).bool = true → ∀ (j : Nat) l, x.2[j]? = some (some l) → FM (FD.tags.getD j .any) (l.ev e) ((Gr as).2.getD j (.i 0)) := by
 subst h1
 obtain ⟨ho, h⟩ := OW e H h2
 refine ⟨⟨ho.1, ho.2, trivial⟩, fun pc ls hb hpc => ?_, ?_⟩
 ·injection hb with hb
  injection hb with h3 h4
  subst h3 h4
  have h := h.1 hpc
  refine ⟨h.1, ?_, h.2.2⟩
  have h5 := h.2.1
  obtain ⟨z0, z1, z2, z3⟩ := h5
  exact (Fe z0 (Is z1 (Fe z2 (Is z3 rfl))))
 ·intro x hx hpc j l hj
  simp only [List.mem_cons, List.not_mem_nil, or_false] at hx
  rcases hx with rfl | rfl
  ·have h := h.2.1 hpc
   obtain ⟨z0, z1⟩ := h
   match j, hj with
   | 0, hj => cases hj; exact z0
   | 1, hj => cases hj; exact z1
   | 2, hj => cases hj
   | 3, hj => cases hj
   | _ + 4, hj => cases hj
  ·have h := h.2.2 hpc
   obtain ⟨z2, z3⟩ := h
   match j, hj with
   | 0, hj => cases hj
   | 1, hj => cases hj
   | 2, hj => cases hj; exact z2
   | 3, hj => cases hj; exact z3
   | _ + 4, hj => cases hj
def CO : G := ⟨37, [⟨36, .iteB, [V 5, V 33, V 4]⟩, ⟨35, .iteB, [V 5, V 31, V 7]⟩, ⟨34, .not, [V 5]⟩, ⟨33, .iteB, [V 22, V 22, V 21]⟩, ⟨32, .iteI, [V 22, V 15, V 13]⟩, ⟨31, .iteB, [V 22, V 29, B false]⟩, ⟨30, .not, [V 22]⟩, ⟨29, .iteB, [V 24, V 28, B false]⟩, ⟨28, (.cmp .eql), [V 15, V 27]⟩, ⟨27, .slen, [V 10]⟩, ⟨26, .and, [V 22, V 24]⟩, ⟨25, .imp, [V 22, V 23]⟩, ⟨23, (.call 7), []⟩, ⟨22, .and, [V 5, V 16]⟩, ⟨21, .and, [V 5, V 14]⟩, ⟨20, .imp, [V 5, V 19]⟩, ⟨19, .not, [V 18]⟩, ⟨18, .and, [V 14, V 16]⟩, ⟨17, .imp, [V 5, V 12]⟩, ⟨12, (.call 1131), [V 1, V 10, N 0, N 0, V 3, V 4, V 0]⟩, ⟨11, .imp, [V 5, V 9]⟩, ⟨9, (.call 8), [V 0, V 1]⟩, ⟨8, .imp, [V 4, V 6]⟩, ⟨6, (.call 7), []⟩, ⟨5, .not, [V 4]⟩, ⟨4, .not, [V 3]⟩, ⟨2, (.call 6), [V 0, V 1]⟩], [V 25, V 20, V 17, V 11, V 8, V 2], []⟩
theorem Gs (e : Nat → A) (H : Ax T e CO.defs) (hp : (Day.L1.Fa (Day.L1.mk (e 0) (e 1).int)) = true) :
  ((e 25).bool = true ∧ (e 20).bool = true ∧ (e 17).bool = true ∧ (e 11).bool = true ∧ (e 8).bool = true ∧ (e 2).bool = true) ∧ (true = (e 35).bool) := by
 simp only [CO, Ax, Def.q, Gh, L.Aw, L.Bj, L.CQ, L.CU, L.ev, A.AB, A.AP, A.BC, A.Ea, List.map_cons, List.map_nil, Nat.zero_add, Nat.add_zero, and_true, true_and, Nat.reduceAdd, Nat.one_mul] at H
 simp only [Lu, Lx, JV, CP, M1, NS, Io, PQ, and_true, true_and] at H
 obtain ⟨q36, q35, q34, q33, ⟨q32, -⟩, q31, q30, q29, q28, q27, q26, q25, q23, q22, q21, q20, q19, q18, q17, q12, q11, q9, q8, q6, q5, q4, q2⟩ := H
 replace q23 := FN q23
 obtain ⟨q23, q24⟩ := q23
 replace q12 := RF q12
 obtain ⟨q12, q13, q14, q15, q16⟩ := q12
 replace q9 := Lj q9
 obtain ⟨q9, q10⟩ := q9
 replace q6 := FN q6
 obtain ⟨q6, q7⟩ := q6
 replace q2 := L2 q2
 obtain ⟨q2, q3⟩ := q2
 simp only [L.Aw, L.Bj, L.CQ, L.CU, L.ev, A.AB, A.AP, A.BC] at q23 q24 q12 q13 q14 q15 q16 q9 q10 q6 q7 q2 q3
 generalize e 0 = x0, (e 1).int = x1, (e 2).bool = v2, (e 3).bool = v3, (e 4).bool = v4, (e 5).bool = v5, (e 6).bool = v6, (e 7).bool = v7, (e 8).bool = v8, (e 9).bool = v9, (e 10).str = v10, (e 11).bool = v11, (e 12).bool = v12, (e 13).int = v13, (e 14).bool = v14, (e 15).int = v15, (e 16).bool = v16, (e 17).bool = v17, (e 18).bool = v18, (e 19).bool = v19, (e 20).bool = v20, (e 21).bool = v21, (e 22).bool = v22, (e 23).bool = v23, (e 24).bool = v24, (e 25).bool = v25, (e 26).bool = v26, (e 27).int = v27, (e 28).bool = v28, (e 29).bool = v29, (e 30).bool = v30, (e 31).bool = v31, (e 32).int = v32, (e 33).bool = v33, (e 34).bool = v34, (e 35).bool = v35, (e 36).bool = v36 at *
 rw [hp] at q2
 cases hf : Day.L1.Tb ⟨x0, x1⟩ with
 | false =>
  rw [hf] at q3
  clear q9 q10 q12 q15 q27
  subst_vars
  simp
 | true =>
  have hl := Day.L1.NT hp hf
  have ha := Day.TI hl
  rw [← q10] at ha
  rw [hf] at q3
  rw [hl] at q9
  rw [ha] at q12
  have e28 : v28 = true := by
   rw [q28, q27, q15]
   exact beq_self_eq_true _
  clear q10 q15 q27 q28 ha
  subst_vars
  simp
end Rx.S
