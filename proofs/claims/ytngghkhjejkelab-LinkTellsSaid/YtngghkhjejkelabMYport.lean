import Derived.Test.YtngghkhjejkelabMXc
import Derived.Test.YtngghkhjejkelabMXt
set_option linter.unusedVariables false
set_option linter.unusedSimpArgs false
namespace Rx.S
open Go Rx
set_option maxRecDepth 100000
set_option maxHeartbeats 1000000
def I9 : Lp := ⟨44, [false, true, false, true, true, true], 1890, 8, 1, 3, ⟨Ii 32 [(0, .pv (.one (.k (.fsl 0 (V 0))))), (1, .pv (.one (.k (.fsl 1 (V 1))))), (4, .pv (.one (.k (.nilslc)))), (5, .pv (.one (.k (.int .i64 (N 0))))), (6, .pv (.one (.k (.lsl 2 (V 2))))), (9, .pv (.one (.k (.fsl 0 (V 0))))), (10, .pv (.one (.k (.int .i64 (V 0))))), (11, .pv (.one (.k (.fsl 1 (V 1))))), (12, .pv (.one (.k (.int .i64 (V 1))))), (13, .pv (.one (.k (.bool (V 3))))), (14, .pv (.one (.k (.fsl 1 (V 1))))), (15, .pv (.one (.k (.lsl 2 (V 2))))), (16, .pv (.one (.k (.fsl 0 (V 0))))), (17, .pv (.one (.k (.int .i64 (V 0))))), (18, .pv (.one (.k (.int .i64 (V 4)))))], [⟨false, 0, 0, [], some ⟨false, 0, [.int .i64, .int .i64], V 5, V 0⟩⟩, ⟨false, 0, 0, [], some ⟨false, 0, [.int .i64, .int .i64], V 6, V 1⟩⟩, ⟨false, 0, 0, [], some ⟨true, 32, [.int .i64, .int .i64], V 7, V 2⟩⟩], B true⟩, [(.exit 0, ⟨Ii 32 [(0, .pv (.one (.k (.fsl 0 (V 0))))), (1, .pv (.one (.k (.fsl 1 (V 1))))), (4, .pv (.one (.k (.nilslc)))), (5, .pv (.one (.k (.int .i64 (N 0))))), (6, .pv (.one (.k (.lsl 2 (V 2))))), (9, .pv (.one (.k (.fsl 0 (V 0))))), (10, .pv (.one (.k (.int .i64 (V 0))))), (11, .pv (.one (.k (.fsl 1 (V 1))))), (12, .pv (.one (.k (.int .i64 (V 1))))), (13, .pv (.one (.k (.bool (V 3))))), (14, .pv (.one (.k (.fsl 1 (V 1))))), (15, .pv (.one (.k (.lsl 2 (V 2))))), (16, .pv (.one (.k (.fsl 0 (V 0)))))], [⟨false, 0, 0, [], some ⟨false, 0, [.int .i64, .int .i64], V 5, V 0⟩⟩, ⟨false, 0, 0, [], some ⟨false, 0, [.int .i64, .int .i64], V 6, V 1⟩⟩, ⟨false, 0, 0, [], some ⟨true, 32, [.int .i64, .int .i64], V 8, V 2⟩⟩], B true⟩)], [true, true, true, true, false, true, true, false], [.any]⟩
def NU : G := ⟨29, [⟨28, (.ar .add .i64), [V 4, N 1]⟩, ⟨27, .iteA, [V 18, V 26, V 7]⟩, ⟨26, (.pset 1 2), [V 25, V 4, V 14]⟩, ⟨25, (.pset 0 2), [V 7, V 4, V 13]⟩, ⟨24, .imp, [V 20, V 23]⟩, ⟨23, .and, [V 10, V 22]⟩, ⟨22, (.cmp .lss), [V 4, V 2]⟩, ⟨21, .and, [V 8, V 19]⟩, ⟨20, .and, [V 8, V 18]⟩, ⟨19, .not, [V 18]⟩, ⟨18, .not, [V 17]⟩, ⟨17, .and, [V 16, V 15]⟩, ⟨16, (.cmp .eql), [V 13, N 0]⟩, ⟨15, (.cmp .eql), [V 14, N 0]⟩, ⟨14, (.pix 1 2), [V 5, V 4]⟩, ⟨13, (.pix 0 2), [V 5, V 4]⟩, ⟨12, .imp, [V 8, V 11]⟩, ⟨11, .and, [V 10, V 8]⟩, ⟨10, (.cmp .leq), [N 0, V 4]⟩, ⟨9, .not, [V 8]⟩, ⟨8, (.cmp .lss), [V 4, V 0]⟩], [V 24, V 12], []⟩
def Aag (al : List A) : Nat := (((Day.Ls.mk (ge al 5) (gi al 0))).n - (gi al 4)).toNat
theorem YV (e : Nat → A) (H : Ac T e NU.defs) (hp : (Day.Ls.FL (Day.Ls.mk (e 5) (e 0).int) && (Day.Be (e 4).int ((Day.Ls.mk (e 5) (e 0).int)).n && (Day.GV (e 7) ((Day.Ls.mk (e 5) (e 0).int)).n && (Day.Zb (e 7) && Day.Ms (e 2).int ((Day.Ls.mk (e 5) (e 0).int)).n)))) = true) :
  ((e 24).bool = true ∧ (e 12).bool = true) ∧ ((e 8).bool = true → (Day.Ls.FL (Day.Ls.mk (e 5) (e 0).int) && (Day.Be (e 28).int ((Day.Ls.mk (e 5) (e 0).int)).n && (Day.GV (e 27) ((Day.Ls.mk (e 5) (e 0).int)).n && (Day.Zb (e 27) && Day.Ms (e 2).int ((Day.Ls.mk (e 5) (e 0).int)).n)))) = true ∧ (Day.EF (Day.Ls.mk (e 5) (e 0).int) (e 28).int (e 27) = Day.EF (Day.Ls.mk (e 5) (e 0).int) (e 4).int (e 7)) ∧ (((Day.Ls.mk (e 5) (e 0).int)).n - (e 28).int).toNat < (((Day.Ls.mk (e 5) (e 0).int)).n - (e 4).int).toNat) ∧ ((e 9).bool = true → (e 7) = Day.EF (Day.Ls.mk (e 5) (e 0).int) (e 4).int (e 7)) := by
 simp only [NU, Ac, Def.q, Bc, L.Ae, L.Aq, L.AE, L.AF, L.ev, A.Ad, A.Ah, A.As, A.AJ, List.map_cons, List.map_nil, Nat.zero_add, Nat.add_zero, and_true, true_and, Nat.reduceAdd, Nat.one_mul] at H
 simp only [C0, C1, CN, A3, De, Dg, Bm, Dw, and_true, true_and] at H
 obtain ⟨⟨q28, -⟩, q27, q26, q25, q24, q23, q22, q21, q20, q19, q18, q17, q16, q15, q14, q13, q12, q11, q10, q9, q8⟩ := H
 generalize (e 0).int = x0, (e 1).int = x1, (e 2).int = x2, (e 3).int = x3, (e 4).int = x4, e 5 = x5, (e 6).int = x6, e 7 = x7, (e 8).bool = v8, (e 9).bool = v9, (e 10).bool = v10, (e 11).bool = v11, (e 12).bool = v12, (e 15).bool = v15, (e 16).bool = v16, (e 17).bool = v17, (e 18).bool = v18, (e 19).bool = v19, (e 20).bool = v20, (e 21).bool = v21, (e 22).bool = v22, (e 23).bool = v23, (e 24).bool = v24, e 25 = v25, e 26 = v26, e 27 = v27, (e 28).int = v28 at *
 have a13 := q13
 replace q13 := congrArg A.int q13
 generalize (e 13).int = v13 at *
 have a14 := q14
 replace q14 := congrArg A.int q14
 generalize (e 14).int = v14 at *
 simp only [Bool.and_eq_true, Day.Au, Day.H8, Day.Ms, decide_eq_true_eq] at hp ⊢
 obtain ⟨hf, ⟨h0, h1⟩, hl, hL, hx⟩ := hp
 subst hx
 have hf2 := Day.Ls.Et.1 hf
 simp only at hf2 h1 hl ⊢
 generalize hT : Day.Ls.mk x5 x2 = T at *
 have hn : x2 = T.n := by rw [← hT]
 have hk : T.k x4 = v13 := by rw [q13, ← hT]; rfl
 have hd : T.d x4 = v14 := by rw [q14, ← hT]; rfl
 have ha : e 13 = T.x.A5.getD (2 * x4.toNat) (.i 0) := by rw [a13, ← hT]
 have hb : e 14 = T.x.A5.getD (1 + 2 * x4.toNat) (.i 0) := by rw [a14, ← hT]
 clear hT q13 q14 a13 a14
 rw [ha] at q25
 rw [hb] at q26
 clear ha hb
 subst hn
 by_cases hlt : x4 < T.n
 ·have w : IntKind.wrap .i64 (x4 + 1) = x4 + 1 := wrap64 (by omega) (by omega)
  have e17 : v17 = Day.Er T x4 := by rw [q17, q16, q15, ← hk, ← hd]; rfl
  have e26 : v26 = Day.Qh x7 x4 (T.x.A5.getD (2 * x4.toNat) (.i 0)) (T.x.A5.getD (1 + 2 * x4.toNat) (.i 0)) := by rw [q26, q25]; rfl
  have e27 : v27 = if Day.Er T x4 = true then x7 else Day.Qh x7 x4 (T.x.A5.getD (2 * x4.toNat) (.i 0)) (T.x.A5.getD (1 + 2 * x4.toNat) (.i 0)) := by
   rw [q27, q18, e17, e26]
   cases Day.Er T x4 <;> simp
  have st := Day.ZW (a := T) h0 hlt hl
  rw [← e27] at st
  have hl27 : (v27.A5.length : Int) = 2 * T.n := by
   rw [e27]
   split
   ·exact hl
   ·rw [Day.H7]; exact hl
  have hL27 : Day.Zb v27 = true := by
   rw [e27]
   split
   ·exact hL
   ·rfl
  rw [q28, w, st]
  refine ⟨?_, fun _ => ⟨⟨hf, by omega, hl27, hL27, trivial⟩, rfl, by omega⟩, fun h => ?_⟩
  ·rw [q24, q23, q22, q12, q11, q10, q8]
   simp [h0, hlt]
  ·rw [q9, q8] at h
   simp [hlt] at h
 ·have st := Day.AbX (a := T) hL hlt
  refine ⟨?_, fun h => ?_, fun _ => st.symm⟩
  ·rw [q24, q20, q12, q8]
   simp [hlt]
  ·rw [q8] at h
   simp [hlt] at h
theorem Aah (as : List A) (e : Nat → A) (h1 : as = (List.range 8).map e) (h2 : (KI as).1 = true) (H : Ac T e NU.defs) : Ct e NU.obs ∧
   (∀ pc ls, some (V 8, [V 0, V 1, V 2, V 3, V 28, V 5, V 6, V 27]) = some (pc, ls) → (pc.ev e).bool = true → (KI (ls.map (L.ev e))).1 = true ∧ (KI (ls.map (L.ev e))).2 = (KI as).2 ∧ Aag (ls.map (L.ev e)) < Aag as) ∧
   ∀ x ∈ ([(V 9, [some (V 7)])] : List (L × List (Option L))), (x.1.ev e).bool = true → ∀ (j : Nat) l, x.2[j]? = some (some l) → Gl (I9.tags.getD j .any) (l.ev e) ((KI as).2.getD j (.i 0)) := by
 subst h1
 obtain ⟨ho, h⟩ := YV e H h2
 refine ⟨⟨ho.1, ho.2, trivial⟩, fun pc ls hb hpc => ?_, ?_⟩
 ·injection hb with hb
  injection hb with h3 h4
  subst h3 h4
  have h := h.1 hpc
  refine ⟨h.1, ?_, h.2.2⟩
  have h5 := h.2.1
  have z0 := h5
  exact (Aex z0 rfl)
 ·intro x hx hpc j l hj
  simp only [List.mem_cons, List.not_mem_nil, or_false] at hx
  rcases hx with rfl
  ·have h := h.2 hpc
   have z0 := h
   match j, hj with
   | 0, hj => cases hj; exact z0
   | _ + 1, hj => cases hj
def K7 : G := ⟨18, [⟨17, .iteB, [V 5, V 5, V 4]⟩, ⟨16, .iteA, [V 5, V 11, .e]⟩, ⟨15, .iteI, [V 5, N 0, N 2]⟩, ⟨14, .iteI, [V 5, V 8, N 0]⟩, ⟨13, .not, [V 5]⟩, ⟨12, .imp, [V 5, V 10]⟩, ⟨10, (.call 1890), [V 1, V 3, V 8, V 4, N 0, V 0, V 2, V 7]⟩, ⟨9, .imp, [V 5, V 6]⟩, ⟨6, (.call 59), [V 2, V 3]⟩, ⟨5, .not, [V 4]⟩, ⟨4, (.cmp .neq), [V 1, V 3]⟩], [V 12, V 9], []⟩
theorem TO (e : Nat → A) (H : Ac T e K7.defs) (hp : (Day.Ls.FL (Day.Ls.mk (e 0) (e 1).int) && (Day.Ls.FL (Day.Ls.mk (e 2) (e 3).int) && (Day.Be ((Day.Ls.mk (e 0) (e 1).int)).n 1000000 && (Day.P4 1 ((Day.Ls.mk (e 0) (e 1).int)).n && Day.P4 1 ((Day.Ls.mk (e 2) (e 3).int)).n)))) = true) :
  ((e 12).bool = true ∧ (e 9).bool = true) ∧ (((Day.Es (Day.Ls.mk (e 0) (e 1).int) (Day.Ls.mk (e 2) (e 3).int))).1 = (e 16) ∧ ((Day.Es (Day.Ls.mk (e 0) (e 1).int) (Day.Ls.mk (e 2) (e 3).int))).2 = (e 14).int ∧ Day.Mc (Day.Ls.mk (e 0) (e 1).int) (Day.Ls.mk (e 2) (e 3).int) = (e 15).int) := by
 simp only [K7, Ac, Def.q, Bc, L.Ae, L.Aq, L.AE, L.AF, L.ev, A.Ad, A.Ah, A.As, A.AJ, List.map_cons, List.map_nil, Nat.zero_add, Nat.add_zero, and_true, true_and, Nat.reduceAdd, Nat.one_mul] at H
 simp only [C0, C1, CN, A3, De, Dg, Bm, Dw, and_true, true_and] at H
 obtain ⟨q17, q16, ⟨q15, -⟩, ⟨q14, -⟩, q13, q12, q10, q9, q6, q5, q4⟩ := H
 replace q10 := Acg q10
 obtain ⟨q10, q11⟩ := q10
 replace q6 := AbZ q6
 obtain ⟨q6, q7, q8⟩ := q6
 simp only [L.Ae, L.Aq, L.AE, L.AF, L.ev, A.Ad, A.Ah, A.As] at q10 q11 q6 q7 q8
 generalize e 0 = x0, (e 1).int = x1, e 2 = x2, (e 3).int = x3, (e 4).bool = v4, (e 5).bool = v5, (e 6).bool = v6, e 7 = v7, (e 8).int = v8, (e 9).bool = v9, (e 10).bool = v10, e 11 = v11, (e 12).bool = v12, (e 13).bool = v13, (e 14).int = v14, (e 15).int = v15, e 16 = v16, (e 17).bool = v17 at *
 simp only [Bool.and_eq_true, Day.Au, Day.FK] at hp
 obtain ⟨ha, hb, ⟨h0, h1⟩, h2, h3⟩ := hp
 obtain ⟨f1, f2⟩ := Day.Ls.Et.1 ha
 obtain ⟨g1, g2⟩ := Day.Ls.Et.1 hb
 simp only at f1 f2 g1 g2 h0 h1 h2 h3
 by_cases hn : x1 = x3
 ·subst hn
  have hC : Day.GV (A.l x2.A5) x1 = true := by rw [Day.H8]; exact g2
  have hI : Day.Be 0 x1 = true := by rw [Day.Au]; omega
  have hI2 : Day.Be x1 1000000 = true := by rw [Day.Au]; omega
  have hB : Day.P4 1 x1 = true := by rw [Day.FK]; omega
  subst_vars
  simp [ha, hb, hC, hI, hI2, hB, Day.Es, Day.Mc, Day.Ms, Day.Zb]
  try rfl
 ·have e4 : v4 = true := by rw [q4]; simp [hn]
  subst_vars
  simp [hn, Day.Es, Day.Mc]
def Js : Lp := ⟨28, [false, true, false, true, true, true], 1900, 8, 1, 4, ⟨Ii 36 [(0, .pv (.one (.k (.fsl 0 (V 0))))), (1, .pv (.one (.k (.fsl 1 (V 1))))), (4, .pv (.one (.k (.nilslc)))), (5, .pv (.one (.k (.int .i64 (N 0))))), (6, .pv (.one (.k (.lsl 3 (V 2))))), (7, .pv (.one (.k (.int .i64 (V 3))))), (8, .pv (.one (.k (.fsl 0 (V 0))))), (9, .pv (.one (.k (.int .i64 (V 0))))), (10, .pv (.one (.k (.fsl 1 (V 1))))), (11, .pv (.one (.k (.int .i64 (V 1))))), (12, .pv (.one (.k (.bool (V 4))))), (13, .pv (.one (.k (.lsl 2 (N 0))))), (14, .pv (.one (.k (.fsl 0 (V 0))))), (15, .pv (.one (.k (.lsl 3 (V 2)))))], [⟨false, 0, 0, [], some ⟨false, 0, [.int .i64, .int .i64], V 5, V 0⟩⟩, ⟨false, 0, 0, [], some ⟨false, 0, [.int .i64, .int .i64], V 6, V 1⟩⟩, .dead, ⟨false, 0, 0, [], some ⟨true, 32, [.int .i64, .int .i64], V 7, V 2⟩⟩], B true⟩, [(.exit 0, ⟨Ii 36 [(0, .pv (.one (.k (.fsl 0 (V 0))))), (1, .pv (.one (.k (.fsl 1 (V 1))))), (4, .pv (.one (.k (.nilslc)))), (5, .pv (.one (.k (.int .i64 (N 0))))), (6, .pv (.one (.k (.lsl 3 (V 2))))), (8, .pv (.one (.k (.fsl 0 (V 0))))), (9, .pv (.one (.k (.int .i64 (V 0))))), (10, .pv (.one (.k (.fsl 1 (V 1))))), (11, .pv (.one (.k (.int .i64 (V 1))))), (12, .pv (.one (.k (.bool (V 4))))), (13, .pv (.one (.k (.lsl 2 (N 0))))), (14, .pv (.one (.k (.fsl 0 (V 0))))), (15, .pv (.one (.k (.lsl 3 (V 2)))))], [⟨false, 0, 0, [], some ⟨false, 0, [.int .i64, .int .i64], V 5, V 0⟩⟩, ⟨false, 0, 0, [], some ⟨false, 0, [.int .i64, .int .i64], V 6, V 1⟩⟩, .dead, ⟨false, 0, 0, [], some ⟨true, 32, [.int .i64, .int .i64], V 8, V 2⟩⟩], B true⟩)], [true, true, true, false, true, true, true, false], [.any]⟩
def Oi : G := ⟨33, [⟨32, (.ar .add .i64), [V 3, N 1]⟩, ⟨31, .iteA, [V 17, V 30, V 7]⟩, ⟨30, (.pset 1 2), [V 29, V 3, V 25]⟩, ⟨29, (.pset 0 2), [V 7, V 3, V 24]⟩, ⟨28, .imp, [V 19, V 27]⟩, ⟨27, .and, [V 10, V 26]⟩, ⟨26, (.cmp .lss), [V 3, V 2]⟩, ⟨25, (.pix 1 2), [V 6, V 3]⟩, ⟨24, (.pix 0 2), [V 6, V 3]⟩, ⟨23, .imp, [V 19, V 22]⟩, ⟨22, .and, [V 10, V 21]⟩, ⟨21, (.cmp .lss), [V 3, V 1]⟩, ⟨20, .and, [V 8, V 18]⟩, ⟨19, .and, [V 8, V 17]⟩, ⟨18, .not, [V 17]⟩, ⟨17, .and, [V 16, V 15]⟩, ⟨16, (.cmp .eql), [V 13, N 0]⟩, ⟨15, (.cmp .eql), [V 14, N 0]⟩, ⟨14, (.pix 1 2), [V 5, V 3]⟩, ⟨13, (.pix 0 2), [V 5, V 3]⟩, ⟨12, .imp, [V 8, V 11]⟩, ⟨11, .and, [V 10, V 8]⟩, ⟨10, (.cmp .leq), [N 0, V 3]⟩, ⟨9, .not, [V 8]⟩, ⟨8, (.cmp .lss), [V 3, V 0]⟩], [V 28, V 23, V 12], []⟩
def AaC (al : List A) : Nat := (((Day.Ls.mk (ge al 5) (gi al 0))).n - (gi al 3)).toNat
theorem Y8 (e : Nat → A) (H : Ac T e Oi.defs) (hp : (Day.Ls.FL (Day.Ls.mk (e 5) (e 0).int) && (Day.Be (e 3).int ((Day.Ls.mk (e 5) (e 0).int)).n && (Day.GV (e 7) ((Day.Ls.mk (e 5) (e 0).int)).n && (Day.Zb (e 7) && (Day.Ms (e 2).int ((Day.Ls.mk (e 5) (e 0).int)).n && Day.Ms ((Day.Ls.mk (e 6) (e 1).int)).n ((Day.Ls.mk (e 5) (e 0).int)).n))))) = true) :
  ((e 28).bool = true ∧ (e 23).bool = true ∧ (e 12).bool = true) ∧ ((e 8).bool = true → (Day.Ls.FL (Day.Ls.mk (e 5) (e 0).int) && (Day.Be (e 32).int ((Day.Ls.mk (e 5) (e 0).int)).n && (Day.GV (e 31) ((Day.Ls.mk (e 5) (e 0).int)).n && (Day.Zb (e 31) && (Day.Ms (e 2).int ((Day.Ls.mk (e 5) (e 0).int)).n && Day.Ms ((Day.Ls.mk (e 6) (e 1).int)).n ((Day.Ls.mk (e 5) (e 0).int)).n))))) = true ∧ (Day.Fc (Day.Ls.mk (e 5) (e 0).int) (Day.Ls.mk (e 6) (e 1).int) (e 32).int (e 31) = Day.Fc (Day.Ls.mk (e 5) (e 0).int) (Day.Ls.mk (e 6) (e 1).int) (e 3).int (e 7)) ∧ (((Day.Ls.mk (e 5) (e 0).int)).n - (e 32).int).toNat < (((Day.Ls.mk (e 5) (e 0).int)).n - (e 3).int).toNat) ∧ ((e 9).bool = true → (e 7) = Day.Fc (Day.Ls.mk (e 5) (e 0).int) (Day.Ls.mk (e 6) (e 1).int) (e 3).int (e 7)) := by
 simp only [Oi, Ac, Def.q, Bc, L.Ae, L.Aq, L.AE, L.AF, L.ev, A.Ad, A.Ah, A.As, A.AJ, List.map_cons, List.map_nil, Nat.zero_add, Nat.add_zero, and_true, true_and, Nat.reduceAdd, Nat.one_mul] at H
 simp only [C0, C1, CN, A3, De, Dg, Bm, Dw, and_true, true_and] at H
 obtain ⟨⟨q32, -⟩, q31, q30, q29, q28, q27, q26, q25, q24, q23, q22, q21, q20, q19, q18, q17, q16, q15, q14, q13, q12, q11, q10, q9, q8⟩ := H
 generalize (e 0).int = x0, (e 1).int = x1, (e 2).int = x2, (e 3).int = x3, (e 4).int = x4, e 5 = x5, e 6 = x6, e 7 = x7, (e 8).bool = v8, (e 9).bool = v9, (e 10).bool = v10, (e 11).bool = v11, (e 12).bool = v12, (e 15).bool = v15, (e 16).bool = v16, (e 17).bool = v17, (e 18).bool = v18, (e 19).bool = v19, (e 20).bool = v20, (e 21).bool = v21, (e 22).bool = v22, (e 23).bool = v23, (e 26).bool = v26, (e 27).bool = v27, (e 28).bool = v28, e 29 = v29, e 30 = v30, e 31 = v31, (e 32).int = v32 at *
 replace q13 := congrArg A.int q13
 generalize (e 13).int = v13 at *
 replace q14 := congrArg A.int q14
 generalize (e 14).int = v14 at *
 simp only [Bool.and_eq_true, Day.Au, Day.H8, Day.Ms, decide_eq_true_eq] at hp ⊢
 obtain ⟨hf, ⟨h0, h1⟩, hl, hL, hx, hy⟩ := hp
 replace hx : x2 = x0 := hx
 replace hy : x1 = x0 := hy
 subst hx
 have hf2 := Day.Ls.Et.1 hf
 simp only at hf2 h1 hl ⊢
 generalize hT : Day.Ls.mk x5 x2 = T at *
 generalize hU : Day.Ls.mk x6 x1 = U at *
 have hn : x2 = T.n := by rw [← hT]
 have hk : T.k x3 = v13 := by rw [q13, ← hT]; rfl
 have hd : T.d x3 = v14 := by rw [q14, ← hT]; rfl
 have ha : e 24 = U.x.A5.getD (2 * x3.toNat) (.i 0) := by rw [q24, ← hU]
 have hb : e 25 = U.x.A5.getD (1 + 2 * x3.toNat) (.i 0) := by rw [q25, ← hU]
 clear hT hU q13 q14 q24 q25
 rw [ha] at q29
 rw [hb] at q30
 clear ha hb
 subst hn
 by_cases hlt : x3 < T.n
 ·have w : IntKind.wrap .i64 (x3 + 1) = x3 + 1 := wrap64 (by omega) (by omega)
  have e17 : v17 = Day.Er T x3 := by rw [q17, q16, q15, ← hk, ← hd]; rfl
  have e30 : v30 = Day.Qh x7 x3 (U.x.A5.getD (2 * x3.toNat) (.i 0)) (U.x.A5.getD (1 + 2 * x3.toNat) (.i 0)) := by rw [q30, q29]; rfl
  have e31 : v31 = if Day.Er T x3 = true then Day.Qh x7 x3 (U.x.A5.getD (2 * x3.toNat) (.i 0)) (U.x.A5.getD (1 + 2 * x3.toNat) (.i 0)) else x7 := by
   rw [q31, e17, e30]
  have st := Day.ZX (a := T) (b := U) h0 hlt hl
  rw [← e31] at st
  have hl31 : (v31.A5.length : Int) = 2 * T.n := by
   rw [e31]
   split
   ·rw [Day.H7]; exact hl
   ·exact hl
  have hL31 : Day.Zb v31 = true := by
   rw [e31]
   split
   ·rfl
   ·exact hL
  rw [q32, w, st]
  refine ⟨?_, fun _ => ⟨⟨hf, by omega, hl31, hL31, trivial, hy⟩, rfl, by omega⟩, fun h => ?_⟩
  ·rw [q28, q27, q26, q23, q22, q21, q12, q11, q10, q8]
   simp [h0, hlt]
   omega
  ·rw [q9, q8] at h
   simp [hlt] at h
 ·have st := Day.AbY (a := T) (b := U) hL hlt
  refine ⟨?_, fun h => ?_, fun _ => st.symm⟩
  ·rw [q28, q23, q19, q12, q8]
   simp [hlt]
  ·rw [q8] at h
   simp [hlt] at h
theorem AaD (as : List A) (e : Nat → A) (h1 : as = (List.range 8).map e) (h2 : (KJ as).1 = true) (H : Ac T e Oi.defs) : Ct e Oi.obs ∧
   (∀ pc ls, some (V 8, [V 0, V 1, V 2, V 32, V 4, V 5, V 6, V 31]) = some (pc, ls) → (pc.ev e).bool = true → (KJ (ls.map (L.ev e))).1 = true ∧ (KJ (ls.map (L.ev e))).2 = (KJ as).2 ∧ AaC (ls.map (L.ev e)) < AaC as) ∧
   ∀ x ∈ ([(V 9, [some (V 7)])] : List (L × List (Option L))), (x.1.ev e).bool = true → ∀ (j : Nat) l, x.2[j]? = some (some l) → Gl (Js.tags.getD j .any) (l.ev e) ((KJ as).2.getD j (.i 0)) := by
 subst h1
 obtain ⟨ho, h⟩ := Y8 e H h2
 refine ⟨⟨ho.1, ho.2.1, ho.2.2, trivial⟩, fun pc ls hb hpc => ?_, ?_⟩
 ·injection hb with hb
  injection hb with h3 h4
  subst h3 h4
  have h := h.1 hpc
  refine ⟨h.1, ?_, h.2.2⟩
  have h5 := h.2.1
  have z0 := h5
  exact (Aex z0 rfl)
 ·intro x hx hpc j l hj
  simp only [List.mem_cons, List.not_mem_nil, or_false] at hx
  rcases hx with rfl
  ·have h := h.2 hpc
   have z0 := h
   match j, hj with
   | 0, hj => cases hj; exact z0
   | _ + 1, hj => cases hj
def Jt : G := ⟨22, [⟨21, .iteB, [V 5, V 5, V 4]⟩, ⟨20, .iteA, [V 5, V 15, .e]⟩, ⟨19, .iteI, [V 5, N 0, N 2]⟩, ⟨18, .iteI, [V 5, V 7, N 0]⟩, ⟨17, .not, [V 5]⟩, ⟨16, .imp, [V 5, V 14]⟩, ⟨14, (.call 1900), [V 1, V 3, V 7, N 0, V 4, V 0, V 2, V 6]⟩, ⟨13, .imp, [V 5, V 12]⟩, ⟨12, .and, [V 10, V 11]⟩, ⟨11, (.cmp .lss), [V 7, N 1000001]⟩, ⟨10, (.cmp .leq), [N 0, V 7]⟩, ⟨9, .imp, [V 5, V 8]⟩, ⟨8, (.cmp .leq), [N 1, V 1]⟩, ⟨7, (.lln 2), [V 6]⟩, ⟨6, .cat, [.e, V 0]⟩, ⟨5, .not, [V 4]⟩, ⟨4, (.cmp .neq), [V 1, V 3]⟩], [V 16, V 13, V 9], []⟩
theorem Q6 (e : Nat → A) (H : Ac T e Jt.defs) (hp : (Day.Ls.FL (Day.Ls.mk (e 0) (e 1).int) && (Day.Ls.FL (Day.Ls.mk (e 2) (e 3).int) && (Day.Be ((Day.Ls.mk (e 0) (e 1).int)).n 1000000 && (Day.P4 1 ((Day.Ls.mk (e 0) (e 1).int)).n && Day.P4 1 ((Day.Ls.mk (e 2) (e 3).int)).n)))) = true) :
  ((e 16).bool = true ∧ (e 13).bool = true ∧ (e 9).bool = true) ∧ (((Day.Es (Day.Ls.mk (e 0) (e 1).int) (Day.Ls.mk (e 2) (e 3).int))).1 = (e 20) ∧ ((Day.Es (Day.Ls.mk (e 0) (e 1).int) (Day.Ls.mk (e 2) (e 3).int))).2 = (e 18).int ∧ Day.Mc (Day.Ls.mk (e 0) (e 1).int) (Day.Ls.mk (e 2) (e 3).int) = (e 19).int) := by
 simp only [Jt, Ac, Def.q, Bc, L.Ae, L.Aq, L.AE, L.AF, L.ev, A.Ad, A.Ah, A.As, A.AJ, List.map_cons, List.map_nil, Nat.zero_add, Nat.add_zero, and_true, true_and, Nat.reduceAdd, Nat.one_mul] at H
 simp only [C0, C1, CN, A3, De, Dg, Bm, Dw, and_true, true_and] at H
 obtain ⟨q21, q20, ⟨q19, -⟩, ⟨q18, -⟩, q17, q16, q14, q13, q12, q11, q10, q9, q8, q7, q6, q5, q4⟩ := H
 replace q14 := Ach q14
 obtain ⟨q14, q15⟩ := q14
 simp only [L.Ae, L.Aq, L.AE, L.AF, L.ev, A.Ad, A.Ah, A.As] at q14 q15
 generalize e 0 = x0, (e 1).int = x1, e 2 = x2, (e 3).int = x3, (e 4).bool = v4, (e 5).bool = v5, e 6 = v6, (e 7).int = v7, (e 8).bool = v8, (e 9).bool = v9, (e 10).bool = v10, (e 11).bool = v11, (e 12).bool = v12, (e 13).bool = v13, (e 14).bool = v14, e 15 = v15, (e 16).bool = v16, (e 17).bool = v17, (e 18).int = v18, (e 19).int = v19, e 20 = v20, (e 21).bool = v21 at *
 simp only [Bool.and_eq_true, Day.Au, Day.FK] at hp
 obtain ⟨ha, hb, ⟨h0, h1⟩, h2, h3⟩ := hp
 obtain ⟨f1, f2⟩ := Day.Ls.Et.1 ha
 obtain ⟨g1, g2⟩ := Day.Ls.Et.1 hb
 simp only at f1 f2 g1 g2 h0 h1 h2 h3
 by_cases hn : x1 = x3
 ·subst hn
  have e6 : v6 = A.l x0.A5 := by rw [q6]; simp
  have e7 : v7 = x1 := by rw [q7, e6]; simp only [A.AJ]; omega
  have hC : Day.GV (A.l x0.A5) x1 = true := by rw [Day.H8]; exact f2
  have hI : Day.Be 0 x1 = true := by rw [Day.Au]; omega
  have hxy : Day.Fc ⟨x0, x1⟩ ⟨x2, x1⟩ 0 (A.l x0.A5) = Day.EF ⟨x0, x1⟩ 0 x2 := Day.Agw (a := ⟨x0, x1⟩) (b := ⟨x2, x1⟩) f2 g2 rfl
  clear q6 q7
  subst_vars
  simp [ha, hb, hC, hI, hxy, Day.Es, Day.Mc, Day.Ms, Day.Zb]
  omega
 ·have e4 : v4 = true := by rw [q4]; simp [hn]
  subst_vars
  simp [hn, Day.Es, Day.Mc]
end Rx.S
