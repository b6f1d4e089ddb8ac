import Derived.Test.YtmpinegdphkbjaaDoorTXc
import Derived.Test.YtmpinegdphkbjaaDoorTXt
set_option linter.unusedVariables false
set_option linter.unusedSimpArgs false
namespace Rx.S
open Go Rx
set_option maxRecDepth 100000
set_option maxHeartbeats 1000000
def Fb : G := ⟨47, [⟨46, .iteB, [V 32, V 43, V 31]⟩, ⟨45, .iteV, [V 32, V 42, V 30]⟩, ⟨44, .not, [V 32]⟩, ⟨43, .iteB, [V 40, V 40, V 39]⟩, ⟨42, .iteV, [V 40, .s [63], .s [45]]⟩, ⟨41, .not, [V 40]⟩, ⟨40, .and, [V 36, V 38]⟩, ⟨39, .and, [V 35, V 37]⟩, ⟨38, .and, [V 32, V 36]⟩, ⟨37, .and, [V 32, V 35]⟩, ⟨36, .not, [V 35]⟩, ⟨35, .and, [V 34, V 33]⟩, ⟨34, (.cmp .eql), [V 0, N 0]⟩, ⟨33, (.cmp .eql), [V 1, N 0]⟩, ⟨32, .and, [V 3, V 29]⟩, ⟨31, .iteB, [V 2, V 2, V 28]⟩, ⟨30, .iteV, [V 2, V 13, V 27]⟩, ⟨29, .and, [V 15, V 17]⟩, ⟨28, .and, [V 14, V 16]⟩, ⟨27, .scat, [.s [105], V 19]⟩, ⟨26, .imp, [V 16, V 25]⟩, ⟨25, (.cmp .leq), [V 22, N 4611686018427387903]⟩, ⟨24, .imp, [V 16, V 23]⟩, ⟨23, (.cmp .leq), [V 21, N 4611686018427387903]⟩, ⟨22, .slen, [V 19]⟩, ⟨21, .slen, [.s [105]]⟩, ⟨20, .imp, [V 16, V 18]⟩, ⟨18, (.call 17), [V 1]⟩, ⟨17, .and, [V 3, V 15]⟩, ⟨16, .and, [V 3, V 14]⟩, ⟨15, .not, [V 14]⟩, ⟨14, (.cmp .eql), [V 0, N 2]⟩, ⟨13, .scat, [.s [99], V 5]⟩, ⟨12, .imp, [V 2, V 11]⟩, ⟨11, (.cmp .leq), [V 8, N 4611686018427387903]⟩, ⟨10, .imp, [V 2, V 9]⟩, ⟨9, (.cmp .leq), [V 7, N 4611686018427387903]⟩, ⟨8, .slen, [V 5]⟩, ⟨7, .slen, [.s [99]]⟩, ⟨6, .imp, [V 2, V 4]⟩, ⟨4, (.call 17), [V 1]⟩, ⟨3, .not, [V 2]⟩, ⟨2, (.cmp .eql), [V 0, N 1]⟩], [V 26, V 24, V 20, V 12, V 10, V 6], []⟩
theorem Kk (e : Nat → A) (H : Am T e Fb.defs) (hp : (Day.i64 (Day.Fr.id (Day.Fr.mk (e 0).int (e 1).int))) = true) :
  ((e 26).bool = true ∧ (e 24).bool = true ∧ (e 20).bool = true ∧ (e 12).bool = true ∧ (e 10).bool = true ∧ (e 6).bool = true) ∧ (Day.Dq (Day.Fr.mk (e 0).int (e 1).int) = (e 45).str) := by
 simp only [Fb, Am, Def.q, DP, L.Al, L.AM, L.Bq, L.Bw, L.ev, A.Ap, A.Ay, A.AR, A.Cb, List.map_cons, List.map_nil, Nat.zero_add, Nat.add_zero, and_true, true_and, Nat.reduceAdd, Nat.one_mul] at H
 simp only [IL, JE, Ic, B7, Ks, KI, E7, MK, and_true, true_and] at H
 obtain ⟨q46, ⟨-, q45⟩, q44, q43, ⟨-, q42⟩, q41, q40, q39, q38, q37, q36, q35, q34, q33, q32, q31, ⟨-, q30⟩, q29, q28, q27, q26, q25, q24, q23, q22, q21, q20, q18, q17, q16, q15, q14, q13, q12, q11, q10, q9, q8, q7, q6, q4, q3, q2⟩ := H
 replace q18 := Cn q18
 obtain ⟨q18, q19⟩ := q18
 replace q4 := Cn q4
 obtain ⟨q4, q5⟩ := q4
 simp only [L.Al, L.AM, L.Bq, L.Bw, L.ev, A.Ap, A.Ay, A.AR] at q18 q19 q4 q5
 generalize (e 0).int = x0, (e 1).int = x1, (e 2).bool = v2, (e 3).bool = v3, (e 4).bool = v4, (e 5).str = v5, (e 6).bool = v6, (e 7).int = v7, (e 8).int = v8, (e 9).bool = v9, (e 10).bool = v10, (e 11).bool = v11, (e 12).bool = v12, (e 13).str = v13, (e 14).bool = v14, (e 15).bool = v15, (e 16).bool = v16, (e 17).bool = v17, (e 18).bool = v18, (e 19).str = v19, (e 20).bool = v20, (e 21).int = v21, (e 22).int = v22, (e 23).bool = v23, (e 24).bool = v24, (e 25).bool = v25, (e 26).bool = v26, (e 27).str = v27, (e 28).bool = v28, (e 29).bool = v29, (e 30).str = v30, (e 31).bool = v31, (e 32).bool = v32, (e 33).bool = v33, (e 34).bool = v34, (e 35).bool = v35, (e 36).bool = v36, (e 37).bool = v37, (e 38).bool = v38, (e 39).bool = v39, (e 40).bool = v40, (e 41).bool = v41, (e 42).str = v42, (e 43).bool = v43, (e 44).bool = v44, (e 45).str = v45, (e 46).bool = v46 at *
 have hi : Day.i64 x1 = true := hp
 have hn : (Day.Mh x1).size ≤ 21 := by
  have := Day.F5 hi
  rw [show (Day.Mh x1).size = (Day.num x1).length from Day.A6 _]
  exact this
 refine ⟨⟨by rw [q26]; exact Day.BR (by rw [q25, q22, q19]; simp; omega), by rw [q24]; exact Day.BR (by rw [q23, q21]; decide), by rw [q20]; exact Day.BR (by rw [q18]; exact hi), by rw [q12]; exact Day.BR (by rw [q11, q8, q5]; simp; omega), by rw [q10]; exact Day.BR (by rw [q9, q7]; decide), by rw [q6]; exact Day.BR (by rw [q4]; exact hi)⟩, ?_⟩
 rw [q45]
 unfold Day.Dq
 show Day.Cz (Day.A9 x0 x1) = _
 unfold Day.A9
 by_cases c1 : x0 = 1
 ·have g : v32 = false ∧ v2 = true := by simp [q32, q3, q2, c1]
  rw [q30, g.1, g.2, q13, q5, if_pos c1]
  rw [show (99 :: Day.num x1) = [99] ++ Day.num x1 from rfl, Day.Bv]
  rfl
 ·by_cases c2 : x0 = 2
  ·have g : v32 = false ∧ v2 = false := by simp [q32, q29, q15, q14, q2, c2]
   rw [q30, g.1, g.2, q27, q19, if_neg c1, if_pos c2]
   rw [show (105 :: Day.num x1) = [105] ++ Day.num x1 from rfl, Day.Bv]
   rfl
  ·have g : v32 = true := by simp [q32, q29, q17, q15, q14, q3, q2, c1, c2]
   by_cases c3 : x0 = 0 ∧ x1 = 0
   ·have g2 : v40 = false := by simp [q40, q36, q35, q34, q33, c3]
    rw [q42, g, g2, if_neg c1, if_neg c2, if_pos c3]
    rfl
   ·have g2 : v40 = true := by
     have c4 : v35 = false := by
      rw [q35, q34, q33]
      by_cases d : x0 = 0
      ·have d2 : ¬ x1 = 0 := fun d2 => c3 ⟨d, d2⟩
       simp [d, d2]
      ·simp [d]
     simp [q40, q38, q36, c4, g]
    rw [q42, g, g2, if_neg c1, if_neg c2, if_neg c3]
    rfl
def Gc : Lp := ⟨17, [false, true, false, true, true], 1050, 3, 1, 0, ⟨ML 30 [(0, .pv (.one (.k (.int .i64 (V 0))))), (2, .pv (.one (.k (.str (.s []))))), (3, .pv (.one (.k (.str (V 1))))), (4, .pv (.one (.k (.int .i64 (V 2))))), (6, .pv (.one (.k (.int .i64 (V 0)))))], [], B true⟩, [(.exit 0, ⟨ML 30 [(0, .pv (.one (.k (.int .i64 (V 0))))), (2, .pv (.one (.k (.str (.s []))))), (3, .pv (.one (.k (.str (V 3))))), (6, .pv (.one (.k (.int .i64 (V 0)))))], [], B true⟩)], [true, false, false], [.s]⟩
def Jv : G := ⟨22, [⟨21, .and, [V 20, V 18]⟩, ⟨20, .not, [V 19]⟩, ⟨19, .not, [V 18]⟩, ⟨18, (.cmp .eql), [V 17, N 0]⟩, ⟨17, (.dv .quo .i64), [V 2, N 10]⟩, ⟨16, .scat, [V 11, V 1]⟩, ⟨15, (.cmp .leq), [V 13, N 4611686018427387903]⟩, ⟨14, (.cmp .leq), [V 12, N 4611686018427387903]⟩, ⟨13, .slen, [V 1]⟩, ⟨12, .slen, [V 11]⟩, ⟨11, .mks, [V 10]⟩, ⟨10, .mkl, [V 9]⟩, ⟨9, (.conv .u8), [V 8]⟩, ⟨8, (.ar .add .i64), [N 48, V 7]⟩, ⟨7, .iteI, [V 4, V 6, V 3]⟩, ⟨6, (.neg .i64), [V 3]⟩, ⟨5, .not, [V 4]⟩, ⟨4, (.cmp .lss), [V 3, N 0]⟩, ⟨3, (.dv .rem .i64), [V 2, N 10]⟩], [V 15, V 14], []⟩
def Q8 (al : List A) : Nat := ((gi al 2)).natAbs
theorem P8 (e : Nat → A) (H : Am T e Jv.defs) (hp : (Day.dP (e 1).str (e 2).int) = true) :
  ((e 15).bool = true ∧ (e 14).bool = true) ∧ ((e 19).bool = true → (Day.dP (e 16).str (e 17).int) = true ∧ (Day.dS (e 16).str (e 17).int = Day.dS (e 1).str (e 2).int) ∧ ((e 17).int).natAbs < ((e 2).int).natAbs) ∧ ((e 21).bool = true → (e 16).str = Day.dS (e 1).str (e 2).int) := by
 simp only [Jv, Am, Def.q, DP, L.Al, L.AM, L.Bq, L.Bw, L.ev, A.Ap, A.Ay, A.AR, A.Cb, List.map_cons, List.map_nil, Nat.zero_add, Nat.add_zero, and_true, true_and, Nat.reduceAdd, Nat.one_mul] at H
 simp only [IL, JE, Ic, B7, Ks, KI, E7, MK, and_true, true_and] at H
 obtain ⟨q21, q20, q19, q18, ⟨q17, -⟩, q16, q15, q14, q13, q12, q11, q10, ⟨q9, k9⟩, ⟨q8, -⟩, ⟨q7, -⟩, q6, q5, q4, ⟨q3, -⟩⟩ := H
 unfold Us at k9
 rw [q10] at q11
 simp only [A.Cb, List.map_cons, List.map_nil, A.Ap] at q11
 generalize (e 0).int = x0, (e 1).str = x1, (e 2).int = x2, (e 3).int = v3, (e 4).bool = v4, (e 5).bool = v5, (e 6).int = v6, (e 7).int = v7, (e 8).int = v8, (e 9).int = v9, e 10 = v10, (e 11).str = v11, (e 12).int = v12, (e 13).int = v13, (e 14).bool = v14, (e 15).bool = v15, (e 16).str = v16, (e 17).int = v17, (e 18).bool = v18, (e 19).bool = v19, (e 20).bool = v20, (e 21).bool = v21 at *
 rw [k9] at q10
 have hk : Day.i64 x2 = true := by
  simp only [Day.dP, Bool.and_eq_true] at hp
  exact hp.1
 have hz : x1.size ≤ 25 := by
  simp only [Day.dP, Bool.and_eq_true, decide_eq_true_eq] at hp
  omega
 have hc := Day.T5 hk q3 q4 q6 q7 q8 q9
 obtain ⟨s1, s2⟩ := Day.UW hp hc (s2 := v16) (by rw [q16, q11]; rfl) q17
 refine ⟨⟨by rw [q15, q13]; simp; omega, by rw [q14, q12, q11]; exact decide_eq_true (by show ((1 : Nat) : Int) ≤ _; omega)⟩, fun hh => ?_, fun hh => ?_⟩
 ·rw [q19, q18] at hh
  exact s1 (by simpa using hh)
 ·rw [q21, q20, q19, q18] at hh
  exact s2 (by simpa using hh)
theorem Q9 (as : List A) (e : Nat → A) (h1 : as = (List.range 3).map e) (h2 : (G0 as).1 = true) (H : Am T e Jv.defs) : C9 e Jv.obs ∧
   (∀ pc ls, some (V 19, [V 0, V 16, V 17]) = some (pc, ls) → (pc.ev e).bool = true → (G0 (ls.map (L.ev e))).1 = true ∧ (G0 (ls.map (L.ev e))).2 = (G0 as).2 ∧ Q8 (ls.map (L.ev e)) < Q8 as) ∧
   ∀ x ∈ ([(V 21, [some (V 16)])] : List (L × List (Option L))), (x.1.ev e).bool = true → ∀ (j : Nat) l, x.2[j]? = some (some l) → FH (Gc.tags.getD j .any) (l.ev e) ((G0 as).2.getD j (.i 0)) := by
 subst h1
 obtain ⟨ho, h⟩ := P8 e H h2
 refine ⟨⟨ho.1, ho.2, trivial⟩, fun pc ls hb hpc => ?_, ?_⟩
 ·injection hb with hb
  injection hb with h3 h4
  subst h3 h4
  have h := h.1 hpc
  refine ⟨h.1, ?_, h.2.2⟩
  have h5 := h.2.1
  have z0 := h5
  exact (Ui z0 rfl)
 ·intro x hx hpc j l hj
  simp only [List.mem_cons, List.not_mem_nil, or_false] at hx
  rcases hx with rfl
  ·have h := h.2 hpc
   have z0 := h
   match j, hj with
   | 0, hj => cases hj; exact z0
   | _ + 1, hj => cases hj
def Ez : G := ⟨15, [⟨14, .iteB, [V 4, V 4, V 3]⟩, ⟨13, .iteV, [V 4, V 2, V 11]⟩, ⟨12, .not, [V 4]⟩, ⟨11, .scat, [.s [45], V 2]⟩, ⟨10, .imp, [V 3, V 9]⟩, ⟨9, (.cmp .leq), [V 6, N 4611686018427387903]⟩, ⟨8, .imp, [V 3, V 7]⟩, ⟨7, (.cmp .leq), [V 5, N 4611686018427387903]⟩, ⟨6, .slen, [V 2]⟩, ⟨5, .slen, [.s [45]]⟩, ⟨4, .not, [V 3]⟩, ⟨3, (.cmp .lss), [V 0, N 0]⟩, ⟨1, (.call 1050), [V 0, .s [], V 0]⟩], [V 10, V 8, V 1], []⟩
theorem Jw (e : Nat → A) (H : Am T e Ez.defs) (hp : (Day.i64 (e 0).int) = true) :
  ((e 10).bool = true ∧ (e 8).bool = true ∧ (e 1).bool = true) ∧ (Day.Mh (e 0).int = (e 13).str) := by
 simp only [Ez, Am, Def.q, DP, L.Al, L.AM, L.Bq, L.Bw, L.ev, A.Ap, A.Ay, A.AR, A.Cb, List.map_cons, List.map_nil, Nat.zero_add, Nat.add_zero, and_true, true_and, Nat.reduceAdd, Nat.one_mul] at H
 simp only [IL, JE, Ic, B7, Ks, KI, E7, MK, and_true, true_and] at H
 obtain ⟨q14, ⟨-, q13⟩, q12, q11, q10, q9, q8, q7, q6, q5, q4, q3, q1⟩ := H
 replace q1 := SH q1
 obtain ⟨q1, q2⟩ := q1
 simp only [L.Al, L.AM, L.Bq, L.Bw, L.ev, A.Ap, A.Ay, A.AR] at q1 q2
 generalize (e 0).int = x0, (e 1).bool = v1, (e 2).str = v2, (e 3).bool = v3, (e 4).bool = v4, (e 5).int = v5, (e 6).int = v6, (e 7).bool = v7, (e 8).bool = v8, (e 9).bool = v9, (e 10).bool = v10, (e 11).str = v11, (e 12).bool = v12, (e 13).str = v13, (e 14).bool = v14 at *
 obtain ⟨m1, m2, m3⟩ := Day.UX hp
 rw [← q2] at m2 m3
 refine ⟨⟨by rw [q10]; exact Day.BR (by rw [q9, q6]; simp; omega), by rw [q8]; exact Day.BR (by rw [q7, q5]; decide), by rw [q1]; exact m1⟩, ?_⟩
 rw [q13, q4, q3, q11, m2]
 unfold Day.Mh Day.num
 by_cases h : x0 < 0
 ·simp only [h, decide_true, if_true, Bool.not_true, Bool.false_eq_true, if_false]
  rw [show (45 :: Day.Jj x0.natAbs) = [45] ++ Day.Jj x0.natAbs from rfl, Day.Bv]
  rfl
 ·simp only [h, decide_false, Bool.false_eq_true, if_false, Bool.not_false, if_true]
def Gd : G := ⟨42, [⟨41, .iteB, [V 38, V 38, V 37]⟩, ⟨40, .iteV, [V 38, .s [63], V 36]⟩, ⟨39, .not, [V 38]⟩, ⟨38, .and, [V 5, V 35]⟩, ⟨37, .iteB, [V 4, V 4, V 34]⟩, ⟨36, .iteV, [V 4, .s [111], V 33]⟩, ⟨35, .and, [V 7, V 32]⟩, ⟨34, .iteB, [V 6, V 8, V 31]⟩, ⟨33, .iteV, [V 6, .s [108], V 30]⟩, ⟨32, .and, [V 11, V 29]⟩, ⟨31, .iteB, [V 10, V 12, V 28]⟩, ⟨30, .iteV, [V 10, .s [99], V 27]⟩, ⟨29, .and, [V 15, V 17]⟩, ⟨28, .and, [V 14, V 16]⟩, ⟨27, .scat, [.s [97], V 19]⟩, ⟨26, .imp, [V 16, V 25]⟩, ⟨25, (.cmp .leq), [V 22, N 4611686018427387903]⟩, ⟨24, .imp, [V 16, V 23]⟩, ⟨23, (.cmp .leq), [V 21, N 4611686018427387903]⟩, ⟨22, .slen, [V 19]⟩, ⟨21, .slen, [.s [97]]⟩, ⟨20, .imp, [V 16, V 18]⟩, ⟨18, (.call 17), [V 3]⟩, ⟨17, .and, [V 13, V 15]⟩, ⟨16, .and, [V 13, V 14]⟩, ⟨15, .not, [V 14]⟩, ⟨14, (.cmp .eql), [V 1, N 3]⟩, ⟨13, .and, [V 9, V 11]⟩, ⟨12, .and, [V 9, V 10]⟩, ⟨11, .not, [V 10]⟩, ⟨10, (.cmp .eql), [V 1, N 2]⟩, ⟨9, .and, [V 5, V 7]⟩, ⟨8, .and, [V 5, V 6]⟩, ⟨7, .not, [V 6]⟩, ⟨6, (.cmp .eql), [V 1, N 1]⟩, ⟨5, .not, [V 4]⟩, ⟨4, (.cmp .eql), [V 1, N 0]⟩], [V 26, V 24, V 20], []⟩
theorem KX (e : Nat → A) (H : Am T e Gd.defs) (hp : (Day.i64 (Day.ND.pos (Day.ND.mk (e 0).int (e 1).int (e 2).int (e 3).int))) = true) :
  ((e 26).bool = true ∧ (e 24).bool = true ∧ (e 20).bool = true) ∧ (Day.Jk (Day.ND.mk (e 0).int (e 1).int (e 2).int (e 3).int) = (e 40).str) := by
 simp only [Gd, Am, Def.q, DP, L.Al, L.AM, L.Bq, L.Bw, L.ev, A.Ap, A.Ay, A.AR, A.Cb, List.map_cons, List.map_nil, Nat.zero_add, Nat.add_zero, and_true, true_and, Nat.reduceAdd, Nat.one_mul] at H
 simp only [IL, JE, Ic, B7, Ks, KI, E7, MK, and_true, true_and] at H
 obtain ⟨q41, ⟨-, q40⟩, q39, q38, q37, ⟨-, q36⟩, q35, q34, ⟨-, q33⟩, q32, q31, ⟨-, q30⟩, q29, q28, q27, q26, q25, q24, q23, q22, q21, q20, q18, q17, q16, q15, q14, q13, q12, q11, q10, q9, q8, q7, q6, q5, q4⟩ := H
 replace q18 := Cn q18
 obtain ⟨q18, q19⟩ := q18
 simp only [L.Al, L.AM, L.Bq, L.Bw, L.ev, A.Ap, A.Ay, A.AR] at q18 q19
 generalize (e 0).int = x0, (e 1).int = x1, (e 2).int = x2, (e 3).int = x3, (e 4).bool = v4, (e 5).bool = v5, (e 6).bool = v6, (e 7).bool = v7, (e 8).bool = v8, (e 9).bool = v9, (e 10).bool = v10, (e 11).bool = v11, (e 12).bool = v12, (e 13).bool = v13, (e 14).bool = v14, (e 15).bool = v15, (e 16).bool = v16, (e 17).bool = v17, (e 18).bool = v18, (e 19).str = v19, (e 20).bool = v20, (e 21).int = v21, (e 22).int = v22, (e 23).bool = v23, (e 24).bool = v24, (e 25).bool = v25, (e 26).bool = v26, (e 27).str = v27, (e 28).bool = v28, (e 29).bool = v29, (e 30).str = v30, (e 31).bool = v31, (e 32).bool = v32, (e 33).str = v33, (e 34).bool = v34, (e 35).bool = v35, (e 36).str = v36, (e 37).bool = v37, (e 38).bool = v38, (e 39).bool = v39, (e 40).str = v40, (e 41).bool = v41 at *
 have hi : Day.i64 x3 = true := hp
 have hn : (Day.Mh x3).size ≤ 21 := by
  have := Day.F5 hi
  rw [show (Day.Mh x3).size = (Day.num x3).length from Day.A6 _]
  exact this
 refine ⟨⟨by rw [q26]; exact Day.BR (by rw [q25, q22, q19]; simp; omega), by rw [q24]; exact Day.BR (by rw [q23, q21]; decide), by rw [q20]; exact Day.BR (by rw [q18]; exact hi)⟩, ?_⟩
 rw [q40]
 unfold Day.Jk
 show Day.Cz (Day.Ch x1 x3) = _
 unfold Day.Ch
 by_cases c0 : x1 = 0
 ·have g : v38 = false ∧ v4 = true := by simp [q38, q5, q4, c0]
  rw [q36, g.1, g.2]
  simp only [Bool.false_eq_true, if_false, if_true, c0]
  rfl
 ·by_cases c1 : x1 = 1
  ·have g : v38 = false ∧ v4 = false ∧ v6 = true := by simp [q38, q35, q7, q6, q4, c1]
   rw [q36, q33, g.1, g.2.1, g.2.2]
   simp only [Bool.false_eq_true, if_false, if_true, c1]
   rfl
  ·by_cases c2 : x1 = 2
   ·have g : v38 = false ∧ v4 = false ∧ v6 = false ∧ v10 = true := by simp [q38, q35, q32, q11, q10, q6, q4, c2]
    rw [q36, q33, q30, g.1, g.2.1, g.2.2.1, g.2.2.2]
    simp only [Bool.false_eq_true, if_false, if_true, c2]
    rfl
   ·by_cases c3 : x1 = 3
    ·have g : v38 = false ∧ v4 = false ∧ v6 = false ∧ v10 = false := by simp [q38, q35, q32, q29, q15, q14, q10, q6, q4, c3]
     rw [q36, q33, q30, g.1, g.2.1, g.2.2.1, g.2.2.2, q27, q19]
     simp only [Bool.false_eq_true, if_false, if_true, c3]
     rw [show (97 :: Day.num x3) = [97] ++ Day.num x3 from rfl, Day.Bv]
     rfl
    ·have g : v38 = true := by simp [q38, q35, q32, q29, q17, q15, q14, q13, q11, q10, q9, q7, q6, q5, q4, c0, c1, c2, c3]
     rw [g]
     simp only [if_true, c0, c1, c2, c3, if_false]
     rfl
def Ge : Lp := ⟨10, [false, true, false, true, true], 1080, 16, 1, 2, ⟨ML 38 [(0, .pv (.agg [.k (.int .i64 (V 0)), .k (.int .i64 (V 1)), .k (.int .i64 (V 2)), .k (.int .i64 (V 3)), .k (.int .i64 (V 4)), .k (.fsl 0 (V 5))])), (1, .pv (.one (.k (.ptr 1 0)))), (2, .pv (.one (.k (.str (.s []))))), (3, .pv (.one (.k (.str (V 6))))), (4, .pv (.one (.k (.int .i64 (V 7))))), (5, .pv (.one (.k (.ptr 1 0)))), (6, .pv (.one (.k (.int .i64 (V 0))))), (7, .pv (.one (.k (.str (V 8))))), (8, .pv (.one (.k (.str (V 9))))), (9, .pv (.one (.k (.ptr 1 1)))), (10, .pv (.one (.k (.ptr 1 1)))), (11, .pv (.agg [.k (.int .i64 (V 1)), .k (.int .i64 (V 2))])), (12, .pv (.one (.k (.str (V 10))))), (13, .pv (.one (.k (.str (V 11))))), (14, .pv (.one (.k (.str (V 12))))), (15, .pv (.one (.k (.ptr 1 1)))), (16, .pv (.one (.k (.ptr 1 3)))), (17, .pv (.agg [.k (.int .i64 (V 3)), .k (.int .i64 (V 4))])), (18, .pv (.one (.k (.str (V 13))))), (19, .pv (.one (.k (.str (V 14)))))], [⟨false, 0, 0, [], some ⟨false, 0, [.int .i64, .int .i64, .int .i64, .int .i64], V 15, V 5⟩⟩, ⟨true, 31, 6, [.k (.int .i64 (V 0)), .k (.int .i64 (V 1)), .k (.int .i64 (V 2)), .k (.int .i64 (V 3)), .k (.int .i64 (V 4)), .k (.fsl 0 (V 5))], none⟩], B true⟩, [(.exit 0, ⟨ML 38 [(0, .pv (.agg [.k (.int .i64 (V 0)), .k (.int .i64 (V 1)), .k (.int .i64 (V 2)), .k (.int .i64 (V 3)), .k (.int .i64 (V 4)), .k (.fsl 0 (V 5))])), (1, .pv (.one (.k (.ptr 1 0)))), (2, .pv (.one (.k (.str (.s []))))), (3, .pv (.one (.k (.str (V 16))))), (5, .pv (.one (.k (.ptr 1 0)))), (6, .pv (.one (.k (.int .i64 (V 0))))), (7, .pv (.one (.k (.str (V 8))))), (8, .pv (.one (.k (.str (V 9))))), (9, .pv (.one (.k (.ptr 1 1)))), (10, .pv (.one (.k (.ptr 1 1)))), (11, .pv (.agg [.k (.int .i64 (V 1)), .k (.int .i64 (V 2))])), (12, .pv (.one (.k (.str (V 10))))), (13, .pv (.one (.k (.str (V 11))))), (14, .pv (.one (.k (.str (V 12))))), (15, .pv (.one (.k (.ptr 1 1)))), (16, .pv (.one (.k (.ptr 1 3)))), (17, .pv (.agg [.k (.int .i64 (V 3)), .k (.int .i64 (V 4))])), (18, .pv (.one (.k (.str (V 13))))), (19, .pv (.one (.k (.str (V 14)))))], [⟨false, 0, 0, [], some ⟨false, 0, [.int .i64, .int .i64, .int .i64, .int .i64], V 15, V 5⟩⟩, ⟨true, 31, 6, [.k (.int .i64 (V 0)), .k (.int .i64 (V 1)), .k (.int .i64 (V 2)), .k (.int .i64 (V 3)), .k (.int .i64 (V 4)), .k (.fsl 0 (V 5))], none⟩], B true⟩)], [true, true, true, true, true, true, false, false, true, true, true, true, true, true, true, true], [.s]⟩
def Jy : G := ⟨43, [⟨42, (.ar .add .i64), [V 7, N 1]⟩, ⟨41, .scat, [V 24, V 33]⟩, ⟨40, .imp, [V 16, V 39]⟩, ⟨39, (.cmp .leq), [V 36, N 4611686018427387903]⟩, ⟨38, .imp, [V 16, V 37]⟩, ⟨37, (.cmp .leq), [V 35, N 4611686018427387903]⟩, ⟨36, .slen, [V 33]⟩, ⟨35, .slen, [V 24]⟩, ⟨34, .imp, [V 16, V 32]⟩, ⟨32, (.call 14), [V 28, V 29, V 30, V 31]⟩, ⟨31, (.pix 3 4), [V 15, V 7]⟩, ⟨30, (.pix 2 4), [V 15, V 7]⟩, ⟨29, (.pix 1 4), [V 15, V 7]⟩, ⟨28, (.pix 0 4), [V 15, V 7]⟩, ⟨27, .imp, [V 16, V 26]⟩, ⟨26, .and, [V 25, V 16]⟩, ⟨25, (.cmp .leq), [N 0, V 7]⟩, ⟨24, .scat, [V 6, .s [32]]⟩, ⟨23, .imp, [V 16, V 22]⟩, ⟨22, (.cmp .leq), [V 19, N 4611686018427387903]⟩, ⟨21, .imp, [V 16, V 20]⟩, ⟨20, (.cmp .leq), [V 18, N 4611686018427387903]⟩, ⟨19, .slen, [.s [32]]⟩, ⟨18, .slen, [V 6]⟩, ⟨17, .not, [V 16]⟩, ⟨16, (.cmp .lss), [V 7, V 5]⟩], [V 40, V 38, V 34, V 27, V 23, V 21], []⟩
def Ra (al : List A) : Nat := (Day.L1.n (Day.L1.mk (ge al 15) (gi al 5)) - (gi al 7)).toNat
theorem P9 (e : Nat → A) (H : Am T e Jy.defs) (hp : (Day.rP (e 6).str (Day.L1.mk (e 15) (e 5).int) (e 7).int) = true) :
  ((e 40).bool = true ∧ (e 38).bool = true ∧ (e 34).bool = true ∧ (e 27).bool = true ∧ (e 23).bool = true ∧ (e 21).bool = true) ∧ ((e 16).bool = true → (Day.rP (e 41).str (Day.L1.mk (e 15) (e 5).int) (e 42).int) = true ∧ (Day.rS (e 41).str (Day.L1.mk (e 15) (e 5).int) (e 42).int = Day.rS (e 6).str (Day.L1.mk (e 15) (e 5).int) (e 7).int) ∧ (Day.L1.n (Day.L1.mk (e 15) (e 5).int) - (e 42).int).toNat < (Day.L1.n (Day.L1.mk (e 15) (e 5).int) - (e 7).int).toNat) ∧ ((e 17).bool = true → (e 6).str = Day.rS (e 6).str (Day.L1.mk (e 15) (e 5).int) (e 7).int) := by
 simp only [Jy, Am, Def.q, DP, L.Al, L.AM, L.Bq, L.Bw, L.ev, A.Ap, A.Ay, A.AR, A.Cb, List.map_cons, List.map_nil, Nat.zero_add, Nat.add_zero, and_true, true_and, Nat.reduceAdd, Nat.one_mul] at H
 simp only [IL, JE, Ic, B7, Ks, KI, E7, MK, and_true, true_and] at H
 obtain ⟨⟨q42, -⟩, q41, q40, q39, q38, q37, q36, q35, q34, q32, q31, q30, q29, q28, q27, q26, q25, q24, q23, q22, q21, q20, q19, q18, q17, q16⟩ := H
 replace q32 := G5 q32 _ rfl
 obtain ⟨q32, q33⟩ := q32
 simp only [L.Al, L.AM, L.Bq, L.Bw, L.ev, A.Ap, A.Ay, A.AR] at q32 q33
 generalize (e 0).int = x0, (e 1).int = x1, (e 2).int = x2, (e 3).int = x3, (e 4).int = x4, (e 5).int = x5, (e 6).str = x6, (e 7).int = x7, (e 8).int = x8, (e 9).int = x9, (e 10).int = x10, (e 11).int = x11, (e 12).int = x12, (e 13).int = x13, (e 14).int = x14, e 15 = x15, (e 16).bool = v16, (e 17).bool = v17, (e 18).int = v18, (e 19).int = v19, (e 20).bool = v20, (e 21).bool = v21, (e 22).bool = v22, (e 23).bool = v23, (e 24).str = v24, (e 25).bool = v25, (e 26).bool = v26, (e 27).bool = v27, (e 32).bool = v32, (e 33).str = v33, (e 34).bool = v34, (e 35).int = v35, (e 36).int = v36, (e 37).bool = v37, (e 38).bool = v38, (e 39).bool = v39, (e 40).bool = v40, (e 41).str = v41, (e 42).int = v42 at *
 replace q28 := congrArg A.int q28
 generalize (e 28).int = v28 at *
 replace q29 := congrArg A.int q29
 generalize (e 29).int = v29 at *
 replace q30 := congrArg A.int q30
 generalize (e 30).int = v30 at *
 replace q31 := congrArg A.int q31
 generalize (e 31).int = v31 at *
 by_cases h : x7 < x5
 ·obtain ⟨hi, b1, b2, b3, b4, st⟩ := Day.UY (s2 := v41) hp h q29 q31
  have t16 : v16 = true := by rw [q16]; exact decide_eq_true h
  have e33 : v33 = Day.Cz (Day.Ch v29 v31) := by rw [q33]; rfl
  obtain ⟨s1, s2, hm⟩ := st (by rw [q41, q24, e33]; rfl)
  have w : v42 = x7 + 1 := by rw [q42]; exact wrap64 (by omega) (by omega)
  have z24 : v24.size = x6.size + 1 := by rw [q24, ByteArray.size_append]; rfl
  rw [← e33] at b4
  rw [w]
  refine ⟨⟨by rw [q40]; exact Day.BR (by rw [q39, q36]; simp; omega), by rw [q38]; exact Day.BR (by rw [q37, q35, z24]; simp; omega), by rw [q34]; exact Day.BR (by rw [q32]; exact hi), by rw [q27]; exact Day.BR (by rw [q26, q25, t16]; simp; omega), by rw [q23]; exact Day.BR (by rw [q22, q19]; decide), by rw [q21]; exact Day.BR (by rw [q20, q18]; simp; omega)⟩, fun _ => ⟨s1, s2, hm⟩, fun hh => ?_⟩
  rw [q17, t16] at hh
  cases hh
 ·have t16 : v16 = false := by rw [q16]; exact decide_eq_false h
  refine ⟨by simp [q40, q38, q34, q27, q23, q21, t16], fun hh => ?_, fun _ => (Day.VR h).symm⟩
  rw [t16] at hh
  cases hh
theorem Rb (as : List A) (e : Nat → A) (h1 : as = (List.range 16).map e) (h2 : (G1 as).1 = true) (H : Am T e Jy.defs) : C9 e Jy.obs ∧
   (∀ pc ls, some (V 16, [V 0, V 1, V 2, V 3, V 4, V 5, V 41, V 42, V 8, V 9, V 10, V 11, V 12, V 13, V 14, V 15]) = some (pc, ls) → (pc.ev e).bool = true → (G1 (ls.map (L.ev e))).1 = true ∧ (G1 (ls.map (L.ev e))).2 = (G1 as).2 ∧ Ra (ls.map (L.ev e)) < Ra as) ∧
   ∀ x ∈ ([(V 17, [some (V 6)])] : List (L × List (Option L))), (x.1.ev e).bool = true → ∀ (j : Nat) l, x.2[j]? = some (some l) → FH (Ge.tags.getD j .any) (l.ev e) ((G1 as).2.getD j (.i 0)) := by
 subst h1
 obtain ⟨ho, h⟩ := P9 e H h2
 refine ⟨⟨ho.1, ho.2.1, ho.2.2.1, ho.2.2.2.1, ho.2.2.2.2.1, ho.2.2.2.2.2, trivial⟩, fun pc ls hb hpc => ?_, ?_⟩
 ·injection hb with hb
  injection hb with h3 h4
  subst h3 h4
  have h := h.1 hpc
  refine ⟨h.1, ?_, h.2.2⟩
  have h5 := h.2.1
  have z0 := h5
  exact (Ui z0 rfl)
 ·intro x hx hpc j l hj
  simp only [List.mem_cons, List.not_mem_nil, or_false] at hx
  rcases hx with rfl
  ·have h := h.2 hpc
   have z0 := h
   match j, hj with
   | 0, hj => cases hj; exact z0
   | _ + 1, hj => cases hj
def Gf : G := ⟨38, [⟨37, .scat, [V 32, .s [10]]⟩, ⟨36, (.cmp .leq), [V 34, N 4611686018427387903]⟩, ⟨35, (.cmp .leq), [V 33, N 4611686018427387903]⟩, ⟨34, .slen, [.s [10]]⟩, ⟨33, .slen, [V 32]⟩, ⟨31, (.call 1080), [V 0, V 1, V 2, V 3, V 4, V 6, V 30, N 0, V 8, V 13, V 15, V 20, V 23, V 25, V 30, V 5]⟩, ⟨30, .scat, [V 23, V 25]⟩, ⟨29, (.cmp .leq), [V 27, N 4611686018427387903]⟩, ⟨28, (.cmp .leq), [V 26, N 4611686018427387903]⟩, ⟨27, .slen, [V 25]⟩, ⟨26, .slen, [V 23]⟩, ⟨24, (.call 12), [V 3, V 4]⟩, ⟨23, .scat, [V 20, .s [32]]⟩, ⟨22, (.cmp .leq), [V 21, N 4611686018427387903]⟩, ⟨21, .slen, [V 20]⟩, ⟨20, .scat, [V 13, V 15]⟩, ⟨19, (.cmp .leq), [V 17, N 4611686018427387903]⟩, ⟨18, (.cmp .leq), [V 16, N 4611686018427387903]⟩, ⟨17, .slen, [V 15]⟩, ⟨16, .slen, [V 13]⟩, ⟨14, (.call 12), [V 1, V 2]⟩, ⟨13, .scat, [V 8, .s [32]]⟩, ⟨12, (.cmp .leq), [V 10, N 4611686018427387903]⟩, ⟨11, (.cmp .leq), [V 9, N 4611686018427387903]⟩, ⟨10, .slen, [.s [32]]⟩, ⟨9, .slen, [V 8]⟩, ⟨7, (.call 17), [V 0]⟩], [V 36, V 35, V 31, V 29, V 28, V 24, V 22, V 19, V 18, V 14, V 12, V 11, V 7], []⟩
theorem KY (e : Nat → A) (H : Am T e Gf.defs) : ∀ z0, z0 = (Day.Lk.mk (e 0).int (e 1).int (e 2).int (e 3).int (e 4).int (e 5) (e 6).int) → (Day.Lk.ok z0) = true →
  ((e 36).bool = true ∧ (e 35).bool = true ∧ (e 31).bool = true ∧ (e 29).bool = true ∧ (e 28).bool = true ∧ (e 24).bool = true ∧ (e 22).bool = true ∧ (e 19).bool = true ∧ (e 18).bool = true ∧ (e 14).bool = true ∧ (e 12).bool = true ∧ (e 11).bool = true ∧ (e 7).bool = true) ∧ (Day.Dg z0 = (e 37).str) := by
 intro z0 hz0 hp
 subst hz0
 simp only [Gf, Am, Def.q, DP, L.Al, L.AM, L.Bq, L.Bw, L.ev, A.Ap, A.Ay, A.AR, A.Cb, List.map_cons, List.map_nil, Nat.zero_add, Nat.add_zero, and_true, true_and, Nat.reduceAdd, Nat.one_mul] at H
 simp only [IL, JE, Ic, B7, Ks, KI, E7, MK, and_true, true_and] at H
 obtain ⟨q37, q36, q35, q34, q33, q31, q30, q29, q28, q27, q26, q24, q23, q22, q21, q20, q19, q18, q17, q16, q14, q13, q12, q11, q10, q9, q7⟩ := H
 replace q31 := SI q31
 obtain ⟨q31, q32⟩ := q31
 replace q24 := DT q24
 obtain ⟨q24, q25⟩ := q24
 replace q14 := DT q14
 obtain ⟨q14, q15⟩ := q14
 replace q7 := Cn q7
 obtain ⟨q7, q8⟩ := q7
 simp only [L.Al, L.AM, L.Bq, L.Bw, L.ev, A.Ap, A.Ay, A.AR] at q31 q32 q24 q25 q14 q15 q7 q8
 generalize (e 0).int = x0, (e 1).int = x1, (e 2).int = x2, (e 3).int = x3, (e 4).int = x4, e 5 = x5, (e 6).int = x6, (e 7).bool = v7, (e 8).str = v8, (e 9).int = v9, (e 10).int = v10, (e 11).bool = v11, (e 12).bool = v12, (e 13).str = v13, (e 14).bool = v14, (e 15).str = v15, (e 16).int = v16, (e 17).int = v17, (e 18).bool = v18, (e 19).bool = v19, (e 20).str = v20, (e 21).int = v21, (e 22).bool = v22, (e 23).str = v23, (e 24).bool = v24, (e 25).str = v25, (e 26).int = v26, (e 27).int = v27, (e 28).bool = v28, (e 29).bool = v29, (e 30).str = v30, (e 31).bool = v31, (e 32).str = v32, (e 33).int = v33, (e 34).int = v34, (e 35).bool = v35, (e 36).bool = v36, (e 37).str = v37 at *
 obtain ⟨m1, m2, m3, m4, m5, m6, m7, m8, m9, m10, m11⟩ := Day.U2 hp (a := v13) (b := v23) (c := v30) (by rw [q13, q8]; rfl) (by rw [q23, q20, q15]; rfl) (by rw [q30, q25])
 rw [← q32] at m10 m11
 have m4 : v8.size ≤ 21 := by rw [q8]; exact m4
 have m5 : v15.size ≤ 22 := by rw [q15]; exact m5
 have m6 : v25.size ≤ 22 := by rw [q25]; exact m6
 have z20 : v20.size ≤ 44 := by rw [q20, ByteArray.size_append]; omega
 refine ⟨⟨by rw [q36, q34]; decide, by rw [q35, q33]; simp; omega, by rw [q31]; exact m9, by rw [q29, q27]; simp; omega, by rw [q28, q26]; simp; omega, by rw [q24]; exact m3, by rw [q22, q21]; simp; omega, by rw [q19, q17]; simp; omega, by rw [q18, q16]; simp; omega, by rw [q14]; exact m2, by rw [q12, q10]; decide, by rw [q11, q9]; simp; omega, by rw [q7]; exact m1⟩, ?_⟩
 rw [q37, ← m11]
 rfl
def Gg : Lp := ⟨15, [false, true, false, true, true], 1090, 4, 1, 1, ⟨ML 19 [(0, .pv (.one (.k (.fsl 0 (V 0))))), (2, .pv (.one (.k (.str (.s []))))), (3, .pv (.one (.k (.str (V 1))))), (4, .pv (.one (.k (.int .i64 (V 2)))))], [⟨false, 0, 0, [], some ⟨false, 0, [.int .i64, .int .i64, .int .i64, .int .i64, .int .i64, .sl [.int .i64, .int .i64, .int .i64, .int .i64]], V 3, V 0⟩⟩], B true⟩, [(.exit 0, ⟨ML 19 [(2, .pv (.one (.k (.str (.s []))))), (3, .pv (.one (.k (.str (V 4)))))], [⟨false, 0, 0, [], some ⟨false, 0, [.int .i64, .int .i64, .int .i64, .int .i64, .int .i64, .sl [.int .i64, .int .i64, .int .i64, .int .i64]], V 3, V 0⟩⟩], B true⟩)], [true, false, false, true], [.s]⟩
def Jz : G := ⟨27, [⟨26, (.ar .add .i64), [V 2, N 1]⟩, ⟨25, .scat, [V 1, V 17]⟩, ⟨24, .imp, [V 4, V 23]⟩, ⟨23, (.cmp .leq), [V 20, N 4611686018427387903]⟩, ⟨22, .imp, [V 4, V 21]⟩, ⟨21, (.cmp .leq), [V 19, N 4611686018427387903]⟩, ⟨20, .slen, [V 17]⟩, ⟨19, .slen, [V 1]⟩, ⟨18, .imp, [V 4, V 16]⟩, ⟨16, (.call 10), [V 9, V 10, V 11, V 12, V 13, V 14, V 15]⟩, ⟨15, (.lln 4), [V 14]⟩, ⟨14, (.pix 5 6), [V 3, V 2]⟩, ⟨13, (.pix 4 6), [V 3, V 2]⟩, ⟨12, (.pix 3 6), [V 3, V 2]⟩, ⟨11, (.pix 2 6), [V 3, V 2]⟩, ⟨10, (.pix 1 6), [V 3, V 2]⟩, ⟨9, (.pix 0 6), [V 3, V 2]⟩, ⟨8, .imp, [V 4, V 7]⟩, ⟨7, .and, [V 6, V 4]⟩, ⟨6, (.cmp .leq), [N 0, V 2]⟩, ⟨5, .not, [V 4]⟩, ⟨4, (.cmp .lss), [V 2, V 0]⟩], [V 24, V 22, V 18, V 8], []⟩
def Rc (al : List A) : Nat := (Day.L1.n (Day.L1.mk (ge al 3) (gi al 0)) - (gi al 2)).toNat
theorem Qa (e : Nat → A) (H : Am T e Jz.defs) (hp : (Day.qP (e 1).str (Day.L1.mk (e 3) (e 0).int) (e 2).int) = true) :
  ((e 24).bool = true ∧ (e 22).bool = true ∧ (e 18).bool = true ∧ (e 8).bool = true) ∧ ((e 4).bool = true → (Day.qP (e 25).str (Day.L1.mk (e 3) (e 0).int) (e 26).int) = true ∧ (Day.qS (e 25).str (Day.L1.mk (e 3) (e 0).int) (e 26).int = Day.qS (e 1).str (Day.L1.mk (e 3) (e 0).int) (e 2).int) ∧ (Day.L1.n (Day.L1.mk (e 3) (e 0).int) - (e 26).int).toNat < (Day.L1.n (Day.L1.mk (e 3) (e 0).int) - (e 2).int).toNat) ∧ ((e 5).bool = true → (e 1).str = Day.qS (e 1).str (Day.L1.mk (e 3) (e 0).int) (e 2).int) := by
 simp only [Jz, Am, Def.q, DP, L.Al, L.AM, L.Bq, L.Bw, L.ev, A.Ap, A.Ay, A.AR, A.Cb, List.map_cons, List.map_nil, Nat.zero_add, Nat.add_zero, and_true, true_and, Nat.reduceAdd, Nat.one_mul] at H
 simp only [IL, JE, Ic, B7, Ks, KI, E7, MK, and_true, true_and] at H
 obtain ⟨⟨q26, -⟩, q25, q24, q23, q22, q21, q20, q19, q18, q16, q15, q14, q13, q12, q11, q10, q9, q8, q7, q6, q5, q4⟩ := H
 replace q16 := G6 q16 _ rfl
 obtain ⟨q16, q17⟩ := q16
 simp only [L.Al, L.AM, L.Bq, L.Bw, L.ev, A.Ap, A.Ay, A.AR] at q16 q17
 generalize (e 0).int = x0, (e 1).str = x1, (e 2).int = x2, e 3 = x3, (e 4).bool = v4, (e 5).bool = v5, (e 6).bool = v6, (e 7).bool = v7, (e 8).bool = v8, (e 15).int = v15, (e 16).bool = v16, (e 17).str = v17, (e 18).bool = v18, (e 19).int = v19, (e 20).int = v20, (e 21).bool = v21, (e 22).bool = v22, (e 23).bool = v23, (e 24).bool = v24, (e 25).str = v25, (e 26).int = v26 at *
 replace q9 := congrArg A.int q9
 generalize (e 9).int = v9 at *
 replace q10 := congrArg A.int q10
 generalize (e 10).int = v10 at *
 replace q11 := congrArg A.int q11
 generalize (e 11).int = v11 at *
 replace q12 := congrArg A.int q12
 generalize (e 12).int = v12 at *
 replace q13 := congrArg A.int q13
 generalize (e 13).int = v13, e 14 = v14 at *
 by_cases h : x2 < x0
 ·obtain ⟨hk, b1, b2, b3, b4, st⟩ := Day.U0 (s2 := v25) hp h
  have hlk : Day.Dp x3 x2 = ⟨v9, v10, v11, v12, v13, v14, v15⟩ := by
   rw [q9, q10, q11, q12, q13, q15, q14]
   rfl
  have hk : Day.Lk.ok (Day.Dp x3 x2) = true := hk
  have b4 : (Day.Dg (Day.Dp x3 x2)).size ≤ 528 := b4
  have st : v25 = x1 ++ Day.Dg (Day.Dp x3 x2) → Day.qP v25 ⟨x3, x0⟩ (x2 + 1) = true ∧ Day.qS v25 ⟨x3, x0⟩ (x2 + 1) = Day.qS x1 ⟨x3, x0⟩ x2 ∧ (x0 - (x2 + 1)).toNat < (x0 - x2).toNat := st
  rw [hlk] at hk b4 st
  rw [← q17] at b4 st
  obtain ⟨s1, s2, hm⟩ := st q25
  have t4 : v4 = true := by rw [q4]; exact decide_eq_true h
  have w : v26 = x2 + 1 := by rw [q26]; exact wrap64 (by omega) (by omega)
  rw [w]
  refine ⟨⟨by rw [q24]; exact Day.BR (by rw [q23, q20]; simp; omega), by rw [q22]; exact Day.BR (by rw [q21, q19]; simp; omega), by rw [q18]; exact Day.BR (by rw [q16]; exact hk), by rw [q8]; exact Day.BR (by rw [q7, q6, t4]; simp; omega)⟩, fun _ => ⟨s1, s2, hm⟩, fun hh => ?_⟩
  rw [q5, t4] at hh
  cases hh
 ·have t4 : v4 = false := by rw [q4]; exact decide_eq_false h
  refine ⟨by simp [q24, q22, q18, q8, t4], fun hh => ?_, fun _ => (Day.VS h).symm⟩
  rw [t4] at hh
  cases hh
theorem Re (as : List A) (e : Nat → A) (h1 : as = (List.range 4).map e) (h2 : (G2 as).1 = true) (H : Am T e Jz.defs) : C9 e Jz.obs ∧
   (∀ pc ls, some (V 4, [V 0, V 25, V 26, V 3]) = some (pc, ls) → (pc.ev e).bool = true → (G2 (ls.map (L.ev e))).1 = true ∧ (G2 (ls.map (L.ev e))).2 = (G2 as).2 ∧ Rc (ls.map (L.ev e)) < Rc as) ∧
   ∀ x ∈ ([(V 5, [some (V 1)])] : List (L × List (Option L))), (x.1.ev e).bool = true → ∀ (j : Nat) l, x.2[j]? = some (some l) → FH (Gg.tags.getD j .any) (l.ev e) ((G2 as).2.getD j (.i 0)) := by
 subst h1
 obtain ⟨ho, h⟩ := Qa e H h2
 refine ⟨⟨ho.1, ho.2.1, ho.2.2.1, ho.2.2.2, trivial⟩, fun pc ls hb hpc => ?_, ?_⟩
 ·injection hb with hb
  injection hb with h3 h4
  subst h3 h4
  have h := h.1 hpc
  refine ⟨h.1, ?_, h.2.2⟩
  have h5 := h.2.1
  have z0 := h5
  exact (Ui z0 rfl)
 ·intro x hx hpc j l hj
  simp only [List.mem_cons, List.not_mem_nil, or_false] at hx
  rcases hx with rfl
  ·have h := h.2 hpc
   have z0 := h
   match j, hj with
   | 0, hj => cases hj; exact z0
   | _ + 1, hj => cases hj
def Fc : G := ⟨4, [⟨2, (.call 1090), [V 1, .s [], N 0, V 0]⟩], [V 2], []⟩
theorem Ko (e : Nat → A) (H : Am T e Fc.defs) (hp : (Day.L1.RW (Day.L1.mk (e 0) (e 1).int)) = true) :
  ((e 2).bool = true) ∧ (Day.GU (Day.L1.mk (e 0) (e 1).int) = (e 3).str) := by
 simp only [Fc, Am, Def.q, DP, L.Al, L.AM, L.Bq, L.Bw, L.ev, A.Ap, A.Ay, A.AR, A.Cb, List.map_cons, List.map_nil, Nat.zero_add, Nat.add_zero, and_true, true_and, Nat.reduceAdd, Nat.one_mul] at H
 have q2 := H
 replace q2 := SJ q2
 obtain ⟨q2, q3⟩ := q2
 simp only [L.Al, L.AM, L.Bq, L.Bw, L.ev, A.Ap, A.Ay, A.AR] at q2 q3
 generalize e 0 = x0, (e 1).int = x1, (e 2).bool = v2, (e 3).str = v3 at *
 obtain ⟨m1, m2⟩ := Day.U1 hp
 exact ⟨by rw [q2]; exact m1, by rw [q3]; exact m2.symm⟩
end Rx.S
