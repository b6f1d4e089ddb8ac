import Derived.Test.YtkdhdjcngafocaaQXc
import Derived.Test.YtkdhdjcngafocaaQXt
set_option linter.unusedVariables false
set_option linter.unusedSimpArgs false
namespace Rx.S
open Go Rx
set_option maxRecDepth 100000
set_option maxHeartbeats 1000000
def EB : Lp := ⟨3, [false, true, false, true, true, true], 1240, 8, 2, 2, ⟨RM 89 [(0, .pv (.one (.k (.fsl 0 (V 0))))), (1, .pv (.agg [.k (.int .i64 (V 1)), .k (.int .i64 (V 2))])), (3, .pv (.one (.k (.ptr 1 0)))), (4, .pv (.one (.k (.bool (B false))))), (5, .pv (.one (.k (.lsl 2 (V 3))))), (6, .pv (.one (.k (.int .i64 (V 4))))), (12, .pv (.one (.k (.fsl 0 (V 0))))), (13, .pv (.one (.k (.int .i64 (V 0))))), (14, .pv (.one (.k (.bool (V 5)))))], [⟨false, 0, 0, [], some ⟨false, 0, [.int .u16], V 6, V 0⟩⟩, ⟨true, 24, 2, [.k (.int .i64 (V 1)), .k (.int .i64 (V 2))], none⟩, ⟨false, 0, 0, [], some ⟨true, 3, [.int .i64], V 7, V 3⟩⟩], B true⟩, [(.exit 0, ⟨RM 89 [(0, .pv (.one (.k (.fsl 0 (V 0))))), (1, .pv (.agg [.k (.int .i64 (V 1)), .k (.int .i64 (V 2))])), (3, .pv (.one (.k (.ptr 1 0)))), (4, .pv (.one (.k (.bool (B false))))), (5, .pv (.one (.k (.lsl 2 (V 8))))), (12, .pv (.one (.k (.fsl 0 (V 0))))), (13, .pv (.one (.k (.int .i64 (V 0))))), (14, .pv (.one (.k (.bool (V 5)))))], [⟨false, 0, 0, [], some ⟨false, 0, [.int .u16], V 6, V 0⟩⟩, ⟨true, 24, 2, [.k (.int .i64 (V 1)), .k (.int .i64 (V 2))], none⟩, ⟨false, 0, 0, [], some ⟨true, 3, [.int .i64], V 9, V 8⟩⟩], B true⟩)], [true, true, true, false, false, true, true, false], [.i, .any]⟩
def I3 : G := ⟨24, [⟨23, (.ar .add .i64), [V 4, N 1]⟩, ⟨22, .imp, [V 8, V 21]⟩, ⟨21, .and, [V 19, V 20]⟩, ⟨20, (.cmp .lss), [V 18, N 1000001]⟩, ⟨19, (.cmp .leq), [N 0, V 18]⟩, ⟨18, (.lln 1), [V 17]⟩, ⟨17, .cat, [V 7, V 16]⟩, ⟨16, .mkl, [V 15]⟩, ⟨15, (.dv .rem .i64), [V 14, N 2001]⟩, ⟨14, (.conv .i64), [V 13]⟩, ⟨13, (.pix 0 1), [V 6, V 4]⟩, ⟨12, .imp, [V 8, V 11]⟩, ⟨11, .and, [V 10, V 8]⟩, ⟨10, (.cmp .leq), [N 0, V 4]⟩, ⟨9, .not, [V 8]⟩, ⟨8, (.cmp .lss), [V 4, V 0]⟩], [V 22, V 12], []⟩
def Qn (al : List A) : Nat := (Day.L1.n (Day.L1.mk (ge al 6) (gi al 0)) - (gi al 4)).toNat
theorem Pr (e : Nat → A) (H : Ar T e I3.defs) (hp : (Day.L1.at (Day.L1.mk (e 6) (e 0).int) (e 4).int && Day.Be (Day.L1.mk (e 7) (e 3).int) (e 4).int) = true) :
  ((e 22).bool = true ∧ (e 12).bool = true) ∧ ((e 8).bool = true → (Day.L1.at (Day.L1.mk (e 6) (e 0).int) (e 23).int && Day.Be (Day.L1.mk (e 17) (e 18).int) (e 23).int) = true ∧ (Day.Ht (Day.L1.mk (e 6) (e 0).int) (e 23).int (Day.L1.mk (e 17) (e 18).int) = Day.Ht (Day.L1.mk (e 6) (e 0).int) (e 4).int (Day.L1.mk (e 7) (e 3).int) ∧ Day.Hs (Day.L1.mk (e 6) (e 0).int) (e 23).int (Day.L1.mk (e 17) (e 18).int) = Day.Hs (Day.L1.mk (e 6) (e 0).int) (e 4).int (Day.L1.mk (e 7) (e 3).int)) ∧ (Day.L1.n (Day.L1.mk (e 6) (e 0).int) - (e 23).int).toNat < (Day.L1.n (Day.L1.mk (e 6) (e 0).int) - (e 4).int).toNat) ∧ ((e 9).bool = true → (e 3).int = Day.Ht (Day.L1.mk (e 6) (e 0).int) (e 4).int (Day.L1.mk (e 7) (e 3).int) ∧ (e 7) = Day.Hs (Day.L1.mk (e 6) (e 0).int) (e 4).int (Day.L1.mk (e 7) (e 3).int)) := by
 simp only [I3, Ar, Def.q, Fh, L.Au, L.A6, L.CL, L.C3, L.ev, A.AA, A.AN, A.Bu, A.Dh, List.map_cons, List.map_nil, Nat.zero_add, Nat.add_zero, and_true, true_and, Nat.reduceAdd, Nat.one_mul] at H
 simp only [JQ, J8, I5, Cf, Kz, Ly, Ge, N7, and_true, true_and] at H
 obtain ⟨⟨q23, -⟩, q22, q21, q20, q19, q18, q17, q16, ⟨q15, k15⟩, ⟨q14, -⟩, q13, q12, q11, q10, q9, q8⟩ := H
 unfold Tr at k15
 generalize (e 0).int = x0, (e 1).int = x1, (e 2).int = x2, (e 3).int = x3, (e 4).int = x4, (e 5).int = x5, e 6 = x6, e 7 = x7, (e 8).bool = v8, (e 9).bool = v9, (e 10).bool = v10, (e 11).bool = v11, (e 12).bool = v12, (e 14).int = v14, (e 15).int = v15, e 16 = v16, e 17 = v17, (e 18).int = v18, (e 19).bool = v19, (e 20).bool = v20, (e 21).bool = v21, (e 22).bool = v22, (e 23).int = v23 at *
 rw [k15] at q16
 replace q13 := congrArg A.int q13
 generalize (e 13).int = v13 at *
 simp only [Bool.and_eq_true] at hp
 obtain ⟨ha, ho⟩ := hp
 have h0 : 0 ≤ x4 := (Day.L1.BE.1 ha).2.1
 have hx1 : x4 ≤ x0 ∧ x0 ≤ 1000 := by
  have := Day.L1.BE.1 ha
  exact ⟨this.2.2, this.1.2⟩
 by_cases h : x4 < x0
 ·obtain ⟨j1, j2⟩ := Day.Ho ha h q23
  have hm : (x0 - (x4 + 1)).toNat < (x0 - x4).toNat := by omega
  obtain ⟨s1, s2, s3⟩ := Day.Pf (p := ⟨v17, v18⟩) ha h ho (by show v17 = _; rw [q17, q16, q15, q14, q13]; rfl) (by show v18 = _; rw [q18, Nat.div_one])
  have hb : 0 ≤ v18 ∧ v18 < 1000001 := by
   simp only [Day.Be, Bool.and_eq_true, decide_eq_true_eq] at s3
   have a1 : v18 ≤ x4 + 1 := s3.2.1
   have a2 : ((v17.AW.length : Nat) : Int) = v18 := s3.1
   omega
  clear q23 q17 q18 q16 q15 q14 q13
  subst_vars
  simp [h, h0, s1, s2, s3, j2, hm, hb.1, hb.2]
 ·obtain ⟨s1, s2⟩ := Day.Rb ha h ho
  clear q23 q17 q18 q16 q15 q14 q13 q19 q20 q21
  subst_vars
  simp [h, s1, s2]
theorem Qo (as : List A) (e : Nat → A) (h1 : as = (List.range 8).map e) (h2 : (GM as).1 = true) (H : Ar T e I3.defs) : Ee e I3.obs ∧
   (∀ pc ls, some (V 8, [V 0, V 1, V 2, V 18, V 23, V 5, V 6, V 17]) = some (pc, ls) → (pc.ev e).bool = true → (GM (ls.map (L.ev e))).1 = true ∧ (GM (ls.map (L.ev e))).2 = (GM as).2 ∧ Qn (ls.map (L.ev e)) < Qn as) ∧
   ∀ x ∈ ([(V 9, [some (V 3), some (V 7)])] : List (L × List (Option L))), (x.1.ev e).bool = true → ∀ (j : Nat) l, x.2[j]? = some (some l) → Gh (EB.tags.getD j .any) (l.ev e) ((GM as).2.getD j (.i 0)) := by
 subst h1
 obtain ⟨ho, h⟩ := Pr e H h2
 refine ⟨⟨ho.1, ho.2, trivial⟩, fun pc ls hb hpc => ?_, ?_⟩
 ·injection hb with hb
  injection hb with h3 h4
  subst h3 h4
  have h := h.1 hpc
  refine ⟨h.1, ?_, h.2.2⟩
  have h5 := h.2.1
  obtain ⟨z0, z1⟩ := h5
  exact (Nf z0 (Rc z1 rfl))
 ·intro x hx hpc j l hj
  simp only [List.mem_cons, List.not_mem_nil, or_false] at hx
  rcases hx with rfl
  ·have h := h.2 hpc
   obtain ⟨z0, z1⟩ := h
   match j, hj with
   | 0, hj => cases hj; exact z0
   | 1, hj => cases hj; exact z1
   | _ + 2, hj => cases hj
def FY : Lp := ⟨3, [false, true, false, true, true, true, true, true, true], 1241, 12, 3, 3, ⟨RM 89 [(0, .pv (.one (.k (.fsl 0 (V 0))))), (1, .pv (.agg [.k (.int .i64 (V 1)), .k (.int .i64 (V 2))])), (3, .pv (.one (.k (.ptr 1 0)))), (4, .pv (.one (.k (.bool (B false))))), (5, .pv (.one (.k (.lsl 2 (V 3))))), (7, .pv (.one (.k (.int .i64 (V 4))))), (8, .pv (.one (.k (.int .i64 (V 5))))), (9, .pv (.one (.k (.int .i64 (V 6))))), (10, .pv (.one (.k (.int .i64 (V 7))))), (11, .pv (.one (.k (.int .i64 (V 8))))), (12, .pv (.one (.k (.fsl 0 (V 0))))), (13, .pv (.one (.k (.int .i64 (V 0))))), (14, .pv (.one (.k (.bool (V 9))))), (31, .pv (.one (.k (.lsl 2 (V 3))))), (32, .pv (.agg [.k (.int .i64 (V 1)), .k (.int .i64 (V 2))])), (33, .pv (.one (.k (.int .i64 (V 4)))))], [⟨false, 0, 0, [], some ⟨false, 0, [.int .u16], V 10, V 0⟩⟩, ⟨true, 24, 2, [.k (.int .i64 (V 1)), .k (.int .i64 (V 2))], none⟩, ⟨false, 0, 0, [], some ⟨true, 3, [.int .i64], V 11, V 3⟩⟩], B true⟩, [(.exit 2, ⟨RM 89 [(0, .pv (.one (.k (.fsl 0 (V 0))))), (1, .pv (.agg [.k (.int .i64 (V 1)), .k (.int .i64 (V 2))])), (3, .pv (.one (.k (.ptr 1 0)))), (4, .pv (.one (.k (.bool (B false))))), (5, .pv (.one (.k (.lsl 2 (V 3))))), (7, .pv (.one (.k (.int .i64 (V 4))))), (8, .pv (.one (.k (.int .i64 (V 12))))), (9, .pv (.one (.k (.int .i64 (V 13))))), (10, .pv (.one (.k (.int .i64 (V 14))))), (12, .pv (.one (.k (.fsl 0 (V 0))))), (13, .pv (.one (.k (.int .i64 (V 0))))), (14, .pv (.one (.k (.bool (V 9))))), (31, .pv (.one (.k (.lsl 2 (V 3))))), (32, .pv (.agg [.k (.int .i64 (V 1)), .k (.int .i64 (V 2))])), (33, .pv (.one (.k (.int .i64 (V 4)))))], [⟨false, 0, 0, [], some ⟨false, 0, [.int .u16], V 10, V 0⟩⟩, ⟨true, 24, 2, [.k (.int .i64 (V 1)), .k (.int .i64 (V 2))], none⟩, ⟨false, 0, 0, [], some ⟨true, 3, [.int .i64], V 11, V 3⟩⟩], B true⟩)], [true, true, true, true, true, false, false, false, false, true, true, true], [.i, .i, .i]⟩
def I4 : G := ⟨49, [⟨48, .and, [V 12, V 46]⟩, ⟨47, (.ar .add .i64), [V 8, N 1]⟩, ⟨46, .iteB, [V 22, V 22, V 42]⟩, ⟨45, .iteI, [V 22, V 23, V 7]⟩, ⟨44, .iteI, [V 22, V 40, V 6]⟩, ⟨43, .iteI, [V 22, V 31, V 5]⟩, ⟨42, .and, [V 41, V 21]⟩, ⟨41, .not, [V 22]⟩, ⟨40, .iteI, [V 34, V 39, V 6]⟩, ⟨39, (.ar .add .i64), [V 6, N 1]⟩, ⟨38, .and, [V 22, V 36]⟩, ⟨37, .and, [V 22, V 34]⟩, ⟨36, .not, [V 34]⟩, ⟨35, .imp, [V 22, V 33]⟩, ⟨33, (.call 8), [V 11, V 3, V 8, V 32]⟩, ⟨32, (.ar .sub .i64), [V 4, N 1]⟩, ⟨31, .iteI, [V 25, V 30, V 5]⟩, ⟨30, (.ar .add .i64), [V 5, N 1]⟩, ⟨29, .and, [V 22, V 27]⟩, ⟨28, .and, [V 22, V 25]⟩, ⟨27, .not, [V 25]⟩, ⟨26, .imp, [V 22, V 24]⟩, ⟨24, (.call 8), [V 11, V 3, V 8, V 4]⟩, ⟨23, (.ar .add .i64), [V 7, N 1]⟩, ⟨22, .and, [V 18, V 20]⟩, ⟨21, .and, [V 17, V 19]⟩, ⟨20, .and, [V 12, V 18]⟩, ⟨19, .and, [V 12, V 17]⟩, ⟨18, .not, [V 17]⟩, ⟨17, .iteB, [V 14, V 16, B false]⟩, ⟨16, (.cmp .eql), [V 2, V 8]⟩, ⟨15, .and, [V 12, V 14]⟩, ⟨14, (.cmp .eql), [V 1, N 1]⟩, ⟨13, .not, [V 12]⟩, ⟨12, (.cmp .lss), [V 8, V 3]⟩], [V 35, V 26], []⟩
def Qp (al : List A) : Nat := (Day.L1.n (Day.L1.mk (ge al 11) (gi al 3)) - (gi al 8)).toNat
theorem Ps (e : Nat → A) (H : Ar T e I4.defs) (hp : (Day.L1.at (Day.L1.mk (e 11) (e 3).int) (e 8).int && (Day.UN (e 4).int && (Day.I6 (e 5).int (e 8).int && (Day.I6 (e 6).int (e 8).int && Day.I6 (e 7).int (e 8).int)))) = true) :
  ((e 35).bool = true ∧ (e 26).bool = true) ∧ ((e 48).bool = true → (Day.L1.at (Day.L1.mk (e 11) (e 3).int) (e 47).int && (Day.UN (e 4).int && (Day.I6 (e 43).int (e 47).int && (Day.I6 (e 44).int (e 47).int && Day.I6 (e 45).int (e 47).int)))) = true ∧ ((e 43).int + Day.B5 (Day.L1.mk (e 11) (e 3).int) (Day.Fl.mk (e 1).int (e 2).int) (e 4).int (e 47).int = (e 5).int + Day.B5 (Day.L1.mk (e 11) (e 3).int) (Day.Fl.mk (e 1).int (e 2).int) (e 4).int (e 8).int ∧ (e 44).int + Day.B5 (Day.L1.mk (e 11) (e 3).int) (Day.Fl.mk (e 1).int (e 2).int) ((e 4).int - 1) (e 47).int = (e 6).int + Day.B5 (Day.L1.mk (e 11) (e 3).int) (Day.Fl.mk (e 1).int (e 2).int) ((e 4).int - 1) (e 8).int ∧ (e 45).int + Day.DA (Day.L1.mk (e 11) (e 3).int) (Day.Fl.mk (e 1).int (e 2).int) (e 47).int = (e 7).int + Day.DA (Day.L1.mk (e 11) (e 3).int) (Day.Fl.mk (e 1).int (e 2).int) (e 8).int) ∧ (Day.L1.n (Day.L1.mk (e 11) (e 3).int) - (e 47).int).toNat < (Day.L1.n (Day.L1.mk (e 11) (e 3).int) - (e 8).int).toNat) ∧ ((e 13).bool = true → (e 5).int = (e 5).int + Day.B5 (Day.L1.mk (e 11) (e 3).int) (Day.Fl.mk (e 1).int (e 2).int) (e 4).int (e 8).int ∧ (e 6).int = (e 6).int + Day.B5 (Day.L1.mk (e 11) (e 3).int) (Day.Fl.mk (e 1).int (e 2).int) ((e 4).int - 1) (e 8).int ∧ (e 7).int = (e 7).int + Day.DA (Day.L1.mk (e 11) (e 3).int) (Day.Fl.mk (e 1).int (e 2).int) (e 8).int) := by
 simp only [I4, Ar, Def.q, Fh, L.Au, L.A6, L.CL, L.C3, L.ev, A.AA, A.AN, A.Bu, A.Dh, List.map_cons, List.map_nil, Nat.zero_add, Nat.add_zero, and_true, true_and, Nat.reduceAdd, Nat.one_mul] at H
 simp only [JQ, J8, I5, Cf, Kz, Ly, Ge, N7, and_true, true_and] at H
 obtain ⟨q48, ⟨q47, -⟩, q46, ⟨q45, -⟩, ⟨q44, -⟩, ⟨q43, -⟩, q42, q41, ⟨q40, -⟩, ⟨q39, -⟩, q38, q37, q36, q35, q33, ⟨q32, -⟩, ⟨q31, -⟩, ⟨q30, -⟩, q29, q28, q27, q26, q24, ⟨q23, -⟩, q22, q21, q20, q19, q18, q17, q16, q15, q14, q13, q12⟩ := H
 replace q33 := CW q33
 obtain ⟨q33, q34⟩ := q33
 replace q24 := CW q24
 obtain ⟨q24, q25⟩ := q24
 simp only [L.Au, L.A6, L.CL, L.C3, L.ev, A.AA, A.AN, A.Bu] at q33 q34 q24 q25
 generalize (e 0).int = x0, (e 1).int = x1, (e 2).int = x2, (e 3).int = x3, (e 4).int = x4, (e 5).int = x5, (e 6).int = x6, (e 7).int = x7, (e 8).int = x8, (e 9).int = x9, (e 10).int = x10, e 11 = x11, (e 12).bool = v12, (e 13).bool = v13, (e 14).bool = v14, (e 15).bool = v15, (e 16).bool = v16, (e 17).bool = v17, (e 18).bool = v18, (e 19).bool = v19, (e 20).bool = v20, (e 21).bool = v21, (e 22).bool = v22, (e 23).int = v23, (e 24).bool = v24, (e 25).bool = v25, (e 26).bool = v26, (e 27).bool = v27, (e 28).bool = v28, (e 29).bool = v29, (e 30).int = v30, (e 31).int = v31, (e 32).int = v32, (e 33).bool = v33, (e 34).bool = v34, (e 35).bool = v35, (e 36).bool = v36, (e 37).bool = v37, (e 38).bool = v38, (e 39).int = v39, (e 40).int = v40, (e 41).bool = v41, (e 42).bool = v42, (e 43).int = v43, (e 44).int = v44, (e 45).int = v45, (e 46).bool = v46, (e 47).int = v47, (e 48).bool = v48 at *
 simp only [Bool.and_eq_true] at hp
 obtain ⟨ha, ht, k5, k6, k7⟩ := hp
 have hb := Day.L1.BE.1 ha
 obtain ⟨⟨b1, b2⟩, b3, b4⟩ := hb
 have b2 : x3 ≤ 1000 := b2
 have b4 : x8 ≤ x3 := b4
 have ht' : -1 ≤ x4 ∧ x4 ≤ 2000 := by simpa [Day.UN] using ht
 have j5 : 0 ≤ x5 ∧ x5 ≤ x8 := by simpa [Day.I6] using k5
 have j6 : 0 ≤ x6 ∧ x6 ≤ x8 := by simpa [Day.I6] using k6
 have j7 : 0 ≤ x7 ∧ x7 ≤ x8 := by simpa [Day.I6] using k7
 have hok : Day.L1.ok ⟨x11, x3⟩ = true := Day.L1.Dw.2 ⟨b1, b2⟩
 by_cases h : x8 < x3
 ·obtain ⟨e1, e2⟩ := Day.Ho ha h q47
  have w5 : IntKind.wrap .i64 (x5 + 1) = x5 + 1 := wrap64 (by omega) (by omega)
  have w6 : IntKind.wrap .i64 (x6 + 1) = x6 + 1 := wrap64 (by omega) (by omega)
  have w7 : IntKind.wrap .i64 (x7 + 1) = x7 + 1 := wrap64 (by omega) (by omega)
  have w4 : IntKind.wrap .i64 (x4 - 1) = x4 - 1 := wrap64 (by omega) (by omega)
  rw [w4] at q32
  subst q32
  rw [w5] at q30
  rw [w6] at q39
  rw [w7] at q23
  have s1 := Day.Pd (f := ⟨x1, x2⟩) (t := x4) ha h
  have s2 := Day.Pd (f := ⟨x1, x2⟩) (t := x4 - 1) ha h
  have s3 := Day.Tj (f := ⟨x1, x2⟩) ha h
  rw [Day.Uj (t := x4) ha h] at q25
  rw [Day.Uj (t := x4 - 1) ha h] at q34
  have hm : (x3 - (x8 + 1)).toNat < (x3 - x8).toNat := by omega
  have hn : v17 = Day.isNode ⟨x1, x2⟩ x8 := by
   rw [q17, q16, q14]
   simp only [Day.isNode]
   by_cases z : x1 = 1 <;> simp [z]
   ·by_cases zz : x2 = x8 <;> simp [zz]
  have u5 : Day.I6 (x5 + 1) (x8 + 1) = true := by simp only [Day.I6, Bool.and_eq_true, decide_eq_true_eq]; omega
  have u6 : Day.I6 (x6 + 1) (x8 + 1) = true := by simp only [Day.I6, Bool.and_eq_true, decide_eq_true_eq]; omega
  have u7 : Day.I6 (x7 + 1) (x8 + 1) = true := by simp only [Day.I6, Bool.and_eq_true, decide_eq_true_eq]; omega
  have d5 : Day.I6 x5 (x8 + 1) = true := by simp only [Day.I6, Bool.and_eq_true, decide_eq_true_eq]; omega
  have d6 : Day.I6 x6 (x8 + 1) = true := by simp only [Day.I6, Bool.and_eq_true, decide_eq_true_eq]; omega
  have d7 : Day.I6 x7 (x8 + 1) = true := by simp only [Day.I6, Bool.and_eq_true, decide_eq_true_eq]; omega
  rw [s1, s2, s3]
  clear q14 q15 q16 q17 q47 s1 s2 s3 w4 w5 w6 w7
  subst e1
  generalize Day.B5 ⟨x11, x3⟩ ⟨x1, x2⟩ x4 (x8 + 1) = c1 at *
  generalize Day.B5 ⟨x11, x3⟩ ⟨x1, x2⟩ (x4 - 1) (x8 + 1) = c2 at *
  generalize Day.DA ⟨x11, x3⟩ ⟨x1, x2⟩ (x8 + 1) = c3 at *
  generalize Day.isNode ⟨x1, x2⟩ x8 = nd at *
  generalize decide (Day.L1.k ⟨x11, x3⟩ x8 ≤ x4) = o1 at *
  generalize decide (Day.L1.k ⟨x11, x3⟩ x8 ≤ x4 - 1) = o2 at *
  have r1 : x5 + 1 + c1 = x5 + (1 + c1) := by omega
  have r2 : x6 + 1 + c2 = x6 + (1 + c2) := by omega
  have r3 : x7 + 1 + c3 = x7 + (1 + c3) := by omega
  clear ha k5 k6 k7 j5 j6 j7 ht' b1 b2 b3 b4
  cases nd <;> cases o1 <;> cases o2 <;> subst_vars <;> simp [h, hm, e2, hok, ht, u5, u6, u7, d5, d6, d7, r1, r2, r3]
 ·rw [Day.Q9 ha h, Day.Q9 ha h, Day.T1 ha h]
  clear q14 q15 q16 q17 q47 q23 q30 q32 q39 q25 q34
  subst_vars
  simp [h, hok]
theorem Qq (as : List A) (e : Nat → A) (h1 : as = (List.range 12).map e) (h2 : (GN as).1 = true) (H : Ar T e I4.defs) : Ee e I4.obs ∧
   (∀ pc ls, some (V 48, [V 0, V 1, V 2, V 3, V 4, V 43, V 44, V 45, V 47, V 9, V 10, V 11]) = some (pc, ls) → (pc.ev e).bool = true → (GN (ls.map (L.ev e))).1 = true ∧ (GN (ls.map (L.ev e))).2 = (GN as).2 ∧ Qp (ls.map (L.ev e)) < Qp as) ∧
   ∀ x ∈ ([(V 13, [some (V 5), some (V 6), some (V 7)])] : List (L × List (Option L))), (x.1.ev e).bool = true → ∀ (j : Nat) l, x.2[j]? = some (some l) → Gh (FY.tags.getD j .any) (l.ev e) ((GN as).2.getD j (.i 0)) := by
 subst h1
 obtain ⟨ho, h⟩ := Ps e H h2
 refine ⟨⟨ho.1, ho.2, trivial⟩, fun pc ls hb hpc => ?_, ?_⟩
 ·injection hb with hb
  injection hb with h3 h4
  subst h3 h4
  have h := h.1 hpc
  refine ⟨h.1, ?_, h.2.2⟩
  have h5 := h.2.1
  obtain ⟨z0, z1, z2⟩ := h5
  exact (Nf z0 (Nf z1 (Nf z2 rfl)))
 ·intro x hx hpc j l hj
  simp only [List.mem_cons, List.not_mem_nil, or_false] at hx
  rcases hx with rfl
  ·have h := h.2 hpc
   obtain ⟨z0, z1, z2⟩ := h
   match j, hj with
   | 0, hj => cases hj; exact z0
   | 1, hj => cases hj; exact z1
   | 2, hj => cases hj; exact z2
   | _ + 3, hj => cases hj
def C6 : G := ⟨54, [⟨53, .iteB, [V 5, V 5, V 4]⟩, ⟨52, .iteB, [V 5, V 50, V 7]⟩, ⟨51, .not, [V 5]⟩, ⟨50, .iteB, [V 22, V 49, B false]⟩, ⟨49, .iteB, [V 29, B true, V 48]⟩, ⟨48, .iteB, [V 43, V 47, B false]⟩, ⟨47, (.cmp .lss), [V 18, N 2]⟩, ⟨46, .and, [V 45, V 22]⟩, ⟨45, .and, [V 44, V 30]⟩, ⟨44, .and, [V 5, V 43]⟩, ⟨43, .iteB, [V 38, V 42, B false]⟩, ⟨42, (.cmp .geq), [V 17, N 2]⟩, ⟨41, .and, [V 40, V 22]⟩, ⟨40, .and, [V 39, V 30]⟩, ⟨39, .and, [V 5, V 38]⟩, ⟨38, .iteB, [V 33, V 37, B false]⟩, ⟨37, (.cmp .geq), [V 14, N 0]⟩, ⟨36, .and, [V 35, V 22]⟩, ⟨35, .and, [V 34, V 30]⟩, ⟨34, .and, [V 5, V 33]⟩, ⟨33, (.cmp .geq), [V 19, N 2]⟩, ⟨32, .and, [V 31, V 22]⟩, ⟨31, .and, [V 5, V 30]⟩, ⟨30, .not, [V 29]⟩, ⟨29, .iteB, [V 25, V 28, B false]⟩, ⟨28, (.cmp .eql), [V 14, N (-1)]⟩, ⟨27, .and, [V 26, V 22]⟩, ⟨26, .and, [V 5, V 25]⟩, ⟨25, (.cmp .lss), [V 19, N 2]⟩, ⟨24, .and, [V 5, V 22]⟩, ⟨23, .imp, [V 5, V 21]⟩, ⟨21, (.call 6), []⟩, ⟨20, .imp, [V 5, V 16]⟩, ⟨16, (.call 1241), [V 1, V 2, V 3, V 10, V 14, N 0, N 0, N 0, N 0, V 4, V 0, V 11]⟩, ⟨15, .imp, [V 5, V 13]⟩, ⟨13, (.call 7), [V 11, V 10, V 2, V 3]⟩, ⟨12, .imp, [V 5, V 9]⟩, ⟨9, (.call 1240), [V 1, V 2, V 3, N 0, N 0, V 4, V 0, .e]⟩, ⟨8, .imp, [V 4, V 6]⟩, ⟨6, (.call 6), []⟩, ⟨5, .not, [V 4]⟩, ⟨4, (.cmp .gtr), [V 1, N 20]⟩], [V 23, V 20, V 15, V 12, V 8], []⟩
theorem Hu (e : Nat → A) (H : Ar T e C6.defs) (hp : (Day.L1.len (Day.L1.mk (e 0) (e 1).int) && Day.Oa (Day.L1.mk (e 0) (e 1).int)) = true) :
  ((e 23).bool = true ∧ (e 20).bool = true ∧ (e 15).bool = true ∧ (e 12).bool = true ∧ (e 8).bool = true) ∧ (true = (e 52).bool) := by
 simp only [C6, Ar, Def.q, Fh, L.Au, L.A6, L.CL, L.C3, L.ev, A.AA, A.AN, A.Bu, A.Dh, List.map_cons, List.map_nil, Nat.zero_add, Nat.add_zero, and_true, true_and, Nat.reduceAdd, Nat.one_mul] at H
 simp only [JQ, J8, I5, Cf, Kz, Ly, Ge, N7, and_true, true_and] at H
 obtain ⟨q53, q52, q51, q50, q49, q48, q47, q46, q45, q44, q43, q42, q41, q40, q39, q38, q37, q36, q35, q34, q33, q32, q31, q30, q29, q28, q27, q26, q25, q24, q23, q21, q20, q16, q15, q13, q12, q9, q8, q6, q5, q4⟩ := H
 replace q21 := Cp q21
 obtain ⟨q21, q22⟩ := q21
 replace q16 := RY q16
 obtain ⟨q16, q17, q18, q19⟩ := q16
 replace q13 := HM q13
 obtain ⟨q13, q14⟩ := q13
 replace q9 := RX q9
 obtain ⟨q9, q10, q11⟩ := q9
 replace q6 := Cp q6
 obtain ⟨q6, q7⟩ := q6
 simp only [L.Au, L.A6, L.CL, L.C3, L.ev, A.AA, A.AN, A.Bu] at q21 q22 q16 q17 q18 q19 q13 q14 q9 q10 q11 q6 q7
 generalize e 0 = x0, (e 1).int = x1, (e 2).int = x2, (e 3).int = x3, (e 4).bool = v4, (e 5).bool = v5, (e 6).bool = v6, (e 7).bool = v7, (e 8).bool = v8, (e 9).bool = v9, (e 10).int = v10, e 11 = v11, (e 12).bool = v12, (e 13).bool = v13, (e 14).int = v14, (e 15).bool = v15, (e 16).bool = v16, (e 17).int = v17, (e 18).int = v18, (e 19).int = v19, (e 20).bool = v20, (e 21).bool = v21, (e 22).bool = v22, (e 23).bool = v23, (e 24).bool = v24, (e 25).bool = v25, (e 26).bool = v26, (e 27).bool = v27, (e 28).bool = v28, (e 29).bool = v29, (e 30).bool = v30, (e 31).bool = v31, (e 32).bool = v32, (e 33).bool = v33, (e 34).bool = v34, (e 35).bool = v35, (e 36).bool = v36, (e 37).bool = v37, (e 38).bool = v38, (e 39).bool = v39, (e 40).bool = v40, (e 41).bool = v41, (e 42).bool = v42, (e 43).bool = v43, (e 44).bool = v44, (e 45).bool = v45, (e 46).bool = v46, (e 47).bool = v47, (e 48).bool = v48, (e 49).bool = v49, (e 50).bool = v50, (e 51).bool = v51, (e 52).bool = v52, (e 53).bool = v53 at *
 simp only [Bool.and_eq_true] at hp
 obtain ⟨hl, ha⟩ := hp
 by_cases h : x1 > 20
 ·subst_vars
  simp [h]
 ·obtain ⟨m1, m2⟩ := Day.Pg hl ha h q10 q11
  obtain ⟨t1, t2, t3⟩ := Day.T2 ⟨x2, x3⟩ m2
  have a0 := Day.Hp (Day.Uk hl h)
  have a1 := Day.Hp m1
  have o0 : Day.Be ⟨A.l [], 0⟩ 0 = true := rfl
  have k0 : Day.I6 0 0 = true := rfl
  rw [a0, o0] at q9
  rw [m1] at q13
  rw [Int.zero_add] at q17 q18 q19
  rw [q14, a1, t1, k0] at q16
  have h' : decide (x1 > 20) = false := decide_eq_false h
  rw [h'] at q4
  rw [q14] at q17 q18
  clear q10 q11 m1 m2 a0 a1 o0 k0 hl ha t1
  generalize Day.Hr ⟨v11, v10⟩ ⟨x2, x3⟩ = tw at *
  generalize Day.DA ⟨v11, v10⟩ ⟨x2, x3⟩ 0 = ow at *
  generalize Day.B5 ⟨v11, v10⟩ ⟨x2, x3⟩ tw 0 = c1 at *
  generalize Day.B5 ⟨v11, v10⟩ ⟨x2, x3⟩ (tw - 1) 0 = c2 at *
  by_cases z : ow < 2
  ·have t2 := t2 z
   clear t3
   subst_vars
   simp [z]
  ·obtain ⟨t4, t5, t6⟩ := t3 z
   clear t2 t3
   have z2 : 2 ≤ ow := by omega
   have z3 : ¬ tw = -1 := by omega
   subst_vars
   simp [z, z2, t4, t5, t6, z3]
end Rx.S
