import Derived.Test.YtkdhdjcngafocaaQXc
import Derived.Test.YtkdhdjcngafocaaQXt
set_option linter.unusedVariables false
set_option linter.unusedSimpArgs false
namespace Rx.S
open Go Rx
set_option maxRecDepth 100000
set_option maxHeartbeats 1000000
def FO : Lp := ⟨4, [false, true, false, true, true, true], 1230, 8, 2, 1, ⟨RM 82 [(0, .pv (.one (.k (.fsl 0 (V 0))))), (1, .pv (.one (.k (.int .u8 (V 1))))), (2, .pv (.one (.k (.int .u16 (V 2))))), (6, .pv (.one (.k (.bool (B false))))), (7, .pv (.one (.k (.lsl 1 (V 3))))), (8, .pv (.one (.k (.int .i64 (V 4))))), (12, .pv (.one (.k (.fsl 0 (V 0))))), (13, .pv (.one (.k (.int .i64 (V 0))))), (14, .pv (.one (.k (.bool (V 5)))))], [⟨false, 0, 0, [], some ⟨false, 0, [.int .u16], V 6, V 0⟩⟩, ⟨false, 0, 0, [], some ⟨true, 3, [.int .i64], V 7, V 3⟩⟩], B true⟩, [(.exit 0, ⟨RM 82 [(0, .pv (.one (.k (.fsl 0 (V 0))))), (1, .pv (.one (.k (.int .u8 (V 1))))), (2, .pv (.one (.k (.int .u16 (V 2))))), (6, .pv (.one (.k (.bool (B false))))), (7, .pv (.one (.k (.lsl 1 (V 8))))), (12, .pv (.one (.k (.fsl 0 (V 0))))), (13, .pv (.one (.k (.int .i64 (V 0))))), (14, .pv (.one (.k (.bool (V 5)))))], [⟨false, 0, 0, [], some ⟨false, 0, [.int .u16], V 6, V 0⟩⟩, ⟨false, 0, 0, [], some ⟨true, 3, [.int .i64], V 9, V 8⟩⟩], B true⟩)], [true, true, true, false, false, true, true, false], [.i, .any]⟩
def IT : G := ⟨24, [⟨23, (.ar .add .i64), [V 4, N 1]⟩, ⟨22, .imp, [V 8, V 21]⟩, ⟨21, .and, [V 19, V 20]⟩, ⟨20, (.cmp .lss), [V 18, N 1000001]⟩, ⟨19, (.cmp .leq), [N 0, V 18]⟩, ⟨18, (.lln 1), [V 17]⟩, ⟨17, .cat, [V 7, V 16]⟩, ⟨16, .mkl, [V 15]⟩, ⟨15, (.dv .rem .i64), [V 14, N 2001]⟩, ⟨14, (.conv .i64), [V 13]⟩, ⟨13, (.pix 0 1), [V 6, V 4]⟩, ⟨12, .imp, [V 8, V 11]⟩, ⟨11, .and, [V 10, V 8]⟩, ⟨10, (.cmp .leq), [N 0, V 4]⟩, ⟨9, .not, [V 8]⟩, ⟨8, (.cmp .lss), [V 4, V 0]⟩], [V 22, V 12], []⟩
def Qc (al : List A) : Nat := (Day.L1.n (Day.L1.mk (ge al 6) (gi al 0)) - (gi al 4)).toNat
theorem Ph (e : Nat → A) (H : Ar T e IT.defs) (hp : (Day.L1.at (Day.L1.mk (e 6) (e 0).int) (e 4).int && Day.Be (Day.L1.mk (e 7) (e 3).int) (e 4).int) = true) :
  ((e 22).bool = true ∧ (e 12).bool = true) ∧ ((e 8).bool = true → (Day.L1.at (Day.L1.mk (e 6) (e 0).int) (e 23).int && Day.Be (Day.L1.mk (e 17) (e 18).int) (e 23).int) = true ∧ (Day.Ht (Day.L1.mk (e 6) (e 0).int) (e 23).int (Day.L1.mk (e 17) (e 18).int) = Day.Ht (Day.L1.mk (e 6) (e 0).int) (e 4).int (Day.L1.mk (e 7) (e 3).int) ∧ Day.Hs (Day.L1.mk (e 6) (e 0).int) (e 23).int (Day.L1.mk (e 17) (e 18).int) = Day.Hs (Day.L1.mk (e 6) (e 0).int) (e 4).int (Day.L1.mk (e 7) (e 3).int)) ∧ (Day.L1.n (Day.L1.mk (e 6) (e 0).int) - (e 23).int).toNat < (Day.L1.n (Day.L1.mk (e 6) (e 0).int) - (e 4).int).toNat) ∧ ((e 9).bool = true → (e 3).int = Day.Ht (Day.L1.mk (e 6) (e 0).int) (e 4).int (Day.L1.mk (e 7) (e 3).int) ∧ (e 7) = Day.Hs (Day.L1.mk (e 6) (e 0).int) (e 4).int (Day.L1.mk (e 7) (e 3).int)) := by
 simp only [IT, Ar, Def.q, Fh, L.Au, L.A6, L.CL, L.C3, L.ev, A.AA, A.AN, A.Bu, A.Dh, List.map_cons, List.map_nil, Nat.zero_add, Nat.add_zero, and_true, true_and, Nat.reduceAdd, Nat.one_mul] at H
 simp only [JQ, J8, I5, Cf, Kz, Ly, Ge, N7, and_true, true_and] at H
 obtain ⟨⟨q23, -⟩, q22, q21, q20, q19, q18, q17, q16, ⟨q15, k15⟩, ⟨q14, -⟩, q13, q12, q11, q10, q9, q8⟩ := H
 unfold Tr at k15
 generalize (e 0).int = x0, (e 1).int = x1, (e 2).int = x2, (e 3).int = x3, (e 4).int = x4, (e 5).int = x5, e 6 = x6, e 7 = x7, (e 8).bool = v8, (e 9).bool = v9, (e 10).bool = v10, (e 11).bool = v11, (e 12).bool = v12, (e 14).int = v14, (e 15).int = v15, e 16 = v16, e 17 = v17, (e 18).int = v18, (e 19).bool = v19, (e 20).bool = v20, (e 21).bool = v21, (e 22).bool = v22, (e 23).int = v23 at *
 rw [k15] at q16
 replace q13 := congrArg A.int q13
 generalize (e 13).int = v13 at *
 simp only [Bool.and_eq_true] at hp
 obtain ⟨ha, ho⟩ := hp
 have h0 : 0 ≤ x4 := (Day.L1.BE.1 ha).2.1
 have hx1 : x4 ≤ x0 ∧ x0 ≤ 1000 := by
  have := Day.L1.BE.1 ha
  exact ⟨this.2.2, this.1.2⟩
 by_cases h : x4 < x0
 ·obtain ⟨j1, j2⟩ := Day.Ho ha h q23
  have hm : (x0 - (x4 + 1)).toNat < (x0 - x4).toNat := by omega
  obtain ⟨s1, s2, s3⟩ := Day.Pf (p := ⟨v17, v18⟩) ha h ho (by show v17 = _; rw [q17, q16, q15, q14, q13]; rfl) (by show v18 = _; rw [q18, Nat.div_one])
  have hb : 0 ≤ v18 ∧ v18 < 1000001 := by
   simp only [Day.Be, Bool.and_eq_true, decide_eq_true_eq] at s3
   have a1 : v18 ≤ x4 + 1 := s3.2.1
   have a2 : ((v17.AW.length : Nat) : Int) = v18 := s3.1
   omega
  clear q23 q17 q18 q16 q15 q14 q13
  subst_vars
  simp [h, h0, s1, s2, s3, j2, hm, hb.1, hb.2]
 ·obtain ⟨s1, s2⟩ := Day.Rb ha h ho
  clear q23 q17 q18 q16 q15 q14 q13 q19 q20 q21
  subst_vars
  simp [h, s1, s2]
theorem Qd (as : List A) (e : Nat → A) (h1 : as = (List.range 8).map e) (h2 : (GL as).1 = true) (H : Ar T e IT.defs) : Ee e IT.obs ∧
   (∀ pc ls, some (V 8, [V 0, V 1, V 2, V 18, V 23, V 5, V 6, V 17]) = some (pc, ls) → (pc.ev e).bool = true → (GL (ls.map (L.ev e))).1 = true ∧ (GL (ls.map (L.ev e))).2 = (GL as).2 ∧ Qc (ls.map (L.ev e)) < Qc as) ∧
   ∀ x ∈ ([(V 9, [some (V 3), some (V 7)])] : List (L × List (Option L))), (x.1.ev e).bool = true → ∀ (j : Nat) l, x.2[j]? = some (some l) → Gh (FO.tags.getD j .any) (l.ev e) ((GL as).2.getD j (.i 0)) := by
 subst h1
 obtain ⟨ho, h⟩ := Ph e H h2
 refine ⟨⟨ho.1, ho.2, trivial⟩, fun pc ls hb hpc => ?_, ?_⟩
 ·injection hb with hb
  injection hb with h3 h4
  subst h3 h4
  have h := h.1 hpc
  refine ⟨h.1, ?_, h.2.2⟩
  have h5 := h.2.1
  obtain ⟨z0, z1⟩ := h5
  exact (Nf z0 (Rc z1 rfl))
 ·intro x hx hpc j l hj
  simp only [List.mem_cons, List.not_mem_nil, or_false] at hx
  rcases hx with rfl
  ·have h := h.2 hpc
   obtain ⟨z0, z1⟩ := h
   match j, hj with
   | 0, hj => cases hj; exact z0
   | 1, hj => cases hj; exact z1
   | _ + 2, hj => cases hj
def Cu : G := ⟨62, [⟨61, .iteB, [V 5, V 5, V 4]⟩, ⟨60, .iteB, [V 5, V 58, V 7]⟩, ⟨59, .not, [V 5]⟩, ⟨58, .iteB, [V 40, V 57, B false]⟩, ⟨57, .iteB, [V 23, B true, V 56]⟩, ⟨56, .iteB, [V 44, V 55, B false]⟩, ⟨55, .iteB, [V 48, B true, V 54]⟩, ⟨54, (.cmp .eql), [V 20, N 0]⟩, ⟨53, .and, [V 52, V 40]⟩, ⟨52, .and, [V 51, V 33]⟩, ⟨51, .and, [V 50, V 44]⟩, ⟨50, .and, [V 5, V 49]⟩, ⟨49, .not, [V 48]⟩, ⟨48, (.cmp .eql), [V 20, N (-1)]⟩, ⟨47, .and, [V 46, V 40]⟩, ⟨46, .and, [V 45, V 33]⟩, ⟨45, .and, [V 5, V 44]⟩, ⟨44, (.cmp .eql), [V 16, N (-1)]⟩, ⟨43, .and, [V 42, V 40]⟩, ⟨42, .and, [V 5, V 33]⟩, ⟨41, .and, [V 5, V 40]⟩, ⟨40, .iteB, [V 31, V 39, B false]⟩, ⟨39, .iteB, [V 33, B true, V 38]⟩, ⟨38, (.cmp .eql), [V 20, V 37]⟩, ⟨37, (.ar .add .i64), [V 16, N 1]⟩, ⟨36, .and, [V 35, V 31]⟩, ⟨35, .and, [V 5, V 34]⟩, ⟨34, .not, [V 33]⟩, ⟨33, .not, [V 23]⟩, ⟨32, .and, [V 5, V 31]⟩, ⟨31, .iteB, [V 26, V 30, B false]⟩, ⟨30, .Tt, [V 23, V 29]⟩, ⟨29, (.cmp .geq), [V 16, N 0]⟩, ⟨28, .and, [V 5, V 26]⟩, ⟨27, .imp, [V 5, V 25]⟩, ⟨25, (.call 6), []⟩, ⟨24, .imp, [V 5, V 22]⟩, ⟨22, (.call 8), [V 11, V 10, V 13, V 14]⟩, ⟨21, .imp, [V 5, V 19]⟩, ⟨19, (.call 9), [V 11, V 10, V 13, V 18]⟩, ⟨18, (.ar .add .i64), [V 14, N 1]⟩, ⟨17, .imp, [V 5, V 15]⟩, ⟨15, (.call 9), [V 11, V 10, V 13, V 14]⟩, ⟨14, (.conv .i64), [V 3]⟩, ⟨13, (.conv .i64), [V 2]⟩, ⟨12, .imp, [V 5, V 9]⟩, ⟨9, (.call 1230), [V 1, V 2, V 3, N 0, N 0, V 4, V 0, .e]⟩, ⟨8, .imp, [V 4, V 6]⟩, ⟨6, (.call 6), []⟩, ⟨5, .not, [V 4]⟩, ⟨4, (.cmp .gtr), [V 1, N 20]⟩], [V 27, V 24, V 21, V 17, V 12, V 8], []⟩
theorem Gf (e : Nat → A) (H : Ar T e Cu.defs) (hp : (Day.L1.len (Day.L1.mk (e 0) (e 1).int) && (Day.Oa (Day.L1.mk (e 0) (e 1).int) && (Day.u8 (e 2).int && Day.u16 (e 3).int))) = true) :
  ((e 27).bool = true ∧ (e 24).bool = true ∧ (e 21).bool = true ∧ (e 17).bool = true ∧ (e 12).bool = true ∧ (e 8).bool = true) ∧ (true = (e 60).bool) := by
 simp only [Cu, Ar, Def.q, Fh, L.Au, L.A6, L.CL, L.C3, L.ev, A.AA, A.AN, A.Bu, A.Dh, List.map_cons, List.map_nil, Nat.zero_add, Nat.add_zero, and_true, true_and, Nat.reduceAdd, Nat.one_mul] at H
 simp only [JQ, J8, I5, Cf, Kz, Ly, Ge, N7, and_true, true_and] at H
 obtain ⟨q61, q60, q59, q58, q57, q56, q55, q54, q53, q52, q51, q50, q49, q48, q47, q46, q45, q44, q43, q42, q41, q40, q39, q38, ⟨q37, -⟩, q36, q35, q34, q33, q32, q31, q30, q29, q28, q27, q25, q24, q22, q21, q19, ⟨q18, -⟩, q17, q15, ⟨q14, -⟩, ⟨q13, -⟩, q12, q9, q8, q6, q5, q4⟩ := H
 replace q25 := Cp q25
 obtain ⟨q25, q26⟩ := q25
 replace q22 := CW q22
 obtain ⟨q22, q23⟩ := q22
 replace q19 := F3 q19
 obtain ⟨q19, q20⟩ := q19
 replace q15 := F3 q15
 obtain ⟨q15, q16⟩ := q15
 replace q9 := RW q9
 obtain ⟨q9, q10, q11⟩ := q9
 replace q6 := Cp q6
 obtain ⟨q6, q7⟩ := q6
 simp only [L.Au, L.A6, L.CL, L.C3, L.ev, A.AA, A.AN, A.Bu] at q25 q26 q22 q23 q19 q20 q15 q16 q9 q10 q11 q6 q7
 generalize e 0 = x0, (e 1).int = x1, (e 2).int = x2, (e 3).int = x3, (e 4).bool = v4, (e 5).bool = v5, (e 6).bool = v6, (e 7).bool = v7, (e 8).bool = v8, (e 9).bool = v9, (e 10).int = v10, e 11 = v11, (e 12).bool = v12, (e 13).int = v13, (e 14).int = v14, (e 15).bool = v15, (e 16).int = v16, (e 17).bool = v17, (e 18).int = v18, (e 19).bool = v19, (e 20).int = v20, (e 21).bool = v21, (e 22).bool = v22, (e 23).bool = v23, (e 24).bool = v24, (e 25).bool = v25, (e 26).bool = v26, (e 27).bool = v27, (e 28).bool = v28, (e 29).bool = v29, (e 30).bool = v30, (e 31).bool = v31, (e 32).bool = v32, (e 33).bool = v33, (e 34).bool = v34, (e 35).bool = v35, (e 36).bool = v36, (e 37).int = v37, (e 38).bool = v38, (e 39).bool = v39, (e 40).bool = v40, (e 41).bool = v41, (e 42).bool = v42, (e 43).bool = v43, (e 44).bool = v44, (e 45).bool = v45, (e 46).bool = v46, (e 47).bool = v47, (e 48).bool = v48, (e 49).bool = v49, (e 50).bool = v50, (e 51).bool = v51, (e 52).bool = v52, (e 53).bool = v53, (e 54).bool = v54, (e 55).bool = v55, (e 56).bool = v56, (e 57).bool = v57, (e 58).bool = v58, (e 59).bool = v59, (e 60).bool = v60, (e 61).bool = v61 at *
 simp only [Bool.and_eq_true] at hp
 obtain ⟨hl, ha, h8, h16⟩ := hp
 have a8 : 0 ≤ x2 ∧ x2 ≤ 255 := by simpa [Day.u8] using h8
 have a16 : 0 ≤ x3 ∧ x3 ≤ 65535 := by simpa [Day.u16] using h16
 by_cases h : x1 > 20
 ·subst_vars
  simp [h]
 ·have w2 : IntKind.wrap .i64 x2 = x2 := wrap64 (by omega) (by omega)
  have w3 : IntKind.wrap .i64 x3 = x3 := wrap64 (by omega) (by omega)
  have w4 : IntKind.wrap .i64 (x3 + 1) = x3 + 1 := wrap64 (by omega) (by omega)
  obtain ⟨m1, m2⟩ := Day.Pg hl ha h q10 q11
  obtain ⟨s1, s2⟩ := Day.stays (i := x2) (t := x3) m1 m2
  have a0 := Day.Hp (Day.Uk hl h)
  have o0 : Day.Be ⟨A.l [], 0⟩ 0 = true := rfl
  have i1 : Day.i64 x3 = true := by simp only [Day.i64, Bool.and_eq_true, decide_eq_true_eq]; omega
  have i2 : Day.i64 (x3 + 1) = true := by simp only [Day.i64, Bool.and_eq_true, decide_eq_true_eq]; omega
  rw [w2] at q13
  rw [w3] at q14
  subst q13 q14
  rw [w4] at q18
  subst q18
  rw [a0, o0] at q9
  rw [m1, m2, i1] at q15
  rw [m1, m2, i2] at q19
  rw [m1] at q22
  clear q10 q11 m1 m2 a0 o0 i1 i2 w2 w3 w4 hl ha h8 h16
  generalize Day.Nb ⟨v11, v10⟩ v13 v14 = on at *
  generalize Day.BD ⟨v11, v10⟩ v13 v14 = sa at *
  generalize Day.BD ⟨v11, v10⟩ v13 (v14 + 1) = sb at *
  have h' : decide (x1 > 20) = false := decide_eq_false h
  rw [h'] at q4
  cases on with
  | true =>
   obtain ⟨c1, c2, c3⟩ := s1 rfl
   have w5 : IntKind.wrap .i64 (sa + 1) = sa + 1 := wrap64 (by omega) (by omega)
   rw [q16, w5] at q37
   clear s1 s2 w5
   subst_vars
   simp [c1]
  | false =>
   obtain ⟨c1, c2⟩ := s2 rfl
   clear s1 s2 q37
   rcases c2 with c2 | c2 <;> subst_vars <;> simp
end Rx.S
