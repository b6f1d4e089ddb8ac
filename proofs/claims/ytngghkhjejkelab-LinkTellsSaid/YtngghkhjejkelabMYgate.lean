import Derived.Test.YtngghkhjejkelabMXc
import Derived.Test.YtngghkhjejkelabMXt
set_option linter.unusedVariables false
set_option linter.unusedSimpArgs false
namespace Rx.S
open Go Rx
set_option maxRecDepth 100000
set_option maxHeartbeats 1000000
def IV : Lp := ⟨26, [false, true, false, true, true], 1630, 7, 2, 1, ⟨Ii 34 [(0, .pv (.one (.k (.int .i64 (V 0))))), (1, .pv (.one (.k (.fsl 0 (V 1))))), (4, .pv (.one (.k (.bool (B false))))), (7, .pv (.one (.k (.int .i64 (V 0))))), (8, .pv (.one (.k (.bool (V 2))))), (9, .pv (.one (.k (.bool (V 3))))), (10, .pv (.one (.k (.bool (V 3))))), (15, .pv (.one (.k (.bool (V 4))))), (16, .pv (.one (.k (.fsl 0 (V 1))))), (17, .pv (.one (.k (.int .i64 (V 1))))), (18, .pv (.one (.k (.int .i64 (V 5)))))], [⟨false, 0, 0, [], some ⟨false, 0, [.int .i64, .int .i64], V 6, V 1⟩⟩], B true⟩, [(.ret, ⟨Ii 34 [(0, .pv (.one (.k (.int .i64 (V 0))))), (1, .pv (.one (.k (.fsl 0 (V 1))))), (4, .pv (.one (.k (.bool (B false))))), (7, .pv (.one (.k (.int .i64 (V 0))))), (8, .pv (.one (.k (.bool (V 2))))), (9, .pv (.one (.k (.bool (V 3))))), (10, .pv (.one (.k (.bool (V 3))))), (15, .pv (.one (.k (.bool (V 4))))), (16, .pv (.one (.k (.fsl 0 (V 1)))))], [⟨false, 0, 0, [], some ⟨false, 0, [.int .i64, .int .i64], V 6, V 1⟩⟩], V 7⟩), (.exit 0, ⟨Ii 34 [(0, .pv (.one (.k (.int .i64 (V 0))))), (1, .pv (.one (.k (.fsl 0 (V 1))))), (4, .pv (.one (.k (.bool (B false))))), (7, .pv (.one (.k (.int .i64 (V 0))))), (8, .pv (.one (.k (.bool (V 2))))), (9, .pv (.one (.k (.bool (V 3))))), (10, .pv (.one (.k (.bool (V 3))))), (15, .pv (.one (.k (.bool (V 4))))), (16, .pv (.one (.k (.fsl 0 (V 1)))))], [⟨false, 0, 0, [], some ⟨false, 0, [.int .i64, .int .i64], V 6, V 1⟩⟩], V 8⟩)], [true, true, true, true, true, false, true], [.b, .b]⟩
def NJ : G := ⟨40, [⟨39, .and, [V 7, V 37]⟩, ⟨38, .and, [V 7, V 33]⟩, ⟨37, .and, [V 36, V 34]⟩, ⟨36, .not, [V 33]⟩, ⟨35, (.ar .add .i64), [V 5, N 1]⟩, ⟨34, .and, [V 30, V 32]⟩, ⟨33, .and, [V 29, V 31]⟩, ⟨32, .and, [V 7, V 30]⟩, ⟨31, .and, [V 7, V 29]⟩, ⟨30, .not, [V 29]⟩, ⟨29, .iteB, [V 16, V 16, V 28]⟩, ⟨28, .iteB, [V 22, V 22, V 27]⟩, ⟨27, .and, [V 26, V 20]⟩, ⟨26, (.cmp .eql), [V 12, N 2]⟩, ⟨25, .and, [V 19, V 23]⟩, ⟨24, .and, [V 19, V 22]⟩, ⟨23, .not, [V 22]⟩, ⟨22, .and, [V 21, V 20]⟩, ⟨21, (.cmp .eql), [V 12, N 1]⟩, ⟨20, (.cmp .eql), [V 13, V 5]⟩, ⟨19, .and, [V 7, V 17]⟩, ⟨18, .and, [V 7, V 16]⟩, ⟨17, .not, [V 16]⟩, ⟨16, .and, [V 15, V 14]⟩, ⟨15, (.cmp .eql), [V 12, N 0]⟩, ⟨14, (.cmp .eql), [V 13, N 0]⟩, ⟨13, (.pix 1 2), [V 6, V 5]⟩, ⟨12, (.pix 0 2), [V 6, V 5]⟩, ⟨11, .imp, [V 7, V 10]⟩, ⟨10, .and, [V 9, V 7]⟩, ⟨9, (.cmp .leq), [N 0, V 5]⟩, ⟨8, .not, [V 7]⟩, ⟨7, (.cmp .lss), [V 5, V 1]⟩], [V 11], []⟩
def Z0 (al : List A) : Nat := (((Day.Ls.mk (ge al 6) (gi al 1))).n - (gi al 5)).toNat
theorem YI (e : Nat → A) (H : Ac T e NJ.defs) (hp : (Day.Ls.ok (Day.Ls.mk (e 6) (e 1).int) && Day.Be (e 5).int ((Day.Ls.mk (e 6) (e 1).int)).n) = true) :
  ((e 11).bool = true) ∧ ((e 38).bool = true → (Day.Ls.ok (Day.Ls.mk (e 6) (e 1).int) && Day.Be (e 35).int ((Day.Ls.mk (e 6) (e 1).int)).n) = true ∧ ((!Day.D0 (Day.DC (Day.Ls.mk (e 6) (e 1).int)) (e 35).int ((Day.Ls.mk (e 6) (e 1).int)).n) = (!Day.D0 (Day.DC (Day.Ls.mk (e 6) (e 1).int)) (e 5).int ((Day.Ls.mk (e 6) (e 1).int)).n) ∧ Day.D0 (Day.DC (Day.Ls.mk (e 6) (e 1).int)) (e 35).int ((Day.Ls.mk (e 6) (e 1).int)).n = Day.D0 (Day.DC (Day.Ls.mk (e 6) (e 1).int)) (e 5).int ((Day.Ls.mk (e 6) (e 1).int)).n) ∧ (((Day.Ls.mk (e 6) (e 1).int)).n - (e 35).int).toNat < (((Day.Ls.mk (e 6) (e 1).int)).n - (e 5).int).toNat) ∧ ((e 39).bool = true → true = (!Day.D0 (Day.DC (Day.Ls.mk (e 6) (e 1).int)) (e 5).int ((Day.Ls.mk (e 6) (e 1).int)).n)) ∧ ((e 8).bool = true → true = Day.D0 (Day.DC (Day.Ls.mk (e 6) (e 1).int)) (e 5).int ((Day.Ls.mk (e 6) (e 1).int)).n) := by
 simp only [NJ, Ac, Def.q, Bc, L.Ae, L.Aq, L.AE, L.AF, L.ev, A.Ad, A.Ah, A.As, A.AJ, List.map_cons, List.map_nil, Nat.zero_add, Nat.add_zero, and_true, true_and, Nat.reduceAdd, Nat.one_mul] at H
 simp only [C0, C1, CN, A3, De, Dg, Bm, Dw, and_true, true_and] at H
 obtain ⟨q39, q38, q37, q36, ⟨q35, -⟩, q34, q33, q32, q31, q30, q29, q28, q27, q26, q25, q24, q23, q22, q21, q20, q19, q18, q17, q16, q15, q14, q13, q12, q11, q10, q9, q8, q7⟩ := H
 generalize (e 0).int = x0, (e 1).int = x1, (e 2).int = x2, (e 3).int = x3, (e 4).int = x4, (e 5).int = x5, e 6 = x6, (e 7).bool = v7, (e 8).bool = v8, (e 9).bool = v9, (e 10).bool = v10, (e 11).bool = v11, (e 14).bool = v14, (e 15).bool = v15, (e 16).bool = v16, (e 17).bool = v17, (e 18).bool = v18, (e 19).bool = v19, (e 20).bool = v20, (e 21).bool = v21, (e 22).bool = v22, (e 23).bool = v23, (e 24).bool = v24, (e 25).bool = v25, (e 26).bool = v26, (e 27).bool = v27, (e 28).bool = v28, (e 29).bool = v29, (e 30).bool = v30, (e 31).bool = v31, (e 32).bool = v32, (e 33).bool = v33, (e 34).bool = v34, (e 35).int = v35, (e 36).bool = v36, (e 37).bool = v37, (e 38).bool = v38, (e 39).bool = v39 at *
 replace q12 := congrArg A.int q12
 generalize (e 12).int = v12 at *
 replace q13 := congrArg A.int q13
 generalize (e 13).int = v13 at *
 generalize hq : Day.Ls.mk x6 x1 = q at *
 have hn : x1 = q.n := by rw [← hq]
 have hk : q.k x5 = (x6.A5.getD (2 * x5.toNat) (.i 0)).int := by rw [← hq]; rfl
 have hd : q.d x5 = (x6.A5.getD (1 + 2 * x5.toNat) (.i 0)).int := by rw [← hq]; rfl
 rw [← hk] at q12
 rw [← hd] at q13
 clear hk hd hq
 simp only [Bool.and_eq_true, Day.Au, Day.Ls.ok, decide_eq_true_eq] at hp ⊢
 by_cases hlt : x5 < q.n
 ·have st := Day.OX (f := Day.DC q) hlt
  have w : IntKind.wrap .i64 (x5 + 1) = x5 + 1 := wrap64 (by omega) (by omega)
  have fb : v29 = Day.DC q x5 := by
   subst_vars
   simp only [Day.DC, bne]
   cases (q.k x5 == 0) <;> cases (q.d x5 == 0) <;> cases (q.k x5 == 1) <;> cases (q.k x5 == 2) <;> cases (q.d x5 == x5) <;> rfl
  clear q28 q29
  subst_vars
  simp [st, w, hlt, hp]
  cases Day.DC q x5 <;> simp <;> omega
 ·have st := Day.SE (f := Day.DC q) hlt
  subst_vars
  simp [st, hlt, hp]
theorem Z1 (as : List A) (e : Nat → A) (h1 : as = (List.range 7).map e) (h2 : (KB as).1 = true) (H : Ac T e NJ.defs) : Ct e NJ.obs ∧
   (∀ pc ls, some (V 38, [V 0, V 1, V 2, V 3, V 4, V 35, V 6]) = some (pc, ls) → (pc.ev e).bool = true → (KB (ls.map (L.ev e))).1 = true ∧ (KB (ls.map (L.ev e))).2 = (KB as).2 ∧ Z0 (ls.map (L.ev e)) < Z0 as) ∧
   ∀ x ∈ ([(V 39, [some (B true), none]), (V 8, [none, some (B true)])] : List (L × List (Option L))), (x.1.ev e).bool = true → ∀ (j : Nat) l, x.2[j]? = some (some l) → Gl (IV.tags.getD j .any) (l.ev e) ((KB as).2.getD j (.i 0)) := by
 subst h1
 obtain ⟨ho, h⟩ := YI e H h2
 refine ⟨⟨ho, trivial⟩, fun pc ls hb hpc => ?_, ?_⟩
 ·injection hb with hb
  injection hb with h3 h4
  subst h3 h4
  have h := h.1 hpc
  refine ⟨h.1, ?_, h.2.2⟩
  have h5 := h.2.1
  obtain ⟨z0, z1⟩ := h5
  exact (JB z0 (JB z1 rfl))
 ·intro x hx hpc j l hj
  simp only [List.mem_cons, List.not_mem_nil, or_false] at hx
  rcases hx with rfl | rfl
  ·have h := h.2.1 hpc
   have z0 := h
   match j, hj with
   | 0, hj => cases hj; exact z0
   | 1, hj => cases hj
   | _ + 2, hj => cases hj
  ·have h := h.2.2 hpc
   have z1 := h
   match j, hj with
   | 0, hj => cases hj
   | 1, hj => cases hj; exact z1
   | _ + 2, hj => cases hj
def KV : G := ⟨25, [⟨24, .iteB, [V 9, V 21, V 8]⟩, ⟨23, .iteB, [V 9, V 20, B false]⟩, ⟨22, .not, [V 9]⟩, ⟨21, .iteB, [V 18, V 18, V 17]⟩, ⟨20, .iteB, [V 18, B true, B false]⟩, ⟨19, .not, [V 18]⟩, ⟨18, .and, [V 9, V 12]⟩, ⟨17, .and, [V 9, V 11]⟩, ⟨16, .imp, [V 9, V 15]⟩, ⟨15, .not, [V 14]⟩, ⟨14, .and, [V 11, V 12]⟩, ⟨13, .imp, [V 9, V 10]⟩, ⟨10, (.call 1630), [V 0, V 2, V 4, V 5, V 8, N 0, V 1]⟩, ⟨9, .not, [V 8]⟩, ⟨8, .iteB, [V 5, B true, V 7]⟩, ⟨7, (.cmp .neq), [V 2, V 0]⟩, ⟨6, .not, [V 5]⟩, ⟨5, .not, [V 4]⟩, ⟨3, (.call 43), [V 0]⟩], [V 16, V 13, V 3], []⟩
theorem Tu (e : Nat → A) (H : Ac T e KV.defs) (hp : (Day.Ls.ok (Day.Ls.mk (e 1) (e 2).int)) = true) :
  ((e 16).bool = true ∧ (e 13).bool = true ∧ (e 3).bool = true) ∧ (Day.Cg (e 0).int (Day.Ls.mk (e 1) (e 2).int) = (e 23).bool) := by
 simp only [KV, Ac, Def.q, Bc, L.Ae, L.Aq, L.AE, L.AF, L.ev, A.Ad, A.Ah, A.As, A.AJ, List.map_cons, List.map_nil, Nat.zero_add, Nat.add_zero, and_true, true_and, Nat.reduceAdd, Nat.one_mul] at H
 simp only [C0, C1, CN, A3, De, Dg, Bm, Dw, and_true, true_and] at H
 obtain ⟨q24, q23, q22, q21, q20, q19, q18, q17, q16, q15, q14, q13, q10, q9, q8, q7, q6, q5, q3⟩ := H
 replace q10 := Ab8 q10
 obtain ⟨q10, q11, q12⟩ := q10
 replace q3 := KK q3
 obtain ⟨q3, q4⟩ := q3
 simp only [L.Ae, L.Aq, L.AE, L.AF, L.ev, A.Ad, A.Ah, A.As] at q10 q11 q12 q3 q4
 generalize (e 0).int = x0, e 1 = x1, (e 2).int = x2, (e 3).bool = v3, (e 4).bool = v4, (e 5).bool = v5, (e 6).bool = v6, (e 7).bool = v7, (e 8).bool = v8, (e 9).bool = v9, (e 10).bool = v10, (e 11).bool = v11, (e 12).bool = v12, (e 13).bool = v13, (e 14).bool = v14, (e 15).bool = v15, (e 16).bool = v16, (e 17).bool = v17, (e 18).bool = v18, (e 19).bool = v19, (e 20).bool = v20, (e 21).bool = v21, (e 22).bool = v22, (e 23).bool = v23, (e 24).bool = v24 at *
 generalize hq : Day.Ls.mk x1 x2 = q at *
 have hn : x2 = q.n := by rw [← hq]
 clear hq
 have hI : Day.Be 0 q.n = true := by
  simp only [Day.Ls.ok, Bool.and_eq_true, decide_eq_true_eq] at hp
  rw [Day.Au]; omega
 subst_vars
 simp only [hp, hI, Day.Cg, bne]
 cases Day.right x0 <;> cases (q.n == x0) <;> cases Day.D0 (Day.DC q) 0 q.n <;> simp
def Ho : G := ⟨56, [⟨55, .iteB, [V 16, V 16, V 15]⟩, ⟨54, .iteI, [V 16, V 38, N 0]⟩, ⟨53, .iteI, [V 16, V 37, N 0]⟩, ⟨52, .iteI, [V 16, V 10, N 0]⟩, ⟨51, .iteI, [V 16, V 9, N 0]⟩, ⟨50, .iteI, [V 16, V 8, N 0]⟩, ⟨49, .iteI, [V 16, V 7, N 0]⟩, ⟨48, .iteI, [V 16, V 6, N 0]⟩, ⟨47, .iteI, [V 16, V 5, N 0]⟩, ⟨46, .iteI, [V 16, V 4, N 0]⟩, ⟨45, .iteI, [V 16, V 3, N 0]⟩, ⟨44, .iteI, [V 16, V 2, N 0]⟩, ⟨43, .iteI, [V 16, V 1, N 0]⟩, ⟨42, .iteI, [V 16, V 38, V 12]⟩, ⟨41, .iteI, [V 16, V 37, V 11]⟩, ⟨40, .iteI, [V 16, N 0, N 1]⟩, ⟨39, .not, [V 16]⟩, ⟨38, .iteI, [V 30, V 28, V 12]⟩, ⟨37, .iteI, [V 30, V 35, V 11]⟩, ⟨36, .imp, [V 32, V 34]⟩, ⟨34, (.call 40), [V 0]⟩, ⟨33, .and, [V 16, V 31]⟩, ⟨32, .and, [V 16, V 30]⟩, ⟨31, .not, [V 30]⟩, ⟨30, (.cmp .geq), [V 29, N 2]⟩, ⟨29, .iteI, [V 20, V 26, V 18]⟩, ⟨28, .iteI, [V 20, V 25, V 12]⟩, ⟨27, .imp, [V 22, V 24]⟩, ⟨24, (.call 39), [V 0, V 1, V 2, V 3, V 4, V 5, V 6, V 7, V 8, V 9, V 10, V 11, V 12]⟩, ⟨23, .and, [V 16, V 21]⟩, ⟨22, .and, [V 16, V 20]⟩, ⟨21, .not, [V 20]⟩, ⟨20, (.cmp .eql), [V 11, N 0]⟩, ⟨19, .imp, [V 16, V 17]⟩, ⟨17, (.call 38), [V 0, V 1, V 2, V 3, V 4, V 5, V 6, V 7, V 8, V 9, V 10, V 11, V 12, V 12]⟩, ⟨16, .not, [V 15]⟩, ⟨15, .not, [V 14]⟩, ⟨13, (.call 25), [V 0, V 1, V 2, V 3, V 4, V 5, V 6, V 7, V 8, V 9, V 10, V 11, V 12]⟩], [V 36, V 27, V 19, V 13], []⟩
theorem O6 (e : Nat → A) (H : Ac T e Ho.defs) : ∀ z0, z0 = (Day.HB.mk [(e 1).int, (e 2).int, (e 3).int, (e 4).int, (e 5).int, (e 6).int, (e 7).int, (e 8).int] (e 9).int (e 10).int (e 11).int (e 12).int) → ∀ r1, r1 = Day.BE (e 0).int z0 → (Day.HB.i64 z0) = true →
  ((e 36).bool = true ∧ (e 27).bool = true ∧ (e 19).bool = true ∧ (e 13).bool = true) ∧ (((r1)).a 0 = (e 43).int ∧ ((r1)).a 1 = (e 44).int ∧ ((r1)).a 2 = (e 45).int ∧ ((r1)).a 3 = (e 46).int ∧ ((r1)).a 4 = (e 47).int ∧ ((r1)).a 5 = (e 48).int ∧ ((r1)).a 6 = (e 49).int ∧ ((r1)).a 7 = (e 50).int ∧ ((r1)).port = (e 51).int ∧ ((r1)).age = (e 52).int ∧ ((r1)).hold = (e 53).int ∧ ((r1)).pos = (e 54).int ∧ Day.BZ (e 0).int z0 = (e 40).int) := by
 intro z0 hz0 r1 hr1 hp
 subst hz0 hr1
 simp only [Ho, Ac, Def.q, Bc, L.Ae, L.Aq, L.AE, L.AF, L.ev, A.Ad, A.Ah, A.As, A.AJ, List.map_cons, List.map_nil, Nat.zero_add, Nat.add_zero, and_true, true_and, Nat.reduceAdd, Nat.one_mul] at H
 simp only [C0, C1, CN, A3, De, Dg, Bm, Dw, and_true, true_and] at H
 obtain ⟨q55, ⟨q54, -⟩, ⟨q53, -⟩, ⟨q52, -⟩, ⟨q51, -⟩, ⟨q50, -⟩, ⟨q49, -⟩, ⟨q48, -⟩, ⟨q47, -⟩, ⟨q46, -⟩, ⟨q45, -⟩, ⟨q44, -⟩, ⟨q43, -⟩, ⟨q42, -⟩, ⟨q41, -⟩, ⟨q40, -⟩, q39, ⟨q38, -⟩, ⟨q37, -⟩, q36, q34, q33, q32, q31, q30, ⟨q29, -⟩, ⟨q28, -⟩, q27, q24, q23, q22, q21, q20, q19, q17, q16, q15, q13⟩ := H
 replace q34 := B0 q34
 obtain ⟨q34, q35⟩ := q34
 replace q24 := UG q24 _ rfl
 obtain ⟨q24, q25, q26⟩ := q24
 replace q17 := Tc q17 _ rfl
 obtain ⟨q17, q18⟩ := q17
 replace q13 := Cp q13 _ rfl
 obtain ⟨q13, q14⟩ := q13
 simp only [L.Ae, L.Aq, L.AE, L.AF, L.ev, A.Ad, A.Ah, A.As] at q34 q35 q24 q25 q26 q17 q18 q13 q14
 generalize (e 0).int = x0, (e 1).int = x1, (e 2).int = x2, (e 3).int = x3, (e 4).int = x4, (e 5).int = x5, (e 6).int = x6, (e 7).int = x7, (e 8).int = x8, (e 9).int = x9, (e 10).int = x10, (e 11).int = x11, (e 12).int = x12, (e 13).bool = v13, (e 14).bool = v14, (e 15).bool = v15, (e 16).bool = v16, (e 17).bool = v17, (e 18).int = v18, (e 19).bool = v19, (e 20).bool = v20, (e 21).bool = v21, (e 22).bool = v22, (e 23).bool = v23, (e 24).bool = v24, (e 25).int = v25, (e 26).int = v26, (e 27).bool = v27, (e 28).int = v28, (e 29).int = v29, (e 30).bool = v30, (e 31).bool = v31, (e 32).bool = v32, (e 33).bool = v33, (e 34).bool = v34, (e 35).int = v35, (e 36).bool = v36, (e 37).int = v37, (e 38).int = v38, (e 39).bool = v39, (e 40).int = v40, (e 41).int = v41, (e 42).int = v42, (e 43).int = v43, (e 44).int = v44, (e 45).int = v45, (e 46).int = v46, (e 47).int = v47, (e 48).int = v48, (e 49).int = v49, (e 50).int = v50, (e 51).int = v51, (e 52).int = v52, (e 53).int = v53, (e 54).int = v54, (e 55).bool = v55 at *
 generalize hH : (Day.HB.mk [x1, x2, x3, x4, x5, x6, x7, x8] x9 x10 x11 x12) = h at *
 have g0 : x1 = h.a 0 ∧ x2 = h.a 1 ∧ x3 = h.a 2 ∧ x4 = h.a 3 ∧ x5 = h.a 4 ∧ x6 = h.a 5 ∧ x7 = h.a 6 ∧ x8 = h.a 7 ∧ x9 = h.port ∧ x10 = h.age ∧ x11 = h.hold ∧ x12 = h.pos := by subst hH; simp [Day.HB.a]
 obtain ⟨a1, a2, a3, a4, a5, a6, a7, a8, a9, a10, a11, a12⟩ := g0
 clear hH
 cases hr : Day.Ak x0 h with
 | false =>
  have hR : True := trivial
  rw [hr] at q14
  subst_vars
  simp [Day.BE, Day.DT, Day.CZ, Day.BZ, hr, hp, Day.AS, Day.times, hR, Day.HB.a, Day.Bp]
 | true =>
  have hn := Day.BK hr
  have hR : Day.right x0 = true := by simp [Day.right, hn]
  rw [hr] at q14
  subst_vars
  by_cases c0 : h.hold = 0
  ·by_cases c2 : 2 ≤ Day.Ec x0 h
   ·simp [Day.BE, Day.DT, Day.CZ, Day.BZ, hr, hp, Day.AS, Day.times, hR, Day.HB.a, Day.Bp, c0, c2]
   ·simp [Day.BE, Day.DT, Day.CZ, Day.BZ, hr, hp, Day.AS, Day.times, hR, Day.HB.a, Day.Bp, c0, c2]
  ·by_cases c2 : 2 ≤ Day.Cu x0 h h.pos
   ·simp [Day.BE, Day.DT, Day.CZ, Day.BZ, hr, hp, Day.AS, Day.times, hR, Day.HB.a, Day.Bp, c0, c2]
   ·simp [Day.BE, Day.DT, Day.CZ, Day.BZ, hr, hp, Day.AS, Day.times, hR, Day.HB.a, Day.Bp, c0, c2]
def I1 : Lp := ⟨22, [false, true, false, true, true], 1670, 26, 8, 3, ⟨Ii 34 [(0, .pv (.one (.k (.int .i64 (V 0))))), (1, .pv (.agg [.k (.int .i64 (V 1)), .k (.int .i64 (V 2)), .k (.int .i64 (V 3)), .k (.int .i64 (V 4)), .k (.int .i64 (V 5)), .k (.int .i64 (V 6)), .k (.int .i64 (V 7)), .k (.int .i64 (V 8)), .k (.int .i64 (V 9)), .k (.int .i64 (V 10)), .k (.int .i64 (V 11)), .k (.int .i64 (V 12))])), (2, .pv (.one (.k (.fsl 0 (V 13))))), (4, .pv (.one (.k (.ptr 1 0)))), (6, .pv (.one (.k (.ptr 2 0)))), (7, .pv (.one (.k (.int .i64 (N 0))))), (8, .pv (.one (.k (.int .i64 (V 14))))), (11, .pv (.one (.k (.int .i64 (V 0))))), (12, .pv (.agg [.k (.int .i64 (V 1)), .k (.int .i64 (V 2)), .k (.int .i64 (V 3)), .k (.int .i64 (V 4)), .k (.int .i64 (V 5)), .k (.int .i64 (V 6)), .k (.int .i64 (V 7)), .k (.int .i64 (V 8)), .k (.int .i64 (V 9)), .k (.int .i64 (V 10)), .k (.int .i64 (V 11)), .k (.int .i64 (V 12))])), (13, .pv (.one (.k (.fsl 0 (V 13))))), (14, .pv (.one (.k (.int .i64 (V 14))))), (15, .pv (.one (.k (.int .i64 (V 14))))), (16, .pv (.one (.k (.bool (V 15))))), (19, .pv (.one (.k (.fsl 0 (V 13))))), (20, .pv (.one (.k (.int .i64 (V 13))))), (21, .pv (.one (.k (.int .i64 (V 16)))))], [⟨false, 0, 0, [], some ⟨false, 0, [.int .i64, .int .i64], V 17, V 13⟩⟩, ⟨true, 24, 12, [.k (.int .i64 (V 18)), .k (.int .i64 (V 19)), .k (.int .i64 (V 20)), .k (.int .i64 (V 21)), .k (.int .i64 (V 22)), .k (.int .i64 (V 23)), .k (.int .i64 (V 24)), .k (.int .i64 (V 25)), .k (.int .i64 (V 9)), .k (.int .i64 (V 10)), .k (.int .i64 (V 11)), .k (.int .i64 (V 12))], none⟩, ⟨true, 24, 12, [.k (.int .i64 (N 0)), .k (.int .i64 (N 0)), .k (.int .i64 (N 0)), .k (.int .i64 (N 0)), .k (.int .i64 (N 0)), .k (.int .i64 (N 0)), .k (.int .i64 (N 0)), .k (.int .i64 (N 0)), .k (.int .i64 (N 0)), .k (.int .i64 (N 0)), .k (.int .i64 (N 0)), .k (.int .i64 (N 0))], none⟩], B true⟩, [(.exit 0, ⟨Ii 34 [(0, .pv (.one (.k (.int .i64 (V 0))))), (1, .pv (.agg [.k (.int .i64 (V 1)), .k (.int .i64 (V 2)), .k (.int .i64 (V 3)), .k (.int .i64 (V 4)), .k (.int .i64 (V 5)), .k (.int .i64 (V 6)), .k (.int .i64 (V 7)), .k (.int .i64 (V 8)), .k (.int .i64 (V 9)), .k (.int .i64 (V 10)), .k (.int .i64 (V 11)), .k (.int .i64 (V 12))])), (2, .pv (.one (.k (.fsl 0 (V 13))))), (4, .pv (.one (.k (.ptr 1 0)))), (6, .pv (.one (.k (.ptr 2 0)))), (7, .pv (.one (.k (.int .i64 (N 0))))), (8, .pv (.one (.k (.int .i64 (V 14))))), (11, .pv (.one (.k (.int .i64 (V 0))))), (12, .pv (.agg [.k (.int .i64 (V 1)), .k (.int .i64 (V 2)), .k (.int .i64 (V 3)), .k (.int .i64 (V 4)), .k (.int .i64 (V 5)), .k (.int .i64 (V 6)), .k (.int .i64 (V 7)), .k (.int .i64 (V 8)), .k (.int .i64 (V 9)), .k (.int .i64 (V 10)), .k (.int .i64 (V 11)), .k (.int .i64 (V 12))])), (13, .pv (.one (.k (.fsl 0 (V 13))))), (14, .pv (.one (.k (.int .i64 (V 14))))), (15, .pv (.one (.k (.int .i64 (V 14))))), (16, .pv (.one (.k (.bool (V 15))))), (19, .pv (.one (.k (.fsl 0 (V 13)))))], [⟨false, 0, 0, [], some ⟨false, 0, [.int .i64, .int .i64], V 17, V 13⟩⟩, ⟨true, 24, 12, [.k (.int .i64 (V 26)), .k (.int .i64 (V 27)), .k (.int .i64 (V 28)), .k (.int .i64 (V 29)), .k (.int .i64 (V 30)), .k (.int .i64 (V 31)), .k (.int .i64 (V 32)), .k (.int .i64 (V 33)), .k (.int .i64 (V 9)), .k (.int .i64 (V 10)), .k (.int .i64 (V 11)), .k (.int .i64 (V 12))], none⟩, ⟨true, 24, 12, [.k (.int .i64 (N 0)), .k (.int .i64 (N 0)), .k (.int .i64 (N 0)), .k (.int .i64 (N 0)), .k (.int .i64 (N 0)), .k (.int .i64 (N 0)), .k (.int .i64 (N 0)), .k (.int .i64 (N 0)), .k (.int .i64 (N 0)), .k (.int .i64 (N 0)), .k (.int .i64 (N 0)), .k (.int .i64 (N 0))], none⟩], B true⟩)], [true, true, true, true, true, true, true, true, true, true, true, true, true, true, true, true, false, true, false, false, false, false, false, false, false, false], [.i, .i, .i, .i, .i, .i, .i, .i]⟩
def NQ : G := ⟨57, [⟨56, (.ar .add .i64), [V 16, N 1]⟩, ⟨55, .iteI, [V 33, V 47, V 25]⟩, ⟨54, .iteI, [V 33, V 46, V 24]⟩, ⟨53, .iteI, [V 33, V 45, V 23]⟩, ⟨52, .iteI, [V 33, V 44, V 22]⟩, ⟨51, .iteI, [V 33, V 43, V 21]⟩, ⟨50, .iteI, [V 33, V 42, V 20]⟩, ⟨49, .iteI, [V 33, V 41, V 19]⟩, ⟨48, .iteI, [V 33, V 40, V 18]⟩, ⟨40, .upd, [V 16, N 0, V 18, V 19, V 20, V 21, V 22, V 23, V 24, V 25]⟩, ⟨39, .imp, [V 35, V 38]⟩, ⟨38, .and, [V 28, V 37]⟩, ⟨37, (.cmp .lss), [V 16, N 8]⟩, ⟨36, .and, [V 26, V 34]⟩, ⟨35, .and, [V 26, V 33]⟩, ⟨34, .not, [V 33]⟩, ⟨33, (.cmp .eql), [V 31, N 2]⟩, ⟨32, (.pix 1 2), [V 17, V 16]⟩, ⟨31, (.pix 0 2), [V 17, V 16]⟩, ⟨30, .imp, [V 26, V 29]⟩, ⟨29, .and, [V 28, V 26]⟩, ⟨28, (.cmp .leq), [N 0, V 16]⟩, ⟨27, .not, [V 26]⟩, ⟨26, (.cmp .lss), [V 16, V 13]⟩], [V 39, V 30], []⟩
def Z9 (al : List A) : Nat := (((Day.Ls.mk (ge al 17) (gi al 13))).n - (gi al 16)).toNat
theorem YR (e : Nat → A) (H : Ac T e NQ.defs) (hp : (Day.Be (e 16).int ((Day.Ls.mk (e 17) (e 13).int)).n && Day.Be ((Day.Ls.mk (e 17) (e 13).int)).n 8) = true) :
  ((e 39).bool = true ∧ (e 30).bool = true) ∧ ((e 26).bool = true → (Day.Be (e 56).int ((Day.Ls.mk (e 17) (e 13).int)).n && Day.Be ((Day.Ls.mk (e 17) (e 13).int)).n 8) = true ∧ (Day.Az ((Day.Ls.mk (e 17) (e 13).int)).n (Day.Ls.mk (e 17) (e 13).int) (e 56).int 0 (e 48).int = Day.Az ((Day.Ls.mk (e 17) (e 13).int)).n (Day.Ls.mk (e 17) (e 13).int) (e 16).int 0 (e 18).int ∧ Day.Az ((Day.Ls.mk (e 17) (e 13).int)).n (Day.Ls.mk (e 17) (e 13).int) (e 56).int 1 (e 49).int = Day.Az ((Day.Ls.mk (e 17) (e 13).int)).n (Day.Ls.mk (e 17) (e 13).int) (e 16).int 1 (e 19).int ∧ Day.Az ((Day.Ls.mk (e 17) (e 13).int)).n (Day.Ls.mk (e 17) (e 13).int) (e 56).int 2 (e 50).int = Day.Az ((Day.Ls.mk (e 17) (e 13).int)).n (Day.Ls.mk (e 17) (e 13).int) (e 16).int 2 (e 20).int ∧ Day.Az ((Day.Ls.mk (e 17) (e 13).int)).n (Day.Ls.mk (e 17) (e 13).int) (e 56).int 3 (e 51).int = Day.Az ((Day.Ls.mk (e 17) (e 13).int)).n (Day.Ls.mk (e 17) (e 13).int) (e 16).int 3 (e 21).int ∧ Day.Az ((Day.Ls.mk (e 17) (e 13).int)).n (Day.Ls.mk (e 17) (e 13).int) (e 56).int 4 (e 52).int = Day.Az ((Day.Ls.mk (e 17) (e 13).int)).n (Day.Ls.mk (e 17) (e 13).int) (e 16).int 4 (e 22).int ∧ Day.Az ((Day.Ls.mk (e 17) (e 13).int)).n (Day.Ls.mk (e 17) (e 13).int) (e 56).int 5 (e 53).int = Day.Az ((Day.Ls.mk (e 17) (e 13).int)).n (Day.Ls.mk (e 17) (e 13).int) (e 16).int 5 (e 23).int ∧ Day.Az ((Day.Ls.mk (e 17) (e 13).int)).n (Day.Ls.mk (e 17) (e 13).int) (e 56).int 6 (e 54).int = Day.Az ((Day.Ls.mk (e 17) (e 13).int)).n (Day.Ls.mk (e 17) (e 13).int) (e 16).int 6 (e 24).int ∧ Day.Az ((Day.Ls.mk (e 17) (e 13).int)).n (Day.Ls.mk (e 17) (e 13).int) (e 56).int 7 (e 55).int = Day.Az ((Day.Ls.mk (e 17) (e 13).int)).n (Day.Ls.mk (e 17) (e 13).int) (e 16).int 7 (e 25).int) ∧ (((Day.Ls.mk (e 17) (e 13).int)).n - (e 56).int).toNat < (((Day.Ls.mk (e 17) (e 13).int)).n - (e 16).int).toNat) ∧ ((e 27).bool = true → (e 18).int = Day.Az ((Day.Ls.mk (e 17) (e 13).int)).n (Day.Ls.mk (e 17) (e 13).int) (e 16).int 0 (e 18).int ∧ (e 19).int = Day.Az ((Day.Ls.mk (e 17) (e 13).int)).n (Day.Ls.mk (e 17) (e 13).int) (e 16).int 1 (e 19).int ∧ (e 20).int = Day.Az ((Day.Ls.mk (e 17) (e 13).int)).n (Day.Ls.mk (e 17) (e 13).int) (e 16).int 2 (e 20).int ∧ (e 21).int = Day.Az ((Day.Ls.mk (e 17) (e 13).int)).n (Day.Ls.mk (e 17) (e 13).int) (e 16).int 3 (e 21).int ∧ (e 22).int = Day.Az ((Day.Ls.mk (e 17) (e 13).int)).n (Day.Ls.mk (e 17) (e 13).int) (e 16).int 4 (e 22).int ∧ (e 23).int = Day.Az ((Day.Ls.mk (e 17) (e 13).int)).n (Day.Ls.mk (e 17) (e 13).int) (e 16).int 5 (e 23).int ∧ (e 24).int = Day.Az ((Day.Ls.mk (e 17) (e 13).int)).n (Day.Ls.mk (e 17) (e 13).int) (e 16).int 6 (e 24).int ∧ (e 25).int = Day.Az ((Day.Ls.mk (e 17) (e 13).int)).n (Day.Ls.mk (e 17) (e 13).int) (e 16).int 7 (e 25).int) := by
 simp only [NQ, Ac, Def.q, Bc, L.Ae, L.Aq, L.AE, L.AF, L.ev, A.Ad, A.Ah, A.As, A.AJ, List.map_cons, List.map_nil, Nat.zero_add, Nat.add_zero, and_true, true_and, Nat.reduceAdd, Nat.one_mul] at H
 simp only [C0, C1, CN, A3, De, Dg, Bm, Dw, and_true, true_and] at H
 obtain ⟨⟨q56, -⟩, ⟨q55, -⟩, ⟨q54, -⟩, ⟨q53, -⟩, ⟨q52, -⟩, ⟨q51, -⟩, ⟨q50, -⟩, ⟨q49, -⟩, ⟨q48, -⟩, ⟨q40, q41, q42, q43, q44, q45, q46, q47⟩, q39, q38, q37, q36, q35, q34, q33, q32, q31, q30, q29, q28, q27, q26⟩ := H
 generalize (e 0).int = x0, (e 1).int = x1, (e 2).int = x2, (e 3).int = x3, (e 4).int = x4, (e 5).int = x5, (e 6).int = x6, (e 7).int = x7, (e 8).int = x8, (e 9).int = x9, (e 10).int = x10, (e 11).int = x11, (e 12).int = x12, (e 13).int = x13, (e 14).int = x14, (e 15).int = x15, (e 16).int = x16, e 17 = x17, (e 18).int = x18, (e 19).int = x19, (e 20).int = x20, (e 21).int = x21, (e 22).int = x22, (e 23).int = x23, (e 24).int = x24, (e 25).int = x25, (e 26).bool = v26, (e 27).bool = v27, (e 28).bool = v28, (e 29).bool = v29, (e 30).bool = v30, (e 33).bool = v33, (e 34).bool = v34, (e 35).bool = v35, (e 36).bool = v36, (e 37).bool = v37, (e 38).bool = v38, (e 39).bool = v39, (e 40).int = v40, (e 41).int = v41, (e 42).int = v42, (e 43).int = v43, (e 44).int = v44, (e 45).int = v45, (e 46).int = v46, (e 47).int = v47, (e 48).int = v48, (e 49).int = v49, (e 50).int = v50, (e 51).int = v51, (e 52).int = v52, (e 53).int = v53, (e 54).int = v54, (e 55).int = v55, (e 56).int = v56 at *
 replace q31 := congrArg A.int q31
 generalize (e 31).int = v31 at *
 generalize hq : Day.Ls.mk x17 x13 = q at *
 have hn : x13 = q.n := by rw [← hq]
 have hk : q.k x16 = (x17.A5.getD (2 * x16.toNat) (.i 0)).int := by rw [← hq]; rfl
 rw [← hk] at q31
 clear hk hq
 simp only [Bool.and_eq_true, Day.Au, beq_iff_eq] at hp ⊢
 by_cases hlt : x16 < q.n
 ·have w : IntKind.wrap .i64 (x16 + 1) = x16 + 1 := wrap64 (by omega) (by omega)
  have st := fun (j : Nat) (x : Int) => Day.SI (n := q.n) (q := q) (x := x) j (p := x16) ⟨by omega, hlt⟩
  have s0 := st 0; have s1 := st 1; have s2 := st 2; have s3 := st 3; have s4 := st 4; have s5 := st 5; have s6 := st 6; have s7 := st 7
  subst_vars
  simp only [w]
  refine ⟨by simp; omega, fun _ => ⟨by first | omega | (simp only [and_true]; omega), ⟨s0 _, s1 _, s2 _, s3 _, s4 _, s5 _, s6 _, s7 _⟩, by omega⟩, fun h => ?_⟩
  simp [hlt] at h
 ·have st := fun (j : Int) (x : Int) => Day.V4 (n := q.n) (q := q) (x := x) (j := j) (p := x16) (by omega)
  subst_vars
  simp [st, hlt]
  try omega
theorem Aaa (as : List A) (e : Nat → A) (h1 : as = (List.range 26).map e) (h2 : (KD as).1 = true) (H : Ac T e NQ.defs) : Ct e NQ.obs ∧
   (∀ pc ls, some (V 26, [V 0, V 1, V 2, V 3, V 4, V 5, V 6, V 7, V 8, V 9, V 10, V 11, V 12, V 13, V 14, V 15, V 56, V 17, V 48, V 49, V 50, V 51, V 52, V 53, V 54, V 55]) = some (pc, ls) → (pc.ev e).bool = true → (KD (ls.map (L.ev e))).1 = true ∧ (KD (ls.map (L.ev e))).2 = (KD as).2 ∧ Z9 (ls.map (L.ev e)) < Z9 as) ∧
   ∀ x ∈ ([(V 27, [some (V 18), some (V 19), some (V 20), some (V 21), some (V 22), some (V 23), some (V 24), some (V 25)])] : List (L × List (Option L))), (x.1.ev e).bool = true → ∀ (j : Nat) l, x.2[j]? = some (some l) → Gl (I1.tags.getD j .any) (l.ev e) ((KD as).2.getD j (.i 0)) := by
 subst h1
 obtain ⟨ho, h⟩ := YR e H h2
 refine ⟨⟨ho.1, ho.2, trivial⟩, fun pc ls hb hpc => ?_, ?_⟩
 ·injection hb with hb
  injection hb with h3 h4
  subst h3 h4
  have h := h.1 hpc
  refine ⟨h.1, ?_, h.2.2⟩
  have h5 := h.2.1
  obtain ⟨z0, z1, z2, z3, z4, z5, z6, z7⟩ := h5
  exact (AU z0 (AU z1 (AU z2 (AU z3 (AU z4 (AU z5 (AU z6 (AU z7 rfl))))))))
 ·intro x hx hpc j l hj
  simp only [List.mem_cons, List.not_mem_nil, or_false] at hx
  rcases hx with rfl
  ·have h := h.2 hpc
   obtain ⟨z0, z1, z2, z3, z4, z5, z6, z7⟩ := h
   match j, hj with
   | 0, hj => cases hj; exact z0
   | 1, hj => cases hj; exact z1
   | 2, hj => cases hj; exact z2
   | 3, hj => cases hj; exact z3
   | 4, hj => cases hj; exact z4
   | 5, hj => cases hj; exact z5
   | 6, hj => cases hj; exact z6
   | 7, hj => cases hj; exact z7
   | _ + 8, hj => cases hj
def K1 : G := ⟨52, [⟨51, .iteB, [V 18, V 18, V 17]⟩, ⟨50, .iteI, [V 18, V 12, N 0]⟩, ⟨49, .iteI, [V 18, V 11, N 0]⟩, ⟨48, .iteI, [V 18, V 10, N 0]⟩, ⟨47, .iteI, [V 18, V 9, N 0]⟩, ⟨46, .iteI, [V 18, V 27, N 0]⟩, ⟨45, .iteI, [V 18, V 26, N 0]⟩, ⟨44, .iteI, [V 18, V 25, N 0]⟩, ⟨43, .iteI, [V 18, V 24, N 0]⟩, ⟨42, .iteI, [V 18, V 23, N 0]⟩, ⟨41, .iteI, [V 18, V 22, N 0]⟩, ⟨40, .iteI, [V 18, V 21, N 0]⟩, ⟨39, .iteI, [V 18, V 20, N 0]⟩, ⟨38, .iteI, [V 18, V 27, V 8]⟩, ⟨37, .iteI, [V 18, V 26, V 7]⟩, ⟨36, .iteI, [V 18, V 25, V 6]⟩, ⟨35, .iteI, [V 18, V 24, V 5]⟩, ⟨34, .iteI, [V 18, V 23, V 4]⟩, ⟨33, .iteI, [V 18, V 22, V 3]⟩, ⟨32, .iteI, [V 18, V 21, V 2]⟩, ⟨31, .iteI, [V 18, V 20, V 1]⟩, ⟨30, .iteI, [V 18, N 0, V 16]⟩, ⟨29, .not, [V 18]⟩, ⟨28, .imp, [V 18, V 19]⟩, ⟨19, (.call 1670), [V 0, V 1, V 2, V 3, V 4, V 5, V 6, V 7, V 8, V 9, V 10, V 11, V 12, V 14, V 16, V 17, N 0, V 13, V 1, V 2, V 3, V 4, V 5, V 6, V 7, V 8]⟩, ⟨18, .not, [V 17]⟩, ⟨17, (.cmp .neq), [V 16, N 0]⟩, ⟨15, (.call 37), [V 0, V 1, V 2, V 3, V 4, V 5, V 6, V 7, V 8, V 9, V 10, V 11, V 12, V 13, V 14]⟩], [V 28, V 15], []⟩
theorem TE (e : Nat → A) (H : Ac T e K1.defs) : ∀ z0, z0 = (Day.HB.mk [(e 1).int, (e 2).int, (e 3).int, (e 4).int, (e 5).int, (e 6).int, (e 7).int, (e 8).int] (e 9).int (e 10).int (e 11).int (e 12).int) → ∀ r1, r1 = Day.Ee (e 0).int z0 (Day.Ls.mk (e 13) (e 14).int) → (Day.HB.i64 z0 && Day.Ls.ok (Day.Ls.mk (e 13) (e 14).int)) = true →
  ((e 28).bool = true ∧ (e 15).bool = true) ∧ (((r1)).a 0 = (e 39).int ∧ ((r1)).a 1 = (e 40).int ∧ ((r1)).a 2 = (e 41).int ∧ ((r1)).a 3 = (e 42).int ∧ ((r1)).a 4 = (e 43).int ∧ ((r1)).a 5 = (e 44).int ∧ ((r1)).a 6 = (e 45).int ∧ ((r1)).a 7 = (e 46).int ∧ ((r1)).port = (e 47).int ∧ ((r1)).age = (e 48).int ∧ ((r1)).hold = (e 49).int ∧ ((r1)).pos = (e 50).int ∧ Day.Bh (e 0).int z0 (Day.Ls.mk (e 13) (e 14).int) = (e 30).int) := by
 intro z0 hz0 r1 hr1 hp
 subst hz0 hr1
 simp only [K1, Ac, Def.q, Bc, L.Ae, L.Aq, L.AE, L.AF, L.ev, A.Ad, A.Ah, A.As, A.AJ, List.map_cons, List.map_nil, Nat.zero_add, Nat.add_zero, and_true, true_and, Nat.reduceAdd, Nat.one_mul] at H
 simp only [C0, C1, CN, A3, De, Dg, Bm, Dw, and_true, true_and] at H
 obtain ⟨q51, ⟨q50, -⟩, ⟨q49, -⟩, ⟨q48, -⟩, ⟨q47, -⟩, ⟨q46, -⟩, ⟨q45, -⟩, ⟨q44, -⟩, ⟨q43, -⟩, ⟨q42, -⟩, ⟨q41, -⟩, ⟨q40, -⟩, ⟨q39, -⟩, ⟨q38, -⟩, ⟨q37, -⟩, ⟨q36, -⟩, ⟨q35, -⟩, ⟨q34, -⟩, ⟨q33, -⟩, ⟨q32, -⟩, ⟨q31, -⟩, ⟨q30, -⟩, q29, q28, q19, q18, q17, q15⟩ := H
 replace q19 := Aca q19
 obtain ⟨q19, q20, q21, q22, q23, q24, q25, q26, q27⟩ := q19
 replace q15 := KL q15 _ rfl
 obtain ⟨q15, q16⟩ := q15
 simp only [L.Ae, L.Aq, L.AE, L.AF, L.ev, A.Ad, A.Ah, A.As] at q19 q20 q21 q22 q23 q24 q25 q26 q27 q15 q16
 generalize (e 0).int = x0, (e 1).int = x1, (e 2).int = x2, (e 3).int = x3, (e 4).int = x4, (e 5).int = x5, (e 6).int = x6, (e 7).int = x7, (e 8).int = x8, (e 9).int = x9, (e 10).int = x10, (e 11).int = x11, (e 12).int = x12, e 13 = x13, (e 14).int = x14, (e 15).bool = v15, (e 16).int = v16, (e 17).bool = v17, (e 18).bool = v18, (e 19).bool = v19, (e 20).int = v20, (e 21).int = v21, (e 22).int = v22, (e 23).int = v23, (e 24).int = v24, (e 25).int = v25, (e 26).int = v26, (e 27).int = v27, (e 28).bool = v28, (e 29).bool = v29, (e 30).int = v30, (e 31).int = v31, (e 32).int = v32, (e 33).int = v33, (e 34).int = v34, (e 35).int = v35, (e 36).int = v36, (e 37).int = v37, (e 38).int = v38, (e 39).int = v39, (e 40).int = v40, (e 41).int = v41, (e 42).int = v42, (e 43).int = v43, (e 44).int = v44, (e 45).int = v45, (e 46).int = v46, (e 47).int = v47, (e 48).int = v48, (e 49).int = v49, (e 50).int = v50, (e 51).bool = v51 at *
 generalize hH : (Day.HB.mk [x1, x2, x3, x4, x5, x6, x7, x8] x9 x10 x11 x12) = h at *
 have g0 : x1 = h.a 0 ∧ x2 = h.a 1 ∧ x3 = h.a 2 ∧ x4 = h.a 3 ∧ x5 = h.a 4 ∧ x6 = h.a 5 ∧ x7 = h.a 6 ∧ x8 = h.a 7 ∧ x9 = h.port ∧ x10 = h.age ∧ x11 = h.hold ∧ x12 = h.pos := by subst hH; simp [Day.HB.a]
 obtain ⟨a1, a2, a3, a4, a5, a6, a7, a8, a9, a10, a11, a12⟩ := g0
 clear hH
 generalize hq : Day.Ls.mk x13 x14 = q at *
 have hn0 : x14 = q.n := by rw [← hq]
 have hk : ∀ p, q.k p = (x13.A5.getD (2 * p.toNat) (.i 0)).int := fun p => by rw [← hq]; rfl
 have hd : ∀ p, q.d p = (x13.A5.getD (1 + 2 * p.toNat) (.i 0)).int := fun p => by rw [← hq]; rfl
 clear hq
 simp only [Bool.and_eq_true] at hp
 by_cases hg : Day.Bh x0 h q = 0
 ·obtain ⟨hr, hf⟩ := Day.CI.1 hg
  obtain ⟨f1, f2, f3⟩ := Day.Hk hf
  have hI : Day.Be 0 x0 = true := by rw [Day.Au]; omega
  have hI2 : Day.Be x0 8 = true := by rw [Day.Au]; omega
  clear hk hd
  subst_vars
  simp [hp, hg, hI, hI2, Day.Ee, Day.AS, Day.HB.a, Day.Az]
 ·clear hk hd
  subst_vars
  simp [hp, hg, Day.Ee, Day.Bp, Day.HB.a]
def I2 : G := ⟨34, [⟨33, .iteB, [V 30, V 30, V 29]⟩, ⟨32, .iteI, [V 30, N 0, V 28]⟩, ⟨31, .not, [V 30]⟩, ⟨30, .and, [V 18, V 27]⟩, ⟨29, .iteB, [V 17, V 17, V 26]⟩, ⟨28, .iteI, [V 17, N 1, N 2]⟩, ⟨27, .and, [V 23, V 25]⟩, ⟨26, .and, [V 22, V 24]⟩, ⟨25, .and, [V 18, V 23]⟩, ⟨24, .and, [V 18, V 22]⟩, ⟨23, .not, [V 22]⟩, ⟨22, .not, [V 20]⟩, ⟨21, .imp, [V 18, V 19]⟩, ⟨19, (.call 26), [V 0, V 13, V 14]⟩, ⟨18, .not, [V 17]⟩, ⟨17, .not, [V 16]⟩, ⟨15, (.call 25), [V 0, V 1, V 2, V 3, V 4, V 5, V 6, V 7, V 8, V 9, V 10, V 11, V 12]⟩], [V 21, V 15], []⟩
theorem QD (e : Nat → A) (H : Ac T e I2.defs) : ∀ z0, z0 = (Day.HB.mk [(e 1).int, (e 2).int, (e 3).int, (e 4).int, (e 5).int, (e 6).int, (e 7).int, (e 8).int] (e 9).int (e 10).int (e 11).int (e 12).int) → (Day.HB.i64 z0 && Day.Ls.ok (Day.Ls.mk (e 13) (e 14).int)) = true →
  ((e 21).bool = true ∧ (e 15).bool = true) ∧ (Day.Bh (e 0).int z0 (Day.Ls.mk (e 13) (e 14).int) = (e 32).int) := by
 intro z0 hz0 hp
 subst hz0
 simp only [I2, Ac, Def.q, Bc, L.Ae, L.Aq, L.AE, L.AF, L.ev, A.Ad, A.Ah, A.As, A.AJ, List.map_cons, List.map_nil, Nat.zero_add, Nat.add_zero, and_true, true_and, Nat.reduceAdd, Nat.one_mul] at H
 simp only [C0, C1, CN, A3, De, Dg, Bm, Dw, and_true, true_and] at H
 obtain ⟨q33, ⟨q32, -⟩, q31, q30, q29, ⟨q28, -⟩, q27, q26, q25, q24, q23, q22, q21, q19, q18, q17, q15⟩ := H
 replace q19 := Hl q19
 obtain ⟨q19, q20⟩ := q19
 replace q15 := Cp q15 _ rfl
 obtain ⟨q15, q16⟩ := q15
 simp only [L.Ae, L.Aq, L.AE, L.AF, L.ev, A.Ad, A.Ah, A.As] at q19 q20 q15 q16
 generalize (e 0).int = x0, (e 1).int = x1, (e 2).int = x2, (e 3).int = x3, (e 4).int = x4, (e 5).int = x5, (e 6).int = x6, (e 7).int = x7, (e 8).int = x8, (e 9).int = x9, (e 10).int = x10, (e 11).int = x11, (e 12).int = x12, e 13 = x13, (e 14).int = x14, (e 15).bool = v15, (e 16).bool = v16, (e 17).bool = v17, (e 18).bool = v18, (e 19).bool = v19, (e 20).bool = v20, (e 21).bool = v21, (e 22).bool = v22, (e 23).bool = v23, (e 24).bool = v24, (e 25).bool = v25, (e 26).bool = v26, (e 27).bool = v27, (e 28).int = v28, (e 29).bool = v29, (e 30).bool = v30, (e 31).bool = v31, (e 32).int = v32, (e 33).bool = v33 at *
 generalize hH : (Day.HB.mk [x1, x2, x3, x4, x5, x6, x7, x8] x9 x10 x11 x12) = h at *
 have g0 : x1 = h.a 0 ∧ x2 = h.a 1 ∧ x3 = h.a 2 ∧ x4 = h.a 3 ∧ x5 = h.a 4 ∧ x6 = h.a 5 ∧ x7 = h.a 6 ∧ x8 = h.a 7 ∧ x9 = h.port ∧ x10 = h.age ∧ x11 = h.hold ∧ x12 = h.pos := by subst hH; simp [Day.HB.a]
 obtain ⟨a1, a2, a3, a4, a5, a6, a7, a8, a9, a10, a11, a12⟩ := g0
 clear hH
 generalize hq : Day.Ls.mk x13 x14 = q at *
 have hn0 : x14 = q.n := by rw [← hq]
 have hk : ∀ p, q.k p = (x13.A5.getD (2 * p.toNat) (.i 0)).int := fun p => by rw [← hq]; rfl
 have hd : ∀ p, q.d p = (x13.A5.getD (1 + 2 * p.toNat) (.i 0)).int := fun p => by rw [← hq]; rfl
 clear hq
 try simp only [Bool.and_eq_true] at hp
 clear hk hd
 subst_vars
 simp only [hp, Day.Bh]
 cases Day.Ak x0 h <;> cases Day.Cg x0 q <;> simp
def I3 : G := ⟨98, [⟨97, .iteB, [V 18, V 18, V 17]⟩, ⟨96, .iteI, [V 18, V 68, N 0]⟩, ⟨95, .iteI, [V 18, V 67, N 0]⟩, ⟨94, .iteI, [V 18, V 66, N 0]⟩, ⟨93, .iteI, [V 18, V 65, N 0]⟩, ⟨92, .iteI, [V 18, V 64, N 0]⟩, ⟨91, .iteI, [V 18, V 63, N 0]⟩, ⟨90, .iteI, [V 18, V 62, N 0]⟩, ⟨89, .iteI, [V 18, V 61, N 0]⟩, ⟨88, .iteI, [V 18, V 60, N 0]⟩, ⟨87, .iteI, [V 18, V 59, N 0]⟩, ⟨86, .iteI, [V 18, V 58, N 0]⟩, ⟨85, .iteI, [V 18, V 57, N 0]⟩, ⟨84, .iteI, [V 18, V 56, N 0]⟩, ⟨83, .iteI, [V 18, V 55, N 0]⟩, ⟨82, .iteI, [V 18, V 66, V 12]⟩, ⟨81, .iteI, [V 18, V 65, V 11]⟩, ⟨80, .iteI, [V 18, V 64, V 10]⟩, ⟨79, .iteI, [V 18, V 63, V 9]⟩, ⟨78, .iteI, [V 18, V 62, V 8]⟩, ⟨77, .iteI, [V 18, V 61, V 7]⟩, ⟨76, .iteI, [V 18, V 60, V 6]⟩, ⟨75, .iteI, [V 18, V 59, V 5]⟩, ⟨74, .iteI, [V 18, V 58, V 4]⟩, ⟨73, .iteI, [V 18, V 57, V 3]⟩, ⟨72, .iteI, [V 18, V 56, V 2]⟩, ⟨71, .iteI, [V 18, V 55, V 1]⟩, ⟨70, .iteI, [V 18, N 0, V 16]⟩, ⟨69, .not, [V 18]⟩, ⟨68, .iteI, [V 19, V 37, V 53]⟩, ⟨67, .iteI, [V 19, V 36, V 52]⟩, ⟨66, .iteI, [V 19, V 35, V 51]⟩, ⟨65, .iteI, [V 19, V 34, V 50]⟩, ⟨64, .iteI, [V 19, V 33, V 49]⟩, ⟨63, .iteI, [V 19, V 32, V 48]⟩, ⟨62, .iteI, [V 19, V 31, V 47]⟩, ⟨61, .iteI, [V 19, V 30, V 46]⟩, ⟨60, .iteI, [V 19, V 29, V 45]⟩, ⟨59, .iteI, [V 19, V 28, V 44]⟩, ⟨58, .iteI, [V 19, V 27, V 43]⟩, ⟨57, .iteI, [V 19, V 26, V 42]⟩, ⟨56, .iteI, [V 19, V 25, V 41]⟩, ⟨55, .iteI, [V 19, V 24, V 40]⟩, ⟨54, .imp, [V 22, V 39]⟩, ⟨39, (.call 41), [V 0, V 1, V 2, V 3, V 4, V 5, V 6, V 7, V 8, V 9, V 10, V 11, V 12, V 13, V 14]⟩, ⟨38, .imp, [V 21, V 23]⟩, ⟨23, (.call 42), [V 0, V 1, V 2, V 3, V 4, V 5, V 6, V 7, V 8, V 9, V 10, V 11, V 12, V 13, V 14]⟩, ⟨22, .and, [V 18, V 20]⟩, ⟨21, .and, [V 18, V 19]⟩, ⟨20, .not, [V 19]⟩, ⟨19, (.cmp .gtr), [V 11, N 0]⟩, ⟨18, .not, [V 17]⟩, ⟨17, (.cmp .neq), [V 16, N 0]⟩, ⟨15, (.call 37), [V 0, V 1, V 2, V 3, V 4, V 5, V 6, V 7, V 8, V 9, V 10, V 11, V 12, V 13, V 14]⟩], [V 54, V 38, V 15], []⟩
theorem QF (e : Nat → A) (H : Ac T e I3.defs) : ∀ z0, z0 = (Day.HB.mk [(e 1).int, (e 2).int, (e 3).int, (e 4).int, (e 5).int, (e 6).int, (e 7).int, (e 8).int] (e 9).int (e 10).int (e 11).int (e 12).int) → ∀ r1, r1 = Day.D1 (e 0).int z0 (Day.Ls.mk (e 13) (e 14).int) → (Day.HB.i64 z0 && Day.Ls.ok (Day.Ls.mk (e 13) (e 14).int)) = true →
  ((e 54).bool = true ∧ (e 38).bool = true ∧ (e 15).bool = true) ∧ (((r1)).a 0 = (e 83).int ∧ ((r1)).a 1 = (e 84).int ∧ ((r1)).a 2 = (e 85).int ∧ ((r1)).a 3 = (e 86).int ∧ ((r1)).a 4 = (e 87).int ∧ ((r1)).a 5 = (e 88).int ∧ ((r1)).a 6 = (e 89).int ∧ ((r1)).a 7 = (e 90).int ∧ ((r1)).port = (e 91).int ∧ ((r1)).age = (e 92).int ∧ ((r1)).hold = (e 93).int ∧ ((r1)).pos = (e 94).int ∧ ((Day.CH (e 0).int z0 (Day.Ls.mk (e 13) (e 14).int))).kind = (e 95).int ∧ ((Day.CH (e 0).int z0 (Day.Ls.mk (e 13) (e 14).int))).id = (e 96).int ∧ Day.Bh (e 0).int z0 (Day.Ls.mk (e 13) (e 14).int) = (e 70).int) := by
 intro z0 hz0 r1 hr1 hp
 subst hz0 hr1
 simp only [I3, Ac, Def.q, Bc, L.Ae, L.Aq, L.AE, L.AF, L.ev, A.Ad, A.Ah, A.As, A.AJ, List.map_cons, List.map_nil, Nat.zero_add, Nat.add_zero, and_true, true_and, Nat.reduceAdd, Nat.one_mul] at H
 simp only [C0, C1, CN, A3, De, Dg, Bm, Dw, and_true, true_and] at H
 obtain ⟨q97, ⟨q96, -⟩, ⟨q95, -⟩, ⟨q94, -⟩, ⟨q93, -⟩, ⟨q92, -⟩, ⟨q91, -⟩, ⟨q90, -⟩, ⟨q89, -⟩, ⟨q88, -⟩, ⟨q87, -⟩, ⟨q86, -⟩, ⟨q85, -⟩, ⟨q84, -⟩, ⟨q83, -⟩, ⟨q82, -⟩, ⟨q81, -⟩, ⟨q80, -⟩, ⟨q79, -⟩, ⟨q78, -⟩, ⟨q77, -⟩, ⟨q76, -⟩, ⟨q75, -⟩, ⟨q74, -⟩, ⟨q73, -⟩, ⟨q72, -⟩, ⟨q71, -⟩, ⟨q70, -⟩, q69, ⟨q68, -⟩, ⟨q67, -⟩, ⟨q66, -⟩, ⟨q65, -⟩, ⟨q64, -⟩, ⟨q63, -⟩, ⟨q62, -⟩, ⟨q61, -⟩, ⟨q60, -⟩, ⟨q59, -⟩, ⟨q58, -⟩, ⟨q57, -⟩, ⟨q56, -⟩, ⟨q55, -⟩, q54, q39, q38, q23, q22, q21, q20, q19, q18, q17, q15⟩ := H
 replace q39 := Tf q39 _ rfl _ rfl
 obtain ⟨q39, q40, q41, q42, q43, q44, q45, q46, q47, q48, q49, q50, q51, q52, q53⟩ := q39
 replace q23 := Te q23 _ rfl _ rfl
 obtain ⟨q23, q24, q25, q26, q27, q28, q29, q30, q31, q32, q33, q34, q35, q36, q37⟩ := q23
 replace q15 := KL q15 _ rfl
 obtain ⟨q15, q16⟩ := q15
 simp only [L.Ae, L.Aq, L.AE, L.AF, L.ev, A.Ad, A.Ah, A.As] at q39 q40 q41 q42 q43 q44 q45 q46 q47 q48 q49 q50 q51 q52 q53 q23 q24 q25 q26 q27 q28 q29 q30 q31 q32 q33 q34 q35 q36 q37 q15 q16
 generalize (e 0).int = x0, (e 1).int = x1, (e 2).int = x2, (e 3).int = x3, (e 4).int = x4, (e 5).int = x5, (e 6).int = x6, (e 7).int = x7, (e 8).int = x8, (e 9).int = x9, (e 10).int = x10, (e 11).int = x11, (e 12).int = x12, e 13 = x13, (e 14).int = x14, (e 15).bool = v15, (e 16).int = v16, (e 17).bool = v17, (e 18).bool = v18, (e 19).bool = v19, (e 20).bool = v20, (e 21).bool = v21, (e 22).bool = v22, (e 23).bool = v23, (e 24).int = v24, (e 25).int = v25, (e 26).int = v26, (e 27).int = v27, (e 28).int = v28, (e 29).int = v29, (e 30).int = v30, (e 31).int = v31, (e 32).int = v32, (e 33).int = v33, (e 34).int = v34, (e 35).int = v35, (e 36).int = v36, (e 37).int = v37, (e 38).bool = v38, (e 39).bool = v39, (e 40).int = v40, (e 41).int = v41, (e 42).int = v42, (e 43).int = v43, (e 44).int = v44, (e 45).int = v45, (e 46).int = v46, (e 47).int = v47, (e 48).int = v48, (e 49).int = v49, (e 50).int = v50, (e 51).int = v51, (e 52).int = v52, (e 53).int = v53, (e 54).bool = v54, (e 55).int = v55, (e 56).int = v56, (e 57).int = v57, (e 58).int = v58, (e 59).int = v59, (e 60).int = v60, (e 61).int = v61, (e 62).int = v62, (e 63).int = v63, (e 64).int = v64, (e 65).int = v65, (e 66).int = v66, (e 67).int = v67, (e 68).int = v68, (e 69).bool = v69, (e 70).int = v70, (e 71).int = v71, (e 72).int = v72, (e 73).int = v73, (e 74).int = v74, (e 75).int = v75, (e 76).int = v76, (e 77).int = v77, (e 78).int = v78, (e 79).int = v79, (e 80).int = v80, (e 81).int = v81, (e 82).int = v82, (e 83).int = v83, (e 84).int = v84, (e 85).int = v85, (e 86).int = v86, (e 87).int = v87, (e 88).int = v88, (e 89).int = v89, (e 90).int = v90, (e 91).int = v91, (e 92).int = v92, (e 93).int = v93, (e 94).int = v94, (e 95).int = v95, (e 96).int = v96, (e 97).bool = v97 at *
 generalize hH : (Day.HB.mk [x1, x2, x3, x4, x5, x6, x7, x8] x9 x10 x11 x12) = h at *
 have g0 : x1 = h.a 0 ∧ x2 = h.a 1 ∧ x3 = h.a 2 ∧ x4 = h.a 3 ∧ x5 = h.a 4 ∧ x6 = h.a 5 ∧ x7 = h.a 6 ∧ x8 = h.a 7 ∧ x9 = h.port ∧ x10 = h.age ∧ x11 = h.hold ∧ x12 = h.pos := by subst hH; simp [Day.HB.a]
 obtain ⟨a1, a2, a3, a4, a5, a6, a7, a8, a9, a10, a11, a12⟩ := g0
 clear hH
 generalize hq : Day.Ls.mk x13 x14 = q at *
 have hn0 : x14 = q.n := by rw [← hq]
 have hk : ∀ p, q.k p = (x13.A5.getD (2 * p.toNat) (.i 0)).int := fun p => by rw [← hq]; rfl
 have hd : ∀ p, q.d p = (x13.A5.getD (1 + 2 * p.toNat) (.i 0)).int := fun p => by rw [← hq]; rfl
 clear hq
 simp only [Bool.and_eq_true] at hp
 clear hk hd
 by_cases hg : Day.Bh x0 h q = 0
 ·obtain ⟨hr, hf⟩ := Day.CI.1 hg
  by_cases c : 0 < h.hold
  ·subst_vars
   simp [hp, hg, hr, hf, c, Day.D1, Day.CH]
  ·subst_vars
   simp [hp, hg, hr, hf, c, Day.D1, Day.CH]
 ·subst_vars
  simp [hp, hg, Day.D1, Day.CH, Day.Bp, Day.B3, Day.HB.a]
def I4 : G := ⟨30, [⟨29, .iteB, [V 21, V 21, V 20]⟩, ⟨28, .iteI, [V 21, V 19, N 0]⟩, ⟨27, .iteI, [V 21, V 18, N 0]⟩, ⟨26, .iteI, [V 21, V 23, V 11]⟩, ⟨25, .not, [V 21]⟩, ⟨24, .imp, [V 21, V 22]⟩, ⟨22, (.call 40), [V 0]⟩, ⟨21, .not, [V 20]⟩, ⟨20, (.cmp .neq), [V 18, N 2]⟩, ⟨19, (.pix 1 2), [V 13, V 12]⟩, ⟨18, (.pix 0 2), [V 13, V 12]⟩, ⟨17, .and, [V 15, V 16]⟩, ⟨16, (.cmp .lss), [V 12, V 14]⟩, ⟨15, (.cmp .leq), [N 0, V 12]⟩], [V 24, V 17], []⟩
theorem QG (e : Nat → A) (H : Ac T e I4.defs) : ∀ z0, z0 = (Day.HB.mk [(e 1).int, (e 2).int, (e 3).int, (e 4).int, (e 5).int, (e 6).int, (e 7).int, (e 8).int] (e 9).int (e 10).int (e 11).int (e 12).int) → ∀ r1, r1 = Day.Ks (e 0).int z0 (Day.Ls.mk (e 13) (e 14).int) → (Day.Ak (e 0).int z0 && Day.Cg (e 0).int (Day.Ls.mk (e 13) (e 14).int)) = true →
  ((e 24).bool = true ∧ (e 17).bool = true) ∧ (((r1)).a 0 = (e 1).int ∧ ((r1)).a 1 = (e 2).int ∧ ((r1)).a 2 = (e 3).int ∧ ((r1)).a 3 = (e 4).int ∧ ((r1)).a 4 = (e 5).int ∧ ((r1)).a 5 = (e 6).int ∧ ((r1)).a 6 = (e 7).int ∧ ((r1)).a 7 = (e 8).int ∧ ((r1)).port = (e 9).int ∧ ((r1)).age = (e 10).int ∧ ((r1)).hold = (e 26).int ∧ ((r1)).pos = (e 12).int ∧ ((Day.Gq z0 (Day.Ls.mk (e 13) (e 14).int))).kind = (e 27).int ∧ ((Day.Gq z0 (Day.Ls.mk (e 13) (e 14).int))).id = (e 28).int) := by
 intro z0 hz0 r1 hr1 hp
 subst hz0 hr1
 simp only [I4, Ac, Def.q, Bc, L.Ae, L.Aq, L.AE, L.AF, L.ev, A.Ad, A.Ah, A.As, A.AJ, List.map_cons, List.map_nil, Nat.zero_add, Nat.add_zero, and_true, true_and, Nat.reduceAdd, Nat.one_mul] at H
 simp only [C0, C1, CN, A3, De, Dg, Bm, Dw, and_true, true_and] at H
 obtain ⟨q29, ⟨q28, -⟩, ⟨q27, -⟩, ⟨q26, -⟩, q25, q24, q22, q21, q20, q19, q18, q17, q16, q15⟩ := H
 replace q22 := B0 q22
 obtain ⟨q22, q23⟩ := q22
 simp only [L.Ae, L.Aq, L.AE, L.AF, L.ev, A.Ad, A.Ah, A.As] at q22 q23
 generalize (e 0).int = x0, (e 1).int = x1, (e 2).int = x2, (e 3).int = x3, (e 4).int = x4, (e 5).int = x5, (e 6).int = x6, (e 7).int = x7, (e 8).int = x8, (e 9).int = x9, (e 10).int = x10, (e 11).int = x11, (e 12).int = x12, e 13 = x13, (e 14).int = x14, (e 15).bool = v15, (e 16).bool = v16, (e 17).bool = v17, (e 20).bool = v20, (e 21).bool = v21, (e 22).bool = v22, (e 23).int = v23, (e 24).bool = v24, (e 25).bool = v25, (e 26).int = v26, (e 27).int = v27, (e 28).int = v28, (e 29).bool = v29 at *
 replace q18 := congrArg A.int q18
 generalize (e 18).int = v18 at *
 replace q19 := congrArg A.int q19
 generalize (e 19).int = v19 at *
 generalize hH : (Day.HB.mk [x1, x2, x3, x4, x5, x6, x7, x8] x9 x10 x11 x12) = h at *
 have g0 : x1 = h.a 0 ∧ x2 = h.a 1 ∧ x3 = h.a 2 ∧ x4 = h.a 3 ∧ x5 = h.a 4 ∧ x6 = h.a 5 ∧ x7 = h.a 6 ∧ x8 = h.a 7 ∧ x9 = h.port ∧ x10 = h.age ∧ x11 = h.hold ∧ x12 = h.pos := by subst hH; simp [Day.HB.a]
 obtain ⟨a1, a2, a3, a4, a5, a6, a7, a8, a9, a10, a11, a12⟩ := g0
 clear hH
 generalize hq : Day.Ls.mk x13 x14 = q at *
 have hn0 : x14 = q.n := by rw [← hq]
 have hk : ∀ p, q.k p = (x13.A5.getD (2 * p.toNat) (.i 0)).int := fun p => by rw [← hq]; rfl
 have hd : ∀ p, q.d p = (x13.A5.getD (1 + 2 * p.toNat) (.i 0)).int := fun p => by rw [← hq]; rfl
 clear hq
 simp only [Bool.and_eq_true] at hp
 obtain ⟨hr, hf⟩ := hp
 obtain ⟨f1, f2, f3⟩ := Day.Hk hf
 have hb := Day.Cd hr
 have hR : Day.right x0 = true := by simp [Day.right, f2]
 rw [← hk] at q18
 rw [← hd] at q19
 clear hk hd
 subst_vars
 by_cases c : q.k h.pos = 2
 ·simp [c, Day.Ks, Day.Gq, Day.AS, Day.HB.a, Day.times, hR]
  omega
 ·simp [c, Day.Ks, Day.Gq, Day.Nx, Day.AS, Day.HB.a, Day.B3]
  omega
def G2 : Lp := ⟨57, [false, true, false, true], 1700, 15, 3, 4, ⟨Ii 19 [(0, .pv (.one (.k (.fsl 0 (V 0))))), (1, .pv (.one (.clo 58 [] []))), (4, .pv (.one (.k (.int .i64 (N 0))))), (6, .pv (.one (.k (.fsl 0 (V 0))))), (7, .pv (.one (.k (.int .i64 (V 0))))), (8, .pv (.one (.k (.int .i64 (V 1)))))], [⟨false, 0, 0, [], some ⟨false, 0, [.int .i64, .int .i64], V 2, V 0⟩⟩, ⟨true, 24, 12, [.k (.int .i64 (V 3)), .k (.int .i64 (V 4)), .k (.int .i64 (V 5)), .k (.int .i64 (V 6)), .k (.int .i64 (V 7)), .k (.int .i64 (V 8)), .k (.int .i64 (V 9)), .k (.int .i64 (V 10)), .k (.int .i64 (V 11)), .k (.int .i64 (V 12)), .k (.int .i64 (V 13)), .k (.int .i64 (V 14))], none⟩, ⟨true, 24, 12, [.k (.int .i64 (N 0)), .k (.int .i64 (N 0)), .k (.int .i64 (N 0)), .k (.int .i64 (N 0)), .k (.int .i64 (N 0)), .k (.int .i64 (N 0)), .k (.int .i64 (N 0)), .k (.int .i64 (N 0)), .k (.int .i64 (N 0)), .k (.int .i64 (N 0)), .k (.int .i64 (N 0)), .k (.int .i64 (N 0))], none⟩, ⟨true, 32, 2, [.k (.int .i64 (N 0)), .k (.int .i64 (N 0))], none⟩], B true⟩, [(.ret, ⟨Ii 19 [(0, .pv (.one (.k (.fsl 0 (V 0))))), (4, .pv (.one (.k (.int .i64 (V 15))))), (6, .pv (.one (.k (.fsl 0 (V 0)))))], [⟨false, 0, 0, [], some ⟨false, 0, [.int .i64, .int .i64], V 2, V 0⟩⟩, ⟨true, 24, 12, [.k (.int .i64 (V 3)), .k (.int .i64 (V 4)), .k (.int .i64 (V 5)), .k (.int .i64 (V 6)), .k (.int .i64 (V 7)), .k (.int .i64 (V 8)), .k (.int .i64 (V 9)), .k (.int .i64 (V 10)), .k (.int .i64 (V 11)), .k (.int .i64 (V 12)), .k (.int .i64 (V 13)), .k (.int .i64 (V 14))], none⟩, ⟨true, 24, 12, [.k (.int .i64 (N 0)), .k (.int .i64 (N 0)), .k (.int .i64 (N 0)), .k (.int .i64 (N 0)), .k (.int .i64 (N 0)), .k (.int .i64 (N 0)), .k (.int .i64 (N 0)), .k (.int .i64 (N 0)), .k (.int .i64 (N 0)), .k (.int .i64 (N 0)), .k (.int .i64 (N 0)), .k (.int .i64 (N 0))], none⟩, ⟨true, 32, 2, [.k (.int .i64 (N 0)), .k (.int .i64 (N 0))], none⟩], V 16⟩), (.exit 0, ⟨Ii 19 [(0, .pv (.one (.k (.fsl 0 (V 0))))), (4, .pv (.one (.k (.int .i64 (N 0))))), (6, .pv (.one (.k (.fsl 0 (V 0)))))], [⟨false, 0, 0, [], some ⟨false, 0, [.int .i64, .int .i64], V 2, V 0⟩⟩, ⟨true, 24, 12, [.k (.int .i64 (V 3)), .k (.int .i64 (V 4)), .k (.int .i64 (V 5)), .k (.int .i64 (V 6)), .k (.int .i64 (V 7)), .k (.int .i64 (V 8)), .k (.int .i64 (V 9)), .k (.int .i64 (V 10)), .k (.int .i64 (V 11)), .k (.int .i64 (V 12)), .k (.int .i64 (V 13)), .k (.int .i64 (V 14))], none⟩, ⟨true, 24, 12, [.k (.int .i64 (N 0)), .k (.int .i64 (N 0)), .k (.int .i64 (N 0)), .k (.int .i64 (N 0)), .k (.int .i64 (N 0)), .k (.int .i64 (N 0)), .k (.int .i64 (N 0)), .k (.int .i64 (N 0)), .k (.int .i64 (N 0)), .k (.int .i64 (N 0)), .k (.int .i64 (N 0)), .k (.int .i64 (N 0))], none⟩, ⟨true, 32, 2, [.k (.int .i64 (N 0)), .k (.int .i64 (N 0))], none⟩], V 17⟩)], [true, false, true, true, true, true, true, true, true, true, true, true, true, true, true], [.i, .b, .b]⟩
def NR : G := ⟨33, [⟨32, .and, [V 15, V 30]⟩, ⟨31, .and, [V 15, V 27]⟩, ⟨30, .and, [V 29, V 26]⟩, ⟨29, .not, [V 27]⟩, ⟨28, (.ar .add .i64), [V 1, N 1]⟩, ⟨27, .and, [V 23, V 25]⟩, ⟨26, .and, [V 22, V 24]⟩, ⟨25, .and, [V 15, V 23]⟩, ⟨24, .and, [V 15, V 22]⟩, ⟨23, .not, [V 22]⟩, ⟨22, (.cmp .eql), [V 20, N 1]⟩, ⟨21, (.pix 1 2), [V 2, V 1]⟩, ⟨20, (.pix 0 2), [V 2, V 1]⟩, ⟨19, .imp, [V 15, V 18]⟩, ⟨18, .and, [V 17, V 15]⟩, ⟨17, (.cmp .leq), [N 0, V 1]⟩, ⟨16, .not, [V 15]⟩, ⟨15, (.cmp .lss), [V 1, V 0]⟩], [V 19], []⟩
def Aab (al : List A) : Nat := (((Day.Ls.mk (ge al 2) (gi al 0))).n - (gi al 1)).toNat
theorem YT (e : Nat → A) (H : Ac T e NR.defs) (hp : (Day.Ls.ok (Day.Ls.mk (e 2) (e 0).int) && Day.Be (e 1).int ((Day.Ls.mk (e 2) (e 0).int)).n) = true) :
  ((e 19).bool = true) ∧ ((e 31).bool = true → (Day.Ls.ok (Day.Ls.mk (e 2) (e 0).int) && Day.Be (e 28).int ((Day.Ls.mk (e 2) (e 0).int)).n) = true ∧ (Day.AW (Day.BH (Day.Ls.mk (e 2) (e 0).int)) (e 28).int ((Day.Ls.mk (e 2) (e 0).int)).n = Day.AW (Day.BH (Day.Ls.mk (e 2) (e 0).int)) (e 1).int ((Day.Ls.mk (e 2) (e 0).int)).n ∧ Day.FJ (Day.BH (Day.Ls.mk (e 2) (e 0).int)) (e 28).int ((Day.Ls.mk (e 2) (e 0).int)).n = Day.FJ (Day.BH (Day.Ls.mk (e 2) (e 0).int)) (e 1).int ((Day.Ls.mk (e 2) (e 0).int)).n ∧ (!Day.FJ (Day.BH (Day.Ls.mk (e 2) (e 0).int)) (e 28).int ((Day.Ls.mk (e 2) (e 0).int)).n) = (!Day.FJ (Day.BH (Day.Ls.mk (e 2) (e 0).int)) (e 1).int ((Day.Ls.mk (e 2) (e 0).int)).n)) ∧ (((Day.Ls.mk (e 2) (e 0).int)).n - (e 28).int).toNat < (((Day.Ls.mk (e 2) (e 0).int)).n - (e 1).int).toNat) ∧ ((e 32).bool = true → (e 1).int = Day.AW (Day.BH (Day.Ls.mk (e 2) (e 0).int)) (e 1).int ((Day.Ls.mk (e 2) (e 0).int)).n ∧ true = Day.FJ (Day.BH (Day.Ls.mk (e 2) (e 0).int)) (e 1).int ((Day.Ls.mk (e 2) (e 0).int)).n) ∧ ((e 16).bool = true → true = (!Day.FJ (Day.BH (Day.Ls.mk (e 2) (e 0).int)) (e 1).int ((Day.Ls.mk (e 2) (e 0).int)).n)) := by
 simp only [NR, Ac, Def.q, Bc, L.Ae, L.Aq, L.AE, L.AF, L.ev, A.Ad, A.Ah, A.As, A.AJ, List.map_cons, List.map_nil, Nat.zero_add, Nat.add_zero, and_true, true_and, Nat.reduceAdd, Nat.one_mul] at H
 simp only [C0, C1, CN, A3, De, Dg, Bm, Dw, and_true, true_and] at H
 obtain ⟨q32, q31, q30, q29, ⟨q28, -⟩, q27, q26, q25, q24, q23, q22, q21, q20, q19, q18, q17, q16, q15⟩ := H
 generalize (e 0).int = x0, (e 1).int = x1, e 2 = x2, (e 3).int = x3, (e 4).int = x4, (e 5).int = x5, (e 6).int = x6, (e 7).int = x7, (e 8).int = x8, (e 9).int = x9, (e 10).int = x10, (e 11).int = x11, (e 12).int = x12, (e 13).int = x13, (e 14).int = x14, (e 15).bool = v15, (e 16).bool = v16, (e 17).bool = v17, (e 18).bool = v18, (e 19).bool = v19, (e 22).bool = v22, (e 23).bool = v23, (e 24).bool = v24, (e 25).bool = v25, (e 26).bool = v26, (e 27).bool = v27, (e 28).int = v28, (e 29).bool = v29, (e 30).bool = v30, (e 31).bool = v31, (e 32).bool = v32 at *
 replace q20 := congrArg A.int q20
 generalize (e 20).int = v20 at *
 generalize hq : Day.Ls.mk x2 x0 = q at *
 have hn : x0 = q.n := by rw [← hq]
 have hk : q.k x1 = (x2.A5.getD (2 * x1.toNat) (.i 0)).int := by rw [← hq]; rfl
 rw [← hk] at q20
 clear hk hq
 simp only [Bool.and_eq_true, Day.Au, Day.Ls.ok, decide_eq_true_eq] at hp ⊢
 by_cases hlt : x1 < q.n
 ·have w : IntKind.wrap .i64 (x1 + 1) = x1 + 1 := wrap64 (by omega) (by omega)
  have st := Day.Kr (f := Day.BH q) hlt
  have st2 := Day.OY (f := Day.BH q) hlt
  have fb : v22 = Day.BH q x1 := by rw [q22, q20]; rfl
  clear q22
  subst_vars
  simp only [st, st2, w]
  cases Day.BH q x1 <;> simp [hlt, hp] <;> omega
 ·have st := Day.SF (f := Day.BH q) hlt
  have st2 := Day.SG (f := Day.BH q) hlt
  subst_vars
  simp [st, st2, hlt, hp]
theorem Aac (as : List A) (e : Nat → A) (h1 : as = (List.range 15).map e) (h2 : (KF as).1 = true) (H : Ac T e NR.defs) : Ct e NR.obs ∧
   (∀ pc ls, some (V 31, [V 0, V 28, V 2, V 3, V 4, V 5, V 6, V 7, V 8, V 9, V 10, V 11, V 12, V 13, V 14]) = some (pc, ls) → (pc.ev e).bool = true → (KF (ls.map (L.ev e))).1 = true ∧ (KF (ls.map (L.ev e))).2 = (KF as).2 ∧ Aab (ls.map (L.ev e)) < Aab as) ∧
   ∀ x ∈ ([(V 32, [some (V 1), some (B true), none]), (V 16, [none, none, some (B true)])] : List (L × List (Option L))), (x.1.ev e).bool = true → ∀ (j : Nat) l, x.2[j]? = some (some l) → Gl (G2.tags.getD j .any) (l.ev e) ((KF as).2.getD j (.i 0)) := by
 subst h1
 obtain ⟨ho, h⟩ := YT e H h2
 refine ⟨⟨ho, trivial⟩, fun pc ls hb hpc => ?_, ?_⟩
 ·injection hb with hb
  injection hb with h3 h4
  subst h3 h4
  have h := h.1 hpc
  refine ⟨h.1, ?_, h.2.2⟩
  have h5 := h.2.1
  obtain ⟨z0, z1, z2⟩ := h5
  exact (AU z0 (JB z1 (JB z2 rfl)))
 ·intro x hx hpc j l hj
  simp only [List.mem_cons, List.not_mem_nil, or_false] at hx
  rcases hx with rfl | rfl
  ·have h := h.2.1 hpc
   obtain ⟨z0, z1⟩ := h
   match j, hj with
   | 0, hj => cases hj; exact z0
   | 1, hj => cases hj; exact z1
   | 2, hj => cases hj
   | _ + 3, hj => cases hj
  ·have h := h.2.2 hpc
   have z2 := h
   match j, hj with
   | 0, hj => cases hj
   | 1, hj => cases hj
   | 2, hj => cases hj; exact z2
   | _ + 3, hj => cases hj
def I5 : Lp := ⟨41, [false, true, false, true, true, true], 1701, 27, 8, 4, ⟨Ii 40 [(0, .pv (.one (.k (.int .i64 (V 0))))), (1, .pv (.agg [.k (.int .i64 (V 1)), .k (.int .i64 (V 2)), .k (.int .i64 (V 3)), .k (.int .i64 (V 4)), .k (.int .i64 (V 5)), .k (.int .i64 (V 6)), .k (.int .i64 (V 7)), .k (.int .i64 (V 8)), .k (.int .i64 (V 9)), .k (.int .i64 (V 10)), .k (.int .i64 (V 11)), .k (.int .i64 (V 12))])), (2, .pv (.one (.k (.fsl 0 (V 13))))), (4, .pv (.one (.k (.ptr 1 0)))), (6, .pv (.one (.k (.ptr 2 0)))), (7, .pv (.one (.k (.ptr 3 0)))), (8, .pv (.one (.k (.int .i64 (V 14))))), (10, .pv (.one (.k (.fsl 0 (V 13))))), (11, .pv (.one (.k (.int .i64 (V 14))))), (12, .pv (.one (.k (.int .i64 (V 14))))), (13, .pv (.one (.k (.bool (V 15))))), (14, .pv (.one (.k (.bool (V 15))))), (20, .pv (.one (.k (.bool (V 16))))), (23, .pv (.one (.k (.int .i64 (V 0))))), (24, .pv (.one (.k (.int .i64 (V 17)))))], [⟨false, 0, 0, [], some ⟨false, 0, [.int .i64, .int .i64], V 18, V 13⟩⟩, ⟨true, 24, 12, [.k (.int .i64 (V 19)), .k (.int .i64 (V 20)), .k (.int .i64 (V 21)), .k (.int .i64 (V 22)), .k (.int .i64 (V 23)), .k (.int .i64 (V 24)), .k (.int .i64 (V 25)), .k (.int .i64 (V 26)), .k (.int .i64 (V 9)), .k (.int .i64 (V 10)), .k (.int .i64 (V 11)), .k (.int .i64 (V 12))], none⟩, ⟨true, 24, 12, [.k (.int .i64 (N 0)), .k (.int .i64 (N 0)), .k (.int .i64 (N 0)), .k (.int .i64 (N 0)), .k (.int .i64 (N 0)), .k (.int .i64 (N 0)), .k (.int .i64 (N 0)), .k (.int .i64 (N 0)), .k (.int .i64 (N 0)), .k (.int .i64 (N 0)), .k (.int .i64 (N 0)), .k (.int .i64 (N 0))], none⟩, ⟨true, 32, 2, [.k (.int .i64 (N 0)), .k (.int .i64 (N 0))], none⟩], B true⟩, [(.exit 0, ⟨Ii 40 [(0, .pv (.one (.k (.int .i64 (V 0))))), (1, .pv (.agg [.k (.int .i64 (V 1)), .k (.int .i64 (V 2)), .k (.int .i64 (V 3)), .k (.int .i64 (V 4)), .k (.int .i64 (V 5)), .k (.int .i64 (V 6)), .k (.int .i64 (V 7)), .k (.int .i64 (V 8)), .k (.int .i64 (V 9)), .k (.int .i64 (V 10)), .k (.int .i64 (V 11)), .k (.int .i64 (V 12))])), (2, .pv (.one (.k (.fsl 0 (V 13))))), (4, .pv (.one (.k (.ptr 1 0)))), (6, .pv (.one (.k (.ptr 2 0)))), (7, .pv (.one (.k (.ptr 3 0)))), (8, .pv (.one (.k (.int .i64 (V 14))))), (10, .pv (.one (.k (.fsl 0 (V 13))))), (11, .pv (.one (.k (.int .i64 (V 14))))), (12, .pv (.one (.k (.int .i64 (V 14))))), (13, .pv (.one (.k (.bool (V 15))))), (14, .pv (.one (.k (.bool (V 15))))), (20, .pv (.one (.k (.bool (V 16)))))], [⟨false, 0, 0, [], some ⟨false, 0, [.int .i64, .int .i64], V 18, V 13⟩⟩, ⟨true, 24, 12, [.k (.int .i64 (V 27)), .k (.int .i64 (V 28)), .k (.int .i64 (V 29)), .k (.int .i64 (V 30)), .k (.int .i64 (V 31)), .k (.int .i64 (V 32)), .k (.int .i64 (V 33)), .k (.int .i64 (V 34)), .k (.int .i64 (V 9)), .k (.int .i64 (V 10)), .k (.int .i64 (V 11)), .k (.int .i64 (V 12))], none⟩, ⟨true, 24, 12, [.k (.int .i64 (N 0)), .k (.int .i64 (N 0)), .k (.int .i64 (N 0)), .k (.int .i64 (N 0)), .k (.int .i64 (N 0)), .k (.int .i64 (N 0)), .k (.int .i64 (N 0)), .k (.int .i64 (N 0)), .k (.int .i64 (N 0)), .k (.int .i64 (N 0)), .k (.int .i64 (N 0)), .k (.int .i64 (N 0))], none⟩, ⟨true, 32, 2, [.k (.int .i64 (N 0)), .k (.int .i64 (N 0))], none⟩], B true⟩)], [true, true, true, true, true, true, true, true, true, true, true, true, true, true, true, true, true, false, true, false, false, false, false, false, false, false, false], [.i, .i, .i, .i, .i, .i, .i, .i]⟩
def NS : G := ⟨42, [⟨41, (.ar .add .i64), [V 17, N 1]⟩, ⟨33, .upd, [V 17, V 0, V 19, V 20, V 21, V 22, V 23, V 24, V 25, V 26]⟩, ⟨32, .imp, [V 27, V 31]⟩, ⟨31, .and, [V 29, V 30]⟩, ⟨30, (.cmp .lss), [V 17, N 8]⟩, ⟨29, (.cmp .leq), [N 0, V 17]⟩, ⟨28, .not, [V 27]⟩, ⟨27, (.cmp .lss), [V 17, V 0]⟩], [V 32], []⟩
def Aad (al : List A) : Nat := ((gi al 0) - (gi al 17)).toNat
theorem YU (e : Nat → A) (H : Ac T e NS.defs) (hp : (Day.Yr (e 0).int (e 17).int) = true) :
  ((e 32).bool = true) ∧ ((e 27).bool = true → (Day.Yr (e 0).int (e 41).int) = true ∧ (Day.AD (e 0).int (e 41).int 0 (e 33).int = Day.AD (e 0).int (e 17).int 0 (e 19).int ∧ Day.AD (e 0).int (e 41).int 1 (e 34).int = Day.AD (e 0).int (e 17).int 1 (e 20).int ∧ Day.AD (e 0).int (e 41).int 2 (e 35).int = Day.AD (e 0).int (e 17).int 2 (e 21).int ∧ Day.AD (e 0).int (e 41).int 3 (e 36).int = Day.AD (e 0).int (e 17).int 3 (e 22).int ∧ Day.AD (e 0).int (e 41).int 4 (e 37).int = Day.AD (e 0).int (e 17).int 4 (e 23).int ∧ Day.AD (e 0).int (e 41).int 5 (e 38).int = Day.AD (e 0).int (e 17).int 5 (e 24).int ∧ Day.AD (e 0).int (e 41).int 6 (e 39).int = Day.AD (e 0).int (e 17).int 6 (e 25).int ∧ Day.AD (e 0).int (e 41).int 7 (e 40).int = Day.AD (e 0).int (e 17).int 7 (e 26).int) ∧ ((e 0).int - (e 41).int).toNat < ((e 0).int - (e 17).int).toNat) ∧ ((e 28).bool = true → (e 19).int = Day.AD (e 0).int (e 17).int 0 (e 19).int ∧ (e 20).int = Day.AD (e 0).int (e 17).int 1 (e 20).int ∧ (e 21).int = Day.AD (e 0).int (e 17).int 2 (e 21).int ∧ (e 22).int = Day.AD (e 0).int (e 17).int 3 (e 22).int ∧ (e 23).int = Day.AD (e 0).int (e 17).int 4 (e 23).int ∧ (e 24).int = Day.AD (e 0).int (e 17).int 5 (e 24).int ∧ (e 25).int = Day.AD (e 0).int (e 17).int 6 (e 25).int ∧ (e 26).int = Day.AD (e 0).int (e 17).int 7 (e 26).int) := by
 simp only [NS, Ac, Def.q, Bc, L.Ae, L.Aq, L.AE, L.AF, L.ev, A.Ad, A.Ah, A.As, A.AJ, List.map_cons, List.map_nil, Nat.zero_add, Nat.add_zero, and_true, true_and, Nat.reduceAdd, Nat.one_mul] at H
 simp only [C0, C1, CN, A3, De, Dg, Bm, Dw, and_true, true_and] at H
 obtain ⟨⟨q41, -⟩, ⟨q33, q34, q35, q36, q37, q38, q39, q40⟩, q32, q31, q30, q29, q28, q27⟩ := H
 generalize (e 0).int = x0, (e 1).int = x1, (e 2).int = x2, (e 3).int = x3, (e 4).int = x4, (e 5).int = x5, (e 6).int = x6, (e 7).int = x7, (e 8).int = x8, (e 9).int = x9, (e 10).int = x10, (e 11).int = x11, (e 12).int = x12, (e 13).int = x13, (e 14).int = x14, (e 15).int = x15, (e 16).int = x16, (e 17).int = x17, (e 18).int = x18, (e 19).int = x19, (e 20).int = x20, (e 21).int = x21, (e 22).int = x22, (e 23).int = x23, (e 24).int = x24, (e 25).int = x25, (e 26).int = x26, (e 27).bool = v27, (e 28).bool = v28, (e 29).bool = v29, (e 30).bool = v30, (e 31).bool = v31, (e 32).bool = v32, (e 33).int = v33, (e 34).int = v34, (e 35).int = v35, (e 36).int = v36, (e 37).int = v37, (e 38).int = v38, (e 39).int = v39, (e 40).int = v40, (e 41).int = v41 at *
 simp only [Day.IL] at hp
 have hx : x17 = 0 ∨ x17 = 1 ∨ x17 = 2 ∨ x17 = 3 ∨ x17 = 4 ∨ x17 = 5 ∨ x17 = 6 ∨ x17 = 7 ∨ x17 = 8 := by omega
 rcases hx with rfl | rfl | rfl | rfl | rfl | rfl | rfl | rfl | rfl
 all_goals
  subst_vars
  simp [Day.IL, Day.AD, Day.sm, wrap64] at *
  omega
theorem Aae (as : List A) (e : Nat → A) (h1 : as = (List.range 27).map e) (h2 : (KG as).1 = true) (H : Ac T e NS.defs) : Ct e NS.obs ∧
   (∀ pc ls, some (V 27, [V 0, V 1, V 2, V 3, V 4, V 5, V 6, V 7, V 8, V 9, V 10, V 11, V 12, V 13, V 14, V 15, V 16, V 41, V 18, V 33, V 34, V 35, V 36, V 37, V 38, V 39, V 40]) = some (pc, ls) → (pc.ev e).bool = true → (KG (ls.map (L.ev e))).1 = true ∧ (KG (ls.map (L.ev e))).2 = (KG as).2 ∧ Aad (ls.map (L.ev e)) < Aad as) ∧
   ∀ x ∈ ([(V 28, [some (V 19), some (V 20), some (V 21), some (V 22), some (V 23), some (V 24), some (V 25), some (V 26)])] : List (L × List (Option L))), (x.1.ev e).bool = true → ∀ (j : Nat) l, x.2[j]? = some (some l) → Gl (I5.tags.getD j .any) (l.ev e) ((KG as).2.getD j (.i 0)) := by
 subst h1
 obtain ⟨ho, h⟩ := YU e H h2
 refine ⟨⟨ho, trivial⟩, fun pc ls hb hpc => ?_, ?_⟩
 ·injection hb with hb
  injection hb with h3 h4
  subst h3 h4
  have h := h.1 hpc
  refine ⟨h.1, ?_, h.2.2⟩
  have h5 := h.2.1
  obtain ⟨z0, z1, z2, z3, z4, z5, z6, z7⟩ := h5
  exact (AU z0 (AU z1 (AU z2 (AU z3 (AU z4 (AU z5 (AU z6 (AU z7 rfl))))))))
 ·intro x hx hpc j l hj
  simp only [List.mem_cons, List.not_mem_nil, or_false] at hx
  rcases hx with rfl
  ·have h := h.2 hpc
   obtain ⟨z0, z1, z2, z3, z4, z5, z6, z7⟩ := h
   match j, hj with
   | 0, hj => cases hj; exact z0
   | 1, hj => cases hj; exact z1
   | 2, hj => cases hj; exact z2
   | 3, hj => cases hj; exact z3
   | 4, hj => cases hj; exact z4
   | 5, hj => cases hj; exact z5
   | 6, hj => cases hj; exact z6
   | 7, hj => cases hj; exact z7
   | _ + 8, hj => cases hj
def I6 : G := ⟨62, [⟨61, .iteB, [V 31, V 31, V 30]⟩, ⟨60, .iteI, [V 31, V 47, N 0]⟩, ⟨59, .iteI, [V 31, V 46, N 0]⟩, ⟨58, .iteI, [V 31, N 0, V 10]⟩, ⟨57, .iteI, [V 31, V 22, V 9]⟩, ⟨56, .iteI, [V 31, V 40, V 8]⟩, ⟨55, .iteI, [V 31, V 39, V 7]⟩, ⟨54, .iteI, [V 31, V 38, V 6]⟩, ⟨53, .iteI, [V 31, V 37, V 5]⟩, ⟨52, .iteI, [V 31, V 36, V 4]⟩, ⟨51, .iteI, [V 31, V 35, V 3]⟩, ⟨50, .iteI, [V 31, V 34, V 2]⟩, ⟨49, .iteI, [V 31, V 33, V 1]⟩, ⟨48, .not, [V 31]⟩, ⟨47, (.pix 1 2), [V 13, V 22]⟩, ⟨46, (.pix 0 2), [V 13, V 22]⟩, ⟨45, .imp, [V 31, V 44]⟩, ⟨44, .and, [V 42, V 43]⟩, ⟨43, (.cmp .lss), [V 22, V 14]⟩, ⟨42, (.cmp .leq), [N 0, V 22]⟩, ⟨41, .imp, [V 31, V 32]⟩, ⟨32, (.call 1701), [V 0, V 1, V 2, V 3, V 4, V 5, V 6, V 7, V 8, V 9, V 10, V 11, V 12, V 14, V 22, V 24, V 30, N 0, V 13, V 1, V 2, V 3, V 4, V 5, V 6, V 7, V 8]⟩, ⟨31, .not, [V 30]⟩, ⟨30, .iteB, [V 24, B true, V 29]⟩, ⟨29, (.cmp .leq), [V 10, V 27]⟩, ⟨28, .imp, [V 25, V 26]⟩, ⟨26, (.call 40), [V 0]⟩, ⟨25, .not, [V 24]⟩, ⟨24, (.cmp .lss), [V 22, N 0]⟩, ⟨23, .iteB, [V 18, V 18, V 17]⟩, ⟨22, .iteI, [V 18, N (-1), V 16]⟩, ⟨21, .not, [V 18]⟩, ⟨20, .not, [V 19]⟩, ⟨19, .and, [V 17, V 18]⟩, ⟨15, (.call 1700), [V 14, N 0, V 13, V 1, V 2, V 3, V 4, V 5, V 6, V 7, V 8, V 9, V 10, V 11, V 12]⟩], [V 45, V 41, V 28, V 20, V 15], []⟩
theorem QH (e : Nat → A) (H : Ac T e I6.defs) : ∀ z0, z0 = (Day.HB.mk [(e 1).int, (e 2).int, (e 3).int, (e 4).int, (e 5).int, (e 6).int, (e 7).int, (e 8).int] (e 9).int (e 10).int (e 11).int (e 12).int) → ∀ r1, r1 = Day.IN (e 0).int z0 (Day.Ls.mk (e 13) (e 14).int) → (Day.Ak (e 0).int z0 && Day.Cg (e 0).int (Day.Ls.mk (e 13) (e 14).int)) = true →
  ((e 45).bool = true ∧ (e 41).bool = true ∧ (e 28).bool = true ∧ (e 20).bool = true ∧ (e 15).bool = true) ∧ (((r1)).a 0 = (e 49).int ∧ ((r1)).a 1 = (e 50).int ∧ ((r1)).a 2 = (e 51).int ∧ ((r1)).a 3 = (e 52).int ∧ ((r1)).a 4 = (e 53).int ∧ ((r1)).a 5 = (e 54).int ∧ ((r1)).a 6 = (e 55).int ∧ ((r1)).a 7 = (e 56).int ∧ ((r1)).port = (e 57).int ∧ ((r1)).age = (e 58).int ∧ ((r1)).hold = (e 11).int ∧ ((r1)).pos = (e 12).int ∧ ((Day.DU (e 0).int z0 (Day.Ls.mk (e 13) (e 14).int))).kind = (e 59).int ∧ ((Day.DU (e 0).int z0 (Day.Ls.mk (e 13) (e 14).int))).id = (e 60).int) := by
 intro z0 hz0 r1 hr1 hp
 subst hz0 hr1
 simp only [I6, Ac, Def.q, Bc, L.Ae, L.Aq, L.AE, L.AF, L.ev, A.Ad, A.Ah, A.As, A.AJ, List.map_cons, List.map_nil, Nat.zero_add, Nat.add_zero, and_true, true_and, Nat.reduceAdd, Nat.one_mul] at H
 simp only [C0, C1, CN, A3, De, Dg, Bm, Dw, and_true, true_and] at H
 obtain ⟨q61, ⟨q60, -⟩, ⟨q59, -⟩, ⟨q58, -⟩, ⟨q57, -⟩, ⟨q56, -⟩, ⟨q55, -⟩, ⟨q54, -⟩, ⟨q53, -⟩, ⟨q52, -⟩, ⟨q51, -⟩, ⟨q50, -⟩, ⟨q49, -⟩, q48, q47, q46, q45, q44, q43, q42, q41, q32, q31, q30, q29, q28, q26, q25, q24, q23, ⟨q22, -⟩, q21, q20, q19, q15⟩ := H
 replace q32 := Ace q32
 obtain ⟨q32, q33, q34, q35, q36, q37, q38, q39, q40⟩ := q32
 replace q26 := B0 q26
 obtain ⟨q26, q27⟩ := q26
 replace q15 := Acd q15
 obtain ⟨q15, q16, q17, q18⟩ := q15
 simp only [L.Ae, L.Aq, L.AE, L.AF, L.ev, A.Ad, A.Ah, A.As] at q32 q33 q34 q35 q36 q37 q38 q39 q40 q26 q27 q15 q16 q17 q18
 generalize (e 0).int = x0, (e 1).int = x1, (e 2).int = x2, (e 3).int = x3, (e 4).int = x4, (e 5).int = x5, (e 6).int = x6, (e 7).int = x7, (e 8).int = x8, (e 9).int = x9, (e 10).int = x10, (e 11).int = x11, (e 12).int = x12, e 13 = x13, (e 14).int = x14, (e 15).bool = v15, (e 16).int = v16, (e 17).bool = v17, (e 18).bool = v18, (e 19).bool = v19, (e 20).bool = v20, (e 21).bool = v21, (e 22).int = v22, (e 23).bool = v23, (e 24).bool = v24, (e 25).bool = v25, (e 26).bool = v26, (e 27).int = v27, (e 28).bool = v28, (e 29).bool = v29, (e 30).bool = v30, (e 31).bool = v31, (e 32).bool = v32, (e 33).int = v33, (e 34).int = v34, (e 35).int = v35, (e 36).int = v36, (e 37).int = v37, (e 38).int = v38, (e 39).int = v39, (e 40).int = v40, (e 41).bool = v41, (e 42).bool = v42, (e 43).bool = v43, (e 44).bool = v44, (e 45).bool = v45, (e 48).bool = v48, (e 49).int = v49, (e 50).int = v50, (e 51).int = v51, (e 52).int = v52, (e 53).int = v53, (e 54).int = v54, (e 55).int = v55, (e 56).int = v56, (e 57).int = v57, (e 58).int = v58, (e 59).int = v59, (e 60).int = v60, (e 61).bool = v61 at *
 replace q46 := congrArg A.int q46
 generalize (e 46).int = v46 at *
 replace q47 := congrArg A.int q47
 generalize (e 47).int = v47 at *
 generalize hH : (Day.HB.mk [x1, x2, x3, x4, x5, x6, x7, x8] x9 x10 x11 x12) = h at *
 have g0 : x1 = h.a 0 ∧ x2 = h.a 1 ∧ x3 = h.a 2 ∧ x4 = h.a 3 ∧ x5 = h.a 4 ∧ x6 = h.a 5 ∧ x7 = h.a 6 ∧ x8 = h.a 7 ∧ x9 = h.port ∧ x10 = h.age ∧ x11 = h.hold ∧ x12 = h.pos := by subst hH; simp [Day.HB.a]
 obtain ⟨a1, a2, a3, a4, a5, a6, a7, a8, a9, a10, a11, a12⟩ := g0
 clear hH
 generalize hq : Day.Ls.mk x13 x14 = q at *
 have hn0 : x14 = q.n := by rw [← hq]
 have hk : ∀ p, q.k p = (x13.A5.getD (2 * p.toNat) (.i 0)).int := fun p => by rw [← hq]; rfl
 have hd : ∀ p, q.d p = (x13.A5.getD (1 + 2 * p.toNat) (.i 0)).int := fun p => by rw [← hq]; rfl
 clear hq
 simp only [Bool.and_eq_true] at hp
 obtain ⟨hr, hf⟩ := hp
 obtain ⟨f1, f2, f3⟩ := Day.Hk hf
 have hok := Day.AeZ hf
 have hb := Day.Cd hr
 have hR : Day.right x0 = true := by simp [Day.right, f2]
 have hI : Day.Be 0 x0 = true := by rw [Day.Au]; omega
 have hlo : Day.Yr x0 0 = true := by rw [Day.IL]; omega
 have h27 : v27 = 2 * x0 := by rw [q27]; simp [Day.times, hR]
 clear q27
 rw [← hk] at q46
 rw [← hd] at q47
 clear hk hd
 have hx : x14 = x0 := hn0.trans f1
 clear hn0
 simp only [hx] at *
 cases hA : Day.FJ (Day.BH q) 0 x0 with
 | true =>
  obtain ⟨s1, s2, s3, s4⟩ := Day.SH hA
  have hkp : q.k (Day.AW (Day.BH q) 0 x0) = 1 := by simpa [Day.BH] using s3
  rw [hA] at q17 q18
  by_cases c : h.age ≤ 2 * x0
  ·have n1 : ¬ (2 * x0 < h.age) := by omega
   have n2 : ¬ Day.AW (Day.BH q) 0 x0 < 0 := by omega
   subst_vars
   simp [Day.IN, Day.DU, Day.P3, hA, c, n1, n2, Day.Nx, Day.AS, Day.HB.a, Day.B3, hok, hI]
  ·have n1 : 2 * x0 < h.age := by omega
   have n2 : ¬ Day.AW (Day.BH q) 0 x0 < 0 := by omega
   subst_vars
   simp [Day.IN, Day.DU, Day.P3, hA, c, n1, n2, Day.AD, Day.AS, Day.HB.a, Day.B3, hok, hI, hlo, hkp, s1, s2]
 | false =>
  have n0 := Day.YE hA
  rw [hA] at q17 q18
  subst_vars
  simp [Day.IN, Day.DU, Day.P3, hA, n0, Day.Nx, Day.AS, Day.HB.a, Day.B3, hok, hI]
def Jd : Lp := ⟨10, [false, true, false, true], 1640, 4, 2, 1, ⟨Ii 51 [(0, .pv (.one (.k (.int .i64 (V 0))))), (1, .pv (.one (.k (.fsl 0 (V 1))))), (4, .pv (.one (.k (.bool (B false))))), (5, .pv (.one (.k (.int .i64 (V 2)))))], [⟨false, 0, 0, [], some ⟨false, 0, [.int .i64, .int .i64], V 3, V 1⟩⟩], B true⟩, [(.ret, ⟨Ii 51 [(0, .pv (.one (.k (.int .i64 (V 0))))), (1, .pv (.one (.k (.fsl 0 (V 1))))), (4, .pv (.one (.k (.bool (B false)))))], [⟨false, 0, 0, [], some ⟨false, 0, [.int .i64, .int .i64], V 3, V 1⟩⟩], V 4⟩), (.exit 0, ⟨Ii 51 [(0, .pv (.one (.k (.int .i64 (V 0))))), (1, .pv (.one (.k (.fsl 0 (V 1))))), (4, .pv (.one (.k (.bool (B false)))))], [⟨false, 0, 0, [], some ⟨false, 0, [.int .i64, .int .i64], V 3, V 1⟩⟩], V 5⟩)], [true, true, false, true], [.b, .b]⟩
def N2 : G := ⟨40, [⟨39, .and, [V 4, V 37]⟩, ⟨38, .and, [V 4, V 34]⟩, ⟨37, .and, [V 36, V 33]⟩, ⟨36, .not, [V 34]⟩, ⟨35, (.ar .add .i64), [V 2, N 1]⟩, ⟨34, .and, [V 30, V 32]⟩, ⟨33, .and, [V 29, V 31]⟩, ⟨32, .and, [V 4, V 30]⟩, ⟨31, .and, [V 4, V 29]⟩, ⟨30, .not, [V 29]⟩, ⟨29, .iteB, [V 14, V 28, B false]⟩, ⟨28, .iteB, [V 22, B true, V 27]⟩, ⟨27, (.cmp .neq), [V 10, V 2]⟩, ⟨26, .imp, [V 25, V 7]⟩, ⟨25, .and, [V 24, V 14]⟩, ⟨24, .and, [V 4, V 23]⟩, ⟨23, .not, [V 22]⟩, ⟨22, .iteB, [V 17, V 21, B false]⟩, ⟨21, (.cmp .neq), [V 9, N 2]⟩, ⟨20, .imp, [V 19, V 7]⟩, ⟨19, .and, [V 18, V 14]⟩, ⟨18, .and, [V 4, V 17]⟩, ⟨17, (.cmp .neq), [V 9, N 1]⟩, ⟨16, .imp, [V 15, V 7]⟩, ⟨15, .and, [V 4, V 14]⟩, ⟨14, .not, [V 13]⟩, ⟨13, .and, [V 12, V 11]⟩, ⟨12, (.cmp .eql), [V 9, N 0]⟩, ⟨11, (.cmp .eql), [V 10, N 0]⟩, ⟨10, (.pix 1 2), [V 3, V 2]⟩, ⟨9, (.pix 0 2), [V 3, V 2]⟩, ⟨8, .imp, [V 4, V 7]⟩, ⟨7, .and, [V 6, V 4]⟩, ⟨6, (.cmp .leq), [N 0, V 2]⟩, ⟨5, .not, [V 4]⟩, ⟨4, (.cmp .lss), [V 2, V 1]⟩], [V 26, V 20, V 16, V 8], []⟩
def Aam (al : List A) : Nat := (((Day.Ls.mk (ge al 3) (gi al 1))).n - (gi al 2)).toNat
theorem Y0 (e : Nat → A) (H : Ac T e N2.defs) (hp : (Day.Ls.ok (Day.Ls.mk (e 3) (e 1).int) && Day.Be (e 2).int ((Day.Ls.mk (e 3) (e 1).int)).n) = true) :
  ((e 26).bool = true ∧ (e 20).bool = true ∧ (e 16).bool = true ∧ (e 8).bool = true) ∧ ((e 38).bool = true → (Day.Ls.ok (Day.Ls.mk (e 3) (e 1).int) && Day.Be (e 35).int ((Day.Ls.mk (e 3) (e 1).int)).n) = true ∧ ((!Day.D0 (Day.DC (Day.Ls.mk (e 3) (e 1).int)) (e 35).int ((Day.Ls.mk (e 3) (e 1).int)).n) = (!Day.D0 (Day.DC (Day.Ls.mk (e 3) (e 1).int)) (e 2).int ((Day.Ls.mk (e 3) (e 1).int)).n) ∧ Day.D0 (Day.DC (Day.Ls.mk (e 3) (e 1).int)) (e 35).int ((Day.Ls.mk (e 3) (e 1).int)).n = Day.D0 (Day.DC (Day.Ls.mk (e 3) (e 1).int)) (e 2).int ((Day.Ls.mk (e 3) (e 1).int)).n) ∧ (((Day.Ls.mk (e 3) (e 1).int)).n - (e 35).int).toNat < (((Day.Ls.mk (e 3) (e 1).int)).n - (e 2).int).toNat) ∧ ((e 39).bool = true → true = (!Day.D0 (Day.DC (Day.Ls.mk (e 3) (e 1).int)) (e 2).int ((Day.Ls.mk (e 3) (e 1).int)).n)) ∧ ((e 5).bool = true → true = Day.D0 (Day.DC (Day.Ls.mk (e 3) (e 1).int)) (e 2).int ((Day.Ls.mk (e 3) (e 1).int)).n) := by
 simp only [N2, Ac, Def.q, Bc, L.Ae, L.Aq, L.AE, L.AF, L.ev, A.Ad, A.Ah, A.As, A.AJ, List.map_cons, List.map_nil, Nat.zero_add, Nat.add_zero, and_true, true_and, Nat.reduceAdd, Nat.one_mul] at H
 simp only [C0, C1, CN, A3, De, Dg, Bm, Dw, and_true, true_and] at H
 obtain ⟨q39, q38, q37, q36, ⟨q35, -⟩, q34, q33, q32, q31, q30, q29, q28, q27, q26, q25, q24, q23, q22, q21, q20, q19, q18, q17, q16, q15, q14, q13, q12, q11, q10, q9, q8, q7, q6, q5, q4⟩ := H
 generalize (e 0).int = x0, (e 1).int = x1, (e 2).int = x2, e 3 = x3, (e 4).bool = v4, (e 5).bool = v5, (e 6).bool = v6, (e 7).bool = v7, (e 8).bool = v8, (e 11).bool = v11, (e 12).bool = v12, (e 13).bool = v13, (e 14).bool = v14, (e 15).bool = v15, (e 16).bool = v16, (e 17).bool = v17, (e 18).bool = v18, (e 19).bool = v19, (e 20).bool = v20, (e 21).bool = v21, (e 22).bool = v22, (e 23).bool = v23, (e 24).bool = v24, (e 25).bool = v25, (e 26).bool = v26, (e 27).bool = v27, (e 28).bool = v28, (e 29).bool = v29, (e 30).bool = v30, (e 31).bool = v31, (e 32).bool = v32, (e 33).bool = v33, (e 34).bool = v34, (e 35).int = v35, (e 36).bool = v36, (e 37).bool = v37, (e 38).bool = v38, (e 39).bool = v39 at *
 replace q9 := congrArg A.int q9
 generalize (e 9).int = v9 at *
 replace q10 := congrArg A.int q10
 generalize (e 10).int = v10 at *
 generalize hq : Day.Ls.mk x3 x1 = q at *
 have hn : x1 = q.n := by rw [← hq]
 have hk : q.k x2 = (x3.A5.getD (2 * x2.toNat) (.i 0)).int := by rw [← hq]; rfl
 have hd : q.d x2 = (x3.A5.getD (1 + 2 * x2.toNat) (.i 0)).int := by rw [← hq]; rfl
 rw [← hk] at q9
 rw [← hd] at q10
 clear hk hd hq
 simp only [Bool.and_eq_true, Day.Au, Day.Ls.ok, decide_eq_true_eq] at hp ⊢
 by_cases hlt : x2 < q.n
 ·have st := Day.OX (f := Day.DC q) hlt
  have w : IntKind.wrap .i64 (x2 + 1) = x2 + 1 := wrap64 (by omega) (by omega)
  have fb : v29 = !Day.DC q x2 := by
   subst_vars
   simp only [Day.DC, bne]
   cases (q.k x2 == 0) <;> cases (q.d x2 == 0) <;> cases (q.k x2 == 1) <;> cases (q.k x2 == 2) <;> cases (q.d x2 == x2) <;> rfl
  clear q28 q29
  subst_vars
  simp [st, w, hlt, hp]
  cases Day.DC q x2 <;> simp <;> omega
 ·have st := Day.SE (f := Day.DC q) hlt
  subst_vars
  simp [st, hlt, hp]
theorem Aan (as : List A) (e : Nat → A) (h1 : as = (List.range 4).map e) (h2 : (KC as).1 = true) (H : Ac T e N2.defs) : Ct e N2.obs ∧
   (∀ pc ls, some (V 38, [V 0, V 1, V 35, V 3]) = some (pc, ls) → (pc.ev e).bool = true → (KC (ls.map (L.ev e))).1 = true ∧ (KC (ls.map (L.ev e))).2 = (KC as).2 ∧ Aam (ls.map (L.ev e)) < Aam as) ∧
   ∀ x ∈ ([(V 39, [some (B true), none]), (V 5, [none, some (B true)])] : List (L × List (Option L))), (x.1.ev e).bool = true → ∀ (j : Nat) l, x.2[j]? = some (some l) → Gl (Jd.tags.getD j .any) (l.ev e) ((KC as).2.getD j (.i 0)) := by
 subst h1
 obtain ⟨ho, h⟩ := Y0 e H h2
 refine ⟨⟨ho.1, ho.2.1, ho.2.2.1, ho.2.2.2, trivial⟩, fun pc ls hb hpc => ?_, ?_⟩
 ·injection hb with hb
  injection hb with h3 h4
  subst h3 h4
  have h := h.1 hpc
  refine ⟨h.1, ?_, h.2.2⟩
  have h5 := h.2.1
  obtain ⟨z0, z1⟩ := h5
  exact (JB z0 (JB z1 rfl))
 ·intro x hx hpc j l hj
  simp only [List.mem_cons, List.not_mem_nil, or_false] at hx
  rcases hx with rfl | rfl
  ·have h := h.2.1 hpc
   have z0 := h
   match j, hj with
   | 0, hj => cases hj; exact z0
   | 1, hj => cases hj
   | _ + 2, hj => cases hj
  ·have h := h.2.2 hpc
   have z1 := h
   match j, hj with
   | 0, hj => cases hj
   | 1, hj => cases hj; exact z1
   | _ + 2, hj => cases hj
def Je : G := ⟨17, [⟨16, .iteB, [V 5, V 5, V 4]⟩, ⟨15, .iteB, [V 5, V 13, B false]⟩, ⟨14, .not, [V 5]⟩, ⟨13, .iteB, [V 9, V 12, B false]⟩, ⟨12, (.cmp .eql), [V 2, V 0]⟩, ⟨11, .and, [V 5, V 9]⟩, ⟨10, .imp, [V 5, V 8]⟩, ⟨8, (.call 18), [V 0]⟩, ⟨7, .not, [V 6]⟩, ⟨6, .and, [V 4, V 5]⟩, ⟨3, (.call 1640), [V 0, V 2, N 0, V 1]⟩], [V 10, V 7, V 3], []⟩
theorem QR (e : Nat → A) (H : Ac T e Je.defs) (hp : (Day.Ls.ok (Day.Ls.mk (e 1) (e 2).int)) = true) :
  ((e 10).bool = true ∧ (e 7).bool = true ∧ (e 3).bool = true) ∧ (Day.Cg (e 0).int (Day.Ls.mk (e 1) (e 2).int) = (e 15).bool) := by
 simp only [Je, Ac, Def.q, Bc, L.Ae, L.Aq, L.AE, L.AF, L.ev, A.Ad, A.Ah, A.As, A.AJ, List.map_cons, List.map_nil, Nat.zero_add, Nat.add_zero, and_true, true_and, Nat.reduceAdd, Nat.one_mul] at H
 simp only [C0, C1, CN, A3, De, Dg, Bm, Dw, and_true, true_and] at H
 obtain ⟨q16, q15, q14, q13, q12, q11, q10, q8, q7, q6, q3⟩ := H
 replace q8 := C5 q8
 obtain ⟨q8, q9⟩ := q8
 replace q3 := Ab9 q3
 obtain ⟨q3, q4, q5⟩ := q3
 simp only [L.Ae, L.Aq, L.AE, L.AF, L.ev, A.Ad, A.Ah, A.As] at q8 q9 q3 q4 q5
 generalize (e 0).int = x0, e 1 = x1, (e 2).int = x2, (e 3).bool = v3, (e 4).bool = v4, (e 5).bool = v5, (e 6).bool = v6, (e 7).bool = v7, (e 8).bool = v8, (e 9).bool = v9, (e 10).bool = v10, (e 11).bool = v11, (e 12).bool = v12, (e 13).bool = v13, (e 14).bool = v14, (e 15).bool = v15, (e 16).bool = v16 at *
 generalize hq : Day.Ls.mk x1 x2 = q at *
 have hn : x2 = q.n := by rw [← hq]
 clear hq
 have hI : Day.Be 0 q.n = true := by
  simp only [Day.Ls.ok, Bool.and_eq_true, decide_eq_true_eq] at hp
  rw [Day.Au]; omega
 subst_vars
 simp only [hp, hI, Day.Cg, bne]
 cases Day.right x0 <;> cases (q.n == x0) <;> cases Day.D0 (Day.DC q) 0 q.n <;> simp
def Gz : G := ⟨68, [⟨67, .iteB, [V 16, V 50, V 15]⟩, ⟨66, .iteI, [V 16, V 49, N 0]⟩, ⟨65, .iteI, [V 16, V 48, N 0]⟩, ⟨64, .iteI, [V 16, V 10, N 0]⟩, ⟨63, .iteI, [V 16, V 9, N 0]⟩, ⟨62, .iteI, [V 16, V 8, N 0]⟩, ⟨61, .iteI, [V 16, V 7, N 0]⟩, ⟨60, .iteI, [V 16, V 6, N 0]⟩, ⟨59, .iteI, [V 16, V 5, N 0]⟩, ⟨58, .iteI, [V 16, V 4, N 0]⟩, ⟨57, .iteI, [V 16, V 3, N 0]⟩, ⟨56, .iteI, [V 16, V 2, N 0]⟩, ⟨55, .iteI, [V 16, V 1, N 0]⟩, ⟨54, .iteI, [V 16, V 49, V 12]⟩, ⟨53, .iteI, [V 16, V 48, V 11]⟩, ⟨52, .iteI, [V 16, N 0, N 1]⟩, ⟨51, .not, [V 16]⟩, ⟨50, .iteB, [V 34, V 34, V 35]⟩, ⟨49, .iteI, [V 34, V 33, V 12]⟩, ⟨48, .iteI, [V 34, V 46, V 11]⟩, ⟨47, .not, [V 34]⟩, ⟨46, .iteI, [V 39, V 44, V 11]⟩, ⟨45, .imp, [V 41, V 43]⟩, ⟨43, (.call 20), [V 0]⟩, ⟨42, .and, [V 34, V 40]⟩, ⟨41, .and, [V 34, V 39]⟩, ⟨40, .not, [V 39]⟩, ⟨39, (.cmp .geq), [V 37, N 2]⟩, ⟨38, .imp, [V 34, V 36]⟩, ⟨36, (.call 65), [V 0, V 1, V 2, V 3, V 4, V 5, V 6, V 7, V 8, V 9, V 10, V 11, V 33, V 33]⟩, ⟨35, .and, [V 17, V 32]⟩, ⟨34, .iteB, [V 17, V 30, V 20]⟩, ⟨33, .iteI, [V 17, V 22, V 12]⟩, ⟨32, .and, [V 31, V 29]⟩, ⟨31, .not, [V 30]⟩, ⟨30, .and, [V 26, V 28]⟩, ⟨29, .and, [V 25, V 27]⟩, ⟨28, .and, [V 19, V 26]⟩, ⟨27, .and, [V 19, V 25]⟩, ⟨26, .not, [V 25]⟩, ⟨25, (.cmp .lss), [V 23, N 2]⟩, ⟨24, .imp, [V 19, V 21]⟩, ⟨21, (.call 64), [V 0, V 1, V 2, V 3, V 4, V 5, V 6, V 7, V 8, V 9, V 10, V 11, V 12]⟩, ⟨20, .and, [V 16, V 18]⟩, ⟨19, .and, [V 16, V 17]⟩, ⟨18, .not, [V 17]⟩, ⟨17, (.cmp .eql), [V 11, N 0]⟩, ⟨16, .not, [V 15]⟩, ⟨15, .not, [V 14]⟩, ⟨13, (.call 8), [V 0, V 1, V 2, V 3, V 4, V 5, V 6, V 7, V 8, V 9, V 10, V 11, V 12]⟩], [V 45, V 38, V 24, V 13], []⟩
theorem N6 (e : Nat → A) (H : Ac T e Gz.defs) : ∀ z0, z0 = (Day.HB.mk [(e 1).int, (e 2).int, (e 3).int, (e 4).int, (e 5).int, (e 6).int, (e 7).int, (e 8).int] (e 9).int (e 10).int (e 11).int (e 12).int) → ∀ r1, r1 = Day.BE (e 0).int z0 → (Day.HB.i64 z0) = true →
  ((e 45).bool = true ∧ (e 38).bool = true ∧ (e 24).bool = true ∧ (e 13).bool = true) ∧ (((r1)).a 0 = (e 55).int ∧ ((r1)).a 1 = (e 56).int ∧ ((r1)).a 2 = (e 57).int ∧ ((r1)).a 3 = (e 58).int ∧ ((r1)).a 4 = (e 59).int ∧ ((r1)).a 5 = (e 60).int ∧ ((r1)).a 6 = (e 61).int ∧ ((r1)).a 7 = (e 62).int ∧ ((r1)).port = (e 63).int ∧ ((r1)).age = (e 64).int ∧ ((r1)).hold = (e 65).int ∧ ((r1)).pos = (e 66).int ∧ Day.BZ (e 0).int z0 = (e 52).int) := by
 intro z0 hz0 r1 hr1 hp
 subst hz0 hr1
 simp only [Gz, Ac, Def.q, Bc, L.Ae, L.Aq, L.AE, L.AF, L.ev, A.Ad, A.Ah, A.As, A.AJ, List.map_cons, List.map_nil, Nat.zero_add, Nat.add_zero, and_true, true_and, Nat.reduceAdd, Nat.one_mul] at H
 simp only [C0, C1, CN, A3, De, Dg, Bm, Dw, and_true, true_and] at H
 obtain ⟨q67, ⟨q66, -⟩, ⟨q65, -⟩, ⟨q64, -⟩, ⟨q63, -⟩, ⟨q62, -⟩, ⟨q61, -⟩, ⟨q60, -⟩, ⟨q59, -⟩, ⟨q58, -⟩, ⟨q57, -⟩, ⟨q56, -⟩, ⟨q55, -⟩, ⟨q54, -⟩, ⟨q53, -⟩, ⟨q52, -⟩, q51, q50, ⟨q49, -⟩, ⟨q48, -⟩, q47, ⟨q46, -⟩, q45, q43, q42, q41, q40, q39, q38, q36, q35, q34, ⟨q33, -⟩, q32, q31, q30, q29, q28, q27, q26, q25, q24, q21, q20, q19, q18, q17, q16, q15, q13⟩ := H
 replace q43 := Bk q43
 obtain ⟨q43, q44⟩ := q43
 replace q36 := DV q36 _ rfl
 obtain ⟨q36, q37⟩ := q36
 replace q21 := Tb q21 _ rfl
 obtain ⟨q21, q22, q23⟩ := q21
 replace q13 := By q13 _ rfl
 obtain ⟨q13, q14⟩ := q13
 simp only [L.Ae, L.Aq, L.AE, L.AF, L.ev, A.Ad, A.Ah, A.As] at q43 q44 q36 q37 q21 q22 q23 q13 q14
 generalize (e 0).int = x0, (e 1).int = x1, (e 2).int = x2, (e 3).int = x3, (e 4).int = x4, (e 5).int = x5, (e 6).int = x6, (e 7).int = x7, (e 8).int = x8, (e 9).int = x9, (e 10).int = x10, (e 11).int = x11, (e 12).int = x12, (e 13).bool = v13, (e 14).bool = v14, (e 15).bool = v15, (e 16).bool = v16, (e 17).bool = v17, (e 18).bool = v18, (e 19).bool = v19, (e 20).bool = v20, (e 21).bool = v21, (e 22).int = v22, (e 23).int = v23, (e 24).bool = v24, (e 25).bool = v25, (e 26).bool = v26, (e 27).bool = v27, (e 28).bool = v28, (e 29).bool = v29, (e 30).bool = v30, (e 31).bool = v31, (e 32).bool = v32, (e 33).int = v33, (e 34).bool = v34, (e 35).bool = v35, (e 36).bool = v36, (e 37).int = v37, (e 38).bool = v38, (e 39).bool = v39, (e 40).bool = v40, (e 41).bool = v41, (e 42).bool = v42, (e 43).bool = v43, (e 44).int = v44, (e 45).bool = v45, (e 46).int = v46, (e 47).bool = v47, (e 48).int = v48, (e 49).int = v49, (e 50).bool = v50, (e 51).bool = v51, (e 52).int = v52, (e 53).int = v53, (e 54).int = v54, (e 55).int = v55, (e 56).int = v56, (e 57).int = v57, (e 58).int = v58, (e 59).int = v59, (e 60).int = v60, (e 61).int = v61, (e 62).int = v62, (e 63).int = v63, (e 64).int = v64, (e 65).int = v65, (e 66).int = v66, (e 67).bool = v67 at *
 generalize hH : (Day.HB.mk [x1, x2, x3, x4, x5, x6, x7, x8] x9 x10 x11 x12) = h at *
 have g0 : x1 = h.a 0 ∧ x2 = h.a 1 ∧ x3 = h.a 2 ∧ x4 = h.a 3 ∧ x5 = h.a 4 ∧ x6 = h.a 5 ∧ x7 = h.a 6 ∧ x8 = h.a 7 ∧ x9 = h.port ∧ x10 = h.age ∧ x11 = h.hold ∧ x12 = h.pos := by subst hH; simp [Day.HB.a]
 obtain ⟨a1, a2, a3, a4, a5, a6, a7, a8, a9, a10, a11, a12⟩ := g0
 clear hH
 cases hr : Day.Ak x0 h with
 | false =>
  have hR : True := trivial
  rw [hr] at q14
  subst_vars
  simp [Day.BE, Day.DT, Day.CZ, Day.BZ, hr, hp, Day.AS, Day.times, hR, Day.HB.a, Day.Bp]
 | true =>
  have hn := Day.BK hr
  have hR : Day.right x0 = true := by simp [Day.right, hn]
  rw [hr] at q14
  have hb := Day.Cd hr
  have br := Day.SD hr
  have bk := Day.YC hr
  have v1 := Day.V3 (v := h.pos) hr hb.2.2.2.2.1 hb.2.2.2.2.2
  have v2 := Day.V3 (k := 0) (v := Day.Eb x0 h) hr (by omega) br
  rw [← bk] at v2
  simp only [Day.AS, Day.HB.a, List.getD_eq_getElem?_getD] at v1 v2
  subst_vars
  by_cases c0 : h.hold = 0
  ·by_cases c2 : 2 ≤ Day.Ec x0 h
   ·simp [v1, v2, Day.BE, Day.DT, Day.CZ, Day.BZ, hr, hp, Day.AS, Day.times, hR, Day.HB.a, Day.Bp, c0, c2]
   ·simp [v1, v2, Day.BE, Day.DT, Day.CZ, Day.BZ, hr, hp, Day.AS, Day.times, hR, Day.HB.a, Day.Bp, c0, c2]
  ·by_cases c2 : 2 ≤ Day.Cu x0 h h.pos
   ·simp [v1, v2, Day.BE, Day.DT, Day.CZ, Day.BZ, hr, hp, Day.AS, Day.times, hR, Day.HB.a, Day.Bp, c0, c2]
   ·simp [v1, v2, Day.BE, Day.DT, Day.CZ, Day.BZ, hr, hp, Day.AS, Day.times, hR, Day.HB.a, Day.Bp, c0, c2]
def Jo : Lp := ⟨46, [false, true, false, true, true, true], 1680, 26, 8, 3, ⟨Ii 33 [(0, .pv (.one (.k (.int .i64 (V 0))))), (1, .pv (.agg [.k (.int .i64 (V 1)), .k (.int .i64 (V 2)), .k (.int .i64 (V 3)), .k (.int .i64 (V 4)), .k (.int .i64 (V 5)), .k (.int .i64 (V 6)), .k (.int .i64 (V 7)), .k (.int .i64 (V 8)), .k (.int .i64 (V 9)), .k (.int .i64 (V 10)), .k (.int .i64 (V 11)), .k (.int .i64 (V 12))])), (2, .pv (.one (.k (.fsl 0 (V 13))))), (4, .pv (.one (.k (.ptr 1 0)))), (6, .pv (.one (.k (.ptr 2 0)))), (7, .pv (.one (.k (.int .i64 (N 0))))), (8, .pv (.one (.k (.int .i64 (V 14))))), (9, .pv (.one (.k (.int .i64 (V 15))))), (10, .pv (.one (.k (.int .i64 (V 0))))), (11, .pv (.agg [.k (.int .i64 (V 1)), .k (.int .i64 (V 2)), .k (.int .i64 (V 3)), .k (.int .i64 (V 4)), .k (.int .i64 (V 5)), .k (.int .i64 (V 6)), .k (.int .i64 (V 7)), .k (.int .i64 (V 8)), .k (.int .i64 (V 9)), .k (.int .i64 (V 10)), .k (.int .i64 (V 11)), .k (.int .i64 (V 12))])), (12, .pv (.one (.k (.fsl 0 (V 13))))), (13, .pv (.one (.k (.int .i64 (V 14))))), (14, .pv (.one (.k (.int .i64 (V 14))))), (15, .pv (.one (.k (.bool (V 16)))))], [⟨false, 0, 0, [], some ⟨false, 0, [.int .i64, .int .i64], V 17, V 13⟩⟩, ⟨true, 24, 12, [.k (.int .i64 (V 18)), .k (.int .i64 (V 19)), .k (.int .i64 (V 20)), .k (.int .i64 (V 21)), .k (.int .i64 (V 22)), .k (.int .i64 (V 23)), .k (.int .i64 (V 24)), .k (.int .i64 (V 25)), .k (.int .i64 (V 9)), .k (.int .i64 (V 10)), .k (.int .i64 (V 11)), .k (.int .i64 (V 12))], none⟩, ⟨true, 24, 12, [.k (.int .i64 (N 0)), .k (.int .i64 (N 0)), .k (.int .i64 (N 0)), .k (.int .i64 (N 0)), .k (.int .i64 (N 0)), .k (.int .i64 (N 0)), .k (.int .i64 (N 0)), .k (.int .i64 (N 0)), .k (.int .i64 (N 0)), .k (.int .i64 (N 0)), .k (.int .i64 (N 0)), .k (.int .i64 (N 0))], none⟩], B true⟩, [(.exit 0, ⟨Ii 33 [(0, .pv (.one (.k (.int .i64 (V 0))))), (1, .pv (.agg [.k (.int .i64 (V 1)), .k (.int .i64 (V 2)), .k (.int .i64 (V 3)), .k (.int .i64 (V 4)), .k (.int .i64 (V 5)), .k (.int .i64 (V 6)), .k (.int .i64 (V 7)), .k (.int .i64 (V 8)), .k (.int .i64 (V 9)), .k (.int .i64 (V 10)), .k (.int .i64 (V 11)), .k (.int .i64 (V 12))])), (2, .pv (.one (.k (.fsl 0 (V 13))))), (4, .pv (.one (.k (.ptr 1 0)))), (6, .pv (.one (.k (.ptr 2 0)))), (7, .pv (.one (.k (.int .i64 (N 0))))), (8, .pv (.one (.k (.int .i64 (V 14))))), (10, .pv (.one (.k (.int .i64 (V 0))))), (11, .pv (.agg [.k (.int .i64 (V 1)), .k (.int .i64 (V 2)), .k (.int .i64 (V 3)), .k (.int .i64 (V 4)), .k (.int .i64 (V 5)), .k (.int .i64 (V 6)), .k (.int .i64 (V 7)), .k (.int .i64 (V 8)), .k (.int .i64 (V 9)), .k (.int .i64 (V 10)), .k (.int .i64 (V 11)), .k (.int .i64 (V 12))])), (12, .pv (.one (.k (.fsl 0 (V 13))))), (13, .pv (.one (.k (.int .i64 (V 14))))), (14, .pv (.one (.k (.int .i64 (V 14))))), (15, .pv (.one (.k (.bool (V 16)))))], [⟨false, 0, 0, [], some ⟨false, 0, [.int .i64, .int .i64], V 17, V 13⟩⟩, ⟨true, 24, 12, [.k (.int .i64 (V 26)), .k (.int .i64 (V 27)), .k (.int .i64 (V 28)), .k (.int .i64 (V 29)), .k (.int .i64 (V 30)), .k (.int .i64 (V 31)), .k (.int .i64 (V 32)), .k (.int .i64 (V 33)), .k (.int .i64 (V 9)), .k (.int .i64 (V 10)), .k (.int .i64 (V 11)), .k (.int .i64 (V 12))], none⟩, ⟨true, 24, 12, [.k (.int .i64 (N 0)), .k (.int .i64 (N 0)), .k (.int .i64 (N 0)), .k (.int .i64 (N 0)), .k (.int .i64 (N 0)), .k (.int .i64 (N 0)), .k (.int .i64 (N 0)), .k (.int .i64 (N 0)), .k (.int .i64 (N 0)), .k (.int .i64 (N 0)), .k (.int .i64 (N 0)), .k (.int .i64 (N 0))], none⟩], B true⟩)], [true, true, true, true, true, true, true, true, true, true, true, true, true, true, true, false, true, true, false, false, false, false, false, false, false, false], [.i, .i, .i, .i, .i, .i, .i, .i]⟩
def Oc : G := ⟨57, [⟨56, (.ar .add .i64), [V 15, N 1]⟩, ⟨55, .iteI, [V 33, V 47, V 25]⟩, ⟨54, .iteI, [V 33, V 46, V 24]⟩, ⟨53, .iteI, [V 33, V 45, V 23]⟩, ⟨52, .iteI, [V 33, V 44, V 22]⟩, ⟨51, .iteI, [V 33, V 43, V 21]⟩, ⟨50, .iteI, [V 33, V 42, V 20]⟩, ⟨49, .iteI, [V 33, V 41, V 19]⟩, ⟨48, .iteI, [V 33, V 40, V 18]⟩, ⟨40, .upd, [V 15, N 0, V 18, V 19, V 20, V 21, V 22, V 23, V 24, V 25]⟩, ⟨39, .imp, [V 35, V 38]⟩, ⟨38, .and, [V 28, V 37]⟩, ⟨37, (.cmp .lss), [V 15, N 8]⟩, ⟨36, .and, [V 26, V 34]⟩, ⟨35, .and, [V 26, V 33]⟩, ⟨34, .not, [V 33]⟩, ⟨33, (.cmp .eql), [V 32, N 2]⟩, ⟨32, (.pix 0 2), [V 17, V 15]⟩, ⟨31, .imp, [V 26, V 30]⟩, ⟨30, .and, [V 28, V 29]⟩, ⟨29, (.cmp .lss), [V 15, V 13]⟩, ⟨28, (.cmp .leq), [N 0, V 15]⟩, ⟨27, .not, [V 26]⟩, ⟨26, (.cmp .lss), [V 15, V 0]⟩], [V 39, V 31], []⟩
def Aaw (al : List A) : Nat := ((gi al 0) - (gi al 15)).toNat
theorem Y5 (e : Nat → A) (H : Ac T e Oc.defs) (hp : (Day.Be (e 15).int (e 0).int && Day.Be (e 0).int 8 && ((Day.Ls.mk (e 17) (e 13).int)).n == (e 0).int) = true) :
  ((e 39).bool = true ∧ (e 31).bool = true) ∧ ((e 26).bool = true → (Day.Be (e 56).int (e 0).int && Day.Be (e 0).int 8 && ((Day.Ls.mk (e 17) (e 13).int)).n == (e 0).int) = true ∧ (Day.Az ((Day.Ls.mk (e 17) (e 13).int)).n (Day.Ls.mk (e 17) (e 13).int) (e 56).int 0 (e 48).int = Day.Az ((Day.Ls.mk (e 17) (e 13).int)).n (Day.Ls.mk (e 17) (e 13).int) (e 15).int 0 (e 18).int ∧ Day.Az ((Day.Ls.mk (e 17) (e 13).int)).n (Day.Ls.mk (e 17) (e 13).int) (e 56).int 1 (e 49).int = Day.Az ((Day.Ls.mk (e 17) (e 13).int)).n (Day.Ls.mk (e 17) (e 13).int) (e 15).int 1 (e 19).int ∧ Day.Az ((Day.Ls.mk (e 17) (e 13).int)).n (Day.Ls.mk (e 17) (e 13).int) (e 56).int 2 (e 50).int = Day.Az ((Day.Ls.mk (e 17) (e 13).int)).n (Day.Ls.mk (e 17) (e 13).int) (e 15).int 2 (e 20).int ∧ Day.Az ((Day.Ls.mk (e 17) (e 13).int)).n (Day.Ls.mk (e 17) (e 13).int) (e 56).int 3 (e 51).int = Day.Az ((Day.Ls.mk (e 17) (e 13).int)).n (Day.Ls.mk (e 17) (e 13).int) (e 15).int 3 (e 21).int ∧ Day.Az ((Day.Ls.mk (e 17) (e 13).int)).n (Day.Ls.mk (e 17) (e 13).int) (e 56).int 4 (e 52).int = Day.Az ((Day.Ls.mk (e 17) (e 13).int)).n (Day.Ls.mk (e 17) (e 13).int) (e 15).int 4 (e 22).int ∧ Day.Az ((Day.Ls.mk (e 17) (e 13).int)).n (Day.Ls.mk (e 17) (e 13).int) (e 56).int 5 (e 53).int = Day.Az ((Day.Ls.mk (e 17) (e 13).int)).n (Day.Ls.mk (e 17) (e 13).int) (e 15).int 5 (e 23).int ∧ Day.Az ((Day.Ls.mk (e 17) (e 13).int)).n (Day.Ls.mk (e 17) (e 13).int) (e 56).int 6 (e 54).int = Day.Az ((Day.Ls.mk (e 17) (e 13).int)).n (Day.Ls.mk (e 17) (e 13).int) (e 15).int 6 (e 24).int ∧ Day.Az ((Day.Ls.mk (e 17) (e 13).int)).n (Day.Ls.mk (e 17) (e 13).int) (e 56).int 7 (e 55).int = Day.Az ((Day.Ls.mk (e 17) (e 13).int)).n (Day.Ls.mk (e 17) (e 13).int) (e 15).int 7 (e 25).int) ∧ ((e 0).int - (e 56).int).toNat < ((e 0).int - (e 15).int).toNat) ∧ ((e 27).bool = true → (e 18).int = Day.Az ((Day.Ls.mk (e 17) (e 13).int)).n (Day.Ls.mk (e 17) (e 13).int) (e 15).int 0 (e 18).int ∧ (e 19).int = Day.Az ((Day.Ls.mk (e 17) (e 13).int)).n (Day.Ls.mk (e 17) (e 13).int) (e 15).int 1 (e 19).int ∧ (e 20).int = Day.Az ((Day.Ls.mk (e 17) (e 13).int)).n (Day.Ls.mk (e 17) (e 13).int) (e 15).int 2 (e 20).int ∧ (e 21).int = Day.Az ((Day.Ls.mk (e 17) (e 13).int)).n (Day.Ls.mk (e 17) (e 13).int) (e 15).int 3 (e 21).int ∧ (e 22).int = Day.Az ((Day.Ls.mk (e 17) (e 13).int)).n (Day.Ls.mk (e 17) (e 13).int) (e 15).int 4 (e 22).int ∧ (e 23).int = Day.Az ((Day.Ls.mk (e 17) (e 13).int)).n (Day.Ls.mk (e 17) (e 13).int) (e 15).int 5 (e 23).int ∧ (e 24).int = Day.Az ((Day.Ls.mk (e 17) (e 13).int)).n (Day.Ls.mk (e 17) (e 13).int) (e 15).int 6 (e 24).int ∧ (e 25).int = Day.Az ((Day.Ls.mk (e 17) (e 13).int)).n (Day.Ls.mk (e 17) (e 13).int) (e 15).int 7 (e 25).int) := by
 simp only [Oc, Ac, Def.q, Bc, L.Ae, L.Aq, L.AE, L.AF, L.ev, A.Ad, A.Ah, A.As, A.AJ, List.map_cons, List.map_nil, Nat.zero_add, Nat.add_zero, and_true, true_and, Nat.reduceAdd, Nat.one_mul] at H
 simp only [C0, C1, CN, A3, De, Dg, Bm, Dw, and_true, true_and] at H
 obtain ⟨⟨q56, -⟩, ⟨q55, -⟩, ⟨q54, -⟩, ⟨q53, -⟩, ⟨q52, -⟩, ⟨q51, -⟩, ⟨q50, -⟩, ⟨q49, -⟩, ⟨q48, -⟩, ⟨q40, q41, q42, q43, q44, q45, q46, q47⟩, q39, q38, q37, q36, q35, q34, q33, q32, q31, q30, q29, q28, q27, q26⟩ := H
 generalize (e 0).int = x0, (e 1).int = x1, (e 2).int = x2, (e 3).int = x3, (e 4).int = x4, (e 5).int = x5, (e 6).int = x6, (e 7).int = x7, (e 8).int = x8, (e 9).int = x9, (e 10).int = x10, (e 11).int = x11, (e 12).int = x12, (e 13).int = x13, (e 14).int = x14, (e 15).int = x15, (e 16).int = x16, e 17 = x17, (e 18).int = x18, (e 19).int = x19, (e 20).int = x20, (e 21).int = x21, (e 22).int = x22, (e 23).int = x23, (e 24).int = x24, (e 25).int = x25, (e 26).bool = v26, (e 27).bool = v27, (e 28).bool = v28, (e 29).bool = v29, (e 30).bool = v30, (e 31).bool = v31, (e 33).bool = v33, (e 34).bool = v34, (e 35).bool = v35, (e 36).bool = v36, (e 37).bool = v37, (e 38).bool = v38, (e 39).bool = v39, (e 40).int = v40, (e 41).int = v41, (e 42).int = v42, (e 43).int = v43, (e 44).int = v44, (e 45).int = v45, (e 46).int = v46, (e 47).int = v47, (e 48).int = v48, (e 49).int = v49, (e 50).int = v50, (e 51).int = v51, (e 52).int = v52, (e 53).int = v53, (e 54).int = v54, (e 55).int = v55, (e 56).int = v56 at *
 replace q32 := congrArg A.int q32
 generalize (e 32).int = v32 at *
 generalize hq : Day.Ls.mk x17 x13 = q at *
 have hn : x13 = q.n := by rw [← hq]
 have hk : q.k x15 = (x17.A5.getD (2 * x15.toNat) (.i 0)).int := by rw [← hq]; rfl
 rw [← hk] at q32
 clear hk hq
 simp only [Bool.and_eq_true, Day.Au, beq_iff_eq] at hp ⊢
 obtain ⟨hp, rfl⟩ := hp
 by_cases hlt : x15 < q.n
 ·have w : IntKind.wrap .i64 (x15 + 1) = x15 + 1 := wrap64 (by omega) (by omega)
  have st := fun (j : Nat) (x : Int) => Day.SI (n := q.n) (q := q) (x := x) j (p := x15) ⟨by omega, hlt⟩
  have s0 := st 0; have s1 := st 1; have s2 := st 2; have s3 := st 3; have s4 := st 4; have s5 := st 5; have s6 := st 6; have s7 := st 7
  subst_vars
  simp only [w]
  refine ⟨by simp; omega, fun _ => ⟨by first | omega | (simp only [and_true]; omega), ⟨s0 _, s1 _, s2 _, s3 _, s4 _, s5 _, s6 _, s7 _⟩, by omega⟩, fun h => ?_⟩
  simp [hlt] at h
 ·have st := fun (j : Int) (x : Int) => Day.V4 (n := q.n) (q := q) (x := x) (j := j) (p := x15) (by omega)
  subst_vars
  simp [st, hlt]
  try omega
theorem Aax (as : List A) (e : Nat → A) (h1 : as = (List.range 26).map e) (h2 : (KE as).1 = true) (H : Ac T e Oc.defs) : Ct e Oc.obs ∧
   (∀ pc ls, some (V 26, [V 0, V 1, V 2, V 3, V 4, V 5, V 6, V 7, V 8, V 9, V 10, V 11, V 12, V 13, V 14, V 56, V 16, V 17, V 48, V 49, V 50, V 51, V 52, V 53, V 54, V 55]) = some (pc, ls) → (pc.ev e).bool = true → (KE (ls.map (L.ev e))).1 = true ∧ (KE (ls.map (L.ev e))).2 = (KE as).2 ∧ Aaw (ls.map (L.ev e)) < Aaw as) ∧
   ∀ x ∈ ([(V 27, [some (V 18), some (V 19), some (V 20), some (V 21), some (V 22), some (V 23), some (V 24), some (V 25)])] : List (L × List (Option L))), (x.1.ev e).bool = true → ∀ (j : Nat) l, x.2[j]? = some (some l) → Gl (Jo.tags.getD j .any) (l.ev e) ((KE as).2.getD j (.i 0)) := by
 subst h1
 obtain ⟨ho, h⟩ := Y5 e H h2
 refine ⟨⟨ho.1, ho.2, trivial⟩, fun pc ls hb hpc => ?_, ?_⟩
 ·injection hb with hb
  injection hb with h3 h4
  subst h3 h4
  have h := h.1 hpc
  refine ⟨h.1, ?_, h.2.2⟩
  have h5 := h.2.1
  obtain ⟨z0, z1, z2, z3, z4, z5, z6, z7⟩ := h5
  exact (AU z0 (AU z1 (AU z2 (AU z3 (AU z4 (AU z5 (AU z6 (AU z7 rfl))))))))
 ·intro x hx hpc j l hj
  simp only [List.mem_cons, List.not_mem_nil, or_false] at hx
  rcases hx with rfl
  ·have h := h.2 hpc
   obtain ⟨z0, z1, z2, z3, z4, z5, z6, z7⟩ := h
   match j, hj with
   | 0, hj => cases hj; exact z0
   | 1, hj => cases hj; exact z1
   | 2, hj => cases hj; exact z2
   | 3, hj => cases hj; exact z3
   | 4, hj => cases hj; exact z4
   | 5, hj => cases hj; exact z5
   | 6, hj => cases hj; exact z6
   | 7, hj => cases hj; exact z7
   | _ + 8, hj => cases hj
def Jp : G := ⟨52, [⟨51, .iteB, [V 18, V 18, V 17]⟩, ⟨50, .iteI, [V 18, V 12, N 0]⟩, ⟨49, .iteI, [V 18, V 11, N 0]⟩, ⟨48, .iteI, [V 18, V 10, N 0]⟩, ⟨47, .iteI, [V 18, V 9, N 0]⟩, ⟨46, .iteI, [V 18, V 27, N 0]⟩, ⟨45, .iteI, [V 18, V 26, N 0]⟩, ⟨44, .iteI, [V 18, V 25, N 0]⟩, ⟨43, .iteI, [V 18, V 24, N 0]⟩, ⟨42, .iteI, [V 18, V 23, N 0]⟩, ⟨41, .iteI, [V 18, V 22, N 0]⟩, ⟨40, .iteI, [V 18, V 21, N 0]⟩, ⟨39, .iteI, [V 18, V 20, N 0]⟩, ⟨38, .iteI, [V 18, V 27, V 8]⟩, ⟨37, .iteI, [V 18, V 26, V 7]⟩, ⟨36, .iteI, [V 18, V 25, V 6]⟩, ⟨35, .iteI, [V 18, V 24, V 5]⟩, ⟨34, .iteI, [V 18, V 23, V 4]⟩, ⟨33, .iteI, [V 18, V 22, V 3]⟩, ⟨32, .iteI, [V 18, V 21, V 2]⟩, ⟨31, .iteI, [V 18, V 20, V 1]⟩, ⟨30, .iteI, [V 18, N 0, V 16]⟩, ⟨29, .not, [V 18]⟩, ⟨28, .imp, [V 18, V 19]⟩, ⟨19, (.call 1680), [V 0, V 1, V 2, V 3, V 4, V 5, V 6, V 7, V 8, V 9, V 10, V 11, V 12, V 14, V 16, N 0, V 17, V 13, V 1, V 2, V 3, V 4, V 5, V 6, V 7, V 8]⟩, ⟨18, .not, [V 17]⟩, ⟨17, (.cmp .neq), [V 16, N 0]⟩, ⟨15, (.call 63), [V 0, V 1, V 2, V 3, V 4, V 5, V 6, V 7, V 8, V 9, V 10, V 11, V 12, V 13, V 14]⟩], [V 28, V 15], []⟩
theorem Q0 (e : Nat → A) (H : Ac T e Jp.defs) : ∀ z0, z0 = (Day.HB.mk [(e 1).int, (e 2).int, (e 3).int, (e 4).int, (e 5).int, (e 6).int, (e 7).int, (e 8).int] (e 9).int (e 10).int (e 11).int (e 12).int) → ∀ r1, r1 = Day.Ee (e 0).int z0 (Day.Ls.mk (e 13) (e 14).int) → (Day.HB.i64 z0 && Day.Ls.ok (Day.Ls.mk (e 13) (e 14).int)) = true →
  ((e 28).bool = true ∧ (e 15).bool = true) ∧ (((r1)).a 0 = (e 39).int ∧ ((r1)).a 1 = (e 40).int ∧ ((r1)).a 2 = (e 41).int ∧ ((r1)).a 3 = (e 42).int ∧ ((r1)).a 4 = (e 43).int ∧ ((r1)).a 5 = (e 44).int ∧ ((r1)).a 6 = (e 45).int ∧ ((r1)).a 7 = (e 46).int ∧ ((r1)).port = (e 47).int ∧ ((r1)).age = (e 48).int ∧ ((r1)).hold = (e 49).int ∧ ((r1)).pos = (e 50).int ∧ Day.Bh (e 0).int z0 (Day.Ls.mk (e 13) (e 14).int) = (e 30).int) := by
 intro z0 hz0 r1 hr1 hp
 subst hz0 hr1
 simp only [Jp, Ac, Def.q, Bc, L.Ae, L.Aq, L.AE, L.AF, L.ev, A.Ad, A.Ah, A.As, A.AJ, List.map_cons, List.map_nil, Nat.zero_add, Nat.add_zero, and_true, true_and, Nat.reduceAdd, Nat.one_mul] at H
 simp only [C0, C1, CN, A3, De, Dg, Bm, Dw, and_true, true_and] at H
 obtain ⟨q51, ⟨q50, -⟩, ⟨q49, -⟩, ⟨q48, -⟩, ⟨q47, -⟩, ⟨q46, -⟩, ⟨q45, -⟩, ⟨q44, -⟩, ⟨q43, -⟩, ⟨q42, -⟩, ⟨q41, -⟩, ⟨q40, -⟩, ⟨q39, -⟩, ⟨q38, -⟩, ⟨q37, -⟩, ⟨q36, -⟩, ⟨q35, -⟩, ⟨q34, -⟩, ⟨q33, -⟩, ⟨q32, -⟩, ⟨q31, -⟩, ⟨q30, -⟩, q29, q28, q19, q18, q17, q15⟩ := H
 replace q19 := Acb q19
 obtain ⟨q19, q20, q21, q22, q23, q24, q25, q26, q27⟩ := q19
 replace q15 := JF q15 _ rfl
 obtain ⟨q15, q16⟩ := q15
 simp only [L.Ae, L.Aq, L.AE, L.AF, L.ev, A.Ad, A.Ah, A.As] at q19 q20 q21 q22 q23 q24 q25 q26 q27 q15 q16
 generalize (e 0).int = x0, (e 1).int = x1, (e 2).int = x2, (e 3).int = x3, (e 4).int = x4, (e 5).int = x5, (e 6).int = x6, (e 7).int = x7, (e 8).int = x8, (e 9).int = x9, (e 10).int = x10, (e 11).int = x11, (e 12).int = x12, e 13 = x13, (e 14).int = x14, (e 15).bool = v15, (e 16).int = v16, (e 17).bool = v17, (e 18).bool = v18, (e 19).bool = v19, (e 20).int = v20, (e 21).int = v21, (e 22).int = v22, (e 23).int = v23, (e 24).int = v24, (e 25).int = v25, (e 26).int = v26, (e 27).int = v27, (e 28).bool = v28, (e 29).bool = v29, (e 30).int = v30, (e 31).int = v31, (e 32).int = v32, (e 33).int = v33, (e 34).int = v34, (e 35).int = v35, (e 36).int = v36, (e 37).int = v37, (e 38).int = v38, (e 39).int = v39, (e 40).int = v40, (e 41).int = v41, (e 42).int = v42, (e 43).int = v43, (e 44).int = v44, (e 45).int = v45, (e 46).int = v46, (e 47).int = v47, (e 48).int = v48, (e 49).int = v49, (e 50).int = v50, (e 51).bool = v51 at *
 generalize hH : (Day.HB.mk [x1, x2, x3, x4, x5, x6, x7, x8] x9 x10 x11 x12) = h at *
 have g0 : x1 = h.a 0 ∧ x2 = h.a 1 ∧ x3 = h.a 2 ∧ x4 = h.a 3 ∧ x5 = h.a 4 ∧ x6 = h.a 5 ∧ x7 = h.a 6 ∧ x8 = h.a 7 ∧ x9 = h.port ∧ x10 = h.age ∧ x11 = h.hold ∧ x12 = h.pos := by subst hH; simp [Day.HB.a]
 obtain ⟨a1, a2, a3, a4, a5, a6, a7, a8, a9, a10, a11, a12⟩ := g0
 clear hH
 generalize hq : Day.Ls.mk x13 x14 = q at *
 have hn0 : x14 = q.n := by rw [← hq]
 have hk : ∀ p, q.k p = (x13.A5.getD (2 * p.toNat) (.i 0)).int := fun p => by rw [← hq]; rfl
 have hd : ∀ p, q.d p = (x13.A5.getD (1 + 2 * p.toNat) (.i 0)).int := fun p => by rw [← hq]; rfl
 clear hq
 simp only [Bool.and_eq_true] at hp
 by_cases hg : Day.Bh x0 h q = 0
 ·obtain ⟨hr, hf⟩ := Day.CI.1 hg
  obtain ⟨f1, f2, f3⟩ := Day.Hk hf
  have hI : Day.Be 0 x0 = true := by rw [Day.Au]; omega
  have hI2 : Day.Be x0 8 = true := by rw [Day.Au]; omega
  clear hk hd
  subst_vars
  simp [hp, hg, hI, hI2, Day.Ee, Day.AS, Day.HB.a, Day.Az]
 ·clear hk hd
  subst_vars
  simp [hp, hg, Day.Ee, Day.Bp, Day.HB.a]
def Hz : G := ⟨34, [⟨33, .iteB, [V 18, V 30, V 17]⟩, ⟨32, .iteI, [V 18, V 29, N 1]⟩, ⟨31, .not, [V 18]⟩, ⟨30, .iteB, [V 27, V 27, V 26]⟩, ⟨29, .iteI, [V 27, N 0, N 2]⟩, ⟨28, .not, [V 27]⟩, ⟨27, .and, [V 23, V 25]⟩, ⟨26, .and, [V 22, V 24]⟩, ⟨25, .and, [V 18, V 23]⟩, ⟨24, .and, [V 18, V 22]⟩, ⟨23, .not, [V 22]⟩, ⟨22, .not, [V 20]⟩, ⟨21, .imp, [V 18, V 19]⟩, ⟨19, (.call 10), [V 0, V 13, V 14]⟩, ⟨18, .not, [V 17]⟩, ⟨17, .not, [V 16]⟩, ⟨15, (.call 8), [V 0, V 1, V 2, V 3, V 4, V 5, V 6, V 7, V 8, V 9, V 10, V 11, V 12]⟩], [V 21, V 15], []⟩
theorem Pu (e : Nat → A) (H : Ac T e Hz.defs) : ∀ z0, z0 = (Day.HB.mk [(e 1).int, (e 2).int, (e 3).int, (e 4).int, (e 5).int, (e 6).int, (e 7).int, (e 8).int] (e 9).int (e 10).int (e 11).int (e 12).int) → (Day.Ls.ok (Day.Ls.mk (e 13) (e 14).int)) = true →
  ((e 21).bool = true ∧ (e 15).bool = true) ∧ (Day.Bh (e 0).int z0 (Day.Ls.mk (e 13) (e 14).int) = (e 32).int) := by
 intro z0 hz0 hp
 subst hz0
 simp only [Hz, Ac, Def.q, Bc, L.Ae, L.Aq, L.AE, L.AF, L.ev, A.Ad, A.Ah, A.As, A.AJ, List.map_cons, List.map_nil, Nat.zero_add, Nat.add_zero, and_true, true_and, Nat.reduceAdd, Nat.one_mul] at H
 simp only [C0, C1, CN, A3, De, Dg, Bm, Dw, and_true, true_and] at H
 obtain ⟨q33, ⟨q32, -⟩, q31, q30, ⟨q29, -⟩, q28, q27, q26, q25, q24, q23, q22, q21, q19, q18, q17, q15⟩ := H
 replace q19 := Ev q19
 obtain ⟨q19, q20⟩ := q19
 replace q15 := By q15 _ rfl
 obtain ⟨q15, q16⟩ := q15
 simp only [L.Ae, L.Aq, L.AE, L.AF, L.ev, A.Ad, A.Ah, A.As] at q19 q20 q15 q16
 generalize (e 0).int = x0, (e 1).int = x1, (e 2).int = x2, (e 3).int = x3, (e 4).int = x4, (e 5).int = x5, (e 6).int = x6, (e 7).int = x7, (e 8).int = x8, (e 9).int = x9, (e 10).int = x10, (e 11).int = x11, (e 12).int = x12, e 13 = x13, (e 14).int = x14, (e 15).bool = v15, (e 16).bool = v16, (e 17).bool = v17, (e 18).bool = v18, (e 19).bool = v19, (e 20).bool = v20, (e 21).bool = v21, (e 22).bool = v22, (e 23).bool = v23, (e 24).bool = v24, (e 25).bool = v25, (e 26).bool = v26, (e 27).bool = v27, (e 28).bool = v28, (e 29).int = v29, (e 30).bool = v30, (e 31).bool = v31, (e 32).int = v32, (e 33).bool = v33 at *
 generalize hH : (Day.HB.mk [x1, x2, x3, x4, x5, x6, x7, x8] x9 x10 x11 x12) = h at *
 have g0 : x1 = h.a 0 ∧ x2 = h.a 1 ∧ x3 = h.a 2 ∧ x4 = h.a 3 ∧ x5 = h.a 4 ∧ x6 = h.a 5 ∧ x7 = h.a 6 ∧ x8 = h.a 7 ∧ x9 = h.port ∧ x10 = h.age ∧ x11 = h.hold ∧ x12 = h.pos := by subst hH; simp [Day.HB.a]
 obtain ⟨a1, a2, a3, a4, a5, a6, a7, a8, a9, a10, a11, a12⟩ := g0
 clear hH
 generalize hq : Day.Ls.mk x13 x14 = q at *
 have hn0 : x14 = q.n := by rw [← hq]
 have hk : ∀ p, q.k p = (x13.A5.getD (2 * p.toNat) (.i 0)).int := fun p => by rw [← hq]; rfl
 have hd : ∀ p, q.d p = (x13.A5.getD (1 + 2 * p.toNat) (.i 0)).int := fun p => by rw [← hq]; rfl
 clear hq
 try simp only [Bool.and_eq_true] at hp
 clear hk hd
 subst_vars
 simp only [hp, Day.Bh]
 cases Day.Ak x0 h <;> cases Day.Cg x0 q <;> simp
def Jq : Lp := ⟨48, [false, true, false, true, true, true, true], 1720, 19, 22, 4, ⟨Ii 79 [(0, .pv (.one (.k (.int .i64 (V 0))))), (1, .pv (.agg [.k (.int .i64 (V 1)), .k (.int .i64 (V 2)), .k (.int .i64 (V 3)), .k (.int .i64 (V 4)), .k (.int .i64 (V 5)), .k (.int .i64 (V 6)), .k (.int .i64 (V 7)), .k (.int .i64 (V 8)), .k (.int .i64 (V 9)), .k (.int .i64 (V 10)), .k (.int .i64 (V 11)), .k (.int .i64 (V 12))])), (2, .pv (.one (.k (.fsl 0 (V 13))))), (4, .pv (.one (.k (.ptr 1 0)))), (6, .pv (.one (.k (.ptr 2 0)))), (7, .pv (.one (.k (.ptr 3 0)))), (8, .pv (.one (.k (.int .i64 (N 0))))), (9, .pv (.one (.k (.int .i64 (V 14))))), (10, .pv (.one (.k (.int .i64 (V 15))))), (13, .pv (.one (.k (.int .i64 (V 0))))), (14, .pv (.agg [.k (.int .i64 (V 1)), .k (.int .i64 (V 2)), .k (.int .i64 (V 3)), .k (.int .i64 (V 4)), .k (.int .i64 (V 5)), .k (.int .i64 (V 6)), .k (.int .i64 (V 7)), .k (.int .i64 (V 8)), .k (.int .i64 (V 9)), .k (.int .i64 (V 10)), .k (.int .i64 (V 11)), .k (.int .i64 (V 12))])), (15, .pv (.one (.k (.fsl 0 (V 13))))), (16, .pv (.one (.k (.int .i64 (V 14))))), (17, .pv (.one (.k (.int .i64 (V 14))))), (18, .pv (.one (.k (.bool (V 16))))), (22, .pv (.one (.k (.ptr 1 10)))), (23, .pv (.one (.k (.int .i64 (V 11))))), (24, .pv (.one (.k (.bool (V 17)))))], [⟨false, 0, 0, [], some ⟨false, 0, [.int .i64, .int .i64], V 18, V 13⟩⟩, ⟨true, 24, 12, [.k (.int .i64 (V 1)), .k (.int .i64 (V 2)), .k (.int .i64 (V 3)), .k (.int .i64 (V 4)), .k (.int .i64 (V 5)), .k (.int .i64 (V 6)), .k (.int .i64 (V 7)), .k (.int .i64 (V 8)), .k (.int .i64 (V 9)), .k (.int .i64 (V 10)), .k (.int .i64 (V 11)), .k (.int .i64 (V 12))], none⟩, ⟨true, 24, 12, [.k (.int .i64 (N 0)), .k (.int .i64 (N 0)), .k (.int .i64 (N 0)), .k (.int .i64 (N 0)), .k (.int .i64 (N 0)), .k (.int .i64 (N 0)), .k (.int .i64 (N 0)), .k (.int .i64 (N 0)), .k (.int .i64 (N 0)), .k (.int .i64 (N 0)), .k (.int .i64 (N 0)), .k (.int .i64 (N 0))], none⟩, ⟨true, 32, 2, [.k (.int .i64 (N 0)), .k (.int .i64 (N 0))], none⟩], B true⟩, [(.ret, ⟨Ii 79 [(0, .pv (.one (.k (.int .i64 (V 0))))), (1, .pv (.agg [.k (.int .i64 (V 1)), .k (.int .i64 (V 2)), .k (.int .i64 (V 3)), .k (.int .i64 (V 4)), .k (.int .i64 (V 5)), .k (.int .i64 (V 6)), .k (.int .i64 (V 7)), .k (.int .i64 (V 8)), .k (.int .i64 (V 9)), .k (.int .i64 (V 10)), .k (.int .i64 (V 11)), .k (.int .i64 (V 12))])), (2, .pv (.one (.k (.fsl 0 (V 13))))), (4, .pv (.one (.k (.ptr 1 0)))), (6, .pv (.one (.k (.ptr 2 0)))), (7, .pv (.one (.k (.ptr 3 0)))), (8, .pv (.one (.k (.int .i64 (N 0))))), (9, .pv (.one (.k (.int .i64 (V 14))))), (13, .pv (.one (.k (.int .i64 (V 0))))), (14, .pv (.agg [.k (.int .i64 (V 1)), .k (.int .i64 (V 2)), .k (.int .i64 (V 3)), .k (.int .i64 (V 4)), .k (.int .i64 (V 5)), .k (.int .i64 (V 6)), .k (.int .i64 (V 7)), .k (.int .i64 (V 8)), .k (.int .i64 (V 9)), .k (.int .i64 (V 10)), .k (.int .i64 (V 11)), .k (.int .i64 (V 12))])), (15, .pv (.one (.k (.fsl 0 (V 13))))), (16, .pv (.one (.k (.int .i64 (V 14))))), (17, .pv (.one (.k (.int .i64 (V 14))))), (18, .pv (.one (.k (.bool (V 16))))), (22, .pv (.one (.k (.ptr 1 10)))), (23, .pv (.one (.k (.int .i64 (V 11))))), (24, .pv (.one (.k (.bool (V 17)))))], [⟨false, 0, 0, [], some ⟨false, 0, [.int .i64, .int .i64], V 18, V 13⟩⟩, ⟨true, 24, 12, [.k (.int .i64 (V 19)), .k (.int .i64 (V 20)), .k (.int .i64 (V 21)), .k (.int .i64 (V 22)), .k (.int .i64 (V 23)), .k (.int .i64 (V 24)), .k (.int .i64 (V 25)), .k (.int .i64 (V 26)), .k (.int .i64 (V 27)), .k (.int .i64 (N 0)), .k (.int .i64 (V 11)), .k (.int .i64 (V 12))], none⟩, ⟨true, 24, 12, [.k (.int .i64 (V 28)), .k (.int .i64 (V 29)), .k (.int .i64 (V 30)), .k (.int .i64 (V 31)), .k (.int .i64 (V 32)), .k (.int .i64 (V 33)), .k (.int .i64 (V 34)), .k (.int .i64 (V 35)), .k (.int .i64 (V 36)), .k (.int .i64 (N 0)), .k (.int .i64 (V 11)), .k (.int .i64 (V 12))], none⟩, ⟨true, 32, 2, [.k (.int .i64 (V 37)), .k (.int .i64 (V 38))], none⟩], V 39⟩), (.exit 0, ⟨Ii 79 [(0, .pv (.one (.k (.int .i64 (V 0))))), (1, .pv (.agg [.k (.int .i64 (V 1)), .k (.int .i64 (V 2)), .k (.int .i64 (V 3)), .k (.int .i64 (V 4)), .k (.int .i64 (V 5)), .k (.int .i64 (V 6)), .k (.int .i64 (V 7)), .k (.int .i64 (V 8)), .k (.int .i64 (V 9)), .k (.int .i64 (V 10)), .k (.int .i64 (V 11)), .k (.int .i64 (V 12))])), (2, .pv (.one (.k (.fsl 0 (V 13))))), (4, .pv (.one (.k (.ptr 1 0)))), (6, .pv (.one (.k (.ptr 2 0)))), (7, .pv (.one (.k (.ptr 3 0)))), (8, .pv (.one (.k (.int .i64 (N 0))))), (9, .pv (.one (.k (.int .i64 (V 14))))), (13, .pv (.one (.k (.int .i64 (V 0))))), (14, .pv (.agg [.k (.int .i64 (V 1)), .k (.int .i64 (V 2)), .k (.int .i64 (V 3)), .k (.int .i64 (V 4)), .k (.int .i64 (V 5)), .k (.int .i64 (V 6)), .k (.int .i64 (V 7)), .k (.int .i64 (V 8)), .k (.int .i64 (V 9)), .k (.int .i64 (V 10)), .k (.int .i64 (V 11)), .k (.int .i64 (V 12))])), (15, .pv (.one (.k (.fsl 0 (V 13))))), (16, .pv (.one (.k (.int .i64 (V 14))))), (17, .pv (.one (.k (.int .i64 (V 14))))), (18, .pv (.one (.k (.bool (V 16))))), (22, .pv (.one (.k (.ptr 1 10)))), (23, .pv (.one (.k (.int .i64 (V 11))))), (24, .pv (.one (.k (.bool (V 17)))))], [⟨false, 0, 0, [], some ⟨false, 0, [.int .i64, .int .i64], V 18, V 13⟩⟩, ⟨true, 24, 12, [.k (.int .i64 (V 1)), .k (.int .i64 (V 2)), .k (.int .i64 (V 3)), .k (.int .i64 (V 4)), .k (.int .i64 (V 5)), .k (.int .i64 (V 6)), .k (.int .i64 (V 7)), .k (.int .i64 (V 8)), .k (.int .i64 (V 9)), .k (.int .i64 (V 10)), .k (.int .i64 (V 11)), .k (.int .i64 (V 12))], none⟩, ⟨true, 24, 12, [.k (.int .i64 (N 0)), .k (.int .i64 (N 0)), .k (.int .i64 (N 0)), .k (.int .i64 (N 0)), .k (.int .i64 (N 0)), .k (.int .i64 (N 0)), .k (.int .i64 (N 0)), .k (.int .i64 (N 0)), .k (.int .i64 (N 0)), .k (.int .i64 (N 0)), .k (.int .i64 (N 0)), .k (.int .i64 (N 0))], none⟩, ⟨true, 32, 2, [.k (.int .i64 (N 0)), .k (.int .i64 (N 0))], none⟩], V 40⟩)], [true, true, true, true, true, true, true, true, true, true, true, true, true, true, true, false, true, true, true], [.i, .i, .i, .i, .i, .i, .i, .i, .i, .i, .i, .i, .i, .i, .i, .i, .i, .i, .i, .i, .b, .b]⟩
def Oe : G := ⟨59, [⟨58, .and, [V 24, V 56]⟩, ⟨57, .and, [V 24, V 53]⟩, ⟨56, .and, [V 55, V 52]⟩, ⟨55, .not, [V 53]⟩, ⟨54, (.ar .add .i64), [V 15, N 1]⟩, ⟨53, .and, [V 32, V 34]⟩, ⟨52, .and, [V 31, V 33]⟩, ⟨51, (.pix 1 2), [V 18, V 15]⟩, ⟨50, .imp, [V 33, V 28]⟩, ⟨49, .imp, [V 33, V 35]⟩, ⟨35, (.call 14), [V 0]⟩, ⟨34, .and, [V 24, V 32]⟩, ⟨33, .and, [V 24, V 31]⟩, ⟨32, .not, [V 31]⟩, ⟨31, (.cmp .eql), [V 30, N 1]⟩, ⟨30, (.pix 0 2), [V 18, V 15]⟩, ⟨29, .imp, [V 24, V 28]⟩, ⟨28, .and, [V 26, V 27]⟩, ⟨27, (.cmp .lss), [V 15, V 13]⟩, ⟨26, (.cmp .leq), [N 0, V 15]⟩, ⟨25, .not, [V 24]⟩, ⟨24, .iteB, [V 19, V 23, B false]⟩, ⟨23, (.cmp .gtr), [V 10, V 21]⟩, ⟨22, .imp, [V 19, V 20]⟩, ⟨20, (.call 20), [V 0]⟩, ⟨19, (.cmp .lss), [V 15, V 0]⟩], [V 50, V 49, V 29, V 22], []⟩
def Aay (al : List A) : Nat := ((gi al 0) - (gi al 15)).toNat
theorem Y6 (e : Nat → A) (H : Ac T e Oe.defs) (hp : (Day.right (e 0).int && ((Day.Ls.mk (e 18) (e 13).int)).n == (e 0).int && Day.Be (e 15).int (e 0).int) = true) :
  ((e 50).bool = true ∧ (e 49).bool = true ∧ (e 29).bool = true ∧ (e 22).bool = true) ∧ ((e 57).bool = true → (Day.right (e 0).int && ((Day.Ls.mk (e 18) (e 13).int)).n == (e 0).int && Day.Be (e 54).int (e 0).int) = true ∧ ((Day.Al (e 0).int).a 0 = (Day.Al (e 0).int).a 0 ∧ (Day.Al (e 0).int).a 1 = (Day.Al (e 0).int).a 1 ∧ (Day.Al (e 0).int).a 2 = (Day.Al (e 0).int).a 2 ∧ (Day.Al (e 0).int).a 3 = (Day.Al (e 0).int).a 3 ∧ (Day.Al (e 0).int).a 4 = (Day.Al (e 0).int).a 4 ∧ (Day.Al (e 0).int).a 5 = (Day.Al (e 0).int).a 5 ∧ (Day.Al (e 0).int).a 6 = (Day.Al (e 0).int).a 6 ∧ (Day.Al (e 0).int).a 7 = (Day.Al (e 0).int).a 7 ∧ (Day.AW (Day.BH (Day.Ls.mk (e 18) (e 13).int)) (e 54).int (e 0).int) = (Day.AW (Day.BH (Day.Ls.mk (e 18) (e 13).int)) (e 15).int (e 0).int) ∧ (Day.Al (e 0).int).a 0 = (Day.Al (e 0).int).a 0 ∧ (Day.Al (e 0).int).a 1 = (Day.Al (e 0).int).a 1 ∧ (Day.Al (e 0).int).a 2 = (Day.Al (e 0).int).a 2 ∧ (Day.Al (e 0).int).a 3 = (Day.Al (e 0).int).a 3 ∧ (Day.Al (e 0).int).a 4 = (Day.Al (e 0).int).a 4 ∧ (Day.Al (e 0).int).a 5 = (Day.Al (e 0).int).a 5 ∧ (Day.Al (e 0).int).a 6 = (Day.Al (e 0).int).a 6 ∧ (Day.Al (e 0).int).a 7 = (Day.Al (e 0).int).a 7 ∧ (Day.AW (Day.BH (Day.Ls.mk (e 18) (e 13).int)) (e 54).int (e 0).int) = (Day.AW (Day.BH (Day.Ls.mk (e 18) (e 13).int)) (e 15).int (e 0).int) ∧ ((Day.Ls.mk (e 18) (e 13).int)).k (Day.AW (Day.BH (Day.Ls.mk (e 18) (e 13).int)) (e 54).int (e 0).int) = ((Day.Ls.mk (e 18) (e 13).int)).k (Day.AW (Day.BH (Day.Ls.mk (e 18) (e 13).int)) (e 15).int (e 0).int) ∧ ((Day.Ls.mk (e 18) (e 13).int)).d (Day.AW (Day.BH (Day.Ls.mk (e 18) (e 13).int)) (e 54).int (e 0).int) = ((Day.Ls.mk (e 18) (e 13).int)).d (Day.AW (Day.BH (Day.Ls.mk (e 18) (e 13).int)) (e 15).int (e 0).int) ∧ (Day.Fw (e 0).int (Day.Ls.mk (e 18) (e 13).int) (e 54).int (e 10).int) = (Day.Fw (e 0).int (Day.Ls.mk (e 18) (e 13).int) (e 15).int (e 10).int) ∧ (!(Day.Fw (e 0).int (Day.Ls.mk (e 18) (e 13).int) (e 54).int (e 10).int)) = (!(Day.Fw (e 0).int (Day.Ls.mk (e 18) (e 13).int) (e 15).int (e 10).int))) ∧ ((e 0).int - (e 54).int).toNat < ((e 0).int - (e 15).int).toNat) ∧ ((e 58).bool = true → (e 36).int = (Day.Al (e 0).int).a 0 ∧ (e 37).int = (Day.Al (e 0).int).a 1 ∧ (e 38).int = (Day.Al (e 0).int).a 2 ∧ (e 39).int = (Day.Al (e 0).int).a 3 ∧ (e 40).int = (Day.Al (e 0).int).a 4 ∧ (e 41).int = (Day.Al (e 0).int).a 5 ∧ (e 42).int = (Day.Al (e 0).int).a 6 ∧ (e 43).int = (Day.Al (e 0).int).a 7 ∧ (e 15).int = (Day.AW (Day.BH (Day.Ls.mk (e 18) (e 13).int)) (e 15).int (e 0).int) ∧ (e 36).int = (Day.Al (e 0).int).a 0 ∧ (e 37).int = (Day.Al (e 0).int).a 1 ∧ (e 38).int = (Day.Al (e 0).int).a 2 ∧ (e 39).int = (Day.Al (e 0).int).a 3 ∧ (e 40).int = (Day.Al (e 0).int).a 4 ∧ (e 41).int = (Day.Al (e 0).int).a 5 ∧ (e 42).int = (Day.Al (e 0).int).a 6 ∧ (e 43).int = (Day.Al (e 0).int).a 7 ∧ (e 15).int = (Day.AW (Day.BH (Day.Ls.mk (e 18) (e 13).int)) (e 15).int (e 0).int) ∧ (e 30).int = ((Day.Ls.mk (e 18) (e 13).int)).k (Day.AW (Day.BH (Day.Ls.mk (e 18) (e 13).int)) (e 15).int (e 0).int) ∧ (e 51).int = ((Day.Ls.mk (e 18) (e 13).int)).d (Day.AW (Day.BH (Day.Ls.mk (e 18) (e 13).int)) (e 15).int (e 0).int) ∧ true = (Day.Fw (e 0).int (Day.Ls.mk (e 18) (e 13).int) (e 15).int (e 10).int)) ∧ ((e 25).bool = true → true = (!(Day.Fw (e 0).int (Day.Ls.mk (e 18) (e 13).int) (e 15).int (e 10).int))) := by
 simp only [Oe, Ac, Def.q, Bc, L.Ae, L.Aq, L.AE, L.AF, L.ev, A.Ad, A.Ah, A.As, A.AJ, List.map_cons, List.map_nil, Nat.zero_add, Nat.add_zero, and_true, true_and, Nat.reduceAdd, Nat.one_mul] at H
 simp only [C0, C1, CN, A3, De, Dg, Bm, Dw, and_true, true_and] at H
 obtain ⟨q58, q57, q56, q55, ⟨q54, -⟩, q53, q52, q51, q50, q49, q35, q34, q33, q32, q31, q30, q29, q28, q27, q26, q25, q24, q23, q22, q20, q19⟩ := H
 replace q35 := JD q35 _ rfl
 obtain ⟨q35, q36, q37, q38, q39, q40, q41, q42, q43, q44, q45, q46, q47, q48⟩ := q35
 replace q20 := Bk q20
 obtain ⟨q20, q21⟩ := q20
 simp only [L.Ae, L.Aq, L.AE, L.AF, L.ev, A.Ad, A.Ah, A.As] at q35 q36 q37 q38 q39 q40 q41 q42 q43 q44 q45 q46 q47 q48 q20 q21
 generalize (e 0).int = x0, (e 1).int = x1, (e 2).int = x2, (e 3).int = x3, (e 4).int = x4, (e 5).int = x5, (e 6).int = x6, (e 7).int = x7, (e 8).int = x8, (e 9).int = x9, (e 10).int = x10, (e 11).int = x11, (e 12).int = x12, (e 13).int = x13, (e 14).int = x14, (e 15).int = x15, (e 16).int = x16, (e 17).int = x17, e 18 = x18, (e 19).bool = v19, (e 20).bool = v20, (e 21).int = v21, (e 22).bool = v22, (e 23).bool = v23, (e 24).bool = v24, (e 25).bool = v25, (e 26).bool = v26, (e 27).bool = v27, (e 28).bool = v28, (e 29).bool = v29, (e 31).bool = v31, (e 32).bool = v32, (e 33).bool = v33, (e 34).bool = v34, (e 35).bool = v35, (e 36).int = v36, (e 37).int = v37, (e 38).int = v38, (e 39).int = v39, (e 40).int = v40, (e 41).int = v41, (e 42).int = v42, (e 43).int = v43, (e 44).int = v44, (e 45).int = v45, (e 46).int = v46, (e 47).int = v47, (e 48).int = v48, (e 49).bool = v49, (e 50).bool = v50, (e 52).bool = v52, (e 53).bool = v53, (e 54).int = v54, (e 55).bool = v55, (e 56).bool = v56, (e 57).bool = v57, (e 58).bool = v58 at *
 replace q30 := congrArg A.int q30
 generalize (e 30).int = v30 at *
 replace q51 := congrArg A.int q51
 generalize (e 51).int = v51 at *
 generalize hq : Day.Ls.mk x18 x13 = q at *
 have hn : x13 = q.n := by rw [← hq]
 have hk : ∀ p, q.k p = (x18.A5.getD (2 * p.toNat) (.i 0)).int := fun p => by rw [← hq]; rfl
 have hd : ∀ p, q.d p = (x18.A5.getD (1 + 2 * p.toNat) (.i 0)).int := fun p => by rw [← hq]; rfl
 rw [← hk] at q30
 rw [← hd] at q51
 clear hk hd hq
 simp only [Bool.and_eq_true, Day.Au, beq_iff_eq] at hp
 obtain ⟨⟨hR, hqn⟩, hi⟩ := hp
 have hnn : 3 ≤ x0 ∧ x0 ≤ 8 := by simpa [Day.right] using hR
 have h21 : v21 = 2 * x0 := by rw [q21]; simp [Day.times, hR]
 clear q21
 rw [hqn] at hn
 by_cases hlt : x15 < x0
 ·have w : IntKind.wrap .i64 (x15 + 1) = x15 + 1 := wrap64 (by omega) (by omega)
  have st := Day.Kr (f := Day.BH q) hlt
  have st2 := Day.OY (f := Day.BH q) hlt
  have fb : v31 = Day.BH q x15 := by rw [q31, q30]; rfl
  have fk : Day.BH q x15 = true → q.k x15 = 1 := by simp [Day.BH]
  clear q31
  subst_vars
  simp only [st, st2, w]
  by_cases ha : 2 * q.n < x10
  ·cases hc : Day.BH q x15
   ·simp [hlt, ha, hR, Day.Be, Day.Fw, st, st2, hc]
    omega
   ·simp [hlt, ha, hR, Day.Be, Day.Fw, st, st2, hc, fk hc, Day.Al]
    omega
  ·simp [hlt, ha, hR, Day.Be, Day.Fw, st, st2]
 ·have st := Day.SF (f := Day.BH q) hlt
  have st2 := Day.SG (f := Day.BH q) hlt
  subst_vars
  simp [st, st2, hlt, Day.Fw]
theorem Aaz (as : List A) (e : Nat → A) (h1 : as = (List.range 19).map e) (h2 : (KH as).1 = true) (H : Ac T e Oe.defs) : Ct e Oe.obs ∧
   (∀ pc ls, some (V 57, [V 0, V 1, V 2, V 3, V 4, V 5, V 6, V 7, V 8, V 9, V 10, V 11, V 12, V 13, V 14, V 54, V 16, V 17, V 18]) = some (pc, ls) → (pc.ev e).bool = true → (KH (ls.map (L.ev e))).1 = true ∧ (KH (ls.map (L.ev e))).2 = (KH as).2 ∧ Aay (ls.map (L.ev e)) < Aay as) ∧
   ∀ x ∈ ([(V 58, [some (V 36), some (V 37), some (V 38), some (V 39), some (V 40), some (V 41), some (V 42), some (V 43), some (V 15), some (V 36), some (V 37), some (V 38), some (V 39), some (V 40), some (V 41), some (V 42), some (V 43), some (V 15), some (V 30), some (V 51), some (B true), none]), (V 25, [none, none, none, none, none, none, none, none, none, none, none, none, none, none, none, none, none, none, none, none, none, some (B true)])] : List (L × List (Option L))), (x.1.ev e).bool = true → ∀ (j : Nat) l, x.2[j]? = some (some l) → Gl (Jq.tags.getD j .any) (l.ev e) ((KH as).2.getD j (.i 0)) := by
 subst h1
 obtain ⟨ho, h⟩ := Y6 e H h2
 refine ⟨⟨ho.1, ho.2.1, ho.2.2.1, ho.2.2.2, trivial⟩, fun pc ls hb hpc => ?_, ?_⟩
 ·injection hb with hb
  injection hb with h3 h4
  subst h3 h4
  have h := h.1 hpc
  refine ⟨h.1, ?_, h.2.2⟩
  have h5 := h.2.1
  obtain ⟨z0, z1, z2, z3, z4, z5, z6, z7, z8, z9, z10, z11, z12, z13, z14, z15, z16, z17, z18, z19, z20, z21⟩ := h5
  exact (AU z0 (AU z1 (AU z2 (AU z3 (AU z4 (AU z5 (AU z6 (AU z7 (AU z8 (AU z9 (AU z10 (AU z11 (AU z12 (AU z13 (AU z14 (AU z15 (AU z16 (AU z17 (AU z18 (AU z19 (JB z20 (JB z21 rfl))))))))))))))))))))))
 ·intro x hx hpc j l hj
  simp only [List.mem_cons, List.not_mem_nil, or_false] at hx
  rcases hx with rfl | rfl
  ·have h := h.2.1 hpc
   obtain ⟨z0, z1, z2, z3, z4, z5, z6, z7, z8, z9, z10, z11, z12, z13, z14, z15, z16, z17, z18, z19, z20⟩ := h
   match j, hj with
   | 0, hj => cases hj; exact z0
   | 1, hj => cases hj; exact z1
   | 2, hj => cases hj; exact z2
   | 3, hj => cases hj; exact z3
   | 4, hj => cases hj; exact z4
   | 5, hj => cases hj; exact z5
   | 6, hj => cases hj; exact z6
   | 7, hj => cases hj; exact z7
   | 8, hj => cases hj; exact z8
   | 9, hj => cases hj; exact z9
   | 10, hj => cases hj; exact z10
   | 11, hj => cases hj; exact z11
   | 12, hj => cases hj; exact z12
   | 13, hj => cases hj; exact z13
   | 14, hj => cases hj; exact z14
   | 15, hj => cases hj; exact z15
   | 16, hj => cases hj; exact z16
   | 17, hj => cases hj; exact z17
   | 18, hj => cases hj; exact z18
   | 19, hj => cases hj; exact z19
   | 20, hj => cases hj; exact z20
   | 21, hj => cases hj
   | _ + 22, hj => cases hj
  ·have h := h.2.2 hpc
   have z21 := h
   match j, hj with
   | 0, hj => cases hj
   | 1, hj => cases hj
   | 2, hj => cases hj
   | 3, hj => cases hj
   | 4, hj => cases hj
   | 5, hj => cases hj
   | 6, hj => cases hj
   | 7, hj => cases hj
   | 8, hj => cases hj
   | 9, hj => cases hj
   | 10, hj => cases hj
   | 11, hj => cases hj
   | 12, hj => cases hj
   | 13, hj => cases hj
   | 14, hj => cases hj
   | 15, hj => cases hj
   | 16, hj => cases hj
   | 17, hj => cases hj
   | 18, hj => cases hj
   | 19, hj => cases hj
   | 20, hj => cases hj
   | 21, hj => cases hj; exact z21
   | _ + 22, hj => cases hj
def HA : G := ⟨150, [⟨149, .iteB, [V 18, V 121, V 17]⟩, ⟨148, .iteI, [V 18, V 120, N 0]⟩, ⟨147, .iteI, [V 18, V 119, N 0]⟩, ⟨146, .iteI, [V 18, V 12, N 0]⟩, ⟨145, .iteI, [V 18, V 109, N 0]⟩, ⟨144, .iteI, [V 18, V 108, N 0]⟩, ⟨143, .iteI, [V 18, V 118, N 0]⟩, ⟨142, .iteI, [V 18, V 117, N 0]⟩, ⟨141, .iteI, [V 18, V 116, N 0]⟩, ⟨140, .iteI, [V 18, V 115, N 0]⟩, ⟨139, .iteI, [V 18, V 114, N 0]⟩, ⟨138, .iteI, [V 18, V 113, N 0]⟩, ⟨137, .iteI, [V 18, V 112, N 0]⟩, ⟨136, .iteI, [V 18, V 111, N 0]⟩, ⟨135, .iteI, [V 18, V 110, N 0]⟩, ⟨134, .iteI, [V 18, V 109, V 11]⟩, ⟨133, .iteI, [V 18, V 108, V 10]⟩, ⟨132, .iteI, [V 18, V 107, V 9]⟩, ⟨131, .iteI, [V 18, V 106, V 8]⟩, ⟨130, .iteI, [V 18, V 105, V 7]⟩, ⟨129, .iteI, [V 18, V 104, V 6]⟩, ⟨128, .iteI, [V 18, V 103, V 5]⟩, ⟨127, .iteI, [V 18, V 102, V 4]⟩, ⟨126, .iteI, [V 18, V 101, V 3]⟩, ⟨125, .iteI, [V 18, V 100, V 2]⟩, ⟨124, .iteI, [V 18, V 99, V 1]⟩, ⟨123, .iteI, [V 18, N 0, V 16]⟩, ⟨122, .not, [V 18]⟩, ⟨121, .iteB, [V 45, V 97, V 44]⟩, ⟨120, .iteI, [V 45, V 96, V 42]⟩, ⟨119, .iteI, [V 45, V 95, V 41]⟩, ⟨118, .iteI, [V 45, V 94, V 9]⟩, ⟨117, .iteI, [V 45, V 93, V 8]⟩, ⟨116, .iteI, [V 45, V 92, V 7]⟩, ⟨115, .iteI, [V 45, V 91, V 6]⟩, ⟨114, .iteI, [V 45, V 90, V 5]⟩, ⟨113, .iteI, [V 45, V 89, V 4]⟩, ⟨112, .iteI, [V 45, V 88, V 3]⟩, ⟨111, .iteI, [V 45, V 87, V 2]⟩, ⟨110, .iteI, [V 45, V 86, V 1]⟩, ⟨109, .iteI, [V 45, V 11, V 40]⟩, ⟨108, .iteI, [V 45, V 85, V 10]⟩, ⟨107, .iteI, [V 45, V 84, V 9]⟩, ⟨106, .iteI, [V 45, V 83, V 8]⟩, ⟨105, .iteI, [V 45, V 82, V 7]⟩, ⟨104, .iteI, [V 45, V 81, V 6]⟩, ⟨103, .iteI, [V 45, V 80, V 5]⟩, ⟨102, .iteI, [V 45, V 79, V 4]⟩, ⟨101, .iteI, [V 45, V 78, V 3]⟩, ⟨100, .iteI, [V 45, V 77, V 2]⟩, ⟨99, .iteI, [V 45, V 76, V 1]⟩, ⟨98, .not, [V 45]⟩, ⟨97, .iteB, [V 74, V 74, V 73]⟩, ⟨96, .iteI, [V 74, N 0, V 66]⟩, ⟨95, .iteI, [V 74, N 0, V 65]⟩, ⟨94, .iteI, [V 74, V 9, V 64]⟩, ⟨93, .iteI, [V 74, V 8, V 63]⟩, ⟨92, .iteI, [V 74, V 7, V 62]⟩, ⟨91, .iteI, [V 74, V 6, V 61]⟩, ⟨90, .iteI, [V 74, V 5, V 60]⟩, ⟨89, .iteI, [V 74, V 4, V 59]⟩, ⟨88, .iteI, [V 74, V 3, V 58]⟩, ⟨87, .iteI, [V 74, V 2, V 57]⟩, ⟨86, .iteI, [V 74, V 1, V 56]⟩, ⟨85, .iteI, [V 74, V 10, N 0]⟩, ⟨84, .iteI, [V 74, V 9, V 55]⟩, ⟨83, .iteI, [V 74, V 8, V 54]⟩, ⟨82, .iteI, [V 74, V 7, V 53]⟩, ⟨81, .iteI, [V 74, V 6, V 52]⟩, ⟨80, .iteI, [V 74, V 5, V 51]⟩, ⟨79, .iteI, [V 74, V 4, V 50]⟩, ⟨78, .iteI, [V 74, V 3, V 49]⟩, ⟨77, .iteI, [V 74, V 2, V 48]⟩, ⟨76, .iteI, [V 74, V 1, V 47]⟩, ⟨75, .not, [V 74]⟩, ⟨74, .and, [V 45, V 68]⟩, ⟨73, .and, [V 45, V 67]⟩, ⟨72, .imp, [V 45, V 71]⟩, ⟨71, .not, [V 70]⟩, ⟨70, .and, [V 67, V 68]⟩, ⟨69, .imp, [V 45, V 46]⟩, ⟨46, (.call 1720), [V 0, V 1, V 2, V 3, V 4, V 5, V 6, V 7, V 8, V 9, V 10, V 11, V 12, V 14, V 16, N 0, V 17, V 19, V 13]⟩, ⟨45, .and, [V 20, V 22]⟩, ⟨44, .and, [V 19, V 43]⟩, ⟨43, .iteB, [V 33, V 33, V 32]⟩, ⟨42, .iteI, [V 33, V 38, N 0]⟩, ⟨41, .iteI, [V 33, V 27, N 0]⟩, ⟨40, .iteI, [V 33, V 35, V 11]⟩, ⟨39, .not, [V 33]⟩, ⟨38, (.pix 1 2), [V 13, V 12]⟩, ⟨37, .imp, [V 33, V 25]⟩, ⟨36, .imp, [V 33, V 34]⟩, ⟨34, (.call 20), [V 0]⟩, ⟨33, .and, [V 29, V 31]⟩, ⟨32, .and, [V 28, V 30]⟩, ⟨31, .and, [V 21, V 29]⟩, ⟨30, .and, [V 21, V 28]⟩, ⟨29, .not, [V 28]⟩, ⟨28, (.cmp .neq), [V 27, N 2]⟩, ⟨27, (.pix 0 2), [V 13, V 12]⟩, ⟨26, .imp, [V 21, V 25]⟩, ⟨25, .and, [V 23, V 24]⟩, ⟨24, (.cmp .lss), [V 12, V 14]⟩, ⟨23, (.cmp .leq), [N 0, V 12]⟩, ⟨22, .and, [V 18, V 20]⟩, ⟨21, .and, [V 18, V 19]⟩, ⟨20, .not, [V 19]⟩, ⟨19, (.cmp .gtr), [V 11, N 0]⟩, ⟨18, .not, [V 17]⟩, ⟨17, (.cmp .neq), [V 16, N 0]⟩, ⟨15, (.call 63), [V 0, V 1, V 2, V 3, V 4, V 5, V 6, V 7, V 8, V 9, V 10, V 11, V 12, V 13, V 14]⟩], [V 72, V 69, V 37, V 36, V 26, V 15], []⟩
theorem Pw (e : Nat → A) (H : Ac T e HA.defs) : ∀ z0, z0 = (Day.HB.mk [(e 1).int, (e 2).int, (e 3).int, (e 4).int, (e 5).int, (e 6).int, (e 7).int, (e 8).int] (e 9).int (e 10).int (e 11).int (e 12).int) → ∀ r1, r1 = Day.D1 (e 0).int z0 (Day.Ls.mk (e 13) (e 14).int) → (Day.HB.i64 z0 && Day.Ls.ok (Day.Ls.mk (e 13) (e 14).int)) = true →
  ((e 72).bool = true ∧ (e 69).bool = true ∧ (e 37).bool = true ∧ (e 36).bool = true ∧ (e 26).bool = true ∧ (e 15).bool = true) ∧ (((r1)).a 0 = (e 135).int ∧ ((r1)).a 1 = (e 136).int ∧ ((r1)).a 2 = (e 137).int ∧ ((r1)).a 3 = (e 138).int ∧ ((r1)).a 4 = (e 139).int ∧ ((r1)).a 5 = (e 140).int ∧ ((r1)).a 6 = (e 141).int ∧ ((r1)).a 7 = (e 142).int ∧ ((r1)).port = (e 143).int ∧ ((r1)).age = (e 144).int ∧ ((r1)).hold = (e 145).int ∧ ((r1)).pos = (e 146).int ∧ ((Day.CH (e 0).int z0 (Day.Ls.mk (e 13) (e 14).int))).kind = (e 147).int ∧ ((Day.CH (e 0).int z0 (Day.Ls.mk (e 13) (e 14).int))).id = (e 148).int ∧ Day.Bh (e 0).int z0 (Day.Ls.mk (e 13) (e 14).int) = (e 123).int) := by
 intro z0 hz0 r1 hr1 hp
 subst hz0 hr1
 simp only [HA, Ac, Def.q, Bc, L.Ae, L.Aq, L.AE, L.AF, L.ev, A.Ad, A.Ah, A.As, A.AJ, List.map_cons, List.map_nil, Nat.zero_add, Nat.add_zero, and_true, true_and, Nat.reduceAdd, Nat.one_mul] at H
 simp only [C0, C1, CN, A3, De, Dg, Bm, Dw, and_true, true_and] at H
 obtain ⟨q149, ⟨q148, -⟩, ⟨q147, -⟩, ⟨q146, -⟩, ⟨q145, -⟩, ⟨q144, -⟩, ⟨q143, -⟩, ⟨q142, -⟩, ⟨q141, -⟩, ⟨q140, -⟩, ⟨q139, -⟩, ⟨q138, -⟩, ⟨q137, -⟩, ⟨q136, -⟩, ⟨q135, -⟩, ⟨q134, -⟩, ⟨q133, -⟩, ⟨q132, -⟩, ⟨q131, -⟩, ⟨q130, -⟩, ⟨q129, -⟩, ⟨q128, -⟩, ⟨q127, -⟩, ⟨q126, -⟩, ⟨q125, -⟩, ⟨q124, -⟩, ⟨q123, -⟩, q122, q121, ⟨q120, -⟩, ⟨q119, -⟩, ⟨q118, -⟩, ⟨q117, -⟩, ⟨q116, -⟩, ⟨q115, -⟩, ⟨q114, -⟩, ⟨q113, -⟩, ⟨q112, -⟩, ⟨q111, -⟩, ⟨q110, -⟩, ⟨q109, -⟩, ⟨q108, -⟩, ⟨q107, -⟩, ⟨q106, -⟩, ⟨q105, -⟩, ⟨q104, -⟩, ⟨q103, -⟩, ⟨q102, -⟩, ⟨q101, -⟩, ⟨q100, -⟩, ⟨q99, -⟩, q98, q97, ⟨q96, -⟩, ⟨q95, -⟩, ⟨q94, -⟩, ⟨q93, -⟩, ⟨q92, -⟩, ⟨q91, -⟩, ⟨q90, -⟩, ⟨q89, -⟩, ⟨q88, -⟩, ⟨q87, -⟩, ⟨q86, -⟩, ⟨q85, -⟩, ⟨q84, -⟩, ⟨q83, -⟩, ⟨q82, -⟩, ⟨q81, -⟩, ⟨q80, -⟩, ⟨q79, -⟩, ⟨q78, -⟩, ⟨q77, -⟩, ⟨q76, -⟩, q75, q74, q73, q72, q71, q70, q69, q46, q45, q44, q43, ⟨q42, -⟩, ⟨q41, -⟩, ⟨q40, -⟩, q39, q38, q37, q36, q34, q33, q32, q31, q30, q29, q28, q27, q26, q25, q24, q23, q22, q21, q20, q19, q18, q17, q15⟩ := H
 replace q46 := Acf q46
 obtain ⟨q46, q47, q48, q49, q50, q51, q52, q53, q54, q55, q56, q57, q58, q59, q60, q61, q62, q63, q64, q65, q66, q67, q68⟩ := q46
 replace q34 := Bk q34
 obtain ⟨q34, q35⟩ := q34
 replace q15 := JF q15 _ rfl
 obtain ⟨q15, q16⟩ := q15
 simp only [L.Ae, L.Aq, L.AE, L.AF, L.ev, A.Ad, A.Ah, A.As] at q46 q47 q48 q49 q50 q51 q52 q53 q54 q55 q56 q57 q58 q59 q60 q61 q62 q63 q64 q65 q66 q67 q68 q34 q35 q15 q16
 generalize (e 0).int = x0, (e 1).int = x1, (e 2).int = x2, (e 3).int = x3, (e 4).int = x4, (e 5).int = x5, (e 6).int = x6, (e 7).int = x7, (e 8).int = x8, (e 9).int = x9, (e 10).int = x10, (e 11).int = x11, (e 12).int = x12, e 13 = x13, (e 14).int = x14, (e 15).bool = v15, (e 16).int = v16, (e 17).bool = v17, (e 18).bool = v18, (e 19).bool = v19, (e 20).bool = v20, (e 21).bool = v21, (e 22).bool = v22, (e 23).bool = v23, (e 24).bool = v24, (e 25).bool = v25, (e 26).bool = v26, (e 28).bool = v28, (e 29).bool = v29, (e 30).bool = v30, (e 31).bool = v31, (e 32).bool = v32, (e 33).bool = v33, (e 34).bool = v34, (e 35).int = v35, (e 36).bool = v36, (e 37).bool = v37, (e 39).bool = v39, (e 40).int = v40, (e 41).int = v41, (e 42).int = v42, (e 43).bool = v43, (e 44).bool = v44, (e 45).bool = v45, (e 46).bool = v46, (e 47).int = v47, (e 48).int = v48, (e 49).int = v49, (e 50).int = v50, (e 51).int = v51, (e 52).int = v52, (e 53).int = v53, (e 54).int = v54, (e 55).int = v55, (e 56).int = v56, (e 57).int = v57, (e 58).int = v58, (e 59).int = v59, (e 60).int = v60, (e 61).int = v61, (e 62).int = v62, (e 63).int = v63, (e 64).int = v64, (e 65).int = v65, (e 66).int = v66, (e 67).bool = v67, (e 68).bool = v68, (e 69).bool = v69, (e 70).bool = v70, (e 71).bool = v71, (e 72).bool = v72, (e 73).bool = v73, (e 74).bool = v74, (e 75).bool = v75, (e 76).int = v76, (e 77).int = v77, (e 78).int = v78, (e 79).int = v79, (e 80).int = v80, (e 81).int = v81, (e 82).int = v82, (e 83).int = v83, (e 84).int = v84, (e 85).int = v85, (e 86).int = v86, (e 87).int = v87, (e 88).int = v88, (e 89).int = v89, (e 90).int = v90, (e 91).int = v91, (e 92).int = v92, (e 93).int = v93, (e 94).int = v94, (e 95).int = v95, (e 96).int = v96, (e 97).bool = v97, (e 98).bool = v98, (e 99).int = v99, (e 100).int = v100, (e 101).int = v101, (e 102).int = v102, (e 103).int = v103, (e 104).int = v104, (e 105).int = v105, (e 106).int = v106, (e 107).int = v107, (e 108).int = v108, (e 109).int = v109, (e 110).int = v110, (e 111).int = v111, (e 112).int = v112, (e 113).int = v113, (e 114).int = v114, (e 115).int = v115, (e 116).int = v116, (e 117).int = v117, (e 118).int = v118, (e 119).int = v119, (e 120).int = v120, (e 121).bool = v121, (e 122).bool = v122, (e 123).int = v123, (e 124).int = v124, (e 125).int = v125, (e 126).int = v126, (e 127).int = v127, (e 128).int = v128, (e 129).int = v129, (e 130).int = v130, (e 131).int = v131, (e 132).int = v132, (e 133).int = v133, (e 134).int = v134, (e 135).int = v135, (e 136).int = v136, (e 137).int = v137, (e 138).int = v138, (e 139).int = v139, (e 140).int = v140, (e 141).int = v141, (e 142).int = v142, (e 143).int = v143, (e 144).int = v144, (e 145).int = v145, (e 146).int = v146, (e 147).int = v147, (e 148).int = v148, (e 149).bool = v149 at *
 replace q27 := congrArg A.int q27
 generalize (e 27).int = v27 at *
 replace q38 := congrArg A.int q38
 generalize (e 38).int = v38 at *
 generalize hH : (Day.HB.mk [x1, x2, x3, x4, x5, x6, x7, x8] x9 x10 x11 x12) = h at *
 have g0 : x1 = h.a 0 ∧ x2 = h.a 1 ∧ x3 = h.a 2 ∧ x4 = h.a 3 ∧ x5 = h.a 4 ∧ x6 = h.a 5 ∧ x7 = h.a 6 ∧ x8 = h.a 7 ∧ x9 = h.port ∧ x10 = h.age ∧ x11 = h.hold ∧ x12 = h.pos := by subst hH; simp [Day.HB.a]
 obtain ⟨a1, a2, a3, a4, a5, a6, a7, a8, a9, a10, a11, a12⟩ := g0
 clear hH
 generalize hq : Day.Ls.mk x13 x14 = q at *
 have hn0 : x14 = q.n := by rw [← hq]
 have hk : ∀ p, q.k p = (x13.A5.getD (2 * p.toNat) (.i 0)).int := fun p => by rw [← hq]; rfl
 have hd : ∀ p, q.d p = (x13.A5.getD (1 + 2 * p.toNat) (.i 0)).int := fun p => by rw [← hq]; rfl
 clear hq
 simp only [Bool.and_eq_true] at hp
 rw [← hk] at q27
 rw [← hd] at q38
 clear hk hd
 by_cases hg : Day.Bh x0 h q = 0
 ·obtain ⟨hr, hf⟩ := Day.CI.1 hg
  obtain ⟨f1, f2, f3⟩ := Day.Hk hf
  have hb := Day.Cd hr
  have hR : Day.right x0 = true := by simp [Day.right, f2]
  have hI : Day.Be 0 x0 = true := by rw [Day.Au]; omega
  have h35 : v35 = 2 * x0 := by rw [q35]; simp [Day.times, hR]
  have hm := Day.SB hr
  clear q35
  by_cases c : 0 < h.hold
  ·have p1 : 0 ≤ h.pos := by omega
   have p2 : h.pos < x0 := by omega
   by_cases c2 : q.k h.pos = 2
   ·subst_vars
    simp [hp, hg, c, c2, p1, p2, hR, Day.D1, Day.CH, Day.Ks, Day.Gq, Day.AS, Day.HB.a]
   ·subst_vars
    simp [hp, hg, c, c2, p1, p2, hR, Day.D1, Day.CH, Day.Ks, Day.Gq, Day.Nx, Day.AS, Day.HB.a, Day.B3]
  ·cases hA : Day.P3 x0 h q with
   | true =>
    have hA2 := hA
    simp only [Day.P3, Bool.and_eq_true, decide_eq_true_eq] at hA2
    obtain ⟨g1, g2⟩ := hA2
    obtain ⟨s1, s2, s3, s4⟩ := Day.SH g1
    have hkp : q.k (Day.AW (Day.BH q) 0 x0) = 1 := by simpa [Day.BH] using s3
    have hold0 : h.hold = 0 := by omega
    have fr : ∀ j : Nat, j < 8 → (Day.Al x0).a j = if (j : Int) < x0 then x0 else h.a j := fun j hj => by
     have hmj := hm j hj
     rw [Day.Ae0 hR j hj]
     unfold Day.AY at *
     split <;> rename_i hc
     ·rfl
     ·simp only [hc, if_false] at hmj; omega
    have r0 := fr 0 (by omega); have r1 := fr 1 (by omega); have r2 := fr 2 (by omega); have r3 := fr 3 (by omega); have r4 := fr 4 (by omega); have r5 := fr 5 (by omega); have r6 := fr 6 (by omega); have r7 := fr 7 (by omega)
    subst_vars
    simp [hp, hg, c, hA, g1, g2, hkp, hR, hI, Day.Fw, Day.D1, Day.CH, Day.IN, Day.DU, Day.AS, hold0]
    simp [r0, r1, r2, r3, r4, r5, r6, r7]
    simp [Day.HB.a]
   | false =>
    have hA2 := hA
    simp only [Day.P3] at hA2
    subst_vars
    simp [hp, hg, c, hA, hA2, hR, hI, Day.Fw, Day.D1, Day.CH, Day.IN, Day.DU, Day.Nx, Day.AS, Day.HB.a, Day.B3]
 ·subst_vars
  simp [hp, hg, Day.D1, Day.CH, Day.Bp, Day.B3, Day.HB.a]
end Rx.S
