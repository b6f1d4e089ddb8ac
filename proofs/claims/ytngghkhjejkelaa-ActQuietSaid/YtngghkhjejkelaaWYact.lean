import Derived.Test.YtngghkhjejkelaaWXc
import Derived.Test.YtngghkhjejkelaaWXt
set_option linter.unusedVariables false
set_option linter.unusedSimpArgs false
namespace Rx.S
open Go Rx
set_option maxRecDepth 100000
set_option maxHeartbeats 1000000
def F5 : Lp := ⟨31, [false, true, false, true, true, true, true], 1650, 19, 4, 4, ⟨SD 41 [(0, .pv (.one (.k (.int .i64 (V 0))))), (1, .pv (.agg [.k (.int .i64 (V 1)), .k (.int .i64 (V 2)), .k (.int .i64 (V 3)), .k (.int .i64 (V 4))])), (2, .pv (.one (.k (.int .i64 (V 5))))), (4, .pv (.one (.k (.ptr 0 0)))), (6, .pv (.one (.k (.ptr 1 0)))), (7, .pv (.one (.k (.int .i64 (N 0))))), (8, .pv (.one (.k (.ptr 2 0)))), (9, .pv (.one (.k (.ptr 3 0)))), (10, .pv (.one (.k (.int .i64 (V 6))))), (11, .tup [.agg [.k (.int .i64 (V 7)), .k (.int .i64 (V 8)), .k (.int .i64 (V 9)), .k (.int .i64 (V 10))], .one (.k (.int .i64 (V 6)))]), (12, .pv (.one (.k (.int .i64 (V 0))))), (13, .pv (.agg [.k (.int .i64 (V 1)), .k (.int .i64 (V 2)), .k (.int .i64 (V 3)), .k (.int .i64 (V 4))])), (14, .pv (.agg [.k (.int .i64 (N 0)), .k (.int .i64 (N 0)), .k (.int .i64 (N 0)), .k (.int .i64 (N 0))])), (15, .tup [.agg [.k (.int .i64 (V 7)), .k (.int .i64 (V 8)), .k (.int .i64 (V 9)), .k (.int .i64 (V 10))], .one (.k (.int .i64 (V 6)))]), (16, .pv (.agg [.k (.int .i64 (V 7)), .k (.int .i64 (V 8)), .k (.int .i64 (V 9)), .k (.int .i64 (V 10))])), (17, .pv (.one (.k (.int .i64 (V 6))))), (18, .pv (.one (.k (.int .i64 (V 6))))), (19, .pv (.one (.k (.bool (V 11))))), (22, .pv (.one (.k (.int .i64 (V 5))))), (23, .pv (.one (.k (.bool (V 12))))), (24, .pv (.one (.k (.bool (V 12))))), (27, .pv (.one (.k (.bool (V 13))))), (29, .pv (.one (.k (.int .i64 (V 5))))), (30, .pv (.one (.k (.int .i64 (V 14)))))], [⟨true, 46, 4, [.k (.int .i64 (V 15)), .k (.int .i64 (V 16)), .k (.int .i64 (V 17)), .k (.int .i64 (V 18))], none⟩, ⟨true, 46, 4, [.k (.int .i64 (N 0)), .k (.int .i64 (N 0)), .k (.int .i64 (N 0)), .k (.int .i64 (N 0))], none⟩, ⟨true, 47, 4, [.k (.int .i64 (N 0)), .k (.int .i64 (N 0)), .k (.int .i64 (N 0)), .k (.int .i64 (N 0))], none⟩, ⟨true, 46, 4, [.k (.int .i64 (V 7)), .k (.int .i64 (V 8)), .k (.int .i64 (V 9)), .k (.int .i64 (V 10))], none⟩], B true⟩, [(.exit 0, ⟨SD 41 [(0, .pv (.one (.k (.int .i64 (V 0))))), (1, .pv (.agg [.k (.int .i64 (V 1)), .k (.int .i64 (V 2)), .k (.int .i64 (V 3)), .k (.int .i64 (V 4))])), (2, .pv (.one (.k (.int .i64 (V 5))))), (4, .pv (.one (.k (.ptr 0 0)))), (6, .pv (.one (.k (.ptr 1 0)))), (7, .pv (.one (.k (.int .i64 (N 0))))), (8, .pv (.one (.k (.ptr 2 0)))), (9, .pv (.one (.k (.ptr 3 0)))), (10, .pv (.one (.k (.int .i64 (V 6))))), (11, .tup [.agg [.k (.int .i64 (V 7)), .k (.int .i64 (V 8)), .k (.int .i64 (V 9)), .k (.int .i64 (V 10))], .one (.k (.int .i64 (V 6)))]), (12, .pv (.one (.k (.int .i64 (V 0))))), (13, .pv (.agg [.k (.int .i64 (V 1)), .k (.int .i64 (V 2)), .k (.int .i64 (V 3)), .k (.int .i64 (V 4))])), (14, .pv (.agg [.k (.int .i64 (N 0)), .k (.int .i64 (N 0)), .k (.int .i64 (N 0)), .k (.int .i64 (N 0))])), (15, .tup [.agg [.k (.int .i64 (V 7)), .k (.int .i64 (V 8)), .k (.int .i64 (V 9)), .k (.int .i64 (V 10))], .one (.k (.int .i64 (V 6)))]), (16, .pv (.agg [.k (.int .i64 (V 7)), .k (.int .i64 (V 8)), .k (.int .i64 (V 9)), .k (.int .i64 (V 10))])), (17, .pv (.one (.k (.int .i64 (V 6))))), (18, .pv (.one (.k (.int .i64 (V 6))))), (19, .pv (.one (.k (.bool (V 11))))), (22, .pv (.one (.k (.int .i64 (V 5))))), (23, .pv (.one (.k (.bool (V 12))))), (24, .pv (.one (.k (.bool (V 12))))), (27, .pv (.one (.k (.bool (V 13)))))], [⟨true, 46, 4, [.k (.int .i64 (V 19)), .k (.int .i64 (V 20)), .k (.int .i64 (V 21)), .k (.int .i64 (V 22))], none⟩, ⟨true, 46, 4, [.k (.int .i64 (N 0)), .k (.int .i64 (N 0)), .k (.int .i64 (N 0)), .k (.int .i64 (N 0))], none⟩, ⟨true, 47, 4, [.k (.int .i64 (N 0)), .k (.int .i64 (N 0)), .k (.int .i64 (N 0)), .k (.int .i64 (N 0))], none⟩, ⟨true, 46, 4, [.k (.int .i64 (V 7)), .k (.int .i64 (V 8)), .k (.int .i64 (V 9)), .k (.int .i64 (V 10))], none⟩], B true⟩)], [true, true, true, true, true, true, true, true, true, true, true, true, true, true, false, false, false, false, false], [.i, .i, .i, .i]⟩
def JH : G := ⟨29, [⟨28, (.ar .add .i64), [V 14, N 1]⟩, ⟨27, .imp, [V 19, V 21]⟩, ⟨21, (.call 28), [V 0, V 15, V 16, V 17, V 18, N 0, N 0, N 0, N 0]⟩, ⟨20, .not, [V 19]⟩, ⟨19, (.cmp .lss), [V 14, V 5]⟩], [V 27], []⟩
def Rd (al : List A) : Nat := ((gi al 5) - (gi al 14)).toNat
theorem Qo (e : Nat → A) (H : Ak T e JH.defs) : ∀ r0, r0 = Day.Cq (e 0).int ((e 5).int - (e 14).int).toNat (Day.ND.mk (e 15).int (e 16).int (e 17).int (e 18).int) → ∀ s0, s0 = Day.Cq (e 0).int ((e 5).int - (e 28).int).toNat (Day.ND.mk (e 22).int (e 23).int (e 24).int (e 25).int) → (Day.qI (e 0).int (Day.ND.mk (e 15).int (e 16).int (e 17).int (e 18).int) && Day.qT (e 5).int (e 14).int) = true →
  ((e 27).bool = true) ∧ ((e 19).bool = true → (Day.qI (e 0).int (Day.ND.mk (e 22).int (e 23).int (e 24).int (e 25).int) && Day.qT (e 5).int (e 28).int) = true ∧ (((s0)).id = ((r0)).id ∧ ((s0)).mode = ((r0)).mode ∧ ((s0)).count = ((r0)).count ∧ ((s0)).pos = ((r0)).pos) ∧ ((e 5).int - (e 28).int).toNat < ((e 5).int - (e 14).int).toNat) ∧ ((e 20).bool = true → (e 15).int = ((r0)).id ∧ (e 16).int = ((r0)).mode ∧ (e 17).int = ((r0)).count ∧ (e 18).int = ((r0)).pos) := by
 intro r0 hr0 s0 hs0 hp
 subst hr0 hs0
 simp only [JH, Ak, Def.q, C6, L.An, L.AO, L.By, L.BE, L.ev, A.As, A.Ax, A.AV, A.BX, List.map_cons, List.map_nil, Nat.zero_add, Nat.add_zero, and_true, true_and, Nat.reduceAdd, Nat.one_mul] at H
 simp only [HU, Ir, HV, B5, JU, Ko, Em, MG, and_true, true_and] at H
 obtain ⟨⟨q28, -⟩, q27, q21, q20, q19⟩ := H
 replace q21 := DM q21 _ rfl _ rfl
 obtain ⟨q21, q22, q23, q24, q25, q26⟩ := q21
 simp only [L.An, L.AO, L.By, L.BE, L.ev, A.As, A.Ax, A.AV] at q21 q22 q23 q24 q25 q26
 generalize (e 0).int = x0, (e 1).int = x1, (e 2).int = x2, (e 3).int = x3, (e 4).int = x4, (e 5).int = x5, (e 6).int = x6, (e 7).int = x7, (e 8).int = x8, (e 9).int = x9, (e 10).int = x10, (e 11).int = x11, (e 12).int = x12, (e 13).int = x13, (e 14).int = x14, (e 15).int = x15, (e 16).int = x16, (e 17).int = x17, (e 18).int = x18, (e 19).bool = v19, (e 20).bool = v20, (e 21).bool = v21, (e 22).int = v22, (e 23).int = v23, (e 24).int = v24, (e 25).int = v25, (e 26).int = v26, (e 27).bool = v27, (e 28).int = v28 at *
 generalize hX : Day.ND.mk x15 x16 x17 x18 = X at *
 have f1 : x15 = X.id := by rw [← hX]
 have f2 : x16 = X.mode := by rw [← hX]
 have f3 : x17 = X.count := by rw [← hX]
 have f4 : x18 = X.pos := by rw [← hX]
 clear hX
 simp only [Bool.and_eq_true] at hp
 obtain ⟨h1, h2⟩ := hp
 have hE := Day.Rb.1 h1
 obtain ⟨t1, t2, t3⟩ := Day.Rc.1 h2
 obtain ⟨hr, hm⟩ := Day.Cy.1 hE
 have hi := Day.MJ hr
 have hh : Day.A4 x0 ⟨0, 0⟩ ⟨0, 0⟩ = true := Day.IX x0
 by_cases hlt : x14 < x5
 ·have st := Day.Ra (n := x0) (x := X) hlt
  obtain ⟨n1, n2, n3⟩ := Day.OB hE hh
  have w : IntKind.wrap .i64 (x14 + 1) = x14 + 1 := wrap64 (by omega) (by omega)
  have hq : Day.qI x0 (Day.AZ x0 X ⟨0, 0⟩ ⟨0, 0⟩) = true := Day.Rb.2 (Day.Cy.2 ⟨n1, n2⟩)
  have hT : Day.qT x5 (x14 + 1) = true := Day.Rc.2 (by omega)
  have e22 : Day.ND.mk v22 v23 v24 v25 = Day.AZ x0 X ⟨0, 0⟩ ⟨0, 0⟩ := by rw [q22, q23, q24, q25]
  rw [st, show Day.B6 = ⟨0, 0⟩ from rfl, ← e22]
  rw [← e22] at hq
  rw [q28, w]
  refine ⟨by rw [q27, q21, hi, hh]; simp, fun _ => ⟨by rw [hq, hT]; rfl, by simp, by omega⟩, fun h => ?_⟩
  rw [q20, q19] at h
  simp [hlt] at h
 ·have st := Day.Sw (n := x0) (x := X) hlt
  rw [st]
  refine ⟨by rw [q27, q19]; simp [hlt], fun h => ?_, fun _ => ⟨f1, f2, f3, f4⟩⟩
  rw [q19] at h
  simp [hlt] at h
theorem Re (as : List A) (e : Nat → A) (h1 : as = (List.range 19).map e) (h2 : (G2 as).1 = true) (H : Ak T e JH.defs) : Ee e JH.obs ∧
   (∀ pc ls, some (V 19, [V 0, V 1, V 2, V 3, V 4, V 5, V 6, V 7, V 8, V 9, V 10, V 11, V 12, V 13, V 28, V 22, V 23, V 24, V 25]) = some (pc, ls) → (pc.ev e).bool = true → (G2 (ls.map (L.ev e))).1 = true ∧ (G2 (ls.map (L.ev e))).2 = (G2 as).2 ∧ Rd (ls.map (L.ev e)) < Rd as) ∧
   ∀ x ∈ ([(V 20, [some (V 15), some (V 16), some (V 17), some (V 18)])] : List (L × List (Option L))), (x.1.ev e).bool = true → ∀ (j : Nat) l, x.2[j]? = some (some l) → IS (F5.tags.getD j .any) (l.ev e) ((G2 as).2.getD j (.i 0)) := by
 subst h1
 obtain ⟨ho, h⟩ := Qo e H _ rfl _ rfl h2
 refine ⟨⟨ho, trivial⟩, fun pc ls hb hpc => ?_, ?_⟩
 ·injection hb with hb
  injection hb with h3 h4
  subst h3 h4
  have h := h.1 hpc
  refine ⟨h.1, ?_, h.2.2⟩
  have h5 := h.2.1
  obtain ⟨z0, z1, z2, z3⟩ := h5
  exact (RU z0 (RU z1 (RU z2 (RU z3 rfl))))
 ·intro x hx hpc j l hj
  simp only [List.mem_cons, List.not_mem_nil, or_false] at hx
  rcases hx with rfl
  ·have h := h.2 hpc
   obtain ⟨z0, z1, z2, z3⟩ := h
   match j, hj with
   | 0, hj => cases hj; exact z0
   | 1, hj => cases hj; exact z1
   | 2, hj => cases hj; exact z2
   | 3, hj => cases hj; exact z3
   | _ + 4, hj => cases hj
def G4 : G := ⟨52, [⟨51, .iteB, [V 13, V 40, V 12]⟩, ⟨50, .iteI, [V 13, V 39, N 0]⟩, ⟨49, .iteI, [V 13, V 38, N 0]⟩, ⟨48, .iteI, [V 13, V 37, N 0]⟩, ⟨47, .iteI, [V 13, V 36, N 0]⟩, ⟨46, .iteI, [V 13, V 35, V 4]⟩, ⟨45, .iteI, [V 13, V 34, V 3]⟩, ⟨44, .iteI, [V 13, V 33, V 2]⟩, ⟨43, .iteI, [V 13, V 32, V 1]⟩, ⟨42, .iteI, [V 13, V 31, V 11]⟩, ⟨41, .not, [V 13]⟩, ⟨40, .iteB, [V 23, V 23, V 22]⟩, ⟨39, .iteI, [V 23, V 28, N 0]⟩, ⟨38, .iteI, [V 23, V 27, N 0]⟩, ⟨37, .iteI, [V 23, V 26, N 0]⟩, ⟨36, .iteI, [V 23, V 25, N 0]⟩, ⟨35, .iteI, [V 23, V 28, V 4]⟩, ⟨34, .iteI, [V 23, V 27, V 3]⟩, ⟨33, .iteI, [V 23, V 26, V 2]⟩, ⟨32, .iteI, [V 23, V 25, V 1]⟩, ⟨31, .iteI, [V 23, N 0, N 2]⟩, ⟨30, .not, [V 23]⟩, ⟨29, .imp, [V 23, V 24]⟩, ⟨24, (.call 1650), [V 0, V 1, V 2, V 3, V 4, V 5, V 11, V 7, V 8, V 9, V 10, V 12, V 14, V 18, N 0, V 1, V 2, V 3, V 4]⟩, ⟨23, .and, [V 19, V 21]⟩, ⟨22, .and, [V 18, V 20]⟩, ⟨21, .and, [V 13, V 19]⟩, ⟨20, .and, [V 13, V 18]⟩, ⟨19, .not, [V 18]⟩, ⟨18, .iteB, [V 14, B true, V 17]⟩, ⟨17, (.cmp .gtr), [V 5, N 1000]⟩, ⟨16, .and, [V 13, V 15]⟩, ⟨15, .not, [V 14]⟩, ⟨14, (.cmp .lss), [V 5, N 0]⟩, ⟨13, .not, [V 12]⟩, ⟨12, (.cmp .neq), [V 11, N 0]⟩, ⟨6, (.call 28), [V 0, V 1, V 2, V 3, V 4, N 0, N 0, N 0, N 0]⟩], [V 29, V 6], []⟩
theorem MT (e : Nat → A) (H : Ak T e G4.defs) : ∀ r0, r0 = Day.B3 (e 0).int (Day.ND.mk (e 1).int (e 2).int (e 3).int (e 4).int) (e 5).int → (Day.ND.i64 (Day.ND.mk (e 1).int (e 2).int (e 3).int (e 4).int)) = true →
  ((e 29).bool = true ∧ (e 6).bool = true) ∧ (((r0)).id = (e 47).int ∧ ((r0)).mode = (e 48).int ∧ ((r0)).count = (e 49).int ∧ ((r0)).pos = (e 50).int ∧ Day.Cr (e 0).int (Day.ND.mk (e 1).int (e 2).int (e 3).int (e 4).int) (e 5).int = (e 42).int) := by
 intro r0 hr0 hp
 subst hr0
 simp only [G4, Ak, Def.q, C6, L.An, L.AO, L.By, L.BE, L.ev, A.As, A.Ax, A.AV, A.BX, List.map_cons, List.map_nil, Nat.zero_add, Nat.add_zero, and_true, true_and, Nat.reduceAdd, Nat.one_mul] at H
 simp only [HU, Ir, HV, B5, JU, Ko, Em, MG, and_true, true_and] at H
 obtain ⟨q51, ⟨q50, -⟩, ⟨q49, -⟩, ⟨q48, -⟩, ⟨q47, -⟩, ⟨q46, -⟩, ⟨q45, -⟩, ⟨q44, -⟩, ⟨q43, -⟩, ⟨q42, -⟩, q41, q40, ⟨q39, -⟩, ⟨q38, -⟩, ⟨q37, -⟩, ⟨q36, -⟩, ⟨q35, -⟩, ⟨q34, -⟩, ⟨q33, -⟩, ⟨q32, -⟩, ⟨q31, -⟩, q30, q29, q24, q23, q22, q21, q20, q19, q18, q17, q16, q15, q14, q13, q12, q6⟩ := H
 replace q24 := Sy q24 _ rfl _ rfl
 obtain ⟨q24, q25, q26, q27, q28⟩ := q24
 replace q6 := DM q6 _ rfl _ rfl
 obtain ⟨q6, q7, q8, q9, q10, q11⟩ := q6
 simp only [L.An, L.AO, L.By, L.BE, L.ev, A.As, A.Ax, A.AV] at q24 q25 q26 q27 q28 q6 q7 q8 q9 q10 q11
 generalize (e 0).int = x0, (e 1).int = x1, (e 2).int = x2, (e 3).int = x3, (e 4).int = x4, (e 5).int = x5, (e 6).bool = v6, (e 7).int = v7, (e 8).int = v8, (e 9).int = v9, (e 10).int = v10, (e 11).int = v11, (e 12).bool = v12, (e 13).bool = v13, (e 14).bool = v14, (e 15).bool = v15, (e 16).bool = v16, (e 17).bool = v17, (e 18).bool = v18, (e 19).bool = v19, (e 20).bool = v20, (e 21).bool = v21, (e 22).bool = v22, (e 23).bool = v23, (e 24).bool = v24, (e 25).int = v25, (e 26).int = v26, (e 27).int = v27, (e 28).int = v28, (e 29).bool = v29, (e 30).bool = v30, (e 31).int = v31, (e 32).int = v32, (e 33).int = v33, (e 34).int = v34, (e 35).int = v35, (e 36).int = v36, (e 37).int = v37, (e 38).int = v38, (e 39).int = v39, (e 40).bool = v40, (e 41).bool = v41, (e 42).int = v42, (e 43).int = v43, (e 44).int = v44, (e 45).int = v45, (e 46).int = v46, (e 47).int = v47, (e 48).int = v48, (e 49).int = v49, (e 50).int = v50, (e 51).bool = v51 at *
 generalize hX : Day.ND.mk x1 x2 x3 x4 = X at *
 have f1 : x1 = X.id := by rw [← hX]
 have f2 : x2 = X.mode := by rw [← hX]
 have f3 : x3 = X.count := by rw [← hX]
 have f4 : x4 = X.pos := by rw [← hX]
 clear hX
 have hh : Day.A4 x0 ⟨0, 0⟩ ⟨0, 0⟩ = true := Day.IX x0
 cases hE : decide (Day.B7 x0 X = 0) with
 | false =>
  have hE : ¬ Day.B7 x0 X = 0 := by simpa using hE
  have h1 : Day.B7 x0 X = 1 := by unfold Day.B7 at hE ⊢; split <;> simp_all
  have hq : Day.Cr x0 X x5 = 1 := by simp [Day.Cr, h1]
  have hn : ∀ a b, Day.AZ x0 X a b = Day.C1 := fun a b => by simp [Day.AZ, h1]
  simp only [hn, h1] at *
  subst_vars
  simp [hq, hp, hh, Day.B3, Day.C1]
 | true =>
  have hE : Day.B7 x0 X = 0 := by simpa using hE
  have hQ := Day.Rb.2 hE
  by_cases c : x5 < 0 ∨ 1000 < x5
  ·have hq : Day.Cr x0 X x5 = 2 := by simp [Day.Cr, hE, c]
   rw [hE] at q11
   clear q24 q25 q26 q27 q28
   subst_vars
   rcases c with c | c
   ·have c2 : ¬ 1000 < x5 := by omega
    simp [hq, hp, hh, c, Day.B3, Day.C1]
   ·have c2 : ¬ x5 < 0 := by omega
    simp [hq, hp, hh, c, c2, Day.B3, Day.C1]
  ·have c1 : ¬ x5 < 0 := by omega
   have c2 : ¬ 1000 < x5 := by omega
   have hq : Day.Cr x0 X x5 = 0 := by simp [Day.Cr, hE, c]
   have hT : Day.qT x5 0 = true := Day.Rc.2 (by omega)
   rw [hE] at q11
   subst_vars
   simp [hq, hp, hh, c1, c2, hQ, hT, Day.B3]
def Bp : G := ⟨55, [⟨54, .iteB, [V 12, V 12, V 11]⟩, ⟨53, .iteI, [V 12, V 47, N 0]⟩, ⟨52, .iteI, [V 12, V 46, N 0]⟩, ⟨51, .iteI, [V 12, V 45, N 0]⟩, ⟨50, .iteI, [V 12, V 1, N 0]⟩, ⟨49, .iteI, [V 12, N 0, N 1]⟩, ⟨48, .not, [V 12]⟩, ⟨47, .iteI, [V 21, V 31, V 44]⟩, ⟨46, .iteI, [V 21, N 0, V 43]⟩, ⟨45, .iteI, [V 21, N 3, V 42]⟩, ⟨44, .iteI, [V 35, N 0, V 4]⟩, ⟨43, .iteI, [V 35, N 0, V 40]⟩, ⟨42, .iteI, [V 35, N 2, V 2]⟩, ⟨41, .imp, [V 38, V 39]⟩, ⟨39, (.call 86), [V 3, N 1073741824]⟩, ⟨38, .and, [V 29, V 36]⟩, ⟨37, .and, [V 29, V 35]⟩, ⟨36, .not, [V 35]⟩, ⟨35, .iteB, [V 25, B true, V 18]⟩, ⟨34, .and, [V 29, V 33]⟩, ⟨33, .not, [V 25]⟩, ⟨32, .imp, [V 28, V 30]⟩, ⟨30, (.call 75), [V 0, V 20]⟩, ⟨29, .and, [V 12, V 27]⟩, ⟨28, .and, [V 12, V 21]⟩, ⟨27, .not, [V 21]⟩, ⟨26, .imp, [V 12, V 23]⟩, ⟨23, (.call 69), [V 5, V 6, V 7, V 8, V 1]⟩, ⟨22, .imp, [V 12, V 19]⟩, ⟨19, (.call 68), [V 5, V 6, V 7, V 8]⟩, ⟨18, (.cmp .eql), [V 14, N 1]⟩, ⟨17, .imp, [V 12, V 13]⟩, ⟨13, (.call 42), [V 0, V 1, V 2, V 3, V 4]⟩, ⟨12, .not, [V 11]⟩, ⟨11, .not, [V 10]⟩, ⟨9, (.call 41), [V 0, V 1, V 2, V 3, V 4]⟩], [V 41, V 32, V 26, V 22, V 17, V 9], []⟩
theorem G6 (e : Nat → A) (H : Ak T e Bp.defs) : ∀ r0, r0 = Day.AZ (e 0).int (Day.ND.mk (e 1).int (e 2).int (e 3).int (e 4).int) (Day.Fr.mk (e 5).int (e 6).int) (Day.Fr.mk (e 7).int (e 8).int) → (Day.ND.i64 (Day.ND.mk (e 1).int (e 2).int (e 3).int (e 4).int) && Day.A4 (e 0).int (Day.Fr.mk (e 5).int (e 6).int) (Day.Fr.mk (e 7).int (e 8).int) && Day.UC (Day.ND.mk (e 1).int (e 2).int (e 3).int (e 4).int) 1) = true →
  ((e 41).bool = true ∧ (e 32).bool = true ∧ (e 26).bool = true ∧ (e 22).bool = true ∧ (e 17).bool = true ∧ (e 9).bool = true) ∧ (((r0)).id = (e 50).int ∧ ((r0)).mode = (e 51).int ∧ ((r0)).count = (e 52).int ∧ ((r0)).pos = (e 53).int ∧ Day.B7 (e 0).int (Day.ND.mk (e 1).int (e 2).int (e 3).int (e 4).int) = (e 49).int) := by
 intro r0 hr0 hp
 subst hr0
 simp only [Bp, Ak, Def.q, C6, L.An, L.AO, L.By, L.BE, L.ev, A.As, A.Ax, A.AV, A.BX, List.map_cons, List.map_nil, Nat.zero_add, Nat.add_zero, and_true, true_and, Nat.reduceAdd, Nat.one_mul] at H
 simp only [HU, Ir, HV, B5, JU, Ko, Em, MG, and_true, true_and] at H
 obtain ⟨q54, ⟨q53, -⟩, ⟨q52, -⟩, ⟨q51, -⟩, ⟨q50, -⟩, ⟨q49, -⟩, q48, ⟨q47, -⟩, ⟨q46, -⟩, ⟨q45, -⟩, ⟨q44, -⟩, ⟨q43, -⟩, ⟨q42, -⟩, q41, q39, q38, q37, q36, q35, q34, q33, q32, q30, q29, q28, q27, q26, q23, q22, q19, q18, q17, q13, q12, q11, q9⟩ := H
 replace q39 := F4 q39
 obtain ⟨q39, q40⟩ := q39
 replace q30 := E3 q30
 obtain ⟨q30, q31⟩ := q30
 replace q23 := Eg q23
 obtain ⟨q23, q24, q25⟩ := q23
 replace q19 := Ii q19
 obtain ⟨q19, q20, q21⟩ := q19
 replace q13 := IZ q13 _ rfl
 obtain ⟨q13, q14, q15, q16⟩ := q13
 replace q9 := CZ q9 _ rfl
 obtain ⟨q9, q10⟩ := q9
 simp only [L.An, L.AO, L.By, L.BE, L.ev, A.As, A.Ax, A.AV] at q39 q40 q30 q31 q23 q24 q25 q19 q20 q21 q13 q14 q15 q16 q9 q10
 generalize (e 0).int = x0, (e 1).int = x1, (e 2).int = x2, (e 3).int = x3, (e 4).int = x4, (e 5).int = x5, (e 6).int = x6, (e 7).int = x7, (e 8).int = x8, (e 9).bool = v9, (e 10).bool = v10, (e 11).bool = v11, (e 12).bool = v12, (e 13).bool = v13, (e 14).int = v14, (e 15).int = v15, (e 16).int = v16, (e 17).bool = v17, (e 18).bool = v18, (e 19).bool = v19, (e 20).int = v20, (e 21).bool = v21, (e 22).bool = v22, (e 23).bool = v23, (e 24).int = v24, (e 25).bool = v25, (e 26).bool = v26, (e 27).bool = v27, (e 28).bool = v28, (e 29).bool = v29, (e 30).bool = v30, (e 31).int = v31, (e 32).bool = v32, (e 33).bool = v33, (e 34).bool = v34, (e 35).bool = v35, (e 36).bool = v36, (e 37).bool = v37, (e 38).bool = v38, (e 39).bool = v39, (e 40).int = v40, (e 41).bool = v41, (e 42).int = v42, (e 43).int = v43, (e 44).int = v44, (e 45).int = v45, (e 46).int = v46, (e 47).int = v47, (e 48).bool = v48, (e 49).int = v49, (e 50).int = v50, (e 51).int = v51, (e 52).int = v52, (e 53).int = v53, (e 54).bool = v54 at *
 generalize hX : Day.ND.mk x1 x2 x3 x4 = X at *
 generalize hA : Day.Fr.mk x5 x6 = A at *
 generalize hB : Day.Fr.mk x7 x8 = B at *
 have f1 : x1 = X.id := by rw [← hX]
 have f2 : x2 = X.mode := by rw [← hX]
 have f3 : x3 = X.count := by rw [← hX]
 have f4 : x4 = X.pos := by rw [← hX]
 clear hX hA hB
 simp only [Bool.and_eq_true] at hp
 obtain ⟨⟨hi, hh⟩, hm⟩ := hp
 have hsm : Day.sm 1073741824 = true := by decide
 have hm : X.mode = 1 := by simpa [Day.UC] using hm
 cases hr : Day.AE x0 X with
 | false =>
  have hE : Day.B7 x0 X = 1 := by simp [Day.B7, hr]
  rw [hr] at q10
  subst_vars
  simp [hE, hi, Day.AZ, Day.C1]
 | true =>
  have hE : Day.B7 x0 X = 0 := Day.Cy.2 ⟨hr, by omega⟩
  have hR := Day.F3 hr
  have hn : 3 ≤ x0 ∧ x0 ≤ 8 := (Day.AP.1 hr).1
  have sp := Day.JD hR (Day.AP.1 hr).2.2.2.2.2.2
  have e18 : v18 = Day.K1 x0 X := by rw [q18, q14]; exact Day.Pm _ _
  rw [hr] at q10
  clear q14 q18
  cases hI : Day.EH A B with
  | true =>
   have s1 := Day.OC hR hh hI
   subst_vars
   simp [hE, hi, hh, hR, hm, hI, hsm, Day.AZ, Day.HK, Day.HJ, Day.F2, Day.K0, Day.Q6, Day.A8, Day.times, s1]
  | false =>
   cases hO : Day.BV A B X.id with
   | true =>
    subst_vars
    simp [hE, hi, hh, hR, hm, hI, hsm, Day.AZ, Day.HK, Day.HJ, Day.F2, Day.K0, Day.Q6, Day.A8, Day.times, hO]
   | false =>
    cases hS : Day.K1 x0 X with
    | true =>
     subst_vars
     simp [hE, hi, hh, hR, hm, hI, hsm, Day.AZ, Day.HK, Day.HJ, Day.F2, Day.K0, Day.Q6, Day.A8, Day.times, hO, hS]
    | false =>
     subst_vars
     simp [hE, hi, hh, hR, hm, hI, hsm, Day.AZ, Day.HK, Day.HJ, Day.F2, Day.K0, Day.Q6, Day.A8, Day.times, hO, hS]
def BO : G := ⟨58, [⟨57, .iteB, [V 12, V 12, V 11]⟩, ⟨56, .iteI, [V 12, V 50, N 0]⟩, ⟨55, .iteI, [V 12, V 49, N 0]⟩, ⟨54, .iteI, [V 12, V 48, N 0]⟩, ⟨53, .iteI, [V 12, V 1, N 0]⟩, ⟨52, .iteI, [V 12, N 0, N 1]⟩, ⟨51, .not, [V 12]⟩, ⟨50, .iteI, [V 32, V 37, V 47]⟩, ⟨49, .iteI, [V 32, N 0, V 46]⟩, ⟨48, .iteI, [V 32, N 3, V 45]⟩, ⟨47, .iteI, [V 18, N 0, V 4]⟩, ⟨46, .iteI, [V 18, N 0, V 43]⟩, ⟨45, .iteI, [V 18, N 2, V 2]⟩, ⟨44, .imp, [V 41, V 42]⟩, ⟨42, (.call 86), [V 3, N 1073741824]⟩, ⟨41, .and, [V 35, V 39]⟩, ⟨40, .and, [V 35, V 18]⟩, ⟨39, .not, [V 18]⟩, ⟨38, .imp, [V 34, V 36]⟩, ⟨36, (.call 75), [V 0, V 31]⟩, ⟨35, .and, [V 12, V 33]⟩, ⟨34, .and, [V 12, V 32]⟩, ⟨33, .not, [V 32]⟩, ⟨32, .iteB, [V 23, V 29, V 21]⟩, ⟨31, .iteI, [V 23, V 28, V 20]⟩, ⟨30, .imp, [V 25, V 27]⟩, ⟨27, (.call 69), [V 5, V 6, V 7, V 8, V 1]⟩, ⟨26, .and, [V 12, V 24]⟩, ⟨25, .and, [V 12, V 23]⟩, ⟨24, .not, [V 23]⟩, ⟨23, .not, [V 21]⟩, ⟨22, .imp, [V 12, V 19]⟩, ⟨19, (.call 68), [V 5, V 6, V 7, V 8]⟩, ⟨18, (.cmp .eql), [V 14, N 1]⟩, ⟨17, .imp, [V 12, V 13]⟩, ⟨13, (.call 42), [V 0, V 1, V 2, V 3, V 4]⟩, ⟨12, .not, [V 11]⟩, ⟨11, .not, [V 10]⟩, ⟨9, (.call 41), [V 0, V 1, V 2, V 3, V 4]⟩], [V 44, V 38, V 30, V 22, V 17, V 9], []⟩
theorem I5 (e : Nat → A) (H : Ak T e BO.defs) : ∀ r0, r0 = Day.AZ (e 0).int (Day.ND.mk (e 1).int (e 2).int (e 3).int (e 4).int) (Day.Fr.mk (e 5).int (e 6).int) (Day.Fr.mk (e 7).int (e 8).int) → (Day.ND.i64 (Day.ND.mk (e 1).int (e 2).int (e 3).int (e 4).int) && Day.A4 (e 0).int (Day.Fr.mk (e 5).int (e 6).int) (Day.Fr.mk (e 7).int (e 8).int) && Day.UC (Day.ND.mk (e 1).int (e 2).int (e 3).int (e 4).int) 2) = true →
  ((e 44).bool = true ∧ (e 38).bool = true ∧ (e 30).bool = true ∧ (e 22).bool = true ∧ (e 17).bool = true ∧ (e 9).bool = true) ∧ (((r0)).id = (e 53).int ∧ ((r0)).mode = (e 54).int ∧ ((r0)).count = (e 55).int ∧ ((r0)).pos = (e 56).int ∧ Day.B7 (e 0).int (Day.ND.mk (e 1).int (e 2).int (e 3).int (e 4).int) = (e 52).int) := by
 intro r0 hr0 hp
 subst hr0
 simp only [BO, Ak, Def.q, C6, L.An, L.AO, L.By, L.BE, L.ev, A.As, A.Ax, A.AV, A.BX, List.map_cons, List.map_nil, Nat.zero_add, Nat.add_zero, and_true, true_and, Nat.reduceAdd, Nat.one_mul] at H
 simp only [HU, Ir, HV, B5, JU, Ko, Em, MG, and_true, true_and] at H
 obtain ⟨q57, ⟨q56, -⟩, ⟨q55, -⟩, ⟨q54, -⟩, ⟨q53, -⟩, ⟨q52, -⟩, q51, ⟨q50, -⟩, ⟨q49, -⟩, ⟨q48, -⟩, ⟨q47, -⟩, ⟨q46, -⟩, ⟨q45, -⟩, q44, q42, q41, q40, q39, q38, q36, q35, q34, q33, q32, ⟨q31, -⟩, q30, q27, q26, q25, q24, q23, q22, q19, q18, q17, q13, q12, q11, q9⟩ := H
 replace q42 := F4 q42
 obtain ⟨q42, q43⟩ := q42
 replace q36 := E3 q36
 obtain ⟨q36, q37⟩ := q36
 replace q27 := Eg q27
 obtain ⟨q27, q28, q29⟩ := q27
 replace q19 := Ii q19
 obtain ⟨q19, q20, q21⟩ := q19
 replace q13 := IZ q13 _ rfl
 obtain ⟨q13, q14, q15, q16⟩ := q13
 replace q9 := CZ q9 _ rfl
 obtain ⟨q9, q10⟩ := q9
 simp only [L.An, L.AO, L.By, L.BE, L.ev, A.As, A.Ax, A.AV] at q42 q43 q36 q37 q27 q28 q29 q19 q20 q21 q13 q14 q15 q16 q9 q10
 generalize (e 0).int = x0, (e 1).int = x1, (e 2).int = x2, (e 3).int = x3, (e 4).int = x4, (e 5).int = x5, (e 6).int = x6, (e 7).int = x7, (e 8).int = x8, (e 9).bool = v9, (e 10).bool = v10, (e 11).bool = v11, (e 12).bool = v12, (e 13).bool = v13, (e 14).int = v14, (e 15).int = v15, (e 16).int = v16, (e 17).bool = v17, (e 18).bool = v18, (e 19).bool = v19, (e 20).int = v20, (e 21).bool = v21, (e 22).bool = v22, (e 23).bool = v23, (e 24).bool = v24, (e 25).bool = v25, (e 26).bool = v26, (e 27).bool = v27, (e 28).int = v28, (e 29).bool = v29, (e 30).bool = v30, (e 31).int = v31, (e 32).bool = v32, (e 33).bool = v33, (e 34).bool = v34, (e 35).bool = v35, (e 36).bool = v36, (e 37).int = v37, (e 38).bool = v38, (e 39).bool = v39, (e 40).bool = v40, (e 41).bool = v41, (e 42).bool = v42, (e 43).int = v43, (e 44).bool = v44, (e 45).int = v45, (e 46).int = v46, (e 47).int = v47, (e 48).int = v48, (e 49).int = v49, (e 50).int = v50, (e 51).bool = v51, (e 52).int = v52, (e 53).int = v53, (e 54).int = v54, (e 55).int = v55, (e 56).int = v56, (e 57).bool = v57 at *
 generalize hX : Day.ND.mk x1 x2 x3 x4 = X at *
 generalize hA : Day.Fr.mk x5 x6 = A at *
 generalize hB : Day.Fr.mk x7 x8 = B at *
 have f1 : x1 = X.id := by rw [← hX]
 have f2 : x2 = X.mode := by rw [← hX]
 have f3 : x3 = X.count := by rw [← hX]
 have f4 : x4 = X.pos := by rw [← hX]
 clear hX hA hB
 simp only [Bool.and_eq_true] at hp
 obtain ⟨⟨hi, hh⟩, hm⟩ := hp
 have hsm : Day.sm 1073741824 = true := by decide
 have hm : X.mode = 2 := by simpa [Day.UC] using hm
 cases hr : Day.AE x0 X with
 | false =>
  have hE : Day.B7 x0 X = 1 := by simp [Day.B7, hr]
  rw [hr] at q10
  subst_vars
  simp [hE, hi, Day.AZ, Day.C1]
 | true =>
  have hE : Day.B7 x0 X = 0 := Day.Cy.2 ⟨hr, by omega⟩
  have hR := Day.F3 hr
  have hn : 3 ≤ x0 ∧ x0 ≤ 8 := (Day.AP.1 hr).1
  have sp := Day.JD hR (Day.AP.1 hr).2.2.2.2.2.2
  have e18 : v18 = Day.K1 x0 X := by rw [q18, q14]; exact Day.Pm _ _
  rw [hr] at q10
  clear q14 q18
  cases hI : Day.EH A B with
  | true =>
   have s1 := Day.OC hR hh hI
   subst_vars
   simp [hE, hi, hh, hR, hm, hI, hsm, Day.AZ, Day.HK, Day.HJ, Day.F2, Day.K0, Day.Q6, Day.A8, Day.times, s1]
  | false =>
   cases hO : Day.BV A B X.id with
   | true =>
    have s2 := Day.Q9 hR hh hO
    subst_vars
    simp [hE, hi, hh, hR, hm, hI, hsm, Day.AZ, Day.HK, Day.HJ, Day.F2, Day.K0, Day.Q6, Day.A8, Day.times, hO, s2]
   | false =>
    cases hS : Day.K1 x0 X with
    | true =>
     subst_vars
     simp [hE, hi, hh, hR, hm, hI, hsm, Day.AZ, Day.HK, Day.HJ, Day.F2, Day.K0, Day.Q6, Day.A8, Day.times, hO, hS]
    | false =>
     subst_vars
     simp [hE, hi, hh, hR, hm, hI, hsm, Day.AZ, Day.HK, Day.HJ, Day.F2, Day.K0, Day.Q6, Day.A8, Day.times, hO, hS]
def Br : G := ⟨76, [⟨75, .iteB, [V 12, V 12, V 11]⟩, ⟨74, .iteI, [V 12, V 67, N 0]⟩, ⟨73, .iteI, [V 12, V 66, N 0]⟩, ⟨72, .iteI, [V 12, V 65, N 0]⟩, ⟨71, .iteI, [V 12, V 1, N 0]⟩, ⟨70, .iteI, [V 12, N 0, N 1]⟩, ⟨69, .not, [V 12]⟩, ⟨68, .iteB, [V 62, V 62, V 64]⟩, ⟨67, .iteI, [V 62, V 58, N 0]⟩, ⟨66, .iteI, [V 62, V 57, N 0]⟩, ⟨65, .iteI, [V 62, V 56, V 63]⟩, ⟨64, .iteB, [V 26, V 60, V 25]⟩, ⟨63, .iteI, [V 26, N 2, N 1]⟩, ⟨62, .and, [V 26, V 35]⟩, ⟨61, .not, [V 26]⟩, ⟨60, .and, [V 59, V 34]⟩, ⟨59, .not, [V 35]⟩, ⟨58, .iteI, [V 52, N 0, V 47]⟩, ⟨57, .iteI, [V 52, N 0, V 45]⟩, ⟨56, .iteI, [V 52, N 1, V 2]⟩, ⟨55, .and, [V 35, V 53]⟩, ⟨54, .and, [V 35, V 52]⟩, ⟨53, .not, [V 52]⟩, ⟨52, (.cmp .geq), [V 45, V 50]⟩, ⟨51, .imp, [V 35, V 49]⟩, ⟨49, (.call 76), [V 0]⟩, ⟨48, .imp, [V 35, V 46]⟩, ⟨46, (.call 75), [V 0, V 4]⟩, ⟨45, .iteI, [V 40, N 0, V 37]⟩, ⟨44, .and, [V 35, V 42]⟩, ⟨43, .and, [V 35, V 40]⟩, ⟨42, .not, [V 40]⟩, ⟨41, .imp, [V 35, V 39]⟩, ⟨39, (.call 74), [V 5, V 6, V 7, V 8, V 4]⟩, ⟨38, .imp, [V 35, V 36]⟩, ⟨36, (.call 86), [V 3, N 1073741824]⟩, ⟨35, .and, [V 31, V 33]⟩, ⟨34, .and, [V 29, V 32]⟩, ⟨33, .and, [V 26, V 31]⟩, ⟨32, .and, [V 26, V 29]⟩, ⟨31, .not, [V 29]⟩, ⟨30, .imp, [V 26, V 27]⟩, ⟨27, (.call 69), [V 5, V 6, V 7, V 8, V 1]⟩, ⟨26, .and, [V 22, V 24]⟩, ⟨25, .and, [V 20, V 23]⟩, ⟨24, .and, [V 12, V 22]⟩, ⟨23, .and, [V 12, V 20]⟩, ⟨22, .not, [V 20]⟩, ⟨21, .imp, [V 12, V 19]⟩, ⟨19, (.call 73), [V 5, V 6, V 7, V 8, V 4]⟩, ⟨18, (.cmp .eql), [V 14, N 1]⟩, ⟨17, .imp, [V 12, V 13]⟩, ⟨13, (.call 42), [V 0, V 1, V 2, V 3, V 4]⟩, ⟨12, .not, [V 11]⟩, ⟨11, .not, [V 10]⟩, ⟨9, (.call 41), [V 0, V 1, V 2, V 3, V 4]⟩], [V 51, V 48, V 41, V 38, V 30, V 21, V 17, V 9], []⟩
theorem Hg (e : Nat → A) (H : Ak T e Br.defs) : ∀ r0, r0 = Day.AZ (e 0).int (Day.ND.mk (e 1).int (e 2).int (e 3).int (e 4).int) (Day.Fr.mk (e 5).int (e 6).int) (Day.Fr.mk (e 7).int (e 8).int) → (Day.ND.i64 (Day.ND.mk (e 1).int (e 2).int (e 3).int (e 4).int) && Day.A4 (e 0).int (Day.Fr.mk (e 5).int (e 6).int) (Day.Fr.mk (e 7).int (e 8).int) && Day.UC (Day.ND.mk (e 1).int (e 2).int (e 3).int (e 4).int) 3) = true →
  ((e 51).bool = true ∧ (e 48).bool = true ∧ (e 41).bool = true ∧ (e 38).bool = true ∧ (e 30).bool = true ∧ (e 21).bool = true ∧ (e 17).bool = true ∧ (e 9).bool = true) ∧ (((r0)).id = (e 71).int ∧ ((r0)).mode = (e 72).int ∧ ((r0)).count = (e 73).int ∧ ((r0)).pos = (e 74).int ∧ Day.B7 (e 0).int (Day.ND.mk (e 1).int (e 2).int (e 3).int (e 4).int) = (e 70).int) := by
 intro r0 hr0 hp
 subst hr0
 simp only [Br, Ak, Def.q, C6, L.An, L.AO, L.By, L.BE, L.ev, A.As, A.Ax, A.AV, A.BX, List.map_cons, List.map_nil, Nat.zero_add, Nat.add_zero, and_true, true_and, Nat.reduceAdd, Nat.one_mul] at H
 simp only [HU, Ir, HV, B5, JU, Ko, Em, MG, and_true, true_and] at H
 obtain ⟨q75, ⟨q74, -⟩, ⟨q73, -⟩, ⟨q72, -⟩, ⟨q71, -⟩, ⟨q70, -⟩, q69, q68, ⟨q67, -⟩, ⟨q66, -⟩, ⟨q65, -⟩, q64, ⟨q63, -⟩, q62, q61, q60, q59, ⟨q58, -⟩, ⟨q57, -⟩, ⟨q56, -⟩, q55, q54, q53, q52, q51, q49, q48, q46, ⟨q45, -⟩, q44, q43, q42, q41, q39, q38, q36, q35, q34, q33, q32, q31, q30, q27, q26, q25, q24, q23, q22, q21, q19, q18, q17, q13, q12, q11, q9⟩ := H
 replace q49 := MO q49
 obtain ⟨q49, q50⟩ := q49
 replace q46 := E3 q46
 obtain ⟨q46, q47⟩ := q46
 replace q39 := MR q39
 obtain ⟨q39, q40⟩ := q39
 replace q36 := F4 q36
 obtain ⟨q36, q37⟩ := q36
 replace q27 := Eg q27
 obtain ⟨q27, q28, q29⟩ := q27
 replace q19 := MQ q19
 obtain ⟨q19, q20⟩ := q19
 replace q13 := IZ q13 _ rfl
 obtain ⟨q13, q14, q15, q16⟩ := q13
 replace q9 := CZ q9 _ rfl
 obtain ⟨q9, q10⟩ := q9
 simp only [L.An, L.AO, L.By, L.BE, L.ev, A.As, A.Ax, A.AV] at q49 q50 q46 q47 q39 q40 q36 q37 q27 q28 q29 q19 q20 q13 q14 q15 q16 q9 q10
 generalize (e 0).int = x0, (e 1).int = x1, (e 2).int = x2, (e 3).int = x3, (e 4).int = x4, (e 5).int = x5, (e 6).int = x6, (e 7).int = x7, (e 8).int = x8, (e 9).bool = v9, (e 10).bool = v10, (e 11).bool = v11, (e 12).bool = v12, (e 13).bool = v13, (e 14).int = v14, (e 15).int = v15, (e 16).int = v16, (e 17).bool = v17, (e 18).bool = v18, (e 19).bool = v19, (e 20).bool = v20, (e 21).bool = v21, (e 22).bool = v22, (e 23).bool = v23, (e 24).bool = v24, (e 25).bool = v25, (e 26).bool = v26, (e 27).bool = v27, (e 28).int = v28, (e 29).bool = v29, (e 30).bool = v30, (e 31).bool = v31, (e 32).bool = v32, (e 33).bool = v33, (e 34).bool = v34, (e 35).bool = v35, (e 36).bool = v36, (e 37).int = v37, (e 38).bool = v38, (e 39).bool = v39, (e 40).bool = v40, (e 41).bool = v41, (e 42).bool = v42, (e 43).bool = v43, (e 44).bool = v44, (e 45).int = v45, (e 46).bool = v46, (e 47).int = v47, (e 48).bool = v48, (e 49).bool = v49, (e 50).int = v50, (e 51).bool = v51, (e 52).bool = v52, (e 53).bool = v53, (e 54).bool = v54, (e 55).bool = v55, (e 56).int = v56, (e 57).int = v57, (e 58).int = v58, (e 59).bool = v59, (e 60).bool = v60, (e 61).bool = v61, (e 62).bool = v62, (e 63).int = v63, (e 64).bool = v64, (e 65).int = v65, (e 66).int = v66, (e 67).int = v67, (e 68).bool = v68, (e 69).bool = v69, (e 70).int = v70, (e 71).int = v71, (e 72).int = v72, (e 73).int = v73, (e 74).int = v74, (e 75).bool = v75 at *
 generalize hX : Day.ND.mk x1 x2 x3 x4 = X at *
 generalize hA : Day.Fr.mk x5 x6 = A at *
 generalize hB : Day.Fr.mk x7 x8 = B at *
 have f1 : x1 = X.id := by rw [← hX]
 have f2 : x2 = X.mode := by rw [← hX]
 have f3 : x3 = X.count := by rw [← hX]
 have f4 : x4 = X.pos := by rw [← hX]
 clear hX hA hB
 simp only [Bool.and_eq_true] at hp
 obtain ⟨⟨hi, hh⟩, hm⟩ := hp
 have hsm : Day.sm 1073741824 = true := by decide
 have hm : X.mode = 3 := by simpa [Day.UC] using hm
 cases hr : Day.AE x0 X with
 | false =>
  have hE : Day.B7 x0 X = 1 := by simp [Day.B7, hr]
  rw [hr] at q10
  subst_vars
  simp [hE, hi, Day.AZ, Day.C1]
 | true =>
  have hE : Day.B7 x0 X = 0 := Day.Cy.2 ⟨hr, by omega⟩
  have hR := Day.F3 hr
  have hn : 3 ≤ x0 ∧ x0 ≤ 8 := (Day.AP.1 hr).1
  have sp := Day.JD hR (Day.AP.1 hr).2.2.2.2.2.2
  have e18 : v18 = Day.K1 x0 X := by rw [q18, q14]; exact Day.Pm _ _
  rw [hr] at q10
  clear q14 q18
  cases hI : Day.E0 A B X.pos with
  | true =>
   subst_vars
   simp [hE, hi, hh, hR, hm, hI, hsm, Day.AZ, Day.HK, Day.HJ, Day.F2, Day.K0, Day.Q6, Day.A8, Day.times]
  | false =>
   cases hO : Day.BV A B X.id with
   | true =>
    subst_vars
    simp [hE, hi, hh, hR, hm, hI, hsm, Day.AZ, Day.HK, Day.HJ, Day.F2, Day.K0, Day.Q6, Day.A8, Day.times, hO]
   | false =>
    cases hM : Day.E1 A B X.pos with
    | true =>
     have n8 : ¬ 8 * x0 ≤ 0 := by omega
     subst_vars
     simp [hE, hi, hh, hR, hm, hI, hsm, Day.AZ, Day.HK, Day.HJ, Day.F2, Day.K0, Day.Q6, Day.A8, Day.times, hO, hM, sp, n8]
    | false =>
     by_cases hc : 8 * x0 ≤ Day.Kp X.count 1073741824
     ·subst_vars
      simp [hE, hi, hh, hR, hm, hI, hsm, Day.AZ, Day.HK, Day.HJ, Day.F2, Day.K0, Day.Q6, Day.A8, Day.times, hO, hM, sp, hc]
     ·subst_vars
      simp [hE, hi, hh, hR, hm, hI, hsm, Day.AZ, Day.HK, Day.HJ, Day.F2, Day.K0, Day.Q6, Day.A8, Day.times, hO, hM, sp, hc]
def CA : G := ⟨9, [], [], []⟩
theorem I7 (e : Nat → A) (H : Ak T e CA.defs) : ∀ r0, r0 = Day.AZ (e 0).int (Day.ND.mk (e 1).int (e 2).int (e 3).int (e 4).int) (Day.Fr.mk (e 5).int (e 6).int) (Day.Fr.mk (e 7).int (e 8).int) → (Day.ND.i64 (Day.ND.mk (e 1).int (e 2).int (e 3).int (e 4).int) && Day.A4 (e 0).int (Day.Fr.mk (e 5).int (e 6).int) (Day.Fr.mk (e 7).int (e 8).int) && Day.Wc (Day.ND.mk (e 1).int (e 2).int (e 3).int (e 4).int)) = true →
  (True) ∧ (((r0)).id = (0 : Int) ∧ ((r0)).mode = (0 : Int) ∧ ((r0)).count = (0 : Int) ∧ ((r0)).pos = (0 : Int) ∧ Day.B7 (e 0).int (Day.ND.mk (e 1).int (e 2).int (e 3).int (e 4).int) = (1 : Int)) := by
 intro r0 hr0 hp
 subst hr0
 skip
 generalize (e 0).int = x0, (e 1).int = x1, (e 2).int = x2, (e 3).int = x3, (e 4).int = x4, (e 5).int = x5, (e 6).int = x6, (e 7).int = x7, (e 8).int = x8 at *
 generalize hX : Day.ND.mk x1 x2 x3 x4 = X at *
 generalize hA : Day.Fr.mk x5 x6 = A at *
 generalize hB : Day.Fr.mk x7 x8 = B at *
 have f1 : x1 = X.id := by rw [← hX]
 have f2 : x2 = X.mode := by rw [← hX]
 have f3 : x3 = X.count := by rw [← hX]
 have f4 : x4 = X.pos := by rw [← hX]
 clear hX hA hB
 simp only [Bool.and_eq_true] at hp
 obtain ⟨⟨hi, hh⟩, hm⟩ := hp
 have hE : Day.B7 x0 X = 1 := by
  cases hr : Day.AE x0 X with
  | false => simp [Day.B7, hr]
  | true =>
   have := Day.AP.1 hr
   simp only [Day.Wc, Bool.and_eq_true, decide_eq_true_eq] at hm
   have h0 : X.mode = 0 := by omega
   simp [Day.B7, h0]
 simp [hE, Day.AZ, Day.C1]
end Rx.S
