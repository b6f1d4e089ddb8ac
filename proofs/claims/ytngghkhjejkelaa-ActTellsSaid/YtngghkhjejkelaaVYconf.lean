import Derived.Test.YtngghkhjejkelaaVXt
set_option linter.unusedVariables false
set_option linter.unusedSimpArgs false
namespace Rx.S
open Go Rx
set_option maxRecDepth 100000
set_option maxHeartbeats 1000000
def F4 : G := ⟨4, [⟨3, .iteB, [V 1, V 2, B false]⟩, ⟨2, (.cmp .leq), [V 0, N 8]⟩, ⟨1, (.cmp .geq), [V 0, N 3]⟩], [], []⟩
theorem MG (e : Nat → A) (H : Ad T e F4.defs) (hp : (true) = true) :
  (True) ∧ (Day.right (e 0).int = (e 3).bool) := by
 simp only [F4, Ad, Def.q, BB, L.Ai, L.Ar, L.AN, L.AR, L.ev, A.Ah, A.Am, A.Au, A.AZ, List.map_cons, List.map_nil, Nat.zero_add, Nat.add_zero, and_true, true_and, Nat.reduceAdd, Nat.one_mul] at H
 simp only [DZ, Ed, D0, Bo, EK, EO, B9, FI, and_true, true_and] at H
 obtain ⟨q3, q2, q1⟩ := H
 generalize (e 0).int = x0, (e 1).bool = v1, (e 2).bool = v2, (e 3).bool = v3 at *
 grind [Day.AP, Day.EP, Day.Bw, Day.sm, Day.i64, Day.u8, Day.u16, Day.u32, Day.right, Day.times, Day.Bu, Day.Bs, Day.GC, Day.AV, Day.Bx, Day.A3, Day.By, Day.Ap, Day.ND.i64, Day.Bk, Day.Co, Day.EC, Day.GD, Day.BS, wrap64, Day.BR, Day.Ca, Day.A2, Day.AF, Day.Iv, Day.atR, Day.AT, Day.AU]
def Hj : G := ⟨4, [⟨3, .iteB, [V 1, V 2, B false]⟩, ⟨2, (.cmp .leq), [V 0, N 8]⟩, ⟨1, (.cmp .geq), [V 0, N 3]⟩], [], []⟩
theorem NZ (e : Nat → A) (H : Ad T e Hj.defs) (hp : (true) = true) :
  (True) ∧ (Day.right (e 0).int = (e 3).bool) := by
 simp only [Hj, Ad, Def.q, BB, L.Ai, L.Ar, L.AN, L.AR, L.ev, A.Ah, A.Am, A.Au, A.AZ, List.map_cons, List.map_nil, Nat.zero_add, Nat.add_zero, and_true, true_and, Nat.reduceAdd, Nat.one_mul] at H
 simp only [DZ, Ed, D0, Bo, EK, EO, B9, FI, and_true, true_and] at H
 obtain ⟨q3, q2, q1⟩ := H
 generalize (e 0).int = x0, (e 1).bool = v1, (e 2).bool = v2, (e 3).bool = v3 at *
 grind [Day.AP, Day.EP, Day.Bw, Day.sm, Day.i64, Day.u8, Day.u16, Day.u32, Day.right, Day.times, Day.Bu, Day.Bs, Day.GC, Day.AV, Day.Bx, Day.A3, Day.By, Day.Ap, Day.ND.i64, Day.Bk, Day.Co, Day.EC, Day.GD, Day.BS, wrap64, Day.BR, Day.Ca, Day.A2, Day.AF, Day.Iv, Day.atR, Day.AT, Day.AU]
def F7 : G := ⟨5, [⟨2, (.call 90), [.s [108, 105, 115, 116, 101, 110], V 0, V 1]⟩], [V 2], []⟩
theorem ML (e : Nat → A) (H : Ad T e F7.defs) (hp : (true) = true) :
  ((e 2).bool = true) ∧ (Day.Bs 4 (e 0).int (e 1).int = (e 3).int ∧ Day.Bu (e 0).int (e 1).int = (e 4).int) := by
 simp only [F7, Ad, Def.q, BB, L.Ai, L.Ar, L.AN, L.AR, L.ev, A.Ah, A.Am, A.Au, A.AZ, List.map_cons, List.map_nil, Nat.zero_add, Nat.add_zero, and_true, true_and, Nat.reduceAdd, Nat.one_mul] at H
 have q2 := H
 replace q2 := Lr q2
 obtain ⟨q2, q3, q4⟩ := q2
 simp only [L.Ai, L.Ar, L.AN, L.AR, L.ev, A.Ah, A.Am, A.Au] at q2 q3 q4
 generalize (e 0).int = x0, (e 1).int = x1, (e 2).bool = v2, (e 3).int = v3, (e 4).int = v4 at *
 simp only [Day.Mv, Day.Mw, Day.Mx, Day.My, Day.Ky, Day.Kz, Day.PG, Day.Iw] at *
 grind [Day.AP, Day.EP, Day.Bw, Day.sm, Day.i64, Day.u8, Day.u16, Day.u32, Day.right, Day.times, Day.Bu, Day.Bs, Day.GC, Day.AV, Day.Bx, Day.A3, Day.By, Day.Ap, Day.ND.i64, Day.Bk, Day.Co, Day.EC, Day.GD, Day.BS, wrap64, Day.BR, Day.Ca, Day.A2, Day.AF, Day.Iv, Day.atR, Day.AT, Day.AU, Day.Iw]
def KF : G := ⟨29, [⟨28, .iteB, [V 19, V 19, V 18]⟩, ⟨27, .iteI, [V 19, N 0, V 17]⟩, ⟨26, .iteI, [V 19, V 24, N 0]⟩, ⟨25, .not, [V 19]⟩, ⟨24, (.ar .add .i64), [V 23, N 1]⟩, ⟨23, (.ar .add .i64), [V 21, V 2]⟩, ⟨22, .imp, [V 19, V 20]⟩, ⟨20, (.call 89), [V 0, V 1]⟩, ⟨19, .and, [V 6, V 16]⟩, ⟨18, .iteB, [V 5, V 5, V 15]⟩, ⟨17, .iteI, [V 5, N 1, N 2]⟩, ⟨16, .and, [V 12, V 14]⟩, ⟨15, .and, [V 11, V 13]⟩, ⟨14, .and, [V 6, V 12]⟩, ⟨13, .and, [V 6, V 11]⟩, ⟨12, .not, [V 11]⟩, ⟨11, .iteB, [V 7, B true, V 10]⟩, ⟨10, (.cmp .geq), [V 2, V 1]⟩, ⟨9, .and, [V 6, V 8]⟩, ⟨8, .not, [V 7]⟩, ⟨7, (.cmp .lss), [V 2, N 0]⟩, ⟨6, .not, [V 5]⟩, ⟨5, .not, [V 4]⟩, ⟨3, (.call 37), [V 1]⟩], [V 22, V 3], []⟩
theorem QW (e : Nat → A) (H : Ad T e KF.defs) (hp : (Day.Iw (e 0).str) = true) :
  ((e 22).bool = true ∧ (e 3).bool = true) ∧ (Day.Bs (Day.NI (e 0).str) (e 1).int (e 2).int = (e 26).int ∧ Day.Bu (e 1).int (e 2).int = (e 27).int) := by
 simp only [KF, Ad, Def.q, BB, L.Ai, L.Ar, L.AN, L.AR, L.ev, A.Ah, A.Am, A.Au, A.AZ, List.map_cons, List.map_nil, Nat.zero_add, Nat.add_zero, and_true, true_and, Nat.reduceAdd, Nat.one_mul] at H
 simp only [DZ, Ed, D0, Bo, EK, EO, B9, FI, and_true, true_and] at H
 obtain ⟨q28, ⟨q27, -⟩, ⟨q26, -⟩, q25, ⟨q24, -⟩, ⟨q23, -⟩, q22, q20, q19, q18, ⟨q17, -⟩, q16, q15, q14, q13, q12, q11, q10, q9, q8, q7, q6, q5, q3⟩ := H
 replace q20 := JY q20
 obtain ⟨q20, q21⟩ := q20
 replace q3 := Iz q3
 obtain ⟨q3, q4⟩ := q3
 simp only [L.Ai, L.Ar, L.AN, L.AR, L.ev, A.Ah, A.Am, A.Au] at q20 q21 q3 q4
 generalize (e 0).str = x0, (e 1).int = x1, (e 2).int = x2, (e 3).bool = v3, (e 4).bool = v4, (e 5).bool = v5, (e 6).bool = v6, (e 7).bool = v7, (e 8).bool = v8, (e 9).bool = v9, (e 10).bool = v10, (e 11).bool = v11, (e 12).bool = v12, (e 13).bool = v13, (e 14).bool = v14, (e 15).bool = v15, (e 16).bool = v16, (e 17).int = v17, (e 18).bool = v18, (e 19).bool = v19, (e 20).bool = v20, (e 21).int = v21, (e 22).bool = v22, (e 23).int = v23, (e 24).int = v24, (e 25).bool = v25, (e 26).int = v26, (e 27).int = v27, (e 28).bool = v28 at *
 have hk := Day.R0 x0
 by_cases hr : Day.right x1 = true
 ·have hn : 3 ≤ x1 ∧ x1 ≤ 8 := by grind [Day.AP, Day.EP, Day.Bw, Day.sm, Day.i64, Day.u8, Day.u16, Day.u32, Day.right, Day.times, Day.Bu, Day.Bs, Day.GC, Day.AV, Day.Bx, Day.A3, Day.By, Day.Ap, Day.ND.i64, Day.Bk, Day.Co, Day.EC, Day.GD, Day.BS, wrap64, Day.BR, Day.Ca, Day.A2, Day.AF, Day.Iv, Day.atR, Day.AT, Day.AU]
  have hn2 : x1 = 3 ∨ x1 = 4 ∨ x1 = 5 ∨ x1 = 6 ∨ x1 = 7 ∨ x1 = 8 := by omega
  clear hn
  rcases hn2 with rfl | rfl | rfl | rfl | rfl | rfl <;> grind [Day.AP, Day.EP, Day.Bw, Day.sm, Day.i64, Day.u8, Day.u16, Day.u32, Day.right, Day.times, Day.Bu, Day.Bs, Day.GC, Day.AV, Day.Bx, Day.A3, Day.By, Day.Ap, Day.ND.i64, Day.Bk, Day.Co, Day.EC, Day.GD, Day.BS, wrap64, Day.BR, Day.Ca, Day.A2, Day.AF, Day.Iv, Day.atR, Day.AT, Day.AU]
 ·grind [Day.AP, Day.EP, Day.Bw, Day.sm, Day.i64, Day.u8, Day.u16, Day.u32, Day.right, Day.times, Day.Bu, Day.Bs, Day.GC, Day.AV, Day.Bx, Day.A3, Day.By, Day.Ap, Day.ND.i64, Day.Bk, Day.Co, Day.EC, Day.GD, Day.BS, wrap64, Day.BR, Day.Ca, Day.A2, Day.AF, Day.Iv, Day.atR, Day.AT, Day.AU]
def IJ : G := ⟨5, [⟨2, (.call 90), [.s [99, 111, 108, 100], V 0, V 1]⟩], [V 2], []⟩
theorem P4 (e : Nat → A) (H : Ad T e IJ.defs) (hp : (true) = true) :
  ((e 2).bool = true) ∧ (Day.Bs 2 (e 0).int (e 1).int = (e 3).int ∧ Day.Bu (e 0).int (e 1).int = (e 4).int) := by
 simp only [IJ, Ad, Def.q, BB, L.Ai, L.Ar, L.AN, L.AR, L.ev, A.Ah, A.Am, A.Au, A.AZ, List.map_cons, List.map_nil, Nat.zero_add, Nat.add_zero, and_true, true_and, Nat.reduceAdd, Nat.one_mul] at H
 have q2 := H
 replace q2 := Lr q2
 obtain ⟨q2, q3, q4⟩ := q2
 simp only [L.Ai, L.Ar, L.AN, L.AR, L.ev, A.Ah, A.Am, A.Au] at q2 q3 q4
 generalize (e 0).int = x0, (e 1).int = x1, (e 2).bool = v2, (e 3).int = v3, (e 4).int = v4 at *
 simp only [Day.Mv, Day.Mw, Day.Mx, Day.My, Day.Ky, Day.Kz, Day.PG, Day.Iw] at *
 grind [Day.AP, Day.EP, Day.Bw, Day.sm, Day.i64, Day.u8, Day.u16, Day.u32, Day.right, Day.times, Day.Bu, Day.Bs, Day.GC, Day.AV, Day.Bx, Day.A3, Day.By, Day.Ap, Day.ND.i64, Day.Bk, Day.Co, Day.EC, Day.GD, Day.BS, wrap64, Day.BR, Day.Ca, Day.A2, Day.AF, Day.Iv, Day.atR, Day.AT, Day.AU, Day.Iw]
def Ho : G := ⟨3, [⟨1, (.call 89), [.s [119, 97, 116, 99, 104], V 0]⟩], [V 1], []⟩
theorem N6 (e : Nat → A) (H : Ad T e Ho.defs) (hp : (true) = true) :
  ((e 1).bool = true) ∧ (Day.times 8 (e 0).int = (e 2).int) := by
 simp only [Ho, Ad, Def.q, BB, L.Ai, L.Ar, L.AN, L.AR, L.ev, A.Ah, A.Am, A.Au, A.AZ, List.map_cons, List.map_nil, Nat.zero_add, Nat.add_zero, and_true, true_and, Nat.reduceAdd, Nat.one_mul] at H
 have q1 := H
 replace q1 := JY q1
 obtain ⟨q1, q2⟩ := q1
 simp only [L.Ai, L.Ar, L.AN, L.AR, L.ev, A.Ah, A.Am, A.Au] at q1 q2
 generalize (e 0).int = x0, (e 1).bool = v1, (e 2).int = v2 at *
 simp only [Day.Mv, Day.Mw, Day.Mx, Day.My, Day.Ky, Day.Kz, Day.PG, Day.Iw] at *
 grind [Day.AP, Day.EP, Day.Bw, Day.sm, Day.i64, Day.u8, Day.u16, Day.u32, Day.right, Day.times, Day.Bu, Day.Bs, Day.GC, Day.AV, Day.Bx, Day.A3, Day.By, Day.Ap, Day.ND.i64, Day.Bk, Day.Co, Day.EC, Day.GD, Day.BS, wrap64, Day.BR, Day.Ca, Day.A2, Day.AF, Day.Iv, Day.atR, Day.AT, Day.AU, Day.Iw]
def Fj : G := ⟨5, [⟨2, (.call 91), [V 0, V 1, N 4]⟩], [V 2], []⟩
theorem LM (e : Nat → A) (H : Ad T e Fj.defs) (hp : (true) = true) :
  ((e 2).bool = true) ∧ (Day.Bs 4 (e 0).int (e 1).int = (e 3).int ∧ Day.Bu (e 0).int (e 1).int = (e 4).int) := by
 simp only [Fj, Ad, Def.q, BB, L.Ai, L.Ar, L.AN, L.AR, L.ev, A.Ah, A.Am, A.Au, A.AZ, List.map_cons, List.map_nil, Nat.zero_add, Nat.add_zero, and_true, true_and, Nat.reduceAdd, Nat.one_mul] at H
 have q2 := H
 replace q2 := Ls q2
 obtain ⟨q2, q3, q4⟩ := q2
 simp only [L.Ai, L.Ar, L.AN, L.AR, L.ev, A.Ah, A.Am, A.Au] at q2 q3 q4
 generalize (e 0).int = x0, (e 1).int = x1, (e 2).bool = v2, (e 3).int = v3, (e 4).int = v4 at *
 grind [Day.AP, Day.EP, Day.Bw, Day.sm, Day.i64, Day.u8, Day.u16, Day.u32, Day.right, Day.times, Day.Bu, Day.Bs, Day.GC, Day.AV, Day.Bx, Day.A3, Day.By, Day.Ap, Day.ND.i64, Day.Bk, Day.Co, Day.EC, Day.GD, Day.BS, wrap64, Day.BR, Day.Ca, Day.A2, Day.AF, Day.Iv, Day.atR, Day.AT, Day.AU]
def KQ : G := ⟨28, [⟨27, .iteB, [V 6, V 23, V 5]⟩, ⟨26, .iteI, [V 6, V 22, N 1]⟩, ⟨25, .iteI, [V 6, V 21, N 0]⟩, ⟨24, .not, [V 6]⟩, ⟨23, .iteB, [V 16, V 16, V 15]⟩, ⟨22, .iteI, [V 16, N 0, N 2]⟩, ⟨21, .iteI, [V 16, V 19, N 0]⟩, ⟨20, .not, [V 16]⟩, ⟨19, (.ar .add .i64), [V 18, V 1]⟩, ⟨18, (.ar .add .i64), [V 17, N 1]⟩, ⟨17, (.ar .mul .i64), [V 2, V 0]⟩, ⟨16, .and, [V 12, V 14]⟩, ⟨15, .and, [V 11, V 13]⟩, ⟨14, .and, [V 6, V 12]⟩, ⟨13, .and, [V 6, V 11]⟩, ⟨12, .not, [V 11]⟩, ⟨11, .iteB, [V 7, B true, V 10]⟩, ⟨10, (.cmp .geq), [V 1, V 0]⟩, ⟨9, .and, [V 6, V 8]⟩, ⟨8, .not, [V 7]⟩, ⟨7, (.cmp .lss), [V 1, N 0]⟩, ⟨6, .not, [V 5]⟩, ⟨5, .not, [V 4]⟩, ⟨3, (.call 38), [V 0]⟩], [V 3], []⟩
theorem Q8 (e : Nat → A) (H : Ad T e KQ.defs) (hp : (Day.u8 (e 2).int) = true) :
  ((e 3).bool = true) ∧ (Day.Bs (e 2).int (e 0).int (e 1).int = (e 25).int ∧ Day.Bu (e 0).int (e 1).int = (e 26).int) := by
 simp only [KQ, Ad, Def.q, BB, L.Ai, L.Ar, L.AN, L.AR, L.ev, A.Ah, A.Am, A.Au, A.AZ, List.map_cons, List.map_nil, Nat.zero_add, Nat.add_zero, and_true, true_and, Nat.reduceAdd, Nat.one_mul] at H
 simp only [DZ, Ed, D0, Bo, EK, EO, B9, FI, and_true, true_and] at H
 obtain ⟨q27, ⟨q26, -⟩, ⟨q25, -⟩, q24, q23, ⟨q22, -⟩, ⟨q21, -⟩, q20, ⟨q19, -⟩, ⟨q18, -⟩, ⟨q17, -⟩, q16, q15, q14, q13, q12, q11, q10, q9, q8, q7, q6, q5, q3⟩ := H
 replace q3 := Ek q3
 obtain ⟨q3, q4⟩ := q3
 simp only [L.Ai, L.Ar, L.AN, L.AR, L.ev, A.Ah, A.Am, A.Au] at q3 q4
 generalize (e 0).int = x0, (e 1).int = x1, (e 2).int = x2, (e 3).bool = v3, (e 4).bool = v4, (e 5).bool = v5, (e 6).bool = v6, (e 7).bool = v7, (e 8).bool = v8, (e 9).bool = v9, (e 10).bool = v10, (e 11).bool = v11, (e 12).bool = v12, (e 13).bool = v13, (e 14).bool = v14, (e 15).bool = v15, (e 16).bool = v16, (e 17).int = v17, (e 18).int = v18, (e 19).int = v19, (e 20).bool = v20, (e 21).int = v21, (e 22).int = v22, (e 23).bool = v23, (e 24).bool = v24, (e 25).int = v25, (e 26).int = v26, (e 27).bool = v27 at *
 by_cases hr : Day.right x0 = true
 ·have hn : 3 ≤ x0 ∧ x0 ≤ 8 := by grind [Day.AP, Day.EP, Day.Bw, Day.sm, Day.i64, Day.u8, Day.u16, Day.u32, Day.right, Day.times, Day.Bu, Day.Bs, Day.GC, Day.AV, Day.Bx, Day.A3, Day.By, Day.Ap, Day.ND.i64, Day.Bk, Day.Co, Day.EC, Day.GD, Day.BS, wrap64, Day.BR, Day.Ca, Day.A2, Day.AF, Day.Iv, Day.atR, Day.AT, Day.AU]
  have hn2 : x0 = 3 ∨ x0 = 4 ∨ x0 = 5 ∨ x0 = 6 ∨ x0 = 7 ∨ x0 = 8 := by omega
  clear hn
  rcases hn2 with rfl | rfl | rfl | rfl | rfl | rfl <;> grind [Day.AP, Day.EP, Day.Bw, Day.sm, Day.i64, Day.u8, Day.u16, Day.u32, Day.right, Day.times, Day.Bu, Day.Bs, Day.GC, Day.AV, Day.Bx, Day.A3, Day.By, Day.Ap, Day.ND.i64, Day.Bk, Day.Co, Day.EC, Day.GD, Day.BS, wrap64, Day.BR, Day.Ca, Day.A2, Day.AF, Day.Iv, Day.atR, Day.AT, Day.AU]
 ·grind [Day.AP, Day.EP, Day.Bw, Day.sm, Day.i64, Day.u8, Day.u16, Day.u32, Day.right, Day.times, Day.Bu, Day.Bs, Day.GC, Day.AV, Day.Bx, Day.A3, Day.By, Day.Ap, Day.ND.i64, Day.Bk, Day.Co, Day.EC, Day.GD, Day.BS, wrap64, Day.BR, Day.Ca, Day.A2, Day.AF, Day.Iv, Day.atR, Day.AT, Day.AU]
def Hu : G := ⟨5, [⟨2, (.call 91), [V 0, V 1, N 2]⟩], [V 2], []⟩
theorem Og (e : Nat → A) (H : Ad T e Hu.defs) (hp : (true) = true) :
  ((e 2).bool = true) ∧ (Day.Bs 2 (e 0).int (e 1).int = (e 3).int ∧ Day.Bu (e 0).int (e 1).int = (e 4).int) := by
 simp only [Hu, Ad, Def.q, BB, L.Ai, L.Ar, L.AN, L.AR, L.ev, A.Ah, A.Am, A.Au, A.AZ, List.map_cons, List.map_nil, Nat.zero_add, Nat.add_zero, and_true, true_and, Nat.reduceAdd, Nat.one_mul] at H
 have q2 := H
 replace q2 := Ls q2
 obtain ⟨q2, q3, q4⟩ := q2
 simp only [L.Ai, L.Ar, L.AN, L.AR, L.ev, A.Ah, A.Am, A.Au] at q2 q3 q4
 generalize (e 0).int = x0, (e 1).int = x1, (e 2).bool = v2, (e 3).int = v3, (e 4).int = v4 at *
 grind [Day.AP, Day.EP, Day.Bw, Day.sm, Day.i64, Day.u8, Day.u16, Day.u32, Day.right, Day.times, Day.Bu, Day.Bs, Day.GC, Day.AV, Day.Bx, Day.A3, Day.By, Day.Ap, Day.ND.i64, Day.Bk, Day.Co, Day.EC, Day.GD, Day.BS, wrap64, Day.BR, Day.Ca, Day.A2, Day.AF, Day.Iv, Day.atR, Day.AT, Day.AU]
def Gc : G := ⟨3, [⟨1, (.call 79), [V 0, N 8]⟩], [V 1], []⟩
theorem M6 (e : Nat → A) (H : Ad T e Gc.defs) (hp : (true) = true) :
  ((e 1).bool = true) ∧ (Day.times 8 (e 0).int = (e 2).int) := by
 simp only [Gc, Ad, Def.q, BB, L.Ai, L.Ar, L.AN, L.AR, L.ev, A.Ah, A.Am, A.Au, A.AZ, List.map_cons, List.map_nil, Nat.zero_add, Nat.add_zero, and_true, true_and, Nat.reduceAdd, Nat.one_mul] at H
 have q1 := H
 replace q1 := NM q1
 obtain ⟨q1, q2⟩ := q1
 simp only [L.Ai, L.Ar, L.AN, L.AR, L.ev, A.Ah, A.Am, A.Au] at q1 q2
 generalize (e 0).int = x0, (e 1).bool = v1, (e 2).int = v2 at *
 grind [Day.AP, Day.EP, Day.Bw, Day.sm, Day.i64, Day.u8, Day.u16, Day.u32, Day.right, Day.times, Day.Bu, Day.Bs, Day.GC, Day.AV, Day.Bx, Day.A3, Day.By, Day.Ap, Day.ND.i64, Day.Bk, Day.Co, Day.EC, Day.GD, Day.BS, wrap64, Day.BR, Day.Ca, Day.A2, Day.AF, Day.Iv, Day.atR, Day.AT, Day.AU]
def Gd : G := ⟨10, [⟨9, .iteB, [V 5, V 5, V 4]⟩, ⟨8, .iteI, [V 5, V 6, N 0]⟩, ⟨7, .not, [V 5]⟩, ⟨6, (.ar .mul .i64), [V 0, V 1]⟩, ⟨5, .not, [V 4]⟩, ⟨4, .not, [V 3]⟩, ⟨2, (.call 38), [V 0]⟩], [V 2], []⟩
theorem M7 (e : Nat → A) (H : Ad T e Gd.defs) (hp : (Day.u8 (e 1).int) = true) :
  ((e 2).bool = true) ∧ (Day.times (e 1).int (e 0).int = (e 8).int) := by
 simp only [Gd, Ad, Def.q, BB, L.Ai, L.Ar, L.AN, L.AR, L.ev, A.Ah, A.Am, A.Au, A.AZ, List.map_cons, List.map_nil, Nat.zero_add, Nat.add_zero, and_true, true_and, Nat.reduceAdd, Nat.one_mul] at H
 simp only [DZ, Ed, D0, Bo, EK, EO, B9, FI, and_true, true_and] at H
 obtain ⟨q9, ⟨q8, -⟩, q7, ⟨q6, -⟩, q5, q4, q2⟩ := H
 replace q2 := Ek q2
 obtain ⟨q2, q3⟩ := q2
 simp only [L.Ai, L.Ar, L.AN, L.AR, L.ev, A.Ah, A.Am, A.Au] at q2 q3
 generalize (e 0).int = x0, (e 1).int = x1, (e 2).bool = v2, (e 3).bool = v3, (e 4).bool = v4, (e 5).bool = v5, (e 6).int = v6, (e 7).bool = v7, (e 8).int = v8, (e 9).bool = v9 at *
 by_cases hr : Day.right x0 = true
 ·have hn : 3 ≤ x0 ∧ x0 ≤ 8 := by grind [Day.AP, Day.EP, Day.Bw, Day.sm, Day.i64, Day.u8, Day.u16, Day.u32, Day.right, Day.times, Day.Bu, Day.Bs, Day.GC, Day.AV, Day.Bx, Day.A3, Day.By, Day.Ap, Day.ND.i64, Day.Bk, Day.Co, Day.EC, Day.GD, Day.BS, wrap64, Day.BR, Day.Ca, Day.A2, Day.AF, Day.Iv, Day.atR, Day.AT, Day.AU]
  have hn2 : x0 = 3 ∨ x0 = 4 ∨ x0 = 5 ∨ x0 = 6 ∨ x0 = 7 ∨ x0 = 8 := by omega
  clear hn
  rcases hn2 with rfl | rfl | rfl | rfl | rfl | rfl <;> grind [Day.AP, Day.EP, Day.Bw, Day.sm, Day.i64, Day.u8, Day.u16, Day.u32, Day.right, Day.times, Day.Bu, Day.Bs, Day.GC, Day.AV, Day.Bx, Day.A3, Day.By, Day.Ap, Day.ND.i64, Day.Bk, Day.Co, Day.EC, Day.GD, Day.BS, wrap64, Day.BR, Day.Ca, Day.A2, Day.AF, Day.Iv, Day.atR, Day.AT, Day.AU]
 ·grind [Day.AP, Day.EP, Day.Bw, Day.sm, Day.i64, Day.u8, Day.u16, Day.u32, Day.right, Day.times, Day.Bu, Day.Bs, Day.GC, Day.AV, Day.Bx, Day.A3, Day.By, Day.Ap, Day.ND.i64, Day.Bk, Day.Co, Day.EC, Day.GD, Day.BS, wrap64, Day.BR, Day.Ca, Day.A2, Day.AF, Day.Iv, Day.atR, Day.AT, Day.AU]
end Rx.S
