import Derived.Test.YtngghkhjejkelaaWXt
set_option linter.unusedVariables false
set_option linter.unusedSimpArgs false
namespace Rx.S
open Go Rx
set_option maxRecDepth 100000
set_option maxHeartbeats 1000000
def Ga : G := ⟨4, [⟨3, .iteB, [V 1, V 2, B false]⟩, ⟨2, (.cmp .leq), [V 0, N 8]⟩, ⟨1, (.cmp .geq), [V 0, N 3]⟩], [], []⟩
theorem Lh (e : Nat → A) (H : Ak T e Ga.defs) (hp : (true) = true) :
  (True) ∧ (Day.right (e 0).int = (e 3).bool) := by
 simp only [Ga, Ak, Def.q, C6, L.An, L.AO, L.By, L.BE, L.ev, A.As, A.Ax, A.AV, A.BX, List.map_cons, List.map_nil, Nat.zero_add, Nat.add_zero, and_true, true_and, Nat.reduceAdd, Nat.one_mul] at H
 simp only [HU, Ir, HV, B5, JU, Ko, Em, MG, and_true, true_and] at H
 obtain ⟨q3, q2, q1⟩ := H
 generalize (e 0).int = x0, (e 1).bool = v1, (e 2).bool = v2, (e 3).bool = v3 at *
 grind [Day.Bw, Day.Kp, Day.DA, Day.sm, Day.i64, Day.u8, Day.u16, Day.u32, Day.right, Day.times, Day.Dt, Day.C7, Day.Nj, Day.BK, Day.C1, Day.Cp, Day.DB, Day.AE, Day.ND.i64, Day.CO, Day.G0, Day.LH, Day.Pk, Day.B6, wrap64, Day.Ef, Day.Fw, Day.BN, Day.A8, Day.Qv, Day.atR, Day.Cn, Day.Co]
def E6 : G := ⟨5, [⟨2, (.call 90), [.s [108, 105, 115, 116, 101, 110], V 0, V 1]⟩], [V 2], []⟩
theorem Ky (e : Nat → A) (H : Ak T e E6.defs) (hp : (true) = true) :
  ((e 2).bool = true) ∧ (Day.C7 4 (e 0).int (e 1).int = (e 3).int ∧ Day.Dt (e 0).int (e 1).int = (e 4).int) := by
 simp only [E6, Ak, Def.q, C6, L.An, L.AO, L.By, L.BE, L.ev, A.As, A.Ax, A.AV, A.BX, List.map_cons, List.map_nil, Nat.zero_add, Nat.add_zero, and_true, true_and, Nat.reduceAdd, Nat.one_mul] at H
 have q2 := H
 replace q2 := JG q2
 obtain ⟨q2, q3, q4⟩ := q2
 simp only [L.An, L.AO, L.By, L.BE, L.ev, A.As, A.Ax, A.AV] at q2 q3 q4
 generalize (e 0).int = x0, (e 1).int = x1, (e 2).bool = v2, (e 3).int = v3, (e 4).int = v4 at *
 simp only [Day.Kq, Day.Kr, Day.Ks, Day.Kt, Day.IV, Day.IW, Day.MI, Day.G1] at *
 grind [Day.Bw, Day.Kp, Day.DA, Day.sm, Day.i64, Day.u8, Day.u16, Day.u32, Day.right, Day.times, Day.Dt, Day.C7, Day.Nj, Day.BK, Day.C1, Day.Cp, Day.DB, Day.AE, Day.ND.i64, Day.CO, Day.G0, Day.LH, Day.Pk, Day.B6, wrap64, Day.Ef, Day.Fw, Day.BN, Day.A8, Day.Qv, Day.atR, Day.Cn, Day.Co, Day.G1]
def I3 : G := ⟨29, [⟨28, .iteB, [V 19, V 19, V 18]⟩, ⟨27, .iteI, [V 19, N 0, V 17]⟩, ⟨26, .iteI, [V 19, V 24, N 0]⟩, ⟨25, .not, [V 19]⟩, ⟨24, (.ar .add .i64), [V 23, N 1]⟩, ⟨23, (.ar .add .i64), [V 21, V 2]⟩, ⟨22, .imp, [V 19, V 20]⟩, ⟨20, (.call 89), [V 0, V 1]⟩, ⟨19, .and, [V 6, V 16]⟩, ⟨18, .iteB, [V 5, V 5, V 15]⟩, ⟨17, .iteI, [V 5, N 1, N 2]⟩, ⟨16, .and, [V 12, V 14]⟩, ⟨15, .and, [V 11, V 13]⟩, ⟨14, .and, [V 6, V 12]⟩, ⟨13, .and, [V 6, V 11]⟩, ⟨12, .not, [V 11]⟩, ⟨11, .iteB, [V 7, B true, V 10]⟩, ⟨10, (.cmp .geq), [V 2, V 1]⟩, ⟨9, .and, [V 6, V 8]⟩, ⟨8, .not, [V 7]⟩, ⟨7, (.cmp .lss), [V 2, N 0]⟩, ⟨6, .not, [V 5]⟩, ⟨5, .not, [V 4]⟩, ⟨3, (.call 37), [V 1]⟩], [V 22, V 3], []⟩
theorem NK (e : Nat → A) (H : Ak T e I3.defs) (hp : (Day.G1 (e 0).str) = true) :
  ((e 22).bool = true ∧ (e 3).bool = true) ∧ (Day.C7 (Day.K8 (e 0).str) (e 1).int (e 2).int = (e 26).int ∧ Day.Dt (e 1).int (e 2).int = (e 27).int) := by
 simp only [I3, Ak, Def.q, C6, L.An, L.AO, L.By, L.BE, L.ev, A.As, A.Ax, A.AV, A.BX, List.map_cons, List.map_nil, Nat.zero_add, Nat.add_zero, and_true, true_and, Nat.reduceAdd, Nat.one_mul] at H
 simp only [HU, Ir, HV, B5, JU, Ko, Em, MG, and_true, true_and] at H
 obtain ⟨q28, ⟨q27, -⟩, ⟨q26, -⟩, q25, ⟨q24, -⟩, ⟨q23, -⟩, q22, q20, q19, q18, ⟨q17, -⟩, q16, q15, q14, q13, q12, q11, q10, q9, q8, q7, q6, q5, q3⟩ := H
 replace q20 := Ih q20
 obtain ⟨q20, q21⟩ := q20
 replace q3 := G3 q3
 obtain ⟨q3, q4⟩ := q3
 simp only [L.An, L.AO, L.By, L.BE, L.ev, A.As, A.Ax, A.AV] at q20 q21 q3 q4
 generalize (e 0).str = x0, (e 1).int = x1, (e 2).int = x2, (e 3).bool = v3, (e 4).bool = v4, (e 5).bool = v5, (e 6).bool = v6, (e 7).bool = v7, (e 8).bool = v8, (e 9).bool = v9, (e 10).bool = v10, (e 11).bool = v11, (e 12).bool = v12, (e 13).bool = v13, (e 14).bool = v14, (e 15).bool = v15, (e 16).bool = v16, (e 17).int = v17, (e 18).bool = v18, (e 19).bool = v19, (e 20).bool = v20, (e 21).int = v21, (e 22).bool = v22, (e 23).int = v23, (e 24).int = v24, (e 25).bool = v25, (e 26).int = v26, (e 27).int = v27, (e 28).bool = v28 at *
 have hk := Day.OA x0
 by_cases hr : Day.right x1 = true
 ·have hn : 3 ≤ x1 ∧ x1 ≤ 8 := by grind [Day.Bw, Day.Kp, Day.DA, Day.sm, Day.i64, Day.u8, Day.u16, Day.u32, Day.right, Day.times, Day.Dt, Day.C7, Day.Nj, Day.BK, Day.C1, Day.Cp, Day.DB, Day.AE, Day.ND.i64, Day.CO, Day.G0, Day.LH, Day.Pk, Day.B6, wrap64, Day.Ef, Day.Fw, Day.BN, Day.A8, Day.Qv, Day.atR, Day.Cn, Day.Co]
  have hn2 : x1 = 3 ∨ x1 = 4 ∨ x1 = 5 ∨ x1 = 6 ∨ x1 = 7 ∨ x1 = 8 := by omega
  clear hn
  rcases hn2 with rfl | rfl | rfl | rfl | rfl | rfl <;> grind [Day.Bw, Day.Kp, Day.DA, Day.sm, Day.i64, Day.u8, Day.u16, Day.u32, Day.right, Day.times, Day.Dt, Day.C7, Day.Nj, Day.BK, Day.C1, Day.Cp, Day.DB, Day.AE, Day.ND.i64, Day.CO, Day.G0, Day.LH, Day.Pk, Day.B6, wrap64, Day.Ef, Day.Fw, Day.BN, Day.A8, Day.Qv, Day.atR, Day.Cn, Day.Co]
 ·grind [Day.Bw, Day.Kp, Day.DA, Day.sm, Day.i64, Day.u8, Day.u16, Day.u32, Day.right, Day.times, Day.Dt, Day.C7, Day.Nj, Day.BK, Day.C1, Day.Cp, Day.DB, Day.AE, Day.ND.i64, Day.CO, Day.G0, Day.LH, Day.Pk, Day.B6, wrap64, Day.Ef, Day.Fw, Day.BN, Day.A8, Day.Qv, Day.atR, Day.Cn, Day.Co]
def Hd : G := ⟨5, [⟨2, (.call 90), [.s [99, 111, 108, 100], V 0, V 1]⟩], [V 2], []⟩
theorem M5 (e : Nat → A) (H : Ak T e Hd.defs) (hp : (true) = true) :
  ((e 2).bool = true) ∧ (Day.C7 2 (e 0).int (e 1).int = (e 3).int ∧ Day.Dt (e 0).int (e 1).int = (e 4).int) := by
 simp only [Hd, Ak, Def.q, C6, L.An, L.AO, L.By, L.BE, L.ev, A.As, A.Ax, A.AV, A.BX, List.map_cons, List.map_nil, Nat.zero_add, Nat.add_zero, and_true, true_and, Nat.reduceAdd, Nat.one_mul] at H
 have q2 := H
 replace q2 := JG q2
 obtain ⟨q2, q3, q4⟩ := q2
 simp only [L.An, L.AO, L.By, L.BE, L.ev, A.As, A.Ax, A.AV] at q2 q3 q4
 generalize (e 0).int = x0, (e 1).int = x1, (e 2).bool = v2, (e 3).int = v3, (e 4).int = v4 at *
 simp only [Day.Kq, Day.Kr, Day.Ks, Day.Kt, Day.IV, Day.IW, Day.MI, Day.G1] at *
 grind [Day.Bw, Day.Kp, Day.DA, Day.sm, Day.i64, Day.u8, Day.u16, Day.u32, Day.right, Day.times, Day.Dt, Day.C7, Day.Nj, Day.BK, Day.C1, Day.Cp, Day.DB, Day.AE, Day.ND.i64, Day.CO, Day.G0, Day.LH, Day.Pk, Day.B6, wrap64, Day.Ef, Day.Fw, Day.BN, Day.A8, Day.Qv, Day.atR, Day.Cn, Day.Co, Day.G1]
def Gf : G := ⟨3, [⟨1, (.call 89), [.s [119, 97, 116, 99, 104], V 0]⟩], [V 1], []⟩
theorem Lo (e : Nat → A) (H : Ak T e Gf.defs) (hp : (true) = true) :
  ((e 1).bool = true) ∧ (Day.times 8 (e 0).int = (e 2).int) := by
 simp only [Gf, Ak, Def.q, C6, L.An, L.AO, L.By, L.BE, L.ev, A.As, A.Ax, A.AV, A.BX, List.map_cons, List.map_nil, Nat.zero_add, Nat.add_zero, and_true, true_and, Nat.reduceAdd, Nat.one_mul] at H
 have q1 := H
 replace q1 := Ih q1
 obtain ⟨q1, q2⟩ := q1
 simp only [L.An, L.AO, L.By, L.BE, L.ev, A.As, A.Ax, A.AV] at q1 q2
 generalize (e 0).int = x0, (e 1).bool = v1, (e 2).int = v2 at *
 simp only [Day.Kq, Day.Kr, Day.Ks, Day.Kt, Day.IV, Day.IW, Day.MI, Day.G1] at *
 grind [Day.Bw, Day.Kp, Day.DA, Day.sm, Day.i64, Day.u8, Day.u16, Day.u32, Day.right, Day.times, Day.Dt, Day.C7, Day.Nj, Day.BK, Day.C1, Day.Cp, Day.DB, Day.AE, Day.ND.i64, Day.CO, Day.G0, Day.LH, Day.Pk, Day.B6, wrap64, Day.Ef, Day.Fw, Day.BN, Day.A8, Day.Qv, Day.atR, Day.Cn, Day.Co, Day.G1]
end Rx.S
