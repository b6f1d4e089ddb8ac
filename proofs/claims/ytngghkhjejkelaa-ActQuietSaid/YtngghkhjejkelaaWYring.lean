import Derived.Test.YtngghkhjejkelaaWXt
set_option linter.unusedVariables false
set_option linter.unusedSimpArgs false
namespace Rx.S
open Go Rx
set_option maxRecDepth 100000
set_option maxHeartbeats 1000000
def G7 : G := ⟨9, [⟨8, .iteB, [V 4, V 4, V 3]⟩, ⟨7, .iteI, [V 4, V 5, N 0]⟩, ⟨6, .not, [V 4]⟩, ⟨5, (.ar .add .i64), [V 1, N 1]⟩, ⟨4, .not, [V 3]⟩, ⟨3, (.cmp .eql), [V 1, V 2]⟩, ⟨2, (.ar .sub .i64), [V 0, N 1]⟩], [], []⟩
theorem MW (e : Nat → A) (H : Ak T e G7.defs) (hp : (Day.BN (e 0).int (e 1).int) = true) :
  (True) ∧ (Day.A8 (e 0).int (e 1).int = (e 7).int) := by
 simp only [G7, Ak, Def.q, C6, L.An, L.AO, L.By, L.BE, L.ev, A.As, A.Ax, A.AV, A.BX, List.map_cons, List.map_nil, Nat.zero_add, Nat.add_zero, and_true, true_and, Nat.reduceAdd, Nat.one_mul] at H
 simp only [HU, Ir, HV, B5, JU, Ko, Em, MG, and_true, true_and] at H
 obtain ⟨q8, ⟨q7, -⟩, q6, ⟨q5, -⟩, q4, q3, ⟨q2, -⟩⟩ := H
 generalize (e 0).int = x0, (e 1).int = x1, (e 2).int = v2, (e 3).bool = v3, (e 4).bool = v4, (e 5).int = v5, (e 6).bool = v6, (e 7).int = v7, (e 8).bool = v8 at *
 have hn : 1 ≤ x0 ∧ x0 ≤ 8 := by grind [Day.Bw, Day.Kp, Day.DA, Day.sm, Day.i64, Day.u8, Day.u16, Day.u32, Day.right, Day.times, Day.Dt, Day.C7, Day.Nj, Day.BK, Day.C1, Day.Cp, Day.DB, Day.AE, Day.ND.i64, Day.CO, Day.G0, Day.LH, Day.Pk, Day.B6, wrap64, Day.Ef, Day.Fw, Day.BN, Day.A8, Day.Qv, Day.atR, Day.Cn, Day.Co]
 have hn2 : x0 = 1 ∨ x0 = 2 ∨ x0 = 3 ∨ x0 = 4 ∨ x0 = 5 ∨ x0 = 6 ∨ x0 = 7 ∨ x0 = 8 := by omega
 clear hn
 rcases hn2 with rfl | rfl | rfl | rfl | rfl | rfl | rfl | rfl <;> grind [Day.Bw, Day.Kp, Day.DA, Day.sm, Day.i64, Day.u8, Day.u16, Day.u32, Day.right, Day.times, Day.Dt, Day.C7, Day.Nj, Day.BK, Day.C1, Day.Cp, Day.DB, Day.AE, Day.ND.i64, Day.CO, Day.G0, Day.LH, Day.Pk, Day.B6, wrap64, Day.Ef, Day.Fw, Day.BN, Day.A8, Day.Qv, Day.atR, Day.Cn, Day.Co]
def I1 : G := ⟨8, [⟨7, .iteI, [V 4, V 6, V 3]⟩, ⟨6, (.ar .add .i64), [V 3, V 0]⟩, ⟨5, .not, [V 4]⟩, ⟨4, (.cmp .lss), [V 3, N 0]⟩, ⟨3, (.dv .rem .i64), [V 1, V 0]⟩, ⟨2, (.cmp .neq), [V 0, N 0]⟩], [V 2], []⟩
theorem NI (e : Nat → A) (H : Ak T e I1.defs) (hp : (Day.Ef (e 0).int && Day.i64 (e 1).int) = true) :
  ((e 2).bool = true) ∧ (Day.Fw (e 0).int (e 1).int = (e 7).int) := by
 simp only [I1, Ak, Def.q, C6, L.An, L.AO, L.By, L.BE, L.ev, A.As, A.Ax, A.AV, A.BX, List.map_cons, List.map_nil, Nat.zero_add, Nat.add_zero, and_true, true_and, Nat.reduceAdd, Nat.one_mul] at H
 simp only [HU, Ir, HV, B5, JU, Ko, Em, MG, and_true, true_and] at H
 obtain ⟨⟨q7, -⟩, ⟨q6, -⟩, q5, q4, ⟨q3, -⟩, q2⟩ := H
 generalize (e 0).int = x0, (e 1).int = x1, (e 2).bool = v2, (e 3).int = v3, (e 4).bool = v4, (e 5).bool = v5, (e 6).int = v6, (e 7).int = v7 at *
 have hn : 1 ≤ x0 ∧ x0 ≤ 8 := by grind [Day.Bw, Day.Kp, Day.DA, Day.sm, Day.i64, Day.u8, Day.u16, Day.u32, Day.right, Day.times, Day.Dt, Day.C7, Day.Nj, Day.BK, Day.C1, Day.Cp, Day.DB, Day.AE, Day.ND.i64, Day.CO, Day.G0, Day.LH, Day.Pk, Day.B6, wrap64, Day.Ef, Day.Fw, Day.BN, Day.A8, Day.Qv, Day.atR, Day.Cn, Day.Co]
 have hn2 : x0 = 1 ∨ x0 = 2 ∨ x0 = 3 ∨ x0 = 4 ∨ x0 = 5 ∨ x0 = 6 ∨ x0 = 7 ∨ x0 = 8 := by omega
 clear hn
 rcases hn2 with rfl | rfl | rfl | rfl | rfl | rfl | rfl | rfl <;> grind [Day.Bw, Day.Kp, Day.DA, Day.sm, Day.i64, Day.u8, Day.u16, Day.u32, Day.right, Day.times, Day.Dt, Day.C7, Day.Nj, Day.BK, Day.C1, Day.Cp, Day.DB, Day.AE, Day.ND.i64, Day.CO, Day.G0, Day.LH, Day.Pk, Day.B6, wrap64, Day.Ef, Day.Fw, Day.BN, Day.A8, Day.Qv, Day.atR, Day.Cn, Day.Co]
end Rx.S
