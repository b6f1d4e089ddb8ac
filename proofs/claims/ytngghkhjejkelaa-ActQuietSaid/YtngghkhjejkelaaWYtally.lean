import Derived.Test.YtngghkhjejkelaaWXt
set_option linter.unusedVariables false
set_option linter.unusedSimpArgs false
namespace Rx.S
open Go Rx
set_option maxRecDepth 100000
set_option maxHeartbeats 1000000
def I0 : G := ⟨8, [⟨7, .mn, [V 6, V 1]⟩, ⟨6, .iteI, [V 3, V 5, V 2]⟩, ⟨5, (.ar .add .i64), [V 2, N 1]⟩, ⟨4, .not, [V 3]⟩, ⟨3, (.cmp .lss), [V 2, V 1]⟩, ⟨2, .mx, [V 0, N 0]⟩], [], []⟩
theorem NF (e : Nat → A) (H : Ak T e I0.defs) (hp : (Day.sm (e 1).int) = true) :
  (True) ∧ (Day.Kp (e 0).int (e 1).int = (e 7).int) := by
 simp only [I0, Ak, Def.q, C6, L.An, L.AO, L.By, L.BE, L.ev, A.As, A.Ax, A.AV, A.BX, List.map_cons, List.map_nil, Nat.zero_add, Nat.add_zero, and_true, true_and, Nat.reduceAdd, Nat.one_mul] at H
 simp only [HU, Ir, HV, B5, JU, Ko, Em, MG, and_true, true_and] at H
 obtain ⟨q7, ⟨q6, -⟩, ⟨q5, -⟩, q4, q3, q2⟩ := H
 generalize (e 0).int = x0, (e 1).int = x1, (e 2).int = v2, (e 3).bool = v3, (e 4).bool = v4, (e 5).int = v5, (e 6).int = v6, (e 7).int = v7 at *
 grind [Day.Bw, Day.Kp, Day.DA, Day.sm, Day.i64, Day.u8, Day.u16, Day.u32, Day.right, Day.times, Day.Dt, Day.C7, Day.Nj, Day.BK, Day.C1, Day.Cp, Day.DB, Day.AE, Day.ND.i64, Day.CO, Day.G0, Day.LH, Day.Pk, Day.B6, wrap64, Day.Ef, Day.Fw, Day.BN, Day.A8, Day.Qv, Day.atR, Day.Cn, Day.Co]
def E5 : G := ⟨9, [⟨8, .iteB, [V 4, V 4, V 3]⟩, ⟨7, .iteI, [V 4, V 5, V 1]⟩, ⟨6, .not, [V 4]⟩, ⟨5, .mn, [V 0, V 2]⟩, ⟨4, .not, [V 3]⟩, ⟨3, (.cmp .lss), [V 0, V 1]⟩], [], []⟩
theorem Ku (e : Nat → A) (H : Ak T e E5.defs) (hp : (true) = true) :
  (True) ∧ (Day.Bw (e 0).int (e 1).int (e 2).int = (e 7).int) := by
 simp only [E5, Ak, Def.q, C6, L.An, L.AO, L.By, L.BE, L.ev, A.As, A.Ax, A.AV, A.BX, List.map_cons, List.map_nil, Nat.zero_add, Nat.add_zero, and_true, true_and, Nat.reduceAdd, Nat.one_mul] at H
 simp only [HU, Ir, HV, B5, JU, Ko, Em, MG, and_true, true_and] at H
 obtain ⟨q8, ⟨q7, -⟩, q6, q5, q4, q3⟩ := H
 generalize (e 0).int = x0, (e 1).int = x1, (e 2).int = x2, (e 3).bool = v3, (e 4).bool = v4, (e 5).int = v5, (e 6).bool = v6, (e 7).int = v7, (e 8).bool = v8 at *
 grind [Day.Bw, Day.Kp, Day.DA, Day.sm, Day.i64, Day.u8, Day.u16, Day.u32, Day.right, Day.times, Day.Dt, Day.C7, Day.Nj, Day.BK, Day.C1, Day.Cp, Day.DB, Day.AE, Day.ND.i64, Day.CO, Day.G0, Day.LH, Day.Pk, Day.B6, wrap64, Day.Ef, Day.Fw, Day.BN, Day.A8, Day.Qv, Day.atR, Day.Cn, Day.Co]
end Rx.S
