import Derived.Test.YtngghkhjejkelaaFXt
set_option linter.unusedVariables false
set_option linter.unusedSimpArgs false
namespace Rx.S
open Go Rx
set_option maxRecDepth 100000
set_option maxHeartbeats 1000000
def Gb : G := ⟨4, [⟨3, .iteB, [V 1, V 2, B false]⟩, ⟨2, (.cmp .leq), [V 0, N 8]⟩, ⟨1, (.cmp .geq), [V 0, N 3]⟩], [], []⟩
theorem LG (e : Nat → A) (H : Ah T e Gb.defs) (hp : (true) = true) :
  (True) ∧ (Day.right (e 0).int = (e 3).bool) := by
 simp only [Gb, Ah, Def.q, BQ, L.Al, L.Az, L.AX, L.A1, L.ev, A.Ak, A.Ap, A.AD, A.AW, List.map_cons, List.map_nil, Nat.zero_add, Nat.add_zero, and_true, true_and, Nat.reduceAdd, Nat.one_mul] at H
 simp only [EA, EW, Db, Bc, Fo, FK, B9, GS, and_true, true_and] at H
 obtain ⟨q3, q2, q1⟩ := H
 generalize (e 0).int = x0, (e 1).bool = v1, (e 2).bool = v2, (e 3).bool = v3 at *
 grind [Day.R9, Day.Yz, Day.WN, Day.sm, Day.i64, Day.u8, Day.u16, Day.u32, Day.right, Day.times, Day.Xn, Day.V4, Day.Yb, Day.UZ, Day.V6, Day.U0, Day.WQ, Day.Nl, Day.ND.i64, Day.U1, Day.Xo, Day.YC, Day.YB, Day.Xp, wrap64, Day.V5, Day.X2, Day.S5, Day.WO, Day.YA, Day.atR, Day.UX, Day.UY]
def Fb : G := ⟨4, [⟨3, .iteB, [V 1, V 2, B false]⟩, ⟨2, (.cmp .leq), [V 0, N 8]⟩, ⟨1, (.cmp .geq), [V 0, N 3]⟩], [], []⟩
theorem KX (e : Nat → A) (H : Ah T e Fb.defs) (hp : (true) = true) :
  (True) ∧ (Day.right (e 0).int = (e 3).bool) := by
 simp only [Fb, Ah, Def.q, BQ, L.Al, L.Az, L.AX, L.A1, L.ev, A.Ak, A.Ap, A.AD, A.AW, List.map_cons, List.map_nil, Nat.zero_add, Nat.add_zero, and_true, true_and, Nat.reduceAdd, Nat.one_mul] at H
 simp only [EA, EW, Db, Bc, Fo, FK, B9, GS, and_true, true_and] at H
 obtain ⟨q3, q2, q1⟩ := H
 generalize (e 0).int = x0, (e 1).bool = v1, (e 2).bool = v2, (e 3).bool = v3 at *
 grind [Day.R9, Day.Yz, Day.WN, Day.sm, Day.i64, Day.u8, Day.u16, Day.u32, Day.right, Day.times, Day.Xn, Day.V4, Day.Yb, Day.UZ, Day.V6, Day.U0, Day.WQ, Day.Nl, Day.ND.i64, Day.U1, Day.Xo, Day.YC, Day.YB, Day.Xp, wrap64, Day.V5, Day.X2, Day.S5, Day.WO, Day.YA, Day.atR, Day.UX, Day.UY]
end Rx.S
