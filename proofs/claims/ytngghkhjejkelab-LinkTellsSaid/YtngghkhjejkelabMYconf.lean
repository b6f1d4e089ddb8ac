import Derived.Test.YtngghkhjejkelabMXt
set_option linter.unusedVariables false
set_option linter.unusedSimpArgs false
namespace Rx.S
open Go Rx
set_option maxRecDepth 100000
set_option maxHeartbeats 1000000
def IT : G := ⟨4, [⟨3, .iteB, [V 1, V 2, B false]⟩, ⟨2, (.cmp .leq), [V 0, N 8]⟩, ⟨1, (.cmp .geq), [V 0, N 3]⟩], [], []⟩
theorem Qr (e : Nat → A) (H : Ac T e IT.defs) (hp : (true) = true) :
  (True) ∧ (Day.right (e 0).int = (e 3).bool) := by
 simp only [IT, Ac, Def.q, Bc, L.Ae, L.Aq, L.AE, L.AF, L.ev, A.Ad, A.Ah, A.As, A.AJ, List.map_cons, List.map_nil, Nat.zero_add, Nat.add_zero, and_true, true_and, Nat.reduceAdd, Nat.one_mul] at H
 simp only [C0, C1, CN, A3, De, Dg, Bm, Dw, and_true, true_and] at H
 obtain ⟨q3, q2, q1⟩ := H
 generalize (e 0).int = x0, (e 1).bool = v1, (e 2).bool = v2, (e 3).bool = v3 at *
 grind [Day.A7, Day.HH, Day.B5, Day.sm, Day.i64, Day.u8, Day.u16, Day.u32, Day.right, Day.times, Day.Fa, Day.EH, Day.OV, Day.Cb, Day.EI, Day.Cc, Day.C3, Day.BP, Day.ND.i64, Day.CP, Day.Fb, Day.Qf, Day.Qe, Day.B3, wrap64, Day.BF, Day.BO, Day.AX, Day.AZ, Day.Kn, Day.atR, Day.B9, Day.Ca]
def IU : G := ⟨3, [⟨1, (.call 56), [.s [98, 108, 111, 99, 107], V 0]⟩], [V 1], []⟩
theorem Qs (e : Nat → A) (H : Ac T e IU.defs) (hp : (true) = true) :
  ((e 1).bool = true) ∧ (Day.times 2 (e 0).int = (e 2).int) := by
 simp only [IU, Ac, Def.q, Bc, L.Ae, L.Aq, L.AE, L.AF, L.ev, A.Ad, A.Ah, A.As, A.AJ, List.map_cons, List.map_nil, Nat.zero_add, Nat.add_zero, and_true, true_and, Nat.reduceAdd, Nat.one_mul] at H
 have q1 := H
 replace q1 := UE q1
 obtain ⟨q1, q2⟩ := q1
 simp only [L.Ae, L.Aq, L.AE, L.AF, L.ev, A.Ad, A.Ah, A.As] at q1 q2
 generalize (e 0).int = x0, (e 1).bool = v1, (e 2).int = v2 at *
 simp only [Day.AbK, Day.AbL, Day.AbM, Day.AbN, Day.ZO, Day.ZP, Day.Ady, Day.Abb] at *
 grind [Day.A7, Day.HH, Day.B5, Day.sm, Day.i64, Day.u8, Day.u16, Day.u32, Day.right, Day.times, Day.Fa, Day.EH, Day.OV, Day.Cb, Day.EI, Day.Cc, Day.C3, Day.BP, Day.ND.i64, Day.CP, Day.Fb, Day.Qf, Day.Qe, Day.B3, wrap64, Day.BF, Day.BO, Day.AX, Day.AZ, Day.Kn, Day.atR, Day.B9, Day.Ca, Day.Abb]
def Ht : G := ⟨4, [⟨3, .iteB, [V 1, V 2, B false]⟩, ⟨2, (.cmp .leq), [V 0, N 8]⟩, ⟨1, (.cmp .geq), [V 0, N 3]⟩], [], []⟩
theorem Ph (e : Nat → A) (H : Ac T e Ht.defs) (hp : (true) = true) :
  (True) ∧ (Day.right (e 0).int = (e 3).bool) := by
 simp only [Ht, Ac, Def.q, Bc, L.Ae, L.Aq, L.AE, L.AF, L.ev, A.Ad, A.Ah, A.As, A.AJ, List.map_cons, List.map_nil, Nat.zero_add, Nat.add_zero, and_true, true_and, Nat.reduceAdd, Nat.one_mul] at H
 simp only [C0, C1, CN, A3, De, Dg, Bm, Dw, and_true, true_and] at H
 obtain ⟨q3, q2, q1⟩ := H
 generalize (e 0).int = x0, (e 1).bool = v1, (e 2).bool = v2, (e 3).bool = v3 at *
 grind [Day.A7, Day.HH, Day.B5, Day.sm, Day.i64, Day.u8, Day.u16, Day.u32, Day.right, Day.times, Day.Fa, Day.EH, Day.OV, Day.Cb, Day.EI, Day.Cc, Day.C3, Day.BP, Day.ND.i64, Day.CP, Day.Fb, Day.Qf, Day.Qe, Day.B3, wrap64, Day.BF, Day.BO, Day.AX, Day.AZ, Day.Kn, Day.atR, Day.B9, Day.Ca]
def Hu : G := ⟨3, [⟨1, (.call 32), [V 0, N 2]⟩], [V 1], []⟩
theorem Pj (e : Nat → A) (H : Ac T e Hu.defs) (hp : (true) = true) :
  ((e 1).bool = true) ∧ (Day.times 2 (e 0).int = (e 2).int) := by
 simp only [Hu, Ac, Def.q, Bc, L.Ae, L.Aq, L.AE, L.AF, L.ev, A.Ad, A.Ah, A.As, A.AJ, List.map_cons, List.map_nil, Nat.zero_add, Nat.add_zero, and_true, true_and, Nat.reduceAdd, Nat.one_mul] at H
 have q1 := H
 replace q1 := Qi q1
 obtain ⟨q1, q2⟩ := q1
 simp only [L.Ae, L.Aq, L.AE, L.AF, L.ev, A.Ad, A.Ah, A.As] at q1 q2
 generalize (e 0).int = x0, (e 1).bool = v1, (e 2).int = v2 at *
 grind [Day.A7, Day.HH, Day.B5, Day.sm, Day.i64, Day.u8, Day.u16, Day.u32, Day.right, Day.times, Day.Fa, Day.EH, Day.OV, Day.Cb, Day.EI, Day.Cc, Day.C3, Day.BP, Day.ND.i64, Day.CP, Day.Fb, Day.Qf, Day.Qe, Day.B3, wrap64, Day.BF, Day.BO, Day.AX, Day.AZ, Day.Kn, Day.atR, Day.B9, Day.Ca]
def Hv : G := ⟨10, [⟨9, .iteB, [V 5, V 5, V 4]⟩, ⟨8, .iteI, [V 5, V 6, N 0]⟩, ⟨7, .not, [V 5]⟩, ⟨6, (.ar .mul .i64), [V 0, V 1]⟩, ⟨5, .not, [V 4]⟩, ⟨4, .not, [V 3]⟩, ⟨2, (.call 18), [V 0]⟩], [V 2], []⟩
theorem Pk (e : Nat → A) (H : Ac T e Hv.defs) (hp : (Day.u8 (e 1).int) = true) :
  ((e 2).bool = true) ∧ (Day.times (e 1).int (e 0).int = (e 8).int) := by
 simp only [Hv, Ac, Def.q, Bc, L.Ae, L.Aq, L.AE, L.AF, L.ev, A.Ad, A.Ah, A.As, A.AJ, List.map_cons, List.map_nil, Nat.zero_add, Nat.add_zero, and_true, true_and, Nat.reduceAdd, Nat.one_mul] at H
 simp only [C0, C1, CN, A3, De, Dg, Bm, Dw, and_true, true_and] at H
 obtain ⟨q9, ⟨q8, -⟩, q7, ⟨q6, -⟩, q5, q4, q2⟩ := H
 replace q2 := C5 q2
 obtain ⟨q2, q3⟩ := q2
 simp only [L.Ae, L.Aq, L.AE, L.AF, L.ev, A.Ad, A.Ah, A.As] at q2 q3
 generalize (e 0).int = x0, (e 1).int = x1, (e 2).bool = v2, (e 3).bool = v3, (e 4).bool = v4, (e 5).bool = v5, (e 6).int = v6, (e 7).bool = v7, (e 8).int = v8, (e 9).bool = v9 at *
 by_cases hr : Day.right x0 = true
 ·have hn : 3 ≤ x0 ∧ x0 ≤ 8 := by grind [Day.A7, Day.HH, Day.B5, Day.sm, Day.i64, Day.u8, Day.u16, Day.u32, Day.right, Day.times, Day.Fa, Day.EH, Day.OV, Day.Cb, Day.EI, Day.Cc, Day.C3, Day.BP, Day.ND.i64, Day.CP, Day.Fb, Day.Qf, Day.Qe, Day.B3, wrap64, Day.BF, Day.BO, Day.AX, Day.AZ, Day.Kn, Day.atR, Day.B9, Day.Ca]
  have hn2 : x0 = 3 ∨ x0 = 4 ∨ x0 = 5 ∨ x0 = 6 ∨ x0 = 7 ∨ x0 = 8 := by omega
  clear hn
  rcases hn2 with rfl | rfl | rfl | rfl | rfl | rfl <;> grind [Day.A7, Day.HH, Day.B5, Day.sm, Day.i64, Day.u8, Day.u16, Day.u32, Day.right, Day.times, Day.Fa, Day.EH, Day.OV, Day.Cb, Day.EI, Day.Cc, Day.C3, Day.BP, Day.ND.i64, Day.CP, Day.Fb, Day.Qf, Day.Qe, Day.B3, wrap64, Day.BF, Day.BO, Day.AX, Day.AZ, Day.Kn, Day.atR, Day.B9, Day.Ca]
 ·grind [Day.A7, Day.HH, Day.B5, Day.sm, Day.i64, Day.u8, Day.u16, Day.u32, Day.right, Day.times, Day.Fa, Day.EH, Day.OV, Day.Cb, Day.EI, Day.Cc, Day.C3, Day.BP, Day.ND.i64, Day.CP, Day.Fb, Day.Qf, Day.Qe, Day.B3, wrap64, Day.BF, Day.BO, Day.AX, Day.AZ, Day.Kn, Day.atR, Day.B9, Day.Ca]
end Rx.S
