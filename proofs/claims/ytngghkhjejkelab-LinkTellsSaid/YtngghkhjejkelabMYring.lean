import Derived.Test.YtngghkhjejkelabMXt
set_option linter.unusedVariables false
set_option linter.unusedSimpArgs false
namespace Rx.S
open Go Rx
set_option maxRecDepth 100000
set_option maxHeartbeats 1000000
def MS : G := ⟨8, [⟨7, .iteI, [V 4, V 6, V 3]⟩, ⟨6, (.ar .add .i64), [V 3, V 0]⟩, ⟨5, .not, [V 4]⟩, ⟨4, (.cmp .lss), [V 3, N 0]⟩, ⟨3, (.dv .rem .i64), [V 1, V 0]⟩, ⟨2, (.cmp .neq), [V 0, N 0]⟩], [V 2], []⟩
theorem UK (e : Nat → A) (H : Ac T e MS.defs) (hp : (Day.BF (e 0).int && Day.i64 (e 1).int) = true) :
  ((e 2).bool = true) ∧ (Day.BO (e 0).int (e 1).int = (e 7).int) := by
 simp only [MS, Ac, Def.q, Bc, L.Ae, L.Aq, L.AE, L.AF, L.ev, A.Ad, A.Ah, A.As, A.AJ, List.map_cons, List.map_nil, Nat.zero_add, Nat.add_zero, and_true, true_and, Nat.reduceAdd, Nat.one_mul] at H
 simp only [C0, C1, CN, A3, De, Dg, Bm, Dw, and_true, true_and] at H
 obtain ⟨⟨q7, -⟩, ⟨q6, -⟩, q5, q4, ⟨q3, -⟩, q2⟩ := H
 generalize (e 0).int = x0, (e 1).int = x1, (e 2).bool = v2, (e 3).int = v3, (e 4).bool = v4, (e 5).bool = v5, (e 6).int = v6, (e 7).int = v7 at *
 have hn : 1 ≤ x0 ∧ x0 ≤ 8 := by grind [Day.A7, Day.HH, Day.B5, Day.sm, Day.i64, Day.u8, Day.u16, Day.u32, Day.right, Day.times, Day.Fa, Day.EH, Day.OV, Day.Cb, Day.EI, Day.Cc, Day.C3, Day.BP, Day.ND.i64, Day.CP, Day.Fb, Day.Qf, Day.Qe, Day.B3, wrap64, Day.BF, Day.BO, Day.AX, Day.AZ, Day.Kn, Day.atR, Day.B9, Day.Ca]
 have hn2 : x0 = 1 ∨ x0 = 2 ∨ x0 = 3 ∨ x0 = 4 ∨ x0 = 5 ∨ x0 = 6 ∨ x0 = 7 ∨ x0 = 8 := by omega
 clear hn
 rcases hn2 with rfl | rfl | rfl | rfl | rfl | rfl | rfl | rfl <;> grind [Day.A7, Day.HH, Day.B5, Day.sm, Day.i64, Day.u8, Day.u16, Day.u32, Day.right, Day.times, Day.Fa, Day.EH, Day.OV, Day.Cb, Day.EI, Day.Cc, Day.C3, Day.BP, Day.ND.i64, Day.CP, Day.Fb, Day.Qf, Day.Qe, Day.B3, wrap64, Day.BF, Day.BO, Day.AX, Day.AZ, Day.Kn, Day.atR, Day.B9, Day.Ca]
def KY : G := ⟨9, [⟨8, .iteB, [V 4, V 4, V 3]⟩, ⟨7, .iteI, [V 4, V 5, N 0]⟩, ⟨6, .not, [V 4]⟩, ⟨5, (.ar .add .i64), [V 1, N 1]⟩, ⟨4, .not, [V 3]⟩, ⟨3, (.cmp .eql), [V 1, V 2]⟩, ⟨2, (.ar .sub .i64), [V 0, N 1]⟩], [], []⟩
theorem TA (e : Nat → A) (H : Ac T e KY.defs) (hp : (Day.AX (e 0).int (e 1).int) = true) :
  (True) ∧ (Day.AZ (e 0).int (e 1).int = (e 7).int) := by
 simp only [KY, Ac, Def.q, Bc, L.Ae, L.Aq, L.AE, L.AF, L.ev, A.Ad, A.Ah, A.As, A.AJ, List.map_cons, List.map_nil, Nat.zero_add, Nat.add_zero, and_true, true_and, Nat.reduceAdd, Nat.one_mul] at H
 simp only [C0, C1, CN, A3, De, Dg, Bm, Dw, and_true, true_and] at H
 obtain ⟨q8, ⟨q7, -⟩, q6, ⟨q5, -⟩, q4, q3, ⟨q2, -⟩⟩ := H
 generalize (e 0).int = x0, (e 1).int = x1, (e 2).int = v2, (e 3).bool = v3, (e 4).bool = v4, (e 5).int = v5, (e 6).bool = v6, (e 7).int = v7, (e 8).bool = v8 at *
 have hn : 1 ≤ x0 ∧ x0 ≤ 8 := by grind [Day.A7, Day.HH, Day.B5, Day.sm, Day.i64, Day.u8, Day.u16, Day.u32, Day.right, Day.times, Day.Fa, Day.EH, Day.OV, Day.Cb, Day.EI, Day.Cc, Day.C3, Day.BP, Day.ND.i64, Day.CP, Day.Fb, Day.Qf, Day.Qe, Day.B3, wrap64, Day.BF, Day.BO, Day.AX, Day.AZ, Day.Kn, Day.atR, Day.B9, Day.Ca]
 have hn2 : x0 = 1 ∨ x0 = 2 ∨ x0 = 3 ∨ x0 = 4 ∨ x0 = 5 ∨ x0 = 6 ∨ x0 = 7 ∨ x0 = 8 := by omega
 clear hn
 rcases hn2 with rfl | rfl | rfl | rfl | rfl | rfl | rfl | rfl <;> grind [Day.A7, Day.HH, Day.B5, Day.sm, Day.i64, Day.u8, Day.u16, Day.u32, Day.right, Day.times, Day.Fa, Day.EH, Day.OV, Day.Cb, Day.EI, Day.Cc, Day.C3, Day.BP, Day.ND.i64, Day.CP, Day.Fb, Day.Qf, Day.Qe, Day.B3, wrap64, Day.BF, Day.BO, Day.AX, Day.AZ, Day.Kn, Day.atR, Day.B9, Day.Ca]
def O8 : G := ⟨6, [⟨5, (.dv .rem .i64), [V 3, V 0]⟩, ⟨4, (.cmp .neq), [V 0, N 0]⟩, ⟨3, (.ar .add .i64), [V 1, V 2]⟩], [V 4], []⟩
theorem Xg (e : Nat → A) (H : Ac T e O8.defs) (hp : (Day.Kn (e 0).int (e 1).int (e 2).int) = true) :
  ((e 4).bool = true) ∧ (Day.atR (e 0).int (e 1).int (e 2).int = (e 5).int) := by
 simp only [O8, Ac, Def.q, Bc, L.Ae, L.Aq, L.AE, L.AF, L.ev, A.Ad, A.Ah, A.As, A.AJ, List.map_cons, List.map_nil, Nat.zero_add, Nat.add_zero, and_true, true_and, Nat.reduceAdd, Nat.one_mul] at H
 simp only [C0, C1, CN, A3, De, Dg, Bm, Dw, and_true, true_and] at H
 obtain ⟨⟨q5, -⟩, q4, ⟨q3, -⟩⟩ := H
 generalize (e 0).int = x0, (e 1).int = x1, (e 2).int = x2, (e 3).int = v3, (e 4).bool = v4, (e 5).int = v5 at *
 have hn : 1 ≤ x0 ∧ x0 ≤ 8 := by grind [Day.A7, Day.HH, Day.B5, Day.sm, Day.i64, Day.u8, Day.u16, Day.u32, Day.right, Day.times, Day.Fa, Day.EH, Day.OV, Day.Cb, Day.EI, Day.Cc, Day.C3, Day.BP, Day.ND.i64, Day.CP, Day.Fb, Day.Qf, Day.Qe, Day.B3, wrap64, Day.BF, Day.BO, Day.AX, Day.AZ, Day.Kn, Day.atR, Day.B9, Day.Ca]
 have hn2 : x0 = 1 ∨ x0 = 2 ∨ x0 = 3 ∨ x0 = 4 ∨ x0 = 5 ∨ x0 = 6 ∨ x0 = 7 ∨ x0 = 8 := by omega
 clear hn
 rcases hn2 with rfl | rfl | rfl | rfl | rfl | rfl | rfl | rfl <;> grind [Day.A7, Day.HH, Day.B5, Day.sm, Day.i64, Day.u8, Day.u16, Day.u32, Day.right, Day.times, Day.Fa, Day.EH, Day.OV, Day.Cb, Day.EI, Day.Cc, Day.C3, Day.BP, Day.ND.i64, Day.CP, Day.Fb, Day.Qf, Day.Qe, Day.B3, wrap64, Day.BF, Day.BO, Day.AX, Day.AZ, Day.Kn, Day.atR, Day.B9, Day.Ca]
def Jj : G := ⟨5, [⟨3, (.call 52), [V 0, V 2]⟩, ⟨2, (.ar .add .i64), [V 1, N 1]⟩], [V 3], []⟩
theorem QV (e : Nat → A) (H : Ac T e Jj.defs) (hp : (Day.AX (e 0).int (e 1).int) = true) :
  ((e 3).bool = true) ∧ (Day.AZ (e 0).int (e 1).int = (e 4).int) := by
 simp only [Jj, Ac, Def.q, Bc, L.Ae, L.Aq, L.AE, L.AF, L.ev, A.Ad, A.Ah, A.As, A.AJ, List.map_cons, List.map_nil, Nat.zero_add, Nat.add_zero, and_true, true_and, Nat.reduceAdd, Nat.one_mul] at H
 simp only [C0, C1, CN, A3, De, Dg, Bm, Dw, and_true, true_and] at H
 obtain ⟨q3, ⟨q2, -⟩⟩ := H
 replace q3 := EP q3
 obtain ⟨q3, q4⟩ := q3
 simp only [L.Ae, L.Aq, L.AE, L.AF, L.ev, A.Ad, A.Ah, A.As] at q3 q4
 generalize (e 0).int = x0, (e 1).int = x1, (e 2).int = v2, (e 3).bool = v3, (e 4).int = v4 at *
 have hn : 1 ≤ x0 ∧ x0 ≤ 8 := by grind [Day.A7, Day.HH, Day.B5, Day.sm, Day.i64, Day.u8, Day.u16, Day.u32, Day.right, Day.times, Day.Fa, Day.EH, Day.OV, Day.Cb, Day.EI, Day.Cc, Day.C3, Day.BP, Day.ND.i64, Day.CP, Day.Fb, Day.Qf, Day.Qe, Day.B3, wrap64, Day.BF, Day.BO, Day.AX, Day.AZ, Day.Kn, Day.atR, Day.B9, Day.Ca]
 have hn2 : x0 = 1 ∨ x0 = 2 ∨ x0 = 3 ∨ x0 = 4 ∨ x0 = 5 ∨ x0 = 6 ∨ x0 = 7 ∨ x0 = 8 := by omega
 clear hn
 rcases hn2 with rfl | rfl | rfl | rfl | rfl | rfl | rfl | rfl <;> grind [Day.A7, Day.HH, Day.B5, Day.sm, Day.i64, Day.u8, Day.u16, Day.u32, Day.right, Day.times, Day.Fa, Day.EH, Day.OV, Day.Cb, Day.EI, Day.Cc, Day.C3, Day.BP, Day.ND.i64, Day.CP, Day.Fb, Day.Qf, Day.Qe, Day.B3, wrap64, Day.BF, Day.BO, Day.AX, Day.AZ, Day.Kn, Day.atR, Day.B9, Day.Ca]
def Le : G := ⟨6, [⟨5, (.dv .rem .i64), [V 4, V 0]⟩, ⟨4, (.ar .add .i64), [V 3, V 0]⟩, ⟨3, (.dv .rem .i64), [V 1, V 0]⟩, ⟨2, (.cmp .neq), [V 0, N 0]⟩], [V 2, V 2], []⟩
theorem TV (e : Nat → A) (H : Ac T e Le.defs) (hp : (Day.BF (e 0).int && Day.i64 (e 1).int) = true) :
  ((e 2).bool = true ∧ (e 2).bool = true) ∧ (Day.BO (e 0).int (e 1).int = (e 5).int) := by
 simp only [Le, Ac, Def.q, Bc, L.Ae, L.Aq, L.AE, L.AF, L.ev, A.Ad, A.Ah, A.As, A.AJ, List.map_cons, List.map_nil, Nat.zero_add, Nat.add_zero, and_true, true_and, Nat.reduceAdd, Nat.one_mul] at H
 simp only [C0, C1, CN, A3, De, Dg, Bm, Dw, and_true, true_and] at H
 obtain ⟨⟨q5, -⟩, ⟨q4, -⟩, ⟨q3, -⟩, q2⟩ := H
 generalize (e 0).int = x0, (e 1).int = x1, (e 2).bool = v2, (e 3).int = v3, (e 4).int = v4, (e 5).int = v5 at *
 have hn : 1 ≤ x0 ∧ x0 ≤ 8 := by grind [Day.A7, Day.HH, Day.B5, Day.sm, Day.i64, Day.u8, Day.u16, Day.u32, Day.right, Day.times, Day.Fa, Day.EH, Day.OV, Day.Cb, Day.EI, Day.Cc, Day.C3, Day.BP, Day.ND.i64, Day.CP, Day.Fb, Day.Qf, Day.Qe, Day.B3, wrap64, Day.BF, Day.BO, Day.AX, Day.AZ, Day.Kn, Day.atR, Day.B9, Day.Ca]
 have hn2 : x0 = 1 ∨ x0 = 2 ∨ x0 = 3 ∨ x0 = 4 ∨ x0 = 5 ∨ x0 = 6 ∨ x0 = 7 ∨ x0 = 8 := by omega
 clear hn
 rcases hn2 with rfl | rfl | rfl | rfl | rfl | rfl | rfl | rfl <;> grind [Day.A7, Day.HH, Day.B5, Day.sm, Day.i64, Day.u8, Day.u16, Day.u32, Day.right, Day.times, Day.Fa, Day.EH, Day.OV, Day.Cb, Day.EI, Day.Cc, Day.C3, Day.BP, Day.ND.i64, Day.CP, Day.Fb, Day.Qf, Day.Qe, Day.B3, wrap64, Day.BF, Day.BO, Day.AX, Day.AZ, Day.Kn, Day.atR, Day.B9, Day.Ca]
def MX : G := ⟨6, [⟨4, (.call 52), [V 0, V 3]⟩, ⟨3, (.ar .add .i64), [V 1, V 2]⟩], [V 4], []⟩
theorem Vb (e : Nat → A) (H : Ac T e MX.defs) (hp : (Day.Kn (e 0).int (e 1).int (e 2).int) = true) :
  ((e 4).bool = true) ∧ (Day.atR (e 0).int (e 1).int (e 2).int = (e 5).int) := by
 simp only [MX, Ac, Def.q, Bc, L.Ae, L.Aq, L.AE, L.AF, L.ev, A.Ad, A.Ah, A.As, A.AJ, List.map_cons, List.map_nil, Nat.zero_add, Nat.add_zero, and_true, true_and, Nat.reduceAdd, Nat.one_mul] at H
 simp only [C0, C1, CN, A3, De, Dg, Bm, Dw, and_true, true_and] at H
 obtain ⟨q4, ⟨q3, -⟩⟩ := H
 replace q4 := EP q4
 obtain ⟨q4, q5⟩ := q4
 simp only [L.Ae, L.Aq, L.AE, L.AF, L.ev, A.Ad, A.Ah, A.As] at q4 q5
 generalize (e 0).int = x0, (e 1).int = x1, (e 2).int = x2, (e 3).int = v3, (e 4).bool = v4, (e 5).int = v5 at *
 have hn : 1 ≤ x0 ∧ x0 ≤ 8 := by grind [Day.A7, Day.HH, Day.B5, Day.sm, Day.i64, Day.u8, Day.u16, Day.u32, Day.right, Day.times, Day.Fa, Day.EH, Day.OV, Day.Cb, Day.EI, Day.Cc, Day.C3, Day.BP, Day.ND.i64, Day.CP, Day.Fb, Day.Qf, Day.Qe, Day.B3, wrap64, Day.BF, Day.BO, Day.AX, Day.AZ, Day.Kn, Day.atR, Day.B9, Day.Ca]
 have hn2 : x0 = 1 ∨ x0 = 2 ∨ x0 = 3 ∨ x0 = 4 ∨ x0 = 5 ∨ x0 = 6 ∨ x0 = 7 ∨ x0 = 8 := by omega
 clear hn
 rcases hn2 with rfl | rfl | rfl | rfl | rfl | rfl | rfl | rfl <;> grind [Day.A7, Day.HH, Day.B5, Day.sm, Day.i64, Day.u8, Day.u16, Day.u32, Day.right, Day.times, Day.Fa, Day.EH, Day.OV, Day.Cb, Day.EI, Day.Cc, Day.C3, Day.BP, Day.ND.i64, Day.CP, Day.Fb, Day.Qf, Day.Qe, Day.B3, wrap64, Day.BF, Day.BO, Day.AX, Day.AZ, Day.Kn, Day.atR, Day.B9, Day.Ca]
end Rx.S
