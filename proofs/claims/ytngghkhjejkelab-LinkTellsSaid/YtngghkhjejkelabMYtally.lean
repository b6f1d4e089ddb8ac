import Derived.Test.YtngghkhjejkelabMXt
set_option linter.unusedVariables false
set_option linter.unusedSimpArgs false
namespace Rx.S
open Go Rx
set_option maxRecDepth 100000
set_option maxHeartbeats 1000000
def Hm : G := ⟨9, [⟨8, .iteB, [V 4, V 4, V 3]⟩, ⟨7, .iteI, [V 4, V 5, V 1]⟩, ⟨6, .not, [V 4]⟩, ⟨5, .mn, [V 0, V 2]⟩, ⟨4, .not, [V 3]⟩, ⟨3, (.cmp .lss), [V 0, V 1]⟩], [], []⟩
theorem O0 (e : Nat → A) (H : Ac T e Hm.defs) (hp : (true) = true) :
  (True) ∧ (Day.A7 (e 0).int (e 1).int (e 2).int = (e 7).int) := by
 simp only [Hm, Ac, Def.q, Bc, L.Ae, L.Aq, L.AE, L.AF, L.ev, A.Ad, A.Ah, A.As, A.AJ, List.map_cons, List.map_nil, Nat.zero_add, Nat.add_zero, and_true, true_and, Nat.reduceAdd, Nat.one_mul] at H
 simp only [C0, C1, CN, A3, De, Dg, Bm, Dw, and_true, true_and] at H
 obtain ⟨q8, ⟨q7, -⟩, q6, q5, q4, q3⟩ := H
 generalize (e 0).int = x0, (e 1).int = x1, (e 2).int = x2, (e 3).bool = v3, (e 4).bool = v4, (e 5).int = v5, (e 6).bool = v6, (e 7).int = v7, (e 8).bool = v8 at *
 grind [Day.A7, Day.HH, Day.B5, Day.sm, Day.i64, Day.u8, Day.u16, Day.u32, Day.right, Day.times, Day.Fa, Day.EH, Day.OV, Day.Cb, Day.EI, Day.Cc, Day.C3, Day.BP, Day.ND.i64, Day.CP, Day.Fb, Day.Qf, Day.Qe, Day.B3, wrap64, Day.BF, Day.BO, Day.AX, Day.AZ, Day.Kn, Day.atR, Day.B9, Day.Ca]
def MU : G := ⟨8, [⟨7, .mn, [V 6, V 1]⟩, ⟨6, .iteI, [V 3, V 5, V 2]⟩, ⟨5, (.ar .add .i64), [V 2, N 1]⟩, ⟨4, .not, [V 3]⟩, ⟨3, (.cmp .lss), [V 2, V 1]⟩, ⟨2, .mx, [V 0, N 0]⟩], [], []⟩
theorem UO (e : Nat → A) (H : Ac T e MU.defs) (hp : (Day.sm (e 1).int) = true) :
  (True) ∧ (Day.HH (e 0).int (e 1).int = (e 7).int) := by
 simp only [MU, Ac, Def.q, Bc, L.Ae, L.Aq, L.AE, L.AF, L.ev, A.Ad, A.Ah, A.As, A.AJ, List.map_cons, List.map_nil, Nat.zero_add, Nat.add_zero, and_true, true_and, Nat.reduceAdd, Nat.one_mul] at H
 simp only [C0, C1, CN, A3, De, Dg, Bm, Dw, and_true, true_and] at H
 obtain ⟨q7, ⟨q6, -⟩, ⟨q5, -⟩, q4, q3, q2⟩ := H
 generalize (e 0).int = x0, (e 1).int = x1, (e 2).int = v2, (e 3).bool = v3, (e 4).bool = v4, (e 5).int = v5, (e 6).int = v6, (e 7).int = v7 at *
 grind [Day.A7, Day.HH, Day.B5, Day.sm, Day.i64, Day.u8, Day.u16, Day.u32, Day.right, Day.times, Day.Fa, Day.EH, Day.OV, Day.Cb, Day.EI, Day.Cc, Day.C3, Day.BP, Day.ND.i64, Day.CP, Day.Fb, Day.Qf, Day.Qe, Day.B3, wrap64, Day.BF, Day.BO, Day.AX, Day.AZ, Day.Kn, Day.atR, Day.B9, Day.Ca]
def IX : G := ⟨3, [⟨2, (.ar .sub .i64), [V 1, N 1]⟩, ⟨1, .mx, [V 0, N 1]⟩], [], []⟩
theorem Qu (e : Nat → A) (H : Ac T e IX.defs) (hp : (Day.i64 (e 0).int) = true) :
  (True) ∧ (Day.B5 (e 0).int = (e 2).int) := by
 simp only [IX, Ac, Def.q, Bc, L.Ae, L.Aq, L.AE, L.AF, L.ev, A.Ad, A.Ah, A.As, A.AJ, List.map_cons, List.map_nil, Nat.zero_add, Nat.add_zero, and_true, true_and, Nat.reduceAdd, Nat.one_mul] at H
 simp only [C0, C1, CN, A3, De, Dg, Bm, Dw, and_true, true_and] at H
 obtain ⟨⟨q2, -⟩, q1⟩ := H
 generalize (e 0).int = x0, (e 1).int = v1, (e 2).int = v2 at *
 grind [Day.A7, Day.HH, Day.B5, Day.sm, Day.i64, Day.u8, Day.u16, Day.u32, Day.right, Day.times, Day.Fa, Day.EH, Day.OV, Day.Cb, Day.EI, Day.Cc, Day.C3, Day.BP, Day.ND.i64, Day.CP, Day.Fb, Day.Qf, Day.Qe, Day.B3, wrap64, Day.BF, Day.BO, Day.AX, Day.AZ, Day.Kn, Day.atR, Day.B9, Day.Ca]
def MW : G := ⟨11, [⟨10, .iteB, [V 6, V 6, V 5]⟩, ⟨9, .iteI, [V 6, V 7, V 1]⟩, ⟨8, .not, [V 6]⟩, ⟨7, (.ar .add .i64), [V 4, N 1]⟩, ⟨6, .not, [V 5]⟩, ⟨5, (.cmp .geq), [V 4, V 1]⟩, ⟨4, .iteI, [V 2, N 0, V 0]⟩, ⟨3, .not, [V 2]⟩, ⟨2, (.cmp .lss), [V 0, N 0]⟩], [], []⟩
theorem U9 (e : Nat → A) (H : Ac T e MW.defs) (hp : (Day.sm (e 1).int) = true) :
  (True) ∧ (Day.HH (e 0).int (e 1).int = (e 9).int) := by
 simp only [MW, Ac, Def.q, Bc, L.Ae, L.Aq, L.AE, L.AF, L.ev, A.Ad, A.Ah, A.As, A.AJ, List.map_cons, List.map_nil, Nat.zero_add, Nat.add_zero, and_true, true_and, Nat.reduceAdd, Nat.one_mul] at H
 simp only [C0, C1, CN, A3, De, Dg, Bm, Dw, and_true, true_and] at H
 obtain ⟨q10, ⟨q9, -⟩, q8, ⟨q7, -⟩, q6, q5, ⟨q4, -⟩, q3, q2⟩ := H
 generalize (e 0).int = x0, (e 1).int = x1, (e 2).bool = v2, (e 3).bool = v3, (e 4).int = v4, (e 5).bool = v5, (e 6).bool = v6, (e 7).int = v7, (e 8).bool = v8, (e 9).int = v9, (e 10).bool = v10 at *
 grind [Day.A7, Day.HH, Day.B5, Day.sm, Day.i64, Day.u8, Day.u16, Day.u32, Day.right, Day.times, Day.Fa, Day.EH, Day.OV, Day.Cb, Day.EI, Day.Cc, Day.C3, Day.BP, Day.ND.i64, Day.CP, Day.Fb, Day.Qf, Day.Qe, Day.B3, wrap64, Day.BF, Day.BO, Day.AX, Day.AZ, Day.Kn, Day.atR, Day.B9, Day.Ca]
def Ji : G := ⟨7, [⟨6, .iteB, [V 2, V 2, V 1]⟩, ⟨5, .iteI, [V 2, V 3, N 0]⟩, ⟨4, .not, [V 2]⟩, ⟨3, (.ar .sub .i64), [V 0, N 1]⟩, ⟨2, .not, [V 1]⟩, ⟨1, (.cmp .leq), [V 0, N 0]⟩], [], []⟩
theorem QU (e : Nat → A) (H : Ac T e Ji.defs) (hp : (Day.i64 (e 0).int) = true) :
  (True) ∧ (Day.B5 (e 0).int = (e 5).int) := by
 simp only [Ji, Ac, Def.q, Bc, L.Ae, L.Aq, L.AE, L.AF, L.ev, A.Ad, A.Ah, A.As, A.AJ, List.map_cons, List.map_nil, Nat.zero_add, Nat.add_zero, and_true, true_and, Nat.reduceAdd, Nat.one_mul] at H
 simp only [C0, C1, CN, A3, De, Dg, Bm, Dw, and_true, true_and] at H
 obtain ⟨q6, ⟨q5, -⟩, q4, ⟨q3, -⟩, q2, q1⟩ := H
 generalize (e 0).int = x0, (e 1).bool = v1, (e 2).bool = v2, (e 3).int = v3, (e 4).bool = v4, (e 5).int = v5, (e 6).bool = v6 at *
 grind [Day.A7, Day.HH, Day.B5, Day.sm, Day.i64, Day.u8, Day.u16, Day.u32, Day.right, Day.times, Day.Fa, Day.EH, Day.OV, Day.Cb, Day.EI, Day.Cc, Day.C3, Day.BP, Day.ND.i64, Day.CP, Day.Fb, Day.Qf, Day.Qe, Day.B3, wrap64, Day.BF, Day.BO, Day.AX, Day.AZ, Day.Kn, Day.atR, Day.B9, Day.Ca]
def HF : G := ⟨17, [⟨16, .iteB, [V 4, V 13, V 3]⟩, ⟨15, .iteI, [V 4, V 12, V 1]⟩, ⟨14, .not, [V 4]⟩, ⟨13, .iteB, [V 10, V 10, V 9]⟩, ⟨12, .iteI, [V 10, V 0, V 2]⟩, ⟨11, .not, [V 10]⟩, ⟨10, .and, [V 6, V 8]⟩, ⟨9, .and, [V 5, V 7]⟩, ⟨8, .and, [V 4, V 6]⟩, ⟨7, .and, [V 4, V 5]⟩, ⟨6, .not, [V 5]⟩, ⟨5, (.cmp .gtr), [V 0, V 2]⟩, ⟨4, .not, [V 3]⟩, ⟨3, (.cmp .lss), [V 0, V 1]⟩], [], []⟩
theorem PE (e : Nat → A) (H : Ac T e HF.defs) (hp : (true) = true) :
  (True) ∧ (Day.A7 (e 0).int (e 1).int (e 2).int = (e 15).int) := by
 simp only [HF, Ac, Def.q, Bc, L.Ae, L.Aq, L.AE, L.AF, L.ev, A.Ad, A.Ah, A.As, A.AJ, List.map_cons, List.map_nil, Nat.zero_add, Nat.add_zero, and_true, true_and, Nat.reduceAdd, Nat.one_mul] at H
 simp only [C0, C1, CN, A3, De, Dg, Bm, Dw, and_true, true_and] at H
 obtain ⟨q16, ⟨q15, -⟩, q14, q13, ⟨q12, -⟩, q11, q10, q9, q8, q7, q6, q5, q4, q3⟩ := H
 generalize (e 0).int = x0, (e 1).int = x1, (e 2).int = x2, (e 3).bool = v3, (e 4).bool = v4, (e 5).bool = v5, (e 6).bool = v6, (e 7).bool = v7, (e 8).bool = v8, (e 9).bool = v9, (e 10).bool = v10, (e 11).bool = v11, (e 12).int = v12, (e 13).bool = v13, (e 14).bool = v14, (e 15).int = v15, (e 16).bool = v16 at *
 grind [Day.A7, Day.HH, Day.B5, Day.sm, Day.i64, Day.u8, Day.u16, Day.u32, Day.right, Day.times, Day.Fa, Day.EH, Day.OV, Day.Cb, Day.EI, Day.Cc, Day.C3, Day.BP, Day.ND.i64, Day.CP, Day.Fb, Day.Qf, Day.Qe, Day.B3, wrap64, Day.BF, Day.BO, Day.AX, Day.AZ, Day.Kn, Day.atR, Day.B9, Day.Ca]
end Rx.S
