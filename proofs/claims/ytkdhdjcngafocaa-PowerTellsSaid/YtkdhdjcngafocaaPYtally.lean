import Derived.Test.YtkdhdjcngafocaaPXt
set_option linter.unusedVariables false
set_option linter.unusedSimpArgs false
namespace Rx.S
open Go Rx
set_option maxRecDepth 100000
set_option maxHeartbeats 1000000
def Fv : G := ⟨9, [⟨8, .iteB, [V 4, V 4, V 3]⟩, ⟨7, .iteI, [V 4, V 5, V 1]⟩, ⟨6, .not, [V 4]⟩, ⟨5, .mn, [V 0, V 2]⟩, ⟨4, .not, [V 3]⟩, ⟨3, (.cmp .lss), [V 0, V 1]⟩], [], []⟩
theorem K7 (e : Nat → A) (H : Ai T e Fv.defs) (hp : (true) = true) :
  (True) ∧ (Day.C5 (e 0).int (e 1).int (e 2).int = (e 7).int) := by
 simp only [Fv, Ai, Def.q, Cn, L.Al, L.AB, L.A3, L.A9, L.ev, A.Am, A.At, A.AF, A.Bh, List.map_cons, List.map_nil, Nat.zero_add, Nat.add_zero, and_true, true_and, Nat.reduceAdd, Nat.one_mul] at H
 simp only [F6, GR, FC, Br, Hg, Hi, CC, IP, and_true, true_and] at H
 obtain ⟨q8, ⟨q7, -⟩, q6, q5, q4, q3⟩ := H
 generalize (e 0).int = x0, (e 1).int = x1, (e 2).int = x2, (e 3).bool = v3, (e 4).bool = v4, (e 5).int = v5, (e 6).bool = v6, (e 7).int = v7, (e 8).bool = v8 at *
 grind [Day.C5, Day.Yt, Day.To, Day.sm, Day.i64, Day.u8, Day.u16, Day.u32, Day.right, Day.times, Day.Vy, Day.T5, Day.XJ, Day.Qg, Day.T7, Day.Qh, Day.Tq, Day.Jk, Day.ND.i64, Day.Rj, Day.Vz, Day.Yw, Day.Yv, Day.VA, wrap64, Day.T6, Day.Wy, Day.Pj, Day.Tp, Day.Yu, Day.atR, Day.Qe, Day.Qf]
def Fx : G := ⟨17, [⟨16, .iteB, [V 4, V 13, V 3]⟩, ⟨15, .iteI, [V 4, V 12, V 1]⟩, ⟨14, .not, [V 4]⟩, ⟨13, .iteB, [V 10, V 10, V 9]⟩, ⟨12, .iteI, [V 10, V 0, V 2]⟩, ⟨11, .not, [V 10]⟩, ⟨10, .and, [V 6, V 8]⟩, ⟨9, .and, [V 5, V 7]⟩, ⟨8, .and, [V 4, V 6]⟩, ⟨7, .and, [V 4, V 5]⟩, ⟨6, .not, [V 5]⟩, ⟨5, (.cmp .gtr), [V 0, V 2]⟩, ⟨4, .not, [V 3]⟩, ⟨3, (.cmp .lss), [V 0, V 1]⟩], [], []⟩
theorem K9 (e : Nat → A) (H : Ai T e Fx.defs) (hp : (true) = true) :
  (True) ∧ (Day.C5 (e 0).int (e 1).int (e 2).int = (e 15).int) := by
 simp only [Fx, Ai, Def.q, Cn, L.Al, L.AB, L.A3, L.A9, L.ev, A.Am, A.At, A.AF, A.Bh, List.map_cons, List.map_nil, Nat.zero_add, Nat.add_zero, and_true, true_and, Nat.reduceAdd, Nat.one_mul] at H
 simp only [F6, GR, FC, Br, Hg, Hi, CC, IP, and_true, true_and] at H
 obtain ⟨q16, ⟨q15, -⟩, q14, q13, ⟨q12, -⟩, q11, q10, q9, q8, q7, q6, q5, q4, q3⟩ := H
 generalize (e 0).int = x0, (e 1).int = x1, (e 2).int = x2, (e 3).bool = v3, (e 4).bool = v4, (e 5).bool = v5, (e 6).bool = v6, (e 7).bool = v7, (e 8).bool = v8, (e 9).bool = v9, (e 10).bool = v10, (e 11).bool = v11, (e 12).int = v12, (e 13).bool = v13, (e 14).bool = v14, (e 15).int = v15, (e 16).bool = v16 at *
 grind [Day.C5, Day.Yt, Day.To, Day.sm, Day.i64, Day.u8, Day.u16, Day.u32, Day.right, Day.times, Day.Vy, Day.T5, Day.XJ, Day.Qg, Day.T7, Day.Qh, Day.Tq, Day.Jk, Day.ND.i64, Day.Rj, Day.Vz, Day.Yw, Day.Yv, Day.VA, wrap64, Day.T6, Day.Wy, Day.Pj, Day.Tp, Day.Yu, Day.atR, Day.Qe, Day.Qf]
end Rx.S
