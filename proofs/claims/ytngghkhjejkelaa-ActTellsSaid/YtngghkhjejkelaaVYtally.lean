import Derived.Test.YtngghkhjejkelaaVXt
set_option linter.unusedVariables false
set_option linter.unusedSimpArgs false
namespace Rx.S
open Go Rx
set_option maxRecDepth 100000
set_option maxHeartbeats 1000000
def KC : G := ⟨8, [⟨7, .mn, [V 6, V 1]⟩, ⟨6, .iteI, [V 3, V 5, V 2]⟩, ⟨5, (.ar .add .i64), [V 2, N 1]⟩, ⟨4, .not, [V 3]⟩, ⟨3, (.cmp .lss), [V 2, V 1]⟩, ⟨2, .mx, [V 0, N 0]⟩], [], []⟩
theorem QR (e : Nat → A) (H : Ad T e KC.defs) (hp : (Day.sm (e 1).int) = true) :
  (True) ∧ (Day.EP (e 0).int (e 1).int = (e 7).int) := by
 simp only [KC, Ad, Def.q, BB, L.Ai, L.Ar, L.AN, L.AR, L.ev, A.Ah, A.Am, A.Au, A.AZ, List.map_cons, List.map_nil, Nat.zero_add, Nat.add_zero, and_true, true_and, Nat.reduceAdd, Nat.one_mul] at H
 simp only [DZ, Ed, D0, Bo, EK, EO, B9, FI, and_true, true_and] at H
 obtain ⟨q7, ⟨q6, -⟩, ⟨q5, -⟩, q4, q3, q2⟩ := H
 generalize (e 0).int = x0, (e 1).int = x1, (e 2).int = v2, (e 3).bool = v3, (e 4).bool = v4, (e 5).int = v5, (e 6).int = v6, (e 7).int = v7 at *
 grind [Day.AP, Day.EP, Day.Bw, Day.sm, Day.i64, Day.u8, Day.u16, Day.u32, Day.right, Day.times, Day.Bu, Day.Bs, Day.GC, Day.AV, Day.Bx, Day.A3, Day.By, Day.Ap, Day.ND.i64, Day.Bk, Day.Co, Day.EC, Day.GD, Day.BS, wrap64, Day.BR, Day.Ca, Day.A2, Day.AF, Day.Iv, Day.atR, Day.AT, Day.AU]
def F6 : G := ⟨9, [⟨8, .iteB, [V 4, V 4, V 3]⟩, ⟨7, .iteI, [V 4, V 5, V 1]⟩, ⟨6, .not, [V 4]⟩, ⟨5, .mn, [V 0, V 2]⟩, ⟨4, .not, [V 3]⟩, ⟨3, (.cmp .lss), [V 0, V 1]⟩], [], []⟩
theorem MH (e : Nat → A) (H : Ad T e F6.defs) (hp : (true) = true) :
  (True) ∧ (Day.AP (e 0).int (e 1).int (e 2).int = (e 7).int) := by
 simp only [F6, Ad, Def.q, BB, L.Ai, L.Ar, L.AN, L.AR, L.ev, A.Ah, A.Am, A.Au, A.AZ, List.map_cons, List.map_nil, Nat.zero_add, Nat.add_zero, and_true, true_and, Nat.reduceAdd, Nat.one_mul] at H
 simp only [DZ, Ed, D0, Bo, EK, EO, B9, FI, and_true, true_and] at H
 obtain ⟨q8, ⟨q7, -⟩, q6, q5, q4, q3⟩ := H
 generalize (e 0).int = x0, (e 1).int = x1, (e 2).int = x2, (e 3).bool = v3, (e 4).bool = v4, (e 5).int = v5, (e 6).bool = v6, (e 7).int = v7, (e 8).bool = v8 at *
 grind [Day.AP, Day.EP, Day.Bw, Day.sm, Day.i64, Day.u8, Day.u16, Day.u32, Day.right, Day.times, Day.Bu, Day.Bs, Day.GC, Day.AV, Day.Bx, Day.A3, Day.By, Day.Ap, Day.ND.i64, Day.Bk, Day.Co, Day.EC, Day.GD, Day.BS, wrap64, Day.BR, Day.Ca, Day.A2, Day.AF, Day.Iv, Day.atR, Day.AT, Day.AU]
def KO : G := ⟨11, [⟨10, .iteB, [V 6, V 6, V 5]⟩, ⟨9, .iteI, [V 6, V 7, V 1]⟩, ⟨8, .not, [V 6]⟩, ⟨7, (.ar .add .i64), [V 4, N 1]⟩, ⟨6, .not, [V 5]⟩, ⟨5, (.cmp .geq), [V 4, V 1]⟩, ⟨4, .iteI, [V 2, N 0, V 0]⟩, ⟨3, .not, [V 2]⟩, ⟨2, (.cmp .lss), [V 0, N 0]⟩], [], []⟩
theorem Q4 (e : Nat → A) (H : Ad T e KO.defs) (hp : (Day.sm (e 1).int) = true) :
  (True) ∧ (Day.EP (e 0).int (e 1).int = (e 9).int) := by
 simp only [KO, Ad, Def.q, BB, L.Ai, L.Ar, L.AN, L.AR, L.ev, A.Ah, A.Am, A.Au, A.AZ, List.map_cons, List.map_nil, Nat.zero_add, Nat.add_zero, and_true, true_and, Nat.reduceAdd, Nat.one_mul] at H
 simp only [DZ, Ed, D0, Bo, EK, EO, B9, FI, and_true, true_and] at H
 obtain ⟨q10, ⟨q9, -⟩, q8, ⟨q7, -⟩, q6, q5, ⟨q4, -⟩, q3, q2⟩ := H
 generalize (e 0).int = x0, (e 1).int = x1, (e 2).bool = v2, (e 3).bool = v3, (e 4).int = v4, (e 5).bool = v5, (e 6).bool = v6, (e 7).int = v7, (e 8).bool = v8, (e 9).int = v9, (e 10).bool = v10 at *
 grind [Day.AP, Day.EP, Day.Bw, Day.sm, Day.i64, Day.u8, Day.u16, Day.u32, Day.right, Day.times, Day.Bu, Day.Bs, Day.GC, Day.AV, Day.Bx, Day.A3, Day.By, Day.Ap, Day.ND.i64, Day.Bk, Day.Co, Day.EC, Day.GD, Day.BS, wrap64, Day.BR, Day.Ca, Day.A2, Day.AF, Day.Iv, Day.atR, Day.AT, Day.AU]
end Rx.S
