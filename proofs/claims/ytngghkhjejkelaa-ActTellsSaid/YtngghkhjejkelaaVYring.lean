import Derived.Test.YtngghkhjejkelaaVXt
set_option linter.unusedVariables false
set_option linter.unusedSimpArgs false
namespace Rx.S
open Go Rx
set_option maxRecDepth 100000
set_option maxHeartbeats 1000000
def IC : G := ⟨9, [⟨8, .iteB, [V 4, V 4, V 3]⟩, ⟨7, .iteI, [V 4, V 5, N 0]⟩, ⟨6, .not, [V 4]⟩, ⟨5, (.ar .add .i64), [V 1, N 1]⟩, ⟨4, .not, [V 3]⟩, ⟨3, (.cmp .eql), [V 1, V 2]⟩, ⟨2, (.ar .sub .i64), [V 0, N 1]⟩], [], []⟩
theorem PW (e : Nat → A) (H : Ad T e IC.defs) (hp : (Day.A2 (e 0).int (e 1).int) = true) :
  (True) ∧ (Day.AF (e 0).int (e 1).int = (e 7).int) := by
 simp only [IC, Ad, Def.q, BB, L.Ai, L.Ar, L.AN, L.AR, L.ev, A.Ah, A.Am, A.Au, A.AZ, List.map_cons, List.map_nil, Nat.zero_add, Nat.add_zero, and_true, true_and, Nat.reduceAdd, Nat.one_mul] at H
 simp only [DZ, Ed, D0, Bo, EK, EO, B9, FI, and_true, true_and] at H
 obtain ⟨q8, ⟨q7, -⟩, q6, ⟨q5, -⟩, q4, q3, ⟨q2, -⟩⟩ := H
 generalize (e 0).int = x0, (e 1).int = x1, (e 2).int = v2, (e 3).bool = v3, (e 4).bool = v4, (e 5).int = v5, (e 6).bool = v6, (e 7).int = v7, (e 8).bool = v8 at *
 have hn : 1 ≤ x0 ∧ x0 ≤ 8 := by grind [Day.AP, Day.EP, Day.Bw, Day.sm, Day.i64, Day.u8, Day.u16, Day.u32, Day.right, Day.times, Day.Bu, Day.Bs, Day.GC, Day.AV, Day.Bx, Day.A3, Day.By, Day.Ap, Day.ND.i64, Day.Bk, Day.Co, Day.EC, Day.GD, Day.BS, wrap64, Day.BR, Day.Ca, Day.A2, Day.AF, Day.Iv, Day.atR, Day.AT, Day.AU]
 have hn2 : x0 = 1 ∨ x0 = 2 ∨ x0 = 3 ∨ x0 = 4 ∨ x0 = 5 ∨ x0 = 6 ∨ x0 = 7 ∨ x0 = 8 := by omega
 clear hn
 rcases hn2 with rfl | rfl | rfl | rfl | rfl | rfl | rfl | rfl <;> grind [Day.AP, Day.EP, Day.Bw, Day.sm, Day.i64, Day.u8, Day.u16, Day.u32, Day.right, Day.times, Day.Bu, Day.Bs, Day.GC, Day.AV, Day.Bx, Day.A3, Day.By, Day.Ap, Day.ND.i64, Day.Bk, Day.Co, Day.EC, Day.GD, Day.BS, wrap64, Day.BR, Day.Ca, Day.A2, Day.AF, Day.Iv, Day.atR, Day.AT, Day.AU]
def KD : G := ⟨8, [⟨7, .iteI, [V 4, V 6, V 3]⟩, ⟨6, (.ar .add .i64), [V 3, V 0]⟩, ⟨5, .not, [V 4]⟩, ⟨4, (.cmp .lss), [V 3, N 0]⟩, ⟨3, (.dv .rem .i64), [V 1, V 0]⟩, ⟨2, (.cmp .neq), [V 0, N 0]⟩], [V 2], []⟩
theorem QU (e : Nat → A) (H : Ad T e KD.defs) (hp : (Day.BR (e 0).int && Day.i64 (e 1).int) = true) :
  ((e 2).bool = true) ∧ (Day.Ca (e 0).int (e 1).int = (e 7).int) := by
 simp only [KD, Ad, Def.q, BB, L.Ai, L.Ar, L.AN, L.AR, L.ev, A.Ah, A.Am, A.Au, A.AZ, List.map_cons, List.map_nil, Nat.zero_add, Nat.add_zero, and_true, true_and, Nat.reduceAdd, Nat.one_mul] at H
 simp only [DZ, Ed, D0, Bo, EK, EO, B9, FI, and_true, true_and] at H
 obtain ⟨⟨q7, -⟩, ⟨q6, -⟩, q5, q4, ⟨q3, -⟩, q2⟩ := H
 generalize (e 0).int = x0, (e 1).int = x1, (e 2).bool = v2, (e 3).int = v3, (e 4).bool = v4, (e 5).bool = v5, (e 6).int = v6, (e 7).int = v7 at *
 have hn : 1 ≤ x0 ∧ x0 ≤ 8 := by grind [Day.AP, Day.EP, Day.Bw, Day.sm, Day.i64, Day.u8, Day.u16, Day.u32, Day.right, Day.times, Day.Bu, Day.Bs, Day.GC, Day.AV, Day.Bx, Day.A3, Day.By, Day.Ap, Day.ND.i64, Day.Bk, Day.Co, Day.EC, Day.GD, Day.BS, wrap64, Day.BR, Day.Ca, Day.A2, Day.AF, Day.Iv, Day.atR, Day.AT, Day.AU]
 have hn2 : x0 = 1 ∨ x0 = 2 ∨ x0 = 3 ∨ x0 = 4 ∨ x0 = 5 ∨ x0 = 6 ∨ x0 = 7 ∨ x0 = 8 := by omega
 clear hn
 rcases hn2 with rfl | rfl | rfl | rfl | rfl | rfl | rfl | rfl <;> grind [Day.AP, Day.EP, Day.Bw, Day.sm, Day.i64, Day.u8, Day.u16, Day.u32, Day.right, Day.times, Day.Bu, Day.Bs, Day.GC, Day.AV, Day.Bx, Day.A3, Day.By, Day.Ap, Day.ND.i64, Day.Bk, Day.Co, Day.EC, Day.GD, Day.BS, wrap64, Day.BR, Day.Ca, Day.A2, Day.AF, Day.Iv, Day.atR, Day.AT, Day.AU]
def Ht : G := ⟨5, [⟨3, (.call 65), [V 0, V 2]⟩, ⟨2, (.ar .add .i64), [V 1, N 1]⟩], [V 3], []⟩
theorem Oc (e : Nat → A) (H : Ad T e Ht.defs) (hp : (Day.A2 (e 0).int (e 1).int) = true) :
  ((e 3).bool = true) ∧ (Day.AF (e 0).int (e 1).int = (e 4).int) := by
 simp only [Ht, Ad, Def.q, BB, L.Ai, L.Ar, L.AN, L.AR, L.ev, A.Ah, A.Am, A.Au, A.AZ, List.map_cons, List.map_nil, Nat.zero_add, Nat.add_zero, and_true, true_and, Nat.reduceAdd, Nat.one_mul] at H
 simp only [DZ, Ed, D0, Bo, EK, EO, B9, FI, and_true, true_and] at H
 obtain ⟨q3, ⟨q2, -⟩⟩ := H
 replace q3 := JX q3
 obtain ⟨q3, q4⟩ := q3
 simp only [L.Ai, L.Ar, L.AN, L.AR, L.ev, A.Ah, A.Am, A.Au] at q3 q4
 generalize (e 0).int = x0, (e 1).int = x1, (e 2).int = v2, (e 3).bool = v3, (e 4).int = v4 at *
 have hn : 1 ≤ x0 ∧ x0 ≤ 8 := by grind [Day.AP, Day.EP, Day.Bw, Day.sm, Day.i64, Day.u8, Day.u16, Day.u32, Day.right, Day.times, Day.Bu, Day.Bs, Day.GC, Day.AV, Day.Bx, Day.A3, Day.By, Day.Ap, Day.ND.i64, Day.Bk, Day.Co, Day.EC, Day.GD, Day.BS, wrap64, Day.BR, Day.Ca, Day.A2, Day.AF, Day.Iv, Day.atR, Day.AT, Day.AU]
 have hn2 : x0 = 1 ∨ x0 = 2 ∨ x0 = 3 ∨ x0 = 4 ∨ x0 = 5 ∨ x0 = 6 ∨ x0 = 7 ∨ x0 = 8 := by omega
 clear hn
 rcases hn2 with rfl | rfl | rfl | rfl | rfl | rfl | rfl | rfl <;> grind [Day.AP, Day.EP, Day.Bw, Day.sm, Day.i64, Day.u8, Day.u16, Day.u32, Day.right, Day.times, Day.Bu, Day.Bs, Day.GC, Day.AV, Day.Bx, Day.A3, Day.By, Day.Ap, Day.ND.i64, Day.Bk, Day.Co, Day.EC, Day.GD, Day.BS, wrap64, Day.BR, Day.Ca, Day.A2, Day.AF, Day.Iv, Day.atR, Day.AT, Day.AU]
def IU : G := ⟨6, [⟨5, (.dv .rem .i64), [V 4, V 0]⟩, ⟨4, (.ar .add .i64), [V 3, V 0]⟩, ⟨3, (.dv .rem .i64), [V 1, V 0]⟩, ⟨2, (.cmp .neq), [V 0, N 0]⟩], [V 2, V 2], []⟩
theorem Qh (e : Nat → A) (H : Ad T e IU.defs) (hp : (Day.BR (e 0).int && Day.i64 (e 1).int) = true) :
  ((e 2).bool = true ∧ (e 2).bool = true) ∧ (Day.Ca (e 0).int (e 1).int = (e 5).int) := by
 simp only [IU, Ad, Def.q, BB, L.Ai, L.Ar, L.AN, L.AR, L.ev, A.Ah, A.Am, A.Au, A.AZ, List.map_cons, List.map_nil, Nat.zero_add, Nat.add_zero, and_true, true_and, Nat.reduceAdd, Nat.one_mul] at H
 simp only [DZ, Ed, D0, Bo, EK, EO, B9, FI, and_true, true_and] at H
 obtain ⟨⟨q5, -⟩, ⟨q4, -⟩, ⟨q3, -⟩, q2⟩ := H
 generalize (e 0).int = x0, (e 1).int = x1, (e 2).bool = v2, (e 3).int = v3, (e 4).int = v4, (e 5).int = v5 at *
 have hn : 1 ≤ x0 ∧ x0 ≤ 8 := by grind [Day.AP, Day.EP, Day.Bw, Day.sm, Day.i64, Day.u8, Day.u16, Day.u32, Day.right, Day.times, Day.Bu, Day.Bs, Day.GC, Day.AV, Day.Bx, Day.A3, Day.By, Day.Ap, Day.ND.i64, Day.Bk, Day.Co, Day.EC, Day.GD, Day.BS, wrap64, Day.BR, Day.Ca, Day.A2, Day.AF, Day.Iv, Day.atR, Day.AT, Day.AU]
 have hn2 : x0 = 1 ∨ x0 = 2 ∨ x0 = 3 ∨ x0 = 4 ∨ x0 = 5 ∨ x0 = 6 ∨ x0 = 7 ∨ x0 = 8 := by omega
 clear hn
 rcases hn2 with rfl | rfl | rfl | rfl | rfl | rfl | rfl | rfl <;> grind [Day.AP, Day.EP, Day.Bw, Day.sm, Day.i64, Day.u8, Day.u16, Day.u32, Day.right, Day.times, Day.Bu, Day.Bs, Day.GC, Day.AV, Day.Bx, Day.A3, Day.By, Day.Ap, Day.ND.i64, Day.Bk, Day.Co, Day.EC, Day.GD, Day.BS, wrap64, Day.BR, Day.Ca, Day.A2, Day.AF, Day.Iv, Day.atR, Day.AT, Day.AU]
def Ga : G := ⟨6, [⟨4, (.call 65), [V 0, V 3]⟩, ⟨3, (.ar .sub .i64), [V 2, V 1]⟩], [V 4], []⟩
theorem MZ (e : Nat → A) (H : Ad T e Ga.defs) (hp : (Day.AT (e 0).int (e 1).int (e 2).int) = true) :
  ((e 4).bool = true) ∧ (Day.AU (e 0).int (e 1).int (e 2).int = (e 5).int) := by
 simp only [Ga, Ad, Def.q, BB, L.Ai, L.Ar, L.AN, L.AR, L.ev, A.Ah, A.Am, A.Au, A.AZ, List.map_cons, List.map_nil, Nat.zero_add, Nat.add_zero, and_true, true_and, Nat.reduceAdd, Nat.one_mul] at H
 simp only [DZ, Ed, D0, Bo, EK, EO, B9, FI, and_true, true_and] at H
 obtain ⟨q4, ⟨q3, -⟩⟩ := H
 replace q4 := JX q4
 obtain ⟨q4, q5⟩ := q4
 simp only [L.Ai, L.Ar, L.AN, L.AR, L.ev, A.Ah, A.Am, A.Au] at q4 q5
 generalize (e 0).int = x0, (e 1).int = x1, (e 2).int = x2, (e 3).int = v3, (e 4).bool = v4, (e 5).int = v5 at *
 have hn : 1 ≤ x0 ∧ x0 ≤ 8 := by grind [Day.AP, Day.EP, Day.Bw, Day.sm, Day.i64, Day.u8, Day.u16, Day.u32, Day.right, Day.times, Day.Bu, Day.Bs, Day.GC, Day.AV, Day.Bx, Day.A3, Day.By, Day.Ap, Day.ND.i64, Day.Bk, Day.Co, Day.EC, Day.GD, Day.BS, wrap64, Day.BR, Day.Ca, Day.A2, Day.AF, Day.Iv, Day.atR, Day.AT, Day.AU]
 have hn2 : x0 = 1 ∨ x0 = 2 ∨ x0 = 3 ∨ x0 = 4 ∨ x0 = 5 ∨ x0 = 6 ∨ x0 = 7 ∨ x0 = 8 := by omega
 clear hn
 rcases hn2 with rfl | rfl | rfl | rfl | rfl | rfl | rfl | rfl <;> grind [Day.AP, Day.EP, Day.Bw, Day.sm, Day.i64, Day.u8, Day.u16, Day.u32, Day.right, Day.times, Day.Bu, Day.Bs, Day.GC, Day.AV, Day.Bx, Day.A3, Day.By, Day.Ap, Day.ND.i64, Day.Bk, Day.Co, Day.EC, Day.GD, Day.BS, wrap64, Day.BR, Day.Ca, Day.A2, Day.AF, Day.Iv, Day.atR, Day.AT, Day.AU]
end Rx.S
