import Derived.Test.YtkdhdjcngafocaaPXt
set_option linter.unusedVariables false
set_option linter.unusedSimpArgs false
namespace Rx.S
open Go Rx
set_option maxRecDepth 100000
set_option maxHeartbeats 1000000
def GL : G := ⟨6, [⟨5, .and, [V 4, V 3]⟩, ⟨4, (.cmp .eql), [V 0, N 1]⟩, ⟨3, (.cmp .eql), [V 1, V 2]⟩], [], []⟩
theorem L6 (e : Nat → A) (H : Ai T e GL.defs) (hp : (true) = true) :
  (True) ∧ (Day.isNode (Day.Fl.mk (e 0).int (e 1).int) (e 2).int = (e 5).bool) := by
 simp only [GL, Ai, Def.q, Cn, L.Al, L.AB, L.A3, L.A9, L.ev, A.Am, A.At, A.AF, A.Bh, List.map_cons, List.map_nil, Nat.zero_add, Nat.add_zero, and_true, true_and, Nat.reduceAdd, Nat.one_mul] at H
 simp only [F6, GR, FC, Br, Hg, Hi, CC, IP, and_true, true_and] at H
 obtain ⟨q5, q4, q3⟩ := H
 generalize (e 0).int = x0, (e 1).int = x1, (e 2).int = x2, (e 3).bool = v3, (e 4).bool = v4, (e 5).bool = v5 at *
 grind [Day.right, Day.isNode, Day.CQ, Day.EZ, Day.Og, Day.C6]
def GN : G := ⟨6, [⟨5, .iteB, [V 3, V 4, B false]⟩, ⟨4, (.cmp .eql), [V 1, V 2]⟩, ⟨3, (.cmp .eql), [V 0, N 1]⟩], [], []⟩
theorem L8 (e : Nat → A) (H : Ai T e GN.defs) (hp : (true) = true) :
  (True) ∧ (Day.isNode (Day.Fl.mk (e 0).int (e 1).int) (e 2).int = (e 5).bool) := by
 simp only [GN, Ai, Def.q, Cn, L.Al, L.AB, L.A3, L.A9, L.ev, A.Am, A.At, A.AF, A.Bh, List.map_cons, List.map_nil, Nat.zero_add, Nat.add_zero, and_true, true_and, Nat.reduceAdd, Nat.one_mul] at H
 simp only [F6, GR, FC, Br, Hg, Hi, CC, IP, and_true, true_and] at H
 obtain ⟨q5, q4, q3⟩ := H
 generalize (e 0).int = x0, (e 1).int = x1, (e 2).int = x2, (e 3).bool = v3, (e 4).bool = v4, (e 5).bool = v5 at *
 grind [Day.right, Day.isNode, Day.CQ, Day.EZ, Day.Og, Day.C6]
end Rx.S
