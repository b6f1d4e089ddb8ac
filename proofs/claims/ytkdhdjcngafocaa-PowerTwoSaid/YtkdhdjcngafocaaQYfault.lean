import Derived.Test.YtkdhdjcngafocaaQXt
set_option linter.unusedVariables false
set_option linter.unusedSimpArgs false
namespace Rx.S
open Go Rx
set_option maxRecDepth 100000
set_option maxHeartbeats 1000000
def FU : G := ⟨6, [⟨5, .and, [V 4, V 3]⟩, ⟨4, (.cmp .eql), [V 0, N 1]⟩, ⟨3, (.cmp .eql), [V 1, V 2]⟩], [], []⟩
theorem Kj (e : Nat → A) (H : Ar T e FU.defs) (hp : (true) = true) :
  (True) ∧ (Day.isNode (Day.Fl.mk (e 0).int (e 1).int) (e 2).int = (e 5).bool) := by
 simp only [FU, Ar, Def.q, Fh, L.Au, L.A6, L.CL, L.C3, L.ev, A.AA, A.AN, A.Bu, A.Dh, List.map_cons, List.map_nil, Nat.zero_add, Nat.add_zero, and_true, true_and, Nat.reduceAdd, Nat.one_mul] at H
 simp only [JQ, J8, I5, Cf, Kz, Ly, Ge, N7, and_true, true_and] at H
 obtain ⟨q5, q4, q3⟩ := H
 generalize (e 0).int = x0, (e 1).int = x1, (e 2).int = x2, (e 3).bool = v3, (e 4).bool = v4, (e 5).bool = v5 at *
 grind [Day.right, Day.isNode, Day.LB, Day.TU, Day.Nb, Day.BD]
end Rx.S
