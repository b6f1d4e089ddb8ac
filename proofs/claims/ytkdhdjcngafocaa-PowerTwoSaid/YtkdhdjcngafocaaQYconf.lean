import Derived.Test.YtkdhdjcngafocaaQXt
set_option linter.unusedVariables false
set_option linter.unusedSimpArgs false
namespace Rx.S
open Go Rx
set_option maxRecDepth 100000
set_option maxHeartbeats 1000000
def FQ : G := ⟨4, [⟨3, .iteB, [V 1, V 2, B false]⟩, ⟨2, (.cmp .leq), [V 0, N 8]⟩, ⟨1, (.cmp .geq), [V 0, N 3]⟩], [], []⟩
theorem Kg (e : Nat → A) (H : Ar T e FQ.defs) (hp : (true) = true) :
  (True) ∧ (Day.right (e 0).int = (e 3).bool) := by
 simp only [FQ, Ar, Def.q, Fh, L.Au, L.A6, L.CL, L.C3, L.ev, A.AA, A.AN, A.Bu, A.Dh, List.map_cons, List.map_nil, Nat.zero_add, Nat.add_zero, and_true, true_and, Nat.reduceAdd, Nat.one_mul] at H
 simp only [JQ, J8, I5, Cf, Kz, Ly, Ge, N7, and_true, true_and] at H
 obtain ⟨q3, q2, q1⟩ := H
 generalize (e 0).int = x0, (e 1).bool = v1, (e 2).bool = v2, (e 3).bool = v3 at *
 grind [Day.GH, Day.VZ, Day.Ue, Day.sm, Day.i64, Day.u8, Day.u16, Day.u32, Day.right, Day.times, Day.UH, Day.TQ, Day.Vv, Day.S8, Day.TS, Day.S9, Day.Ug, Day.LA, Day.ND.i64, Day.Ta, Day.UI, Day.V2, Day.V1, Day.UJ, wrap64, Day.TR, Day.Vk, Day.Q3, Day.Uf, Day.V0, Day.atR, Day.S6, Day.S7]
end Rx.S
