import Derived.Test.YtkdhdjcngafocaaQXt
set_option linter.unusedVariables false
set_option linter.unusedSimpArgs false
namespace Rx.S
open Go Rx
set_option maxRecDepth 100000
set_option maxHeartbeats 1000000
def ES : G := ⟨9, [⟨8, .iteB, [V 4, V 4, V 3]⟩, ⟨7, .iteI, [V 4, V 5, V 1]⟩, ⟨6, .not, [V 4]⟩, ⟨5, .mn, [V 0, V 2]⟩, ⟨4, .not, [V 3]⟩, ⟨3, (.cmp .lss), [V 0, V 1]⟩], [], []⟩
theorem JK (e : Nat → A) (H : Ar T e ES.defs) (hp : (true) = true) :
  (True) ∧ (Day.GH (e 0).int (e 1).int (e 2).int = (e 7).int) := by
 simp only [ES, Ar, Def.q, Fh, L.Au, L.A6, L.CL, L.C3, L.ev, A.AA, A.AN, A.Bu, A.Dh, List.map_cons, List.map_nil, Nat.zero_add, Nat.add_zero, and_true, true_and, Nat.reduceAdd, Nat.one_mul] at H
 simp only [JQ, J8, I5, Cf, Kz, Ly, Ge, N7, and_true, true_and] at H
 obtain ⟨q8, ⟨q7, -⟩, q6, q5, q4, q3⟩ := H
 generalize (e 0).int = x0, (e 1).int = x1, (e 2).int = x2, (e 3).bool = v3, (e 4).bool = v4, (e 5).int = v5, (e 6).bool = v6, (e 7).int = v7, (e 8).bool = v8 at *
 grind [Day.GH, Day.VZ, Day.Ue, Day.sm, Day.i64, Day.u8, Day.u16, Day.u32, Day.right, Day.times, Day.UH, Day.TQ, Day.Vv, Day.S8, Day.TS, Day.S9, Day.Ug, Day.LA, Day.ND.i64, Day.Ta, Day.UI, Day.V2, Day.V1, Day.UJ, wrap64, Day.TR, Day.Vk, Day.Q3, Day.Uf, Day.V0, Day.atR, Day.S6, Day.S7]
end Rx.S
