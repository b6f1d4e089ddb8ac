import Derived.Test.YtngghkhjejkelabMXt
set_option linter.unusedVariables false
set_option linter.unusedSimpArgs false
namespace Rx.S
open Go Rx
set_option maxRecDepth 100000
set_option maxHeartbeats 1000000
def Xo : G := ⟨8, [⟨7, .and, [V 5, V 6]⟩, ⟨6, (.cmp .lss), [V 4, N 1000001]⟩, ⟨5, (.cmp .leq), [N 0, V 4]⟩, ⟨4, (.lln 2), [V 3]⟩, ⟨3, .cat, [.e, V 0]⟩, ⟨2, (.cmp .leq), [N 1, V 1]⟩], [V 7, V 2, V 2], []⟩
theorem Aai (e : Nat → A) (H : Ac T e Xo.defs) (hp : (Day.Ls.FL (Day.Ls.mk (e 0) (e 1).int) && (Day.Be ((Day.Ls.mk (e 0) (e 1).int)).n 1000000 && Day.P4 1 ((Day.Ls.mk (e 0) (e 1).int)).n)) = true) :
  ((e 7).bool = true ∧ (e 2).bool = true ∧ (e 2).bool = true) ∧ ((((A.l ((Day.Ls.mk (e 0) (e 1).int)).x.A5, ((Day.Ls.mk (e 0) (e 1).int)).n))).1 = (e 3) ∧ (((A.l ((Day.Ls.mk (e 0) (e 1).int)).x.A5, ((Day.Ls.mk (e 0) (e 1).int)).n))).2 = (e 4).int) := by
 simp only [Xo, Ac, Def.q, Bc, L.Ae, L.Aq, L.AE, L.AF, L.ev, A.Ad, A.Ah, A.As, A.AJ, List.map_cons, List.map_nil, Nat.zero_add, Nat.add_zero, and_true, true_and, Nat.reduceAdd, Nat.one_mul] at H
 simp only [C0, C1, CN, A3, De, Dg, Bm, Dw, and_true, true_and] at H
 obtain ⟨q7, q6, q5, q4, q3, q2⟩ := H
 generalize e 0 = x0, (e 1).int = x1, (e 2).bool = v2, e 3 = v3, (e 4).int = v4, (e 5).bool = v5, (e 6).bool = v6, (e 7).bool = v7 at *
 obtain ⟨⟨h1, h2⟩, h3, h4⟩ : (Day.Ls.FL ⟨x0, x1⟩ = true ∧ Day.Be x1 1000000 = true) ∧ Day.P4 1 x1 = true ∧ True := by simpa [Bool.and_eq_true, and_assoc] using hp
 obtain ⟨f1, f2⟩ := Day.Ls.Et.1 h1
 rw [Day.Au] at h2
 rw [Day.FK] at h3
 simp only at f1 f2
 have hl : (x0.A5.length / 2 : Nat) = x1.toNat := by omega
 have e3 : v3 = A.l x0.A5 := by rw [q3]; simp
 have e4 : v4 = x1 := by rw [q4, e3]; simp only [A.AJ]; omega
 have e5 : v5 = true := by rw [q5, e4]; simp; omega
 have e6 : v6 = true := by rw [q6, e4]; simp; omega
 have e2 : v2 = true := by rw [q2]; simp; omega
 simp [q7, e2, e3, e4, e5, e6]
end Rx.S
