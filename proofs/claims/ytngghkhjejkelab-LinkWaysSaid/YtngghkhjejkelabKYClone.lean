import Derived.Test.YtngghkhjejkelabKXt
set_option linter.unusedVariables false
set_option linter.unusedSimpArgs false
namespace Rx.S
open Go Rx
set_option maxRecDepth 100000
set_option maxHeartbeats 1000000
def g_Clone : G := ⟨8, [⟨7, .and, [V 5, V 6]⟩, ⟨6, (.cmp .lss), [V 4, N 1000001]⟩, ⟨5, (.cmp .leq), [N 0, V 4]⟩, ⟨4, (.lln 2), [V 3]⟩, ⟨3, .cat, [.e, V 0]⟩, ⟨2, (.cmp .leq), [N 1, V 1]⟩], [V 7, V 2, V 2], []⟩
theorem pure_Clone (e : Nat → A) (H : FactsQ T e g_Clone.defs) (hp : (Day.Ls.fok (Day.Ls.mk (e 0) (e 1).int) && (Day.inR ((Day.Ls.mk (e 0) (e 1).int)).n 1000000 && Day.leB 1 ((Day.Ls.mk (e 0) (e 1).int)).n)) = true) :
  ((e 7).bool = true ∧ (e 2).bool = true ∧ (e 2).bool = true) ∧ ((((A.l ((Day.Ls.mk (e 0) (e 1).int)).x.els, ((Day.Ls.mk (e 0) (e 1).int)).n))).1 = (e 3) ∧ (((A.l ((Day.Ls.mk (e 0) (e 1).int)).x.els, ((Day.Ls.mk (e 0) (e 1).int)).n))).2 = (e 4).int) := by
 simp only [g_Clone, FactsQ, Def.q, updQ, L.ev_var, L.ev_n, L.ev_t, L.ev_e, L.ev, A.int_i, A.bool_b, A.str_v, A.els_l, List.map_cons, List.map_nil, Nat.zero_add, Nat.add_zero, and_true, true_and, Nat.reduceAdd, Nat.one_mul] at H
 simp only [arI, dvI, btI, cmpI, shI, ifQ, updV, ltQ, and_true, true_and] at H
 obtain ⟨q7, q6, q5, q4, q3, q2⟩ := H
 generalize e 0 = x0, (e 1).int = x1, (e 2).bool = v2, e 3 = v3, (e 4).int = v4, (e 5).bool = v5, (e 6).bool = v6, (e 7).bool = v7 at *
 obtain ⟨⟨h1, h2⟩, h3, h4⟩ : (Day.Ls.fok ⟨x0, x1⟩ = true ∧ Day.inR x1 1000000 = true) ∧ Day.leB 1 x1 = true ∧ True := by simpa [Bool.and_eq_true, and_assoc] using hp
 obtain ⟨f1, f2⟩ := Day.Ls.fok_iff.1 h1
 rw [Day.inR_iff] at h2
 rw [Day.leB_iff] at h3
 simp only at f1 f2
 have hl : (x0.els.length / 2 : Nat) = x1.toNat := by omega
 have e3 : v3 = A.l x0.els := by rw [q3]; simp
 have e4 : v4 = x1 := by rw [q4, e3]; simp only [A.els_l]; omega
 have e5 : v5 = true := by rw [q5, e4]; simp; omega
 have e6 : v6 = true := by rw [q6, e4]; simp; omega
 have e2 : v2 = true := by rw [q2]; simp; omega
 simp [q7, e2, e3, e4, e5, e6]
end Rx.S
