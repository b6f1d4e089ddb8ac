import Derived.Test.YtikhhempbdimhaaSXc
import Derived.Test.YtikhhempbdimhaaSXd
import Derived.Carry
set_option linter.unusedVariables false
set_option linter.unusedSimpArgs false
namespace Rx
open Go Go.RowKit
section
variable {H : Type} {enc : TypeId × Value → H} {P : Program} {w : World} {base : Nat} {spare : Nat → Bool} {held : Bool} {a : A}
theorem WO : ∀ as : List A, Xb (List.replicate as.length none) as := fun as =>
 ⟨by simp, fun j x hx a _ => by simp [List.getElem?_replicate] at hx⟩
theorem R0 {T : Nat → List A → Bool × List A} {c : J7} (h : CJ P T c) (hok : ∀ n, c.ok (List.replicate n none) = true) (hrs : c.rs = [(false, [.bool])]) {vs : List Value} {as : List A} {w : World}
  (hT : O1 P w) (ha : Cb w.cell? c.ps vs as) (hp : (T c.f as).1 = true) (ht : (T c.f as).2 = [.b true]) :
  Calls P c.f vs.toArray w fun e w' => e = .returned (.bool true) ∧ Below w.heap.size w w' := by
 refine (h _ as vs w hT (hok as.length) (WO as) ha hp).mono ?_
 rintro e w' ⟨u, rfl, hu, hb⟩
 refine ⟨?_, hb⟩
 rw [ht, hrs] at hu
 obtain ⟨us, ⟨v, vr, a1, a2, rfl, he, h1, h2⟩, rfl⟩ := hu
 obtain ⟨rfl, rfl⟩ := h2
 rw [List.append_nil] at he
 subst he
 have h3 := h1.2
 rw [if_neg (by simp)] at h3
 obtain ⟨s, x, q1, q2, rfl⟩ := h3
 simp only [List.cons.injEq, and_true] at q1 q2
 subst q1
 subst q2
 rfl
end
end Rx
namespace Rx
open Go
end Rx
namespace Rx
open Go Day
end Rx
