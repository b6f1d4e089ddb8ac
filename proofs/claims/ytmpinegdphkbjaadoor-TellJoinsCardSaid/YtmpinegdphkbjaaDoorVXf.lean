import Derived.Test.YtmpinegdphkbjaaDoorVXc
import Derived.Test.YtmpinegdphkbjaaDoorVXd
import Derived.Carry
set_option linter.unusedVariables false
set_option linter.unusedSimpArgs false
namespace Rx
open Go Go.RowKit
section
variable {H : Type} {enc : TypeId × Value → H} {P : Program} {w : World} {base : Nat} {spare : Nat → Bool} {held : Bool} {a : A}
theorem Tn (h : Sr enc P w base spare held (.s (.int .u8)) a) : Day.u8 a.int = true := by
 have h : IntKind.u8.min ≤ a.int ∧ a.int ≤ IntKind.u8.max := h
 have h1 : IntKind.u8.min = 0 := rfl
 have h2 : IntKind.u8.max = 255 := rfl
 rw [h1, h2] at h
 simp [Day.u8, h]
theorem PI : ∀ as : List A, Qb (List.replicate as.length none) as := fun as =>
 ⟨by simp, fun j x hx a _ => by simp [List.getElem?_replicate] at hx⟩
theorem Rn {T : Nat → List A → Bool × List A} {c : MM} (h : FX P T c) (hok : ∀ n, c.ok (List.replicate n none) = true) (hrs : c.rs = [(false, [.bool])]) {vs : List Value} {as : List A} {w : World}
  (hT : K9 P w) (ha : BR w.cell? c.ps vs as) (hp : (T c.f as).1 = true) (ht : (T c.f as).2 = [.b true]) :
  Calls P c.f vs.toArray w fun e w' => e = .returned (.bool true) ∧ Below w.heap.size w w' := by
 refine (h _ as vs w hT (hok as.length) (PI as) ha hp).mono ?_
 rintro e w' ⟨u, rfl, hu, hb⟩
 refine ⟨?_, hb⟩
 rw [ht, hrs] at hu
 obtain ⟨us, ⟨v, vr, a1, a2, rfl, he, h1, h2⟩, rfl⟩ := hu
 obtain ⟨rfl, rfl⟩ := h2
 rw [List.append_nil] at he
 subst he
 have h3 := h1.2
 rw [if_neg (by simp)] at h3
 obtain ⟨s, x, q1, q2, rfl⟩ := h3
 simp only [List.cons.injEq, and_true] at q1 q2
 subst q1
 subst q2
 rfl
end
end Rx
namespace Rx
open Go
end Rx
namespace Rx
open Go Day
end Rx
