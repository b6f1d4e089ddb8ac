import Derived.Test.YtmpinegdphkbjaaDoorTXc
import Derived.Test.YtmpinegdphkbjaaDoorTXd
import Derived.Carry
set_option linter.unusedVariables false
set_option linter.unusedSimpArgs false
namespace Rx
open Go Go.RowKit
section
variable {H : Type} {enc : TypeId × Value → H} {P : Program} {w : World} {base : Nat} {spare : Nat → Bool} {held : Bool} {a : A}
theorem FD (h : TV enc P w base spare held (.s (.int .i64)) a) : Day.i64 a.int = true := by
 have h : IntKind.i64.min ≤ a.int ∧ a.int ≤ IntKind.i64.max := h
 have h1 : IntKind.i64.min = -9223372036854775808 := rfl
 have h2 : IntKind.i64.max = 9223372036854775807 := rfl
 rw [h1, h2] at h
 simp [Day.i64, h]
theorem QW : ∀ as : List A, RE (List.replicate as.length none) as := fun as =>
 ⟨by simp, fun j x hx a _ => by simp [List.getElem?_replicate] at hx⟩
theorem SO {T : Nat → List A → Bool × List A} {c : KL} (h : DH P T c) (hok : ∀ n, c.ok (List.replicate n none) = true) (hrs : c.rs = [(false, [.bool])]) {vs : List Value} {as : List A} {w : World}
  (hT : MJ P w) (ha : B5 w.cell? c.ps vs as) (hp : (T c.f as).1 = true) (ht : (T c.f as).2 = [.b true]) :
  Calls P c.f vs.toArray w fun e w' => e = .returned (.bool true) ∧ Below w.heap.size w w' := by
 refine (h _ as vs w hT (hok as.length) (QW as) ha hp).mono ?_
 rintro e w' ⟨u, rfl, hu, hb⟩
 refine ⟨?_, hb⟩
 rw [ht, hrs] at hu
 obtain ⟨us, ⟨v, vr, a1, a2, rfl, he, h1, h2⟩, rfl⟩ := hu
 obtain ⟨rfl, rfl⟩ := h2
 rw [List.append_nil] at he
 subst he
 have h3 := h1.2
 rw [if_neg (by simp)] at h3
 obtain ⟨s, x, q1, q2, rfl⟩ := h3
 simp only [List.cons.injEq, and_true] at q1 q2
 subst q1
 subst q2
 rfl
end
end Rx
namespace Rx
open Go
end Rx
namespace Rx
open Go Day
end Rx
