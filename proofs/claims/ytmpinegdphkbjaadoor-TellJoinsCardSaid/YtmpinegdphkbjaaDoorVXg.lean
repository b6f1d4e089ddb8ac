import Derived.Test.YtmpinegdphkbjaaDoorVXc
import Derived.Test.YtmpinegdphkbjaaDoorVXf
set_option linter.unusedVariables false
set_option linter.unusedSimpArgs false
namespace Rx
open Go Go.RowKit
theorem To {a : A} (h : Qy (.int .i64) a) : Day.i64 a.int = true := by
 cases h with
 | int h1 h2 =>
  have e1 : IntKind.i64.min = -9223372036854775808 := rfl
  have e2 : IntKind.i64.max = 9223372036854775807 := rfl
  rw [e1] at h1
  rw [e2] at h2
  simp [Day.i64, A.int, h1, h2]
section
variable {H : Type} {enc : TypeId × Value → H} {P : Program} {w : World} {base : Nat} {spare : Nat → Bool} {held : Bool}
end
end Rx
