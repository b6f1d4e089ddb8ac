import Derived.Test.YtikhhempbdimhaaSXc
import Derived.Test.YtikhhempbdimhaaSXf
set_option linter.unusedVariables false
set_option linter.unusedSimpArgs false
namespace Rx
open Go Go.RowKit
section
variable {H : Type} {enc : TypeId × Value → H} {P : Program} {w : World} {base : Nat} {spare : Nat → Bool} {held : Bool}
end
end Rx
