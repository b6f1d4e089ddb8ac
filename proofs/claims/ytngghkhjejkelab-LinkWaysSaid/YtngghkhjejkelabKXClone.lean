import Derived.Test.YtngghkhjejkelabKXe
import Derived.Test.YtngghkhjejkelabKYClone
set_option linter.unusedVariables false
set_option linter.unusedSimpArgs false
namespace Rx.S
open Go Rx Go.Proofs
set_option maxRecDepth 100000
set_option maxHeartbeats 4000000
def c_Clone : Big := { f := 59, ps := [.lst [.int .i64, .int .i64]], rs := [.lst [.int .i64, .int .i64] 32], ok := fun _ => true, w := 3 }
noncomputable def fns_Clone : List (Nat × Func) := [(59, Try.f59)]
theorem fnsOk_Clone : FnsAll Try.prog fns_Clone := ⟨fn59, trivial⟩
noncomputable def X_Clone : Ctx := { tys := tys, eqs := eqs, fns := fun f => look f fns_Clone, ctr := [], lim := 30, big := [], lps := [] }
theorem xok_Clone : XL Try.prog T X_Clone where
 tys := tysOk
 eqs := eqsOk
 mixed := mixed
 ctr := ctrsOK_of trivial
 fns := fnsOK_of fnsOk_Clone
 big := bigsOK_of trivial
 lps := lps_nil rfl
theorem ctr_Clone : BigOK Try.prog T c_Clone := big_of xok_Clone widths (g := g_Clone) (ls := [V 3, V 4]) (by kernel_rfl) fun aq e h1 h2 h3 => by
 subst h1
 rw [show c_Clone.f = 59 from rfl, T_59] at h2 ⊢
 obtain ⟨ho, hr⟩ := pure_Clone e h3 h2
 obtain ⟨r0, r1⟩ := hr
 refine ⟨⟨ho.1, ho.2.1, ho.2.2, trivial⟩, ?_⟩
 exact ⟨_, _, _, _, _, _, rfl, rfl, r0, r1, ⟨rfl, rfl⟩⟩
end Rx.S
