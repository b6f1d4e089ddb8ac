import Derived.Test.YtngghkhjejkelabKXe
import Derived.Test.YtngghkhjejkelabKXhub
import Derived.Test.YtngghkhjejkelabKXvoteb
import Derived.Test.YtngghkhjejkelabKYlaw13
set_option linter.unusedVariables false
set_option linter.unusedSimpArgs false
namespace Rx.S
open Go Rx Go.Proofs
set_option maxRecDepth 100000
set_option maxHeartbeats 4000000
def c_law13_awake : Ctr := { f := 9, ps := [], rs := [(false, [.bool])], ok := fun _ => true }
noncomputable def fns_law13_awake : List (Nat × Func) := [(9, Try.f9), (14, Try.f14), (11, Try.f11)]
theorem fnsOk_law13_awake : FnsAll Try.prog fns_law13_awake := ⟨fn9, fn14, fn11, trivial⟩
noncomputable def X_law13_awake : Ctx := { tys := tys, eqs := eqs, fns := fun f => look f fns_law13_awake, ctr := [(14, c_ref11_Fresh), (11, c_hub_Step)], lim := 30, big := [], lps := [] }
theorem xok_law13_awake : XL Try.prog T X_law13_awake where
 tys := tysOk
 eqs := eqsOk
 mixed := mixed
 ctr := ctrsOK_of ⟨⟨rfl, ctr_ref11_Fresh⟩, ⟨rfl, ctr_hub_Step⟩, trivial⟩
 fns := fnsOK_of fnsOk_law13_awake
 big := bigsOK_of trivial
 lps := lps_nil rfl
theorem ctr_law13_awake : CtrOK Try.prog T c_law13_awake := ctr_of xok_law13_awake widths (g := g_law13_awake) (ls := [V 55]) (by kernel_rfl) (fun aq => by rw [show c_law13_awake.f = 9 from rfl, T_9]; rfl) fun aq e h1 h2 h3 => by
 subst h1
 rw [show c_law13_awake.f = 9 from rfl, T_9] at h2 ⊢
 obtain ⟨ho, hr⟩ := pure_law13_awake e h3 h2
 have r0 := hr
 refine ⟨⟨ho.1, ho.2.1, ho.2.2, trivial⟩, ?_⟩
 show semMany [.bool] (t_9 _).2 = semMany [.bool] [L.ev e (V 55)]
 exact (semB r0 rfl)
end Rx.S
