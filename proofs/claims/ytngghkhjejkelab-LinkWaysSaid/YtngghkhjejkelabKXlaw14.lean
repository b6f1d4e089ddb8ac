import Derived.Test.YtngghkhjejkelabKXe
import Derived.Test.YtngghkhjejkelabKXvoteb
import Derived.Test.YtngghkhjejkelabKXlink
import Derived.Test.YtngghkhjejkelabKYlaw14
set_option linter.unusedVariables false
set_option linter.unusedSimpArgs false
namespace Rx.S
open Go Rx Go.Proofs
set_option maxRecDepth 100000
set_option maxHeartbeats 4000000
def c_law14_awake : Ctr := { f := 12, ps := [], rs := [(false, [.bool])], ok := fun _ => true }
noncomputable def fns_law14_awake : List (Nat × Func) := [(12, Try.f12), (14, Try.f14), (13, Try.f13)]
theorem fnsOk_law14_awake : FnsAll Try.prog fns_law14_awake := ⟨fn12, fn14, fn13, trivial⟩
noncomputable def X_law14_awake : Ctx := { tys := tys, eqs := eqs, fns := fun f => look f fns_law14_awake, ctr := [(14, c_ref11_Fresh), (13, c_link_Step)], lim := 30, big := [], lps := [] }
theorem xok_law14_awake : XL Try.prog T X_law14_awake where
 tys := tysOk
 eqs := eqsOk
 mixed := mixed
 ctr := ctrsOK_of ⟨⟨rfl, ctr_ref11_Fresh⟩, ⟨rfl, ctr_link_Step⟩, trivial⟩
 fns := fnsOK_of fnsOk_law14_awake
 big := bigsOK_of trivial
 lps := lps_nil rfl
theorem ctr_law14_awake : CtrOK Try.prog T c_law14_awake := ctr_of xok_law14_awake widths (g := g_law14_awake) (ls := [V 80]) (by kernel_rfl) (fun aq => by rw [show c_law14_awake.f = 12 from rfl, T_12]; rfl) fun aq e h1 h2 h3 => by
 subst h1
 rw [show c_law14_awake.f = 12 from rfl, T_12] at h2 ⊢
 obtain ⟨ho, hr⟩ := pure_law14_awake e h3 h2
 have r0 := hr
 refine ⟨⟨ho.1, ho.2, trivial⟩, ?_⟩
 show semMany [.bool] (t_12 _).2 = semMany [.bool] [L.ev e (V 80)]
 exact (semB r0 rfl)
end Rx.S
