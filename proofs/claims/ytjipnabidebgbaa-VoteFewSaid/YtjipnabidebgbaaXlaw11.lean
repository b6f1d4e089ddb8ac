import Derived.Test.YtjipnabidebgbaaXe
import Derived.Test.YtjipnabidebgbaaXvote
import Derived.Test.YtjipnabidebgbaaYlaw11
set_option linter.unusedVariables false
set_option linter.unusedSimpArgs false
namespace Rx.S
open Go Rx Go.Proofs
set_option maxRecDepth 100000
set_option maxHeartbeats 4000000
set_option linter.unusedVariables false
def c_law11_awake : Ctr := { f := 92, ps := [], rs := [(false, [.bool])], ok := fun _ => true }
noncomputable def fns_law11_awake : List (Nat × Func) := [(92, Try.f92), (93, Try.f93), (91, Try.f91)]
theorem fnsOk_law11_awake : FnsAll Try.prog fns_law11_awake := ⟨fn92, fn93, fn91, trivial⟩
noncomputable def X_law11_awake : Ctx := { tys := tys, eqs := eqs, fns := fun f => look f fns_law11_awake, ctr := [(93, c_vote_Fresh), (91, c_vote_Best)], lim := 30, big := [], lps := [] }
theorem xok_law11_awake : XL Try.prog T X_law11_awake where
  tys := tysOk
  eqs := eqsOk
  mixed := mixed
  ctr := ctrsOK_of ⟨⟨rfl, ctr_vote_Fresh⟩, ⟨rfl, ctr_vote_Best⟩, trivial⟩
  fns := fnsOK_of fnsOk_law11_awake
  big := bigsOK_of trivial
  lps := lps_nil rfl
theorem ctr_law11_awake : CtrOK Try.prog T c_law11_awake := ctr_of xok_law11_awake widths (g := g_law11_awake) (ls := [V 41]) (by kernel_rfl) (fun aq => by rw [show c_law11_awake.f = 92 from rfl, T_92]; rfl) fun aq e h1 h2 h3 => by
  subst h1
  rw [show c_law11_awake.f = 92 from rfl, T_92] at h2 ⊢
  obtain ⟨ho, hr⟩ := pure_law11_awake e h3 h2
  have r0 := hr
  refine ⟨⟨ho.1, ho.2.1, ho.2.2, trivial⟩, ?_⟩
  show semMany [.bool] (t_92 _).2 = semMany [.bool] [L.ev e (V 41)]
  exact (semB r0 rfl)
end Rx.S
