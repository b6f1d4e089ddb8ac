import Derived.Test.YtjipnabidebgbaaXe
import Derived.Test.YtjipnabidebgbaaXvoteb
import Derived.Test.YtjipnabidebgbaaXgate
import Derived.Test.YtjipnabidebgbaaYlaw12
set_option linter.unusedVariables false
set_option linter.unusedSimpArgs false
namespace Rx.S
open Go Rx Go.Proofs
set_option maxRecDepth 100000
set_option maxHeartbeats 4000000
set_option linter.unusedVariables false
def c_law12_awake : Ctr := { f := 103, ps := [], rs := [(false, [.bool])], ok := fun _ => true }
noncomputable def fns_law12_awake : List (Nat × Func) := [(103, Try.f103), (94, Try.f94), (104, Try.f104), (105, Try.f105), (110, Try.f110)]
theorem fnsOk_law12_awake : FnsAll Try.prog fns_law12_awake := ⟨fn103, fn94, fn104, fn105, fn110, trivial⟩
noncomputable def X_law12_awake : Ctx := { tys := tys, eqs := eqs, fns := fun f => look f fns_law12_awake, ctr := [(94, c_ref11_Fresh), (105, c_gate_Settle), (110, c_gate_Fits), (104, c_gate_Relay)], lim := 30, big := [], lps := [] }
theorem xok_law12_awake : XL Try.prog T X_law12_awake where
  tys := tysOk
  eqs := eqsOk
  mixed := mixed
  ctr := ctrsOK_of ⟨⟨rfl, ctr_ref11_Fresh⟩, ⟨rfl, ctr_gate_Settle⟩, ⟨rfl, ctr_gate_Fits⟩, ⟨rfl, ctr_gate_Relay⟩, trivial⟩
  fns := fnsOK_of fnsOk_law12_awake
  big := bigsOK_of trivial
  lps := lps_nil rfl
theorem ctr_law12_awake : CtrOK Try.prog T c_law12_awake := ctr_of xok_law12_awake widths (g := g_law12_awake) (ls := [V 60]) (by kernel_rfl) (fun aq => by rw [show c_law12_awake.f = 103 from rfl, T_103]; rfl) fun aq e h1 h2 h3 => by
  subst h1
  rw [show c_law12_awake.f = 103 from rfl, T_103] at h2 ⊢
  obtain ⟨ho, hr⟩ := pure_law12_awake e h3 h2
  have r0 := hr
  refine ⟨⟨ho.1, ho.2.1, ho.2.2.1, ho.2.2.2, trivial⟩, ?_⟩
  show semMany [.bool] (t_103 _).2 = semMany [.bool] [L.ev e (V 60)]
  exact (semB r0 rfl)
end Rx.S
