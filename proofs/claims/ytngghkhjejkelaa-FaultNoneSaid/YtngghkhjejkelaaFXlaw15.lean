import Derived.Test.YtngghkhjejkelaaFXe
import Derived.Test.YtngghkhjejkelaaFXfault
import Derived.Test.YtngghkhjejkelaaFYlaw15
set_option linter.unusedVariables false
set_option linter.unusedSimpArgs false
namespace Rx.S
open Go Rx Go.Proofs
set_option maxRecDepth 100000
set_option maxHeartbeats 4000000
def CC : EB := { f := 10, ps := [], rs := [(false, [.bool])], ok := fun _ => true }
noncomputable def GN : List (Nat × Func) := [(10, Try.f10), (19, Try.f19), (12, Try.f12), (16, Try.f16)]
theorem Kb : AM Try.prog GN := ⟨Xg, V2, VZ, V1, trivial⟩
noncomputable def OH : Ctx := { Aw := Aw, eqs := eqs, fns := fun f => look f GN, ctr := [(19, BY), (12, CW), (16, Bk)], lim := 30, big := [], lps := [] }
theorem L9 : XL Try.prog T OH where
 Aw := A3
 eqs := A8
 mixed := mixed
 ctr := Am ⟨⟨rfl, DO⟩, ⟨rfl, E9⟩, ⟨rfl, CL⟩, trivial⟩
 fns := Au Kb
 big := An trivial
 lps := AF rfl
theorem GO : A6 Try.prog T CC := AR L9 AK (g := Fm) (ls := [V 25]) (by kernel_rfl) (fun aq => by rw [show CC.f = 10 from rfl, Vz]; rfl) fun aq e h1 h2 h3 => by
 subst h1
 rw [show CC.f = 10 from rfl, Vz] at h2 ⊢
 obtain ⟨ho, hr⟩ := K5 e h3 h2
 have r0 := hr
 refine ⟨⟨ho.1, ho.2.1, ho.2.2.1, ho.2.2.2.1, ho.2.2.2.2, trivial⟩, ?_⟩
 show Aa [.bool] (WG _).2 = Aa [.bool] [L.ev e (V 25)]
 exact (GR r0 rfl)
end Rx.S
