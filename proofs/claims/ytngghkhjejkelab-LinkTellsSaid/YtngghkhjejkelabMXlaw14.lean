import Derived.Test.YtngghkhjejkelabMXe
import Derived.Test.YtngghkhjejkelabMXvoteb
import Derived.Test.YtngghkhjejkelabMXlink
import Derived.Test.YtngghkhjejkelabMYlaw14
set_option linter.unusedVariables false
set_option linter.unusedSimpArgs false
namespace Rx.S
open Go Rx Go.Proofs
set_option maxRecDepth 100000
set_option maxHeartbeats 4000000
def E0 : DR := { f := 12, ps := [], rs := [(false, [.bool])], ok := fun _ => true }
noncomputable def J0 : List (Nat × Func) := [(12, Try.f12), (14, Try.f14), (13, Try.f13)]
theorem Om : AG Try.prog J0 := ⟨AgU, Agm, Agl, trivial⟩
noncomputable def Vk : Ctx := { At := At, eqs := eqs, fns := fun f => look f J0, ctr := [(14, Dd), (13, Fg)], lim := 30, big := [], lps := [] }
theorem Re : XL Try.prog T Vk where
 At := AL
 eqs := AP
 mixed := mixed
 ctr := Af ⟨⟨rfl, Ft⟩, ⟨rfl, Mp⟩, trivial⟩
 fns := Am Om
 big := Ag trivial
 lps := Ax rfl
theorem Rf : A2 Try.prog T E0 := AR Re Aw (g := HG) (ls := [V 80]) (by kernel_rfl) (fun aq => by rw [show E0.f = 12 from rfl, Aew]; rfl) fun aq e h1 h2 h3 => by
 subst h1
 rw [show E0.f = 12 from rfl, Aew] at h2 ⊢
 obtain ⟨ho, hr⟩ := PF e h3 h2
 have r0 := hr
 refine ⟨⟨ho.1, ho.2, trivial⟩, ?_⟩
 show Aa [.bool] (AfP _).2 = Aa [.bool] [L.ev e (V 80)]
 exact (Uz r0 rfl)
end Rx.S
