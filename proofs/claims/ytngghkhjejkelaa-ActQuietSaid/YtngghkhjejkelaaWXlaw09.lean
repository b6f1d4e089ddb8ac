import Derived.Test.YtngghkhjejkelaaWXe
import Derived.Test.YtngghkhjejkelaaWXact
import Derived.Test.YtngghkhjejkelaaWYlaw09
set_option linter.unusedVariables false
set_option linter.unusedSimpArgs false
namespace Rx.S
open Go Rx Go.Proofs
set_option maxRecDepth 100000
set_option maxHeartbeats 4000000
def Dh : GF := { f := 27, ps := [], rs := [(false, [.bool])], ok := fun _ => true }
noncomputable def Gw : List (Nat × Func) := [(27, Try.f27), (28, Try.f28)]
theorem JT : A1 Try.prog Gw := ⟨VV, Ss, trivial⟩
noncomputable def NR : Ctx := { Aw := Aw, eqs := eqs, fns := fun f => look f Gw, ctr := [(28, Ek)], lim := 30, big := [], lps := [] }
theorem Lt : XL Try.prog T NR where
 Aw := BC
 eqs := BM
 mixed := mixed
 ctr := Au ⟨⟨rfl, Gj⟩, trivial⟩
 fns := AB JT
 big := Av trivial
 lps := AR rfl
theorem Lu : Bz Try.prog T Dh := BA Lt Bj (g := E8) (ls := [V 22]) (by kernel_rfl) (fun aq => by rw [show Dh.f = 27 from rfl, T7]; rfl) fun aq e h1 h2 h3 => by
 subst h1
 rw [show Dh.f = 27 from rfl, T7] at h2 ⊢
 obtain ⟨ho, hr⟩ := KF e h3 h2
 have r0 := hr
 refine ⟨⟨ho.1, ho.2, trivial⟩, ?_⟩
 show Ab [.bool] (UY _).2 = Ab [.bool] [L.ev e (V 22)]
 exact (Qk r0 rfl)
end Rx.S
