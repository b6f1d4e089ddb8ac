import Derived.Test.YtngghkhjejkelaaVXe
import Derived.Test.YtngghkhjejkelaaVXact
import Derived.Test.YtngghkhjejkelaaVYlaw09
set_option linter.unusedVariables false
set_option linter.unusedSimpArgs false
namespace Rx.S
open Go Rx Go.Proofs
set_option maxRecDepth 100000
set_option maxHeartbeats 4000000
def Cy : DD := { f := 27, ps := [], rs := [(false, [.bool])], ok := fun _ => true }
noncomputable def HP : List (Nat × Func) := [(27, Try.f27), (28, Try.f28)]
theorem LI : AD Try.prog HP := ⟨Yy, SK, trivial⟩
noncomputable def Q3 : Ctx := { As := As, eqs := eqs, fns := fun f => look f HP, ctr := [(28, CO)], lim := 30, big := [], lps := [] }
theorem Oa : XL Try.prog T Q3 where
 As := AM
 eqs := AY
 mixed := mixed
 ctr := Ak ⟨⟨rfl, CT⟩, trivial⟩
 fns := An LI
 big := Al trivial
 lps := Av rfl
theorem Em : AW Try.prog T Cy := AJ Oa AH (g := F9) (ls := [V 22]) (by kernel_rfl) (fun aq => by rw [show Cy.f = 27 from rfl, X9]; rfl) fun aq e h1 h2 h3 => by
 subst h1
 rw [show Cy.f = 27 from rfl, X9] at h2 ⊢
 obtain ⟨ho, hr⟩ := MU e h3 h2
 have r0 := hr
 refine ⟨⟨ho.1, ho.2, trivial⟩, ?_⟩
 show Aa [.bool] (Zm _).2 = Aa [.bool] [L.ev e (V 22)]
 exact (Iu r0 rfl)
end Rx.S
