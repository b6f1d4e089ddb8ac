import Derived.Test.YtkdhdjcngafocaaQXe
import Derived.Test.YtkdhdjcngafocaaQYconf
set_option linter.unusedVariables false
set_option linter.unusedSimpArgs false
namespace Rx.S
open Go Rx Go.Proofs
set_option maxRecDepth 100000
set_option maxHeartbeats 4000000
def CX : KB := { f := 21, ps := [.c false [.int .i64]], rs := [(false, [.bool])], ok := fun _ => true }
noncomputable def GO : List (Nat × Func) := [(21, Try.f21)]
theorem JL : C5 Try.prog GO := ⟨Vi, trivial⟩
noncomputable def Oc : Ctx := { Av := Av, eqs := eqs, fns := fun f => look f GO, ctr := [], lim := 30, big := [], lps := [] }
theorem LP : XL Try.prog T Oc where
 Av := Cd
 eqs := Dp
 mixed := mixed
 ctr := AH trivial
 fns := AV JL
 big := AI trivial
 lps := CU rfl
theorem GP : D7 Try.prog T CX := EN LP B6 (g := FQ) (ls := [V 3]) (by kernel_rfl) (fun aq => by rw [show CX.f = 21 from rfl, Tm]; rfl) fun aq e h1 h2 h3 => by
 subst h1
 rw [show CX.f = 21 from rfl, Tm] at h2 ⊢
 obtain ⟨ho, hr⟩ := Kg e h3 h2
 have r0 := hr
 refine ⟨trivial, ?_⟩
 show Ah [.bool] (T3 _).2 = Ah [.bool] [L.ev e (V 3)]
 exact (P8 r0 rfl)
end Rx.S
