import Derived.Test.YtkdhdjcngafocaaQXe
import Derived.Test.YtkdhdjcngafocaaQYfault
set_option linter.unusedVariables false
set_option linter.unusedSimpArgs false
namespace Rx.S
open Go Rx Go.Proofs
set_option maxRecDepth 100000
set_option maxHeartbeats 4000000
def CY : KB := { f := 19, ps := [.c true [.int .i64, .int .i64], .c false [.int .i64]], rs := [(false, [.bool])], ok := fun _ => true }
noncomputable def GU : List (Nat × Func) := [(19, Try.f19)]
theorem JN : C5 Try.prog GU := ⟨Vh, trivial⟩
noncomputable def Od : Ctx := { Av := Av, eqs := eqs, fns := fun f => look f GU, ctr := [], lim := 30, big := [], lps := [] }
theorem LY : XL Try.prog T Od where
 Av := Cd
 eqs := Dp
 mixed := mixed
 ctr := AH trivial
 fns := AV JN
 big := AI trivial
 lps := CU rfl
theorem GV : D7 Try.prog T CY := EN LY B6 (g := FU) (ls := [V 5]) (by kernel_rfl) (fun aq => by rw [show CY.f = 19 from rfl, To]; rfl) fun aq e h1 h2 h3 => by
 subst h1
 rw [show CY.f = 19 from rfl, To] at h2 ⊢
 obtain ⟨ho, hr⟩ := Kj e h3 h2
 have r0 := hr
 refine ⟨trivial, ?_⟩
 show Ah [.bool] (T4 _).2 = Ah [.bool] [L.ev e (V 5)]
 exact (P8 r0 rfl)
end Rx.S
