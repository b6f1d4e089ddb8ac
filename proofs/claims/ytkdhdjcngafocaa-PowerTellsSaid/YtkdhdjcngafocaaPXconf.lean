import Derived.Test.YtkdhdjcngafocaaPXe
import Derived.Test.YtkdhdjcngafocaaPYconf
set_option linter.unusedVariables false
set_option linter.unusedSimpArgs false
namespace Rx.S
open Go Rx Go.Proofs
set_option maxRecDepth 100000
set_option maxHeartbeats 4000000
def BQ : Iy := { f := 21, ps := [.c false [.int .i64]], rs := [(false, [.bool])], ok := fun _ => true }
noncomputable def HV : List (Nat × Func) := [(21, Try.f21)]
theorem KZ : Bb Try.prog HV := ⟨Xx, trivial⟩
noncomputable def Qn : Ctx := { Aw := Aw, eqs := eqs, fns := fun f => look f HV, ctr := [], lim := 30, big := [], lps := [] }
theorem NH : XL Try.prog T Qn where
 Aw := Be
 eqs := Bo
 mixed := mixed
 ctr := Ap trivial
 fns := Az KZ
 big := Aq trivial
 lps := AX rfl
theorem Da : BV Try.prog T BQ := BF NH AS (g := GC) (ls := [V 3]) (by kernel_rfl) (fun aq => by rw [show BQ.f = 21 from rfl, VP]; rfl) fun aq e h1 h2 h3 => by
 subst h1
 rw [show BQ.f = 21 from rfl, VP] at h2 ⊢
 obtain ⟨ho, hr⟩ := LP e h3 h2
 have r0 := hr
 refine ⟨trivial, ?_⟩
 show Af [.bool] (WK _).2 = Af [.bool] [L.ev e (V 3)]
 exact (JQ r0 rfl)
def BA : Iy := { f := 23, ps := [.c false [.int .i64]], rs := [(false, [.bool])], ok := fun _ => true }
noncomputable def G0 : List (Nat × Func) := [(23, Try.f23)]
theorem J5 : Bb Try.prog G0 := ⟨Xy, trivial⟩
noncomputable def Oo : Ctx := { Aw := Aw, eqs := eqs, fns := fun f => look f G0, ctr := [], lim := 30, big := [], lps := [] }
theorem LV : XL Try.prog T Oo where
 Aw := Be
 eqs := Bo
 mixed := mixed
 ctr := Ap trivial
 fns := Az J5
 big := Aq trivial
 lps := AX rfl
theorem Cx : BV Try.prog T BA := BF LV AS (g := Ft) (ls := [V 3]) (by kernel_rfl) (fun aq => by rw [show BA.f = 23 from rfl, VQ]; rfl) fun aq e h1 h2 h3 => by
 subst h1
 rw [show BA.f = 23 from rfl, VQ] at h2 ⊢
 obtain ⟨ho, hr⟩ := K3 e h3 h2
 have r0 := hr
 refine ⟨trivial, ?_⟩
 show Af [.bool] (WL _).2 = Af [.bool] [L.ev e (V 3)]
 exact (JQ r0 rfl)
end Rx.S
