import Derived.Test.YtkdhdjcngafocaaPXe
import Derived.Test.YtkdhdjcngafocaaPYfault
set_option linter.unusedVariables false
set_option linter.unusedSimpArgs false
namespace Rx.S
open Go Rx Go.Proofs
set_option maxRecDepth 100000
set_option maxHeartbeats 4000000
def Dc : Iy := { f := 19, ps := [.c true [.int .i64, .int .i64], .c false [.int .i64]], rs := [(false, [.bool])], ok := fun _ => true }
noncomputable def H0 : List (Nat × Func) := [(19, Try.f19)]
theorem Lb : Bb Try.prog H0 := ⟨Ya, trivial⟩
noncomputable def Qp : Ctx := { Aw := Aw, eqs := eqs, fns := fun f => look f H0, ctr := [], lim := 30, big := [], lps := [] }
theorem NQ : XL Try.prog T Qp where
 Aw := Be
 eqs := Bo
 mixed := mixed
 ctr := Ap trivial
 fns := Az Lb
 big := Aq trivial
 lps := AX rfl
theorem H2 : BV Try.prog T Dc := BF NQ AS (g := GL) (ls := [V 5]) (by kernel_rfl) (fun aq => by rw [show Dc.f = 19 from rfl, VS]; rfl) fun aq e h1 h2 h3 => by
 subst h1
 rw [show Dc.f = 19 from rfl, VS] at h2 ⊢
 obtain ⟨ho, hr⟩ := L6 e h3 h2
 have r0 := hr
 refine ⟨trivial, ?_⟩
 show Af [.bool] (WM _).2 = Af [.bool] [L.ev e (V 5)]
 exact (JQ r0 rfl)
def Co : Iy := { f := 28, ps := [.c true [.int .i64, .int .i64], .c false [.int .i64]], rs := [(false, [.bool])], ok := fun _ => true }
noncomputable def H4 : List (Nat × Func) := [(28, Try.f28)]
theorem Ld : Bb Try.prog H4 := ⟨Yf, trivial⟩
noncomputable def Qq : Ctx := { Aw := Aw, eqs := eqs, fns := fun f => look f H4, ctr := [], lim := 30, big := [], lps := [] }
theorem NS : XL Try.prog T Qq where
 Aw := Be
 eqs := Bo
 mixed := mixed
 ctr := Ap trivial
 fns := Az Ld
 big := Aq trivial
 lps := AX rfl
theorem EG : BV Try.prog T Co := BF NS AS (g := GN) (ls := [V 5]) (by kernel_rfl) (fun aq => by rw [show Co.f = 28 from rfl, VT]; rfl) fun aq e h1 h2 h3 => by
 subst h1
 rw [show Co.f = 28 from rfl, VT] at h2 ⊢
 obtain ⟨ho, hr⟩ := L8 e h3 h2
 have r0 := hr
 refine ⟨trivial, ?_⟩
 show Af [.bool] (WN _).2 = Af [.bool] [L.ev e (V 5)]
 exact (JQ r0 rfl)
end Rx.S
