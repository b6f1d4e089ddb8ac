import Derived.Test.YtkdhdjcngafocaaPXe
import Derived.Test.YtkdhdjcngafocaaPYtally
set_option linter.unusedVariables false
set_option linter.unusedSimpArgs false
namespace Rx.S
open Go Rx Go.Proofs
set_option maxRecDepth 100000
set_option maxHeartbeats 4000000
def Cu : Iy := { f := 22, ps := [.c false [.int .i64], .c false [.int .i64], .c false [.int .i64]], rs := [(false, [.int .i64])], ok := fun _ => true }
noncomputable def G2 : List (Nat × Func) := [(22, Try.f22)]
theorem Ka : Bb Try.prog G2 := ⟨Yb, trivial⟩
noncomputable def Ot : Ctx := { Aw := Aw, eqs := eqs, fns := fun f => look f G2, ctr := [], lim := 30, big := [], lps := [] }
theorem LZ : XL Try.prog T Ot where
 Aw := Be
 eqs := Bo
 mixed := mixed
 ctr := Ap trivial
 fns := Az Ka
 big := Aq trivial
 lps := AX rfl
theorem G3 : BV Try.prog T Cu := BF LZ AS (g := Fv) (ls := [V 7]) (by kernel_rfl) (fun aq => by rw [show Cu.f = 22 from rfl, Ue]; rfl) fun aq e h1 h2 h3 => by
 subst h1
 rw [show Cu.f = 22 from rfl, Ue] at h2 ⊢
 obtain ⟨ho, hr⟩ := K7 e h3 h2
 have r0 := hr
 refine ⟨trivial, ?_⟩
 show Af [.int .i64] (VN _).2 = Af [.int .i64] [L.ev e (V 7)]
 exact (Rg r0 rfl)
def Cv : Iy := { f := 24, ps := [.c false [.int .i64], .c false [.int .i64], .c false [.int .i64]], rs := [(false, [.int .i64])], ok := fun _ => true }
noncomputable def G6 : List (Nat × Func) := [(24, Try.f24)]
theorem Kd : Bb Try.prog G6 := ⟨Yc, trivial⟩
noncomputable def Ov : Ctx := { Aw := Aw, eqs := eqs, fns := fun f => look f G6, ctr := [], lim := 30, big := [], lps := [] }
theorem L2 : XL Try.prog T Ov where
 Aw := Be
 eqs := Bo
 mixed := mixed
 ctr := Ap trivial
 fns := Az Kd
 big := Aq trivial
 lps := AX rfl
theorem G7 : BV Try.prog T Cv := BF L2 AS (g := Fx) (ls := [V 15]) (by kernel_rfl) (fun aq => by rw [show Cv.f = 24 from rfl, Uf]; rfl) fun aq e h1 h2 h3 => by
 subst h1
 rw [show Cv.f = 24 from rfl, Uf] at h2 ⊢
 obtain ⟨ho, hr⟩ := K9 e h3 h2
 have r0 := hr
 refine ⟨trivial, ?_⟩
 show Af [.int .i64] (VO _).2 = Af [.int .i64] [L.ev e (V 15)]
 exact (Rg r0 rfl)
end Rx.S
