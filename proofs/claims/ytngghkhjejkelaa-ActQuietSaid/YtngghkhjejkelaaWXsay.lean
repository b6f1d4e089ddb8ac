import Derived.Test.YtngghkhjejkelaaWXe
import Derived.Test.YtngghkhjejkelaaWXconf
import Derived.Test.YtngghkhjejkelaaWXnode
import Derived.Test.YtngghkhjejkelaaWYsay
set_option linter.unusedVariables false
set_option linter.unusedSimpArgs false
namespace Rx.S
open Go Rx Go.Proofs
set_option maxRecDepth 100000
set_option maxHeartbeats 4000000
def Gc : GF := { f := 60, ps := [.c false [.int .i64], .c true [.int .i64, .int .i64, .int .i64, .int .i64]], rs := [(false, [.int .i64])], ok := fun _ => true }
noncomputable def JO : List (Nat × Func) := [(60, Try.f60), (77, Try.f77), (78, Try.f78)]
theorem M6 : A1 Try.prog JO := ⟨V0, V5, V6, trivial⟩
noncomputable def Rj : Ctx := { Aw := Aw, eqs := eqs, fns := fun f => look f JO, ctr := [(78, Dg), (77, EJ)], lim := 30, big := [], lps := [] }
theorem Py : XL Try.prog T Rj where
 Aw := BC
 eqs := BM
 mixed := mixed
 ctr := Au ⟨⟨rfl, Lk⟩, ⟨rfl, NN⟩, trivial⟩
 fns := AB M6
 big := Av trivial
 lps := AR rfl
theorem Pz : Bz Try.prog T Gc := BA Py Bj (g := I2) (ls := [V 15]) (by kernel_rfl) (fun aq => by rw [show Gc.f = 60 from rfl, TZ]; rfl) fun aq e h1 h2 h3 => by
 subst h1
 rw [show Gc.f = 60 from rfl, TZ] at h2 ⊢
 obtain ⟨ho, hr⟩ := NJ e h3 h2
 have r0 := hr
 refine ⟨⟨ho.1, ho.2, trivial⟩, ?_⟩
 show Ab [.int .i64] (UP _).2 = Ab [.int .i64] [L.ev e (V 15)]
 exact (Bg r0 rfl)
def Ei : GF := { f := 42, ps := [.c false [.int .i64], .c true [.int .i64, .int .i64, .int .i64, .int .i64]], rs := [(true, [.int .i64, .int .i64]), (false, [.int .i64])], ok := fun _ => true }
noncomputable def M7 : List (Nat × Func) := [(42, Try.f42), (41, Try.f41), (60, Try.f60)]
theorem PA : A1 Try.prog M7 := ⟨TJ, Su, V0, trivial⟩
noncomputable def T9 : Ctx := { Aw := Aw, eqs := eqs, fns := fun f => look f M7, ctr := [(41, Bq), (60, Gc)], lim := 30, big := [], lps := [] }
theorem Rk : XL Try.prog T T9 where
 Aw := BC
 eqs := BM
 mixed := mixed
 ctr := Au ⟨⟨rfl, Ce⟩, ⟨rfl, Pz⟩, trivial⟩
 fns := AB PA
 big := Av trivial
 lps := AR rfl
theorem Gd : Bz Try.prog T Ei := BA Rk Bj (g := M3) (ls := [V 41, V 42, V 40]) (by kernel_rfl) (fun aq => by rw [show Ei.f = 42 from rfl, T0]; rfl) fun aq e h1 h2 h3 => by
 subst h1
 rw [show Ei.f = 42 from rfl, T0] at h2 ⊢
 obtain ⟨ho, hr⟩ := Qq e h3 h2
 obtain ⟨r0, r1, r2⟩ := hr
 refine ⟨⟨ho.1, ho.2, trivial⟩, ?_⟩
 show Ab [.int .i64, .int .i64, .int .i64] (UQ _).2 = Ab [.int .i64, .int .i64, .int .i64] [L.ev e (V 41), L.ev e (V 42), L.ev e (V 40)]
 exact (Bg r0 (Bg r1 (Bg r2 rfl)))
end Rx.S
