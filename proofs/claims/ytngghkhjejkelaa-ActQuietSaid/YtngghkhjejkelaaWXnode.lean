import Derived.Test.YtngghkhjejkelaaWXe
import Derived.Test.YtngghkhjejkelaaWXconf
import Derived.Test.YtngghkhjejkelaaWXring
import Derived.Test.YtngghkhjejkelaaWXtally
import Derived.Test.YtngghkhjejkelaaWYnode
set_option linter.unusedVariables false
set_option linter.unusedSimpArgs false
namespace Rx.S
open Go Rx Go.Proofs
set_option maxRecDepth 100000
set_option maxHeartbeats 4000000
def DN : GF := { f := 57, ps := [.c false [.int .i64], .c false [.int .i64]], rs := [(true, [.int .i64, .int .i64, .int .i64, .int .i64]), (false, [.int .i64])], ok := fun _ => true }
noncomputable def Ha : List (Nat × Func) := [(57, Try.f57), (37, Try.f37)]
theorem Kw : A1 Try.prog Ha := ⟨VX, Vs, trivial⟩
noncomputable def Pu : Ctx := { Aw := Aw, eqs := eqs, fns := fun f => look f Ha, ctr := [(37, C0)], lim := 30, big := [], lps := [] }
theorem MZ : XL Try.prog T Pu where
 Aw := BC
 eqs := BM
 mixed := mixed
 ctr := Au ⟨⟨rfl, G9⟩, trivial⟩
 fns := AB Kw
 big := Av trivial
 lps := AR rfl
theorem M0 : Bz Try.prog T DN := BA MZ Bj (g := F9) (ls := [V 21, N 0, N 0, N 0, V 20]) (by kernel_rfl) (fun aq => by rw [show DN.f = 57 from rfl, TX]; rfl) fun aq e h1 h2 h3 => by
 subst h1
 rw [show DN.f = 57 from rfl, TX] at h2 ⊢
 obtain ⟨ho, hr⟩ := Lg e h3 _ rfl h2
 obtain ⟨r0, r1, r2, r3, r4⟩ := hr
 refine ⟨⟨ho, trivial⟩, ?_⟩
 show Ab [.int .i64, .int .i64, .int .i64, .int .i64, .int .i64] (UN _).2 = Ab [.int .i64, .int .i64, .int .i64, .int .i64, .int .i64] [L.ev e (V 21), L.ev e (N 0), L.ev e (N 0), L.ev e (N 0), L.ev e (V 20)]
 exact (Bg r0 (Bg r1 (Bg r2 (Bg r3 (Bg r4 rfl)))))
def Bq : GF := { f := 41, ps := [.c false [.int .i64], .c true [.int .i64, .int .i64, .int .i64, .int .i64]], rs := [(false, [.bool])], ok := fun _ => true }
noncomputable def Hb : List (Nat × Func) := [(41, Try.f41), (57, Try.f57), (58, Try.f58), (59, Try.f59)]
theorem Kx : A1 Try.prog Hb := ⟨Su, VX, VY, VZ, trivial⟩
noncomputable def Pv : Ctx := { Aw := Aw, eqs := eqs, fns := fun f => look f Hb, ctr := [(58, Df), (59, F8), (57, DN)], lim := 30, big := [], lps := [] }
theorem M1 : XL Try.prog T Pv where
 Aw := BC
 eqs := BM
 mixed := mixed
 ctr := Au ⟨⟨rfl, Lf⟩, ⟨rfl, Ps⟩, ⟨rfl, M0⟩, trivial⟩
 fns := AB Kx
 big := Av trivial
 lps := AR rfl
theorem Ce : Bz Try.prog T Bq := BA M1 Bj (g := F7) (ls := [V 56]) (by kernel_rfl) (fun aq => by rw [show Bq.f = 41 from rfl, TY]; rfl) fun aq e h1 h2 h3 => by
 subst h1
 rw [show Bq.f = 41 from rfl, TY] at h2 ⊢
 obtain ⟨ho, hr⟩ := Ld e h3 h2
 have r0 := hr
 refine ⟨⟨ho.1, ho.2.1, ho.2.2, trivial⟩, ?_⟩
 show Ab [.bool] (UO _).2 = Ab [.bool] [L.ev e (V 56)]
 exact (Qk r0 rfl)
end Rx.S
