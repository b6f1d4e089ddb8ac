import Derived.Test.YtngghkhjejkelaaWXe
import Derived.Test.YtngghkhjejkelaaWYhear
set_option linter.unusedVariables false
set_option linter.unusedSimpArgs false
namespace Rx.S
open Go Rx Go.Proofs
set_option maxRecDepth 100000
set_option maxHeartbeats 4000000
def Du : GF := { f := 68, ps := [.c true [.int .i64, .int .i64, .int .i64, .int .i64]], rs := [(false, [.int .i64]), (false, [.bool])], ok := fun _ => true }
noncomputable def Io : List (Nat × Func) := [(68, Try.f68), (83, Try.f83), (92, Try.f92), (84, Try.f84)]
theorem Lm : A1 Try.prog Io := ⟨Vt, Vw, Vy, WH, trivial⟩
noncomputable def Qs : Ctx := { Aw := Aw, eqs := eqs, fns := fun f => look f Io, ctr := [], lim := 30, big := [], lps := [] }
theorem NO : XL Try.prog T Qs where
 Aw := BC
 eqs := BM
 mixed := mixed
 ctr := Au trivial
 fns := AB Lm
 big := Av trivial
 lps := AR rfl
theorem Ip : Bz Try.prog T Du := BA NO Bj (g := He) (ls := [V 40, V 41]) (by kernel_rfl) (fun aq => by rw [show Du.f = 68 from rfl, T1]; rfl) fun aq e h1 h2 h3 => by
 subst h1
 rw [show Du.f = 68 from rfl, T1] at h2 ⊢
 obtain ⟨ho, hr⟩ := M8 e h3 h2
 obtain ⟨r0, r1⟩ := hr
 refine ⟨⟨ho, trivial⟩, ?_⟩
 show Ab [.int .i64, .bool] (UR _).2 = Ab [.int .i64, .bool] [L.ev e (V 40), L.ev e (V 41)]
 exact (Bg r0 (Qk r1 rfl))
def Ci : GF := { f := 69, ps := [.c true [.int .i64, .int .i64, .int .i64, .int .i64], .c false [.int .i64]], rs := [(false, [.int .i64]), (false, [.bool])], ok := fun _ => true }
noncomputable def Hf : List (Nat × Func) := [(69, Try.f69), (85, Try.f85), (83, Try.f83), (92, Try.f92)]
theorem Kz : A1 Try.prog Hf := ⟨Uy, WI, Vw, Vy, trivial⟩
noncomputable def PB : Ctx := { Aw := Aw, eqs := eqs, fns := fun f => look f Hf, ctr := [], lim := 30, big := [], lps := [] }
theorem M9 : XL Try.prog T PB where
 Aw := BC
 eqs := BM
 mixed := mixed
 ctr := Au trivial
 fns := AB Kz
 big := Av trivial
 lps := AR rfl
theorem Ej : Bz Try.prog T Ci := BA M9 Bj (g := Ge) (ls := [V 46, V 47]) (by kernel_rfl) (fun aq => by rw [show Ci.f = 69 from rfl, T2]; rfl) fun aq e h1 h2 h3 => by
 subst h1
 rw [show Ci.f = 69 from rfl, T2] at h2 ⊢
 obtain ⟨ho, hr⟩ := Ln e h3 h2
 obtain ⟨r0, r1⟩ := hr
 refine ⟨⟨ho, trivial⟩, ?_⟩
 show Ab [.int .i64, .bool] (US _).2 = Ab [.int .i64, .bool] [L.ev e (V 46), L.ev e (V 47)]
 exact (Bg r0 (Qk r1 rfl))
def DP : GF := { f := 73, ps := [.c true [.int .i64, .int .i64, .int .i64, .int .i64], .c false [.int .i64]], rs := [(false, [.bool])], ok := fun _ => true }
noncomputable def Hi : List (Nat × Func) := [(73, Try.f73), (87, Try.f87), (83, Try.f83), (92, Try.f92)]
theorem KC : A1 Try.prog Hi := ⟨V2, WJ, Vw, Vy, trivial⟩
noncomputable def PD : Ctx := { Aw := Aw, eqs := eqs, fns := fun f => look f Hi, ctr := [], lim := 30, big := [], lps := [] }
theorem Nc : XL Try.prog T PD where
 Aw := BC
 eqs := BM
 mixed := mixed
 ctr := Au trivial
 fns := AB KC
 big := Av trivial
 lps := AR rfl
theorem Nf : Bz Try.prog T DP := BA Nc Bj (g := Gg) (ls := [V 47]) (by kernel_rfl) (fun aq => by rw [show DP.f = 73 from rfl, T3]; rfl) fun aq e h1 h2 h3 => by
 subst h1
 rw [show DP.f = 73 from rfl, T3] at h2 ⊢
 obtain ⟨ho, hr⟩ := Lq e h3 h2
 have r0 := hr
 refine ⟨⟨ho, trivial⟩, ?_⟩
 show Ab [.bool] (UT _).2 = Ab [.bool] [L.ev e (V 47)]
 exact (Qk r0 rfl)
def DQ : GF := { f := 74, ps := [.c true [.int .i64, .int .i64, .int .i64, .int .i64], .c false [.int .i64]], rs := [(false, [.bool])], ok := fun _ => true }
noncomputable def Hj : List (Nat × Func) := [(74, Try.f74), (88, Try.f88), (93, Try.f93)]
theorem KD : A1 Try.prog Hj := ⟨V3, WK, WL, trivial⟩
noncomputable def PE : Ctx := { Aw := Aw, eqs := eqs, fns := fun f => look f Hj, ctr := [], lim := 30, big := [], lps := [] }
theorem Ng : XL Try.prog T PE where
 Aw := BC
 eqs := BM
 mixed := mixed
 ctr := Au trivial
 fns := AB KD
 big := Av trivial
 lps := AR rfl
theorem Nh : Bz Try.prog T DQ := BA Ng Bj (g := Gh) (ls := [V 37]) (by kernel_rfl) (fun aq => by rw [show DQ.f = 74 from rfl, T4]; rfl) fun aq e h1 h2 h3 => by
 subst h1
 rw [show DQ.f = 74 from rfl, T4] at h2 ⊢
 obtain ⟨ho, hr⟩ := Lr e h3 h2
 have r0 := hr
 refine ⟨trivial, ?_⟩
 show Ab [.bool] (UU _).2 = Ab [.bool] [L.ev e (V 37)]
 exact (Qk r0 rfl)
end Rx.S
