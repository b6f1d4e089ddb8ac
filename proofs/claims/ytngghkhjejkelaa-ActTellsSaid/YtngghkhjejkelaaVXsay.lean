import Derived.Test.YtngghkhjejkelaaVXe
import Derived.Test.YtngghkhjejkelaaVXconf
import Derived.Test.YtngghkhjejkelaaVXring
import Derived.Test.YtngghkhjejkelaaVXnode
import Derived.Test.YtngghkhjejkelaaVYsay
set_option linter.unusedVariables false
set_option linter.unusedSimpArgs false
namespace Rx.S
open Go Rx Go.Proofs
set_option maxRecDepth 100000
set_option maxHeartbeats 4000000
def Hl : DD := { f := 60, ps := [.c false [.int .i64], .c true [.int .i64, .int .i64, .int .i64, .int .i64]], rs := [(false, [.int .i64])], ok := fun _ => true }
noncomputable def LB : List (Nat × Func) := [(60, Try.f60), (77, Try.f77), (78, Try.f78)]
theorem P5 : AD Try.prog LB := ⟨Aay, AaH, AaI, trivial⟩
noncomputable def UP : Ctx := { As := As, eqs := eqs, fns := fun f => look f LB, ctr := [(78, DS), (77, FK)], lim := 30, big := [], lps := [] }
theorem SZ : XL Try.prog T UP where
 As := AM
 eqs := AY
 mixed := mixed
 ctr := Ak ⟨⟨rfl, N2⟩, ⟨rfl, QZ⟩, trivial⟩
 fns := An P5
 big := Al trivial
 lps := Av rfl
theorem S0 : AW Try.prog T Hl := AJ SZ AH (g := KE) (ls := [V 15]) (by kernel_rfl) (fun aq => by rw [show Hl.f = 60 from rfl, XR]; rfl) fun aq e h1 h2 h3 => by
 subst h1
 rw [show Hl.f = 60 from rfl, XR] at h2 ⊢
 obtain ⟨ho, hr⟩ := QV e h3 h2
 have r0 := hr
 refine ⟨⟨ho.1, ho.2, trivial⟩, ?_⟩
 show Aa [.int .i64] (Y4 _).2 = Aa [.int .i64] [L.ev e (V 15)]
 exact (AS r0 rfl)
def Fe : DD := { f := 42, ps := [.c false [.int .i64], .c true [.int .i64, .int .i64, .int .i64, .int .i64]], rs := [(true, [.int .i64, .int .i64]), (false, [.int .i64])], ok := fun _ => true }
noncomputable def P6 : List (Nat × Func) := [(42, Try.f42), (41, Try.f41), (60, Try.f60)]
theorem S1 : AD Try.prog P6 := ⟨Xn, V6, Aay, trivial⟩
noncomputable def Yb : Ctx := { As := As, eqs := eqs, fns := fun f => look f P6, ctr := [(41, B1), (60, Hl)], lim := 30, big := [], lps := [] }
theorem UQ : XL Try.prog T Yb where
 As := AM
 eqs := AY
 mixed := mixed
 ctr := Ak ⟨⟨rfl, CN⟩, ⟨rfl, S0⟩, trivial⟩
 fns := An S1
 big := Al trivial
 lps := Av rfl
theorem Hm : AW Try.prog T Fe := AJ UQ AH (g := P2) (ls := [V 41, V 42, V 40]) (by kernel_rfl) (fun aq => by rw [show Fe.f = 42 from rfl, XT]; rfl) fun aq e h1 h2 h3 => by
 subst h1
 rw [show Fe.f = 42 from rfl, XT] at h2 ⊢
 obtain ⟨ho, hr⟩ := TZ e h3 h2
 obtain ⟨r0, r1, r2⟩ := hr
 refine ⟨⟨ho.1, ho.2, trivial⟩, ?_⟩
 show Aa [.int .i64, .int .i64, .int .i64] (Y6 _).2 = Aa [.int .i64, .int .i64, .int .i64] [L.ev e (V 41), L.ev e (V 42), L.ev e (V 40)]
 exact (AS r0 (AS r1 (AS r2 rfl)))
def FP : DD := { f := 64, ps := [.c false [.int .i64], .c true [.int .i64, .int .i64, .int .i64, .int .i64]], rs := [(false, [.int .i64])], ok := fun _ => true }
noncomputable def J7 : List (Nat × Func) := [(64, Try.f64), (29, Try.f29), (80, Try.f80), (81, Try.f81), (82, Try.f82)]
theorem Oh : AD Try.prog J7 := ⟨AaC, V5, AaK, AaL, AaM, trivial⟩
noncomputable def T4 : Ctx := { As := As, eqs := eqs, fns := fun f => look f J7, ctr := [(82, DT), (80, DB), (81, EH), (29, BF)], lim := 30, big := [], lps := [] }
theorem Q9 : XL Try.prog T T4 where
 As := AM
 eqs := AY
 mixed := mixed
 ctr := Ak ⟨⟨rfl, Of⟩, ⟨rfl, M1⟩, ⟨rfl, Qn⟩, ⟨rfl, Cr⟩, trivial⟩
 fns := An Oh
 big := Al trivial
 lps := Av rfl
theorem Ra : AW Try.prog T FP := AJ Q9 AH (g := IX) (ls := [V 48]) (by kernel_rfl) (fun aq => by rw [show FP.f = 64 from rfl, XS]; rfl) fun aq e h1 h2 h3 => by
 subst h1
 rw [show FP.f = 64 from rfl, XS] at h2 ⊢
 obtain ⟨ho, hr⟩ := Qj e h3 h2
 have r0 := hr
 refine ⟨⟨ho.1, ho.2.1, ho.2.2.1, ho.2.2.2, trivial⟩, ?_⟩
 show Aa [.int .i64] (Y5 _).2 = Aa [.int .i64] [L.ev e (V 48)]
 exact (AS r0 rfl)
def Hv : DD := { f := 44, ps := [.c false [.int .i64], .c true [.int .i64, .int .i64, .int .i64, .int .i64]], rs := [(true, [.int .i64, .int .i64]), (false, [.int .i64])], ok := fun _ => true }
noncomputable def LP : List (Nat × Func) := [(44, Try.f44), (29, Try.f29), (64, Try.f64)]
theorem Qo : AD Try.prog LP := ⟨Aar, V5, AaC, trivial⟩
noncomputable def UU : Ctx := { As := As, eqs := eqs, fns := fun f => look f LP, ctr := [(29, BF), (64, FP)], lim := 30, big := [], lps := [] }
theorem Tb : XL Try.prog T UU where
 As := AM
 eqs := AY
 mixed := mixed
 ctr := Ak ⟨⟨rfl, Cr⟩, ⟨rfl, Ra⟩, trivial⟩
 fns := An Qo
 big := Al trivial
 lps := Av rfl
theorem Tc : AW Try.prog T Hv := AJ Tb AH (g := KP) (ls := [V 33, V 34, V 32]) (by kernel_rfl) (fun aq => by rw [show Hv.f = 44 from rfl, XU]; rfl) fun aq e h1 h2 h3 => by
 subst h1
 rw [show Hv.f = 44 from rfl, XU] at h2 ⊢
 obtain ⟨ho, hr⟩ := Q6 e h3 h2
 obtain ⟨r0, r1, r2⟩ := hr
 refine ⟨⟨ho.1, ho.2, trivial⟩, ?_⟩
 show Aa [.int .i64, .int .i64, .int .i64] (Y7 _).2 = Aa [.int .i64, .int .i64, .int .i64] [L.ev e (V 33), L.ev e (V 34), L.ev e (V 32)]
 exact (AS r0 (AS r1 (AS r2 rfl)))
end Rx.S
