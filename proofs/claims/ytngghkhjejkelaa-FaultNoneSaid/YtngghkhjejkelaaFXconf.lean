import Derived.Test.YtngghkhjejkelaaFXe
import Derived.Test.YtngghkhjejkelaaFYconf
set_option linter.unusedVariables false
set_option linter.unusedSimpArgs false
namespace Rx.S
open Go Rx Go.Proofs
set_option maxRecDepth 100000
set_option maxHeartbeats 4000000
def C8 : EB := { f := 37, ps := [.c false [.int .i64]], rs := [(false, [.bool])], ok := fun _ => true }
noncomputable def Hp : List (Nat × Func) := [(37, Try.f37)]
theorem KN : AM Try.prog Hp := ⟨Xl, trivial⟩
noncomputable def Qf : Ctx := { Aw := Aw, eqs := eqs, fns := fun f => look f Hp, ctr := [], lim := 30, big := [], lps := [] }
theorem Nz : XL Try.prog T Qf where
 Aw := A3
 eqs := A8
 mixed := mixed
 ctr := Am trivial
 fns := Au KN
 big := An trivial
 lps := AF rfl
theorem Hq : A6 Try.prog T C8 := AR Nz AK (g := Gb) (ls := [V 3]) (by kernel_rfl) (fun aq => by rw [show C8.f = 37 from rfl, U8]; rfl) fun aq e h1 h2 h3 => by
 subst h1
 rw [show C8.f = 37 from rfl, U8] at h2 ⊢
 obtain ⟨ho, hr⟩ := LG e h3 h2
 have r0 := hr
 refine ⟨trivial, ?_⟩
 show Aa [.bool] (Wc _).2 = Aa [.bool] [L.ev e (V 3)]
 exact (GR r0 rfl)
def Cz : EB := { f := 38, ps := [.c false [.int .i64]], rs := [(false, [.bool])], ok := fun _ => true }
noncomputable def GB : List (Nat × Func) := [(38, Try.f38)]
theorem J3 : AM Try.prog GB := ⟨Xm, trivial⟩
noncomputable def Ou : Ctx := { Aw := Aw, eqs := eqs, fns := fun f => look f GB, ctr := [], lim := 30, big := [], lps := [] }
theorem LQ : XL Try.prog T Ou where
 Aw := A3
 eqs := A8
 mixed := mixed
 ctr := Am trivial
 fns := Au J3
 big := An trivial
 lps := AF rfl
theorem GC : A6 Try.prog T Cz := AR LQ AK (g := Fb) (ls := [V 3]) (by kernel_rfl) (fun aq => by rw [show Cz.f = 38 from rfl, U9]; rfl) fun aq e h1 h2 h3 => by
 subst h1
 rw [show Cz.f = 38 from rfl, U9] at h2 ⊢
 obtain ⟨ho, hr⟩ := KX e h3 h2
 have r0 := hr
 refine ⟨trivial, ?_⟩
 show Aa [.bool] (Wd _).2 = Aa [.bool] [L.ev e (V 3)]
 exact (GR r0 rfl)
end Rx.S
