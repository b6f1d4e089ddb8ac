import Derived.Test.YtngghkhjejkelaaWXe
import Derived.Test.YtngghkhjejkelaaWYtally
set_option linter.unusedVariables false
set_option linter.unusedSimpArgs false
namespace Rx.S
open Go Rx Go.Proofs
set_option maxRecDepth 100000
set_option maxHeartbeats 4000000
def Da : GF := { f := 86, ps := [.c false [.int .i64], .c false [.int .i64]], rs := [(false, [.int .i64])], ok := fun _ => true }
noncomputable def JI : List (Nat × Func) := [(86, Try.f86)]
theorem MV : A1 Try.prog JI := ⟨UA, trivial⟩
noncomputable def Rf : Ctx := { Aw := Aw, eqs := eqs, fns := fun f => look f JI, ctr := [], lim := 30, big := [], lps := [] }
theorem Pq : XL Try.prog T Rf where
 Aw := BC
 eqs := BM
 mixed := mixed
 ctr := Au trivial
 fns := AB MV
 big := Av trivial
 lps := AR rfl
theorem F6 : Bz Try.prog T Da := BA Pq Bj (g := I0) (ls := [V 7]) (by kernel_rfl) (fun aq => by rw [show Da.f = 86 from rfl, TO]; rfl) fun aq e h1 h2 h3 => by
 subst h1
 rw [show Da.f = 86 from rfl, TO] at h2 ⊢
 obtain ⟨ho, hr⟩ := NF e h3 h2
 have r0 := hr
 refine ⟨trivial, ?_⟩
 show Ab [.int .i64] (UE _).2 = Ab [.int .i64] [L.ev e (V 7)]
 exact (Bg r0 rfl)
def Df : GF := { f := 58, ps := [.c false [.int .i64], .c false [.int .i64], .c false [.int .i64]], rs := [(false, [.int .i64])], ok := fun _ => true }
noncomputable def Gr : List (Nat × Func) := [(58, Try.f58)]
theorem JJ : A1 Try.prog Gr := ⟨VY, trivial⟩
noncomputable def NH : Ctx := { Aw := Aw, eqs := eqs, fns := fun f => look f Gr, ctr := [], lim := 30, big := [], lps := [] }
theorem Le : XL Try.prog T NH where
 Aw := BC
 eqs := BM
 mixed := mixed
 ctr := Au trivial
 fns := AB JJ
 big := Av trivial
 lps := AR rfl
theorem Lf : Bz Try.prog T Df := BA Le Bj (g := E5) (ls := [V 7]) (by kernel_rfl) (fun aq => by rw [show Df.f = 58 from rfl, TN]; rfl) fun aq e h1 h2 h3 => by
 subst h1
 rw [show Df.f = 58 from rfl, TN] at h2 ⊢
 obtain ⟨ho, hr⟩ := Ku e h3 h2
 have r0 := hr
 refine ⟨trivial, ?_⟩
 show Ab [.int .i64] (UD _).2 = Ab [.int .i64] [L.ev e (V 7)]
 exact (Bg r0 rfl)
end Rx.S
