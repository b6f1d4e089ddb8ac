import Derived.Test.YtngghkhjejkelaaWXe
import Derived.Test.YtngghkhjejkelaaWYring
set_option linter.unusedVariables false
set_option linter.unusedSimpArgs false
namespace Rx.S
open Go Rx Go.Proofs
set_option maxRecDepth 100000
set_option maxHeartbeats 4000000
def CP : GF := { f := 75, ps := [.c false [.int .i64], .c false [.int .i64]], rs := [(false, [.int .i64])], ok := fun _ => true }
noncomputable def Ik : List (Nat × Func) := [(75, Try.f75)]
theorem Lb : A1 Try.prog Ik := ⟨Uz, trivial⟩
noncomputable def Qp : Ctx := { Aw := Aw, eqs := eqs, fns := fun f => look f Ik, ctr := [], lim := 30, big := [], lps := [] }
theorem NG : XL Try.prog T Qp where
 Aw := BC
 eqs := BM
 mixed := mixed
 ctr := Au trivial
 fns := AB Lb
 big := Av trivial
 lps := AR rfl
theorem E4 : Bz Try.prog T CP := BA NG Bj (g := G7) (ls := [V 7]) (by kernel_rfl) (fun aq => by rw [show CP.f = 75 from rfl, TQ]; rfl) fun aq e h1 h2 h3 => by
 subst h1
 rw [show CP.f = 75 from rfl, TQ] at h2 ⊢
 obtain ⟨ho, hr⟩ := MW e h3 h2
 have r0 := hr
 refine ⟨trivial, ?_⟩
 show Ab [.int .i64] (UG _).2 = Ab [.int .i64] [L.ev e (V 7)]
 exact (Bg r0 rfl)
def F8 : GF := { f := 59, ps := [.c false [.int .i64], .c false [.int .i64]], rs := [(false, [.int .i64])], ok := fun _ => true }
noncomputable def JK : List (Nat × Func) := [(59, Try.f59)]
theorem MX : A1 Try.prog JK := ⟨VZ, trivial⟩
noncomputable def Rg : Ctx := { Aw := Aw, eqs := eqs, fns := fun f => look f JK, ctr := [], lim := 30, big := [], lps := [] }
theorem Pr : XL Try.prog T Rg where
 Aw := BC
 eqs := BM
 mixed := mixed
 ctr := Au trivial
 fns := AB MX
 big := Av trivial
 lps := AR rfl
theorem Ps : Bz Try.prog T F8 := BA Pr Bj (g := I1) (ls := [V 7]) (by kernel_rfl) (fun aq => by rw [show F8.f = 59 from rfl, TP]; rfl) fun aq e h1 h2 h3 => by
 subst h1
 rw [show F8.f = 59 from rfl, TP] at h2 ⊢
 obtain ⟨ho, hr⟩ := NI e h3 h2
 have r0 := hr
 refine ⟨⟨ho, trivial⟩, ?_⟩
 show Ab [.int .i64] (UF _).2 = Ab [.int .i64] [L.ev e (V 7)]
 exact (Bg r0 rfl)
end Rx.S
