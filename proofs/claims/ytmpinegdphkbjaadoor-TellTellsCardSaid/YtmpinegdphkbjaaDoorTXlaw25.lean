import Derived.Test.YtmpinegdphkbjaaDoorTXe
import Derived.Test.YtmpinegdphkbjaaDoorTXtell
import Derived.Test.YtmpinegdphkbjaaDoorTYlaw25
set_option linter.unusedVariables false
set_option linter.unusedSimpArgs false
namespace Rx.S
open Go Rx Go.Proofs
set_option maxRecDepth 100000
set_option maxHeartbeats 4000000
def CB : KL := { f := 7, ps := [], rs := [(false, [.bool])], ok := fun _ => true }
noncomputable def Gr : List (Nat × Func) := [(7, Tryd.f7), (9, Tryd.f9), (13, Tryd.f13)]
theorem JB : C8 Tryd.prog Gr := ⟨Xc, W5, VL, trivial⟩
noncomputable def Ni : Ctx := { Ax := Ax, eqs := eqs, fns := fun f => look f Gr, ctr := [(13, CW), (9, CX)], lim := 30, big := [], lps := [] }
theorem K0 : XL Tryd.prog T Ni where
 Ax := BV
 eqs := Cs
 mixed := mixed
 ctr := AB ⟨⟨rfl, E9⟩, ⟨rfl, Fa⟩, trivial⟩
 fns := AN JB
 big := AD trivial
 lps := CC rfl
theorem Gs : DH Tryd.prog T CB := DQ K0 Bn (g := Fe) (ls := [V 8]) (by kernel_rfl) (fun aq => by rw [show CB.f = 7 from rfl, WA]; rfl) fun aq e h1 h2 h3 => by
 subst h1
 rw [show CB.f = 7 from rfl, WA] at h2 ⊢
 obtain ⟨ho, hr⟩ := Kp e h3 h2
 have r0 := hr
 refine ⟨⟨ho.1, ho.2, trivial⟩, ?_⟩
 show Ah [.bool] (WI _).2 = Ah [.bool] [L.ev e (V 8)]
 exact (VI r0 rfl)
def DK : KL := { f := 6, ps := [.lst [.int .i64, .int .i64, .int .i64, .int .i64, .int .i64, .sl [.int .i64, .int .i64, .int .i64, .int .i64]]], rs := [(false, [.bool])], ok := fun _ => true }
noncomputable def Ff : List (Nat × Func) := [(6, Tryd.f6)]
theorem Gt : C8 Tryd.prog Ff := ⟨Xb, trivial⟩
noncomputable def Ia : Ctx := { Ax := Ax, eqs := eqs, fns := fun f => look f Ff, ctr := [], lim := 30, big := [], lps := [] }
theorem K1 : XL Tryd.prog T Ia where
 Ax := BV
 eqs := Cs
 mixed := mixed
 ctr := AB trivial
 fns := AN Gt
 big := AD trivial
 lps := CC rfl
theorem SW : ∀ fn body c, Ia.fns Gh.f = some fn → fn.body = some body → Cx Gh.p body = some (.loop c) → BG Tryd.prog T Gh c :=
 Dx K1 Bn (g := JC) (back := some (V 20, [V 0, V 17, V 2, V 3])) (exs := [(V 21, [some (B true), none]), (V 5, [none, some (B true)])]) (by kernel_rfl) (fun aq => by rw [show Gh.id = 1110 from rfl, Ms]; rfl) Rf fun aq e h1 h2 h3 => by
  rw [show Gh.id = 1110 from rfl, Ms] at h2 ⊢
  exact Rg aq e h1 h2 h3
noncomputable def Qc : Ctx := { Ax := Ax, eqs := eqs, fns := fun f => look f Ff, ctr := [], lim := 30, big := [], lps := [Gh] }
theorem Nj : XL Tryd.prog T Qc where
 Ax := BV
 eqs := Cs
 mixed := mixed
 ctr := AB trivial
 fns := AN Gt
 big := AD trivial
 lps := Cy ⟨SW, trivial⟩
theorem Ib : DH Tryd.prog T DK := DQ Nj Bn (g := Hk) (ls := [V 17]) (by kernel_rfl) (fun aq => by rw [show DK.f = 6 from rfl, WB]; rfl) fun aq e h1 h2 h3 => by
 subst h1
 rw [show DK.f = 6 from rfl, WB] at h2 ⊢
 obtain ⟨ho, hr⟩ := MI e h3 h2
 have r0 := hr
 refine ⟨⟨ho.1, ho.2, trivial⟩, ?_⟩
 show Ah [.bool] (WJ _).2 = Ah [.bool] [L.ev e (V 17)]
 exact (VI r0 rfl)
end Rx.S
