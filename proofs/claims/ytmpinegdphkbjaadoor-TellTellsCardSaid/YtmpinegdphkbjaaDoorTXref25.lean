import Derived.Test.YtmpinegdphkbjaaDoorTXe
import Derived.Test.YtmpinegdphkbjaaDoorTYref25
set_option linter.unusedVariables false
set_option linter.unusedSimpArgs false
namespace Rx.S
open Go Rx Go.Proofs
set_option maxRecDepth 100000
set_option maxHeartbeats 4000000
def Bj : KL := { f := 17, ps := [.c false [.int .i64]], rs := [(false, [.str])], ok := fun _ => true }
noncomputable def Dr : List (Nat × Func) := [(17, Tryd.f17)]
theorem EA : C8 Tryd.prog Dr := ⟨UP, trivial⟩
noncomputable def FE : Ctx := { Ax := Ax, eqs := eqs, fns := fun f => look f Dr, ctr := [], lim := 30, big := [], lps := [] }
theorem IK : XL Tryd.prog T FE where
 Ax := BV
 eqs := Cs
 mixed := mixed
 ctr := AB trivial
 fns := AN EA
 big := AD trivial
 lps := CC rfl
theorem SR : ∀ fn body c, FE.fns Gc.f = some fn → fn.body = some body → Cx Gc.p body = some (.loop c) → BG Tryd.prog T Gc c :=
 Dx IK Bn (g := Jv) (back := some (V 19, [V 0, V 16, V 17])) (exs := [(V 21, [some (V 16)])]) (by kernel_rfl) (fun aq => by rw [show Gc.id = 1050 from rfl, Mp]; rfl) Q8 fun aq e h1 h2 h3 => by
  rw [show Gc.id = 1050 from rfl, Mp] at h2 ⊢
  exact Q9 aq e h1 h2 h3
noncomputable def MF : Ctx := { Ax := Ax, eqs := eqs, fns := fun f => look f Dr, ctr := [], lim := 30, big := [], lps := [Gc] }
theorem Kl : XL Tryd.prog T MF where
 Ax := BV
 eqs := Cs
 mixed := mixed
 ctr := AB trivial
 fns := AN EA
 big := AD trivial
 lps := Cy ⟨SR, trivial⟩
theorem Cp : DH Tryd.prog T Bj := DQ Kl Bn (g := Ez) (ls := [V 13]) (by kernel_rfl) (fun aq => by rw [show Bj.f = 17 from rfl, Ud]; rfl) fun aq e h1 h2 h3 => by
 subst h1
 rw [show Bj.f = 17 from rfl, Ud] at h2 ⊢
 obtain ⟨ho, hr⟩ := Jw e h3 h2
 have r0 := hr
 refine ⟨⟨ho.1, ho.2.1, ho.2.2, trivial⟩, ?_⟩
 show Ah [.str] (U7 _).2 = Ah [.str] [L.ev e (V 13)]
 exact (OY r0 rfl)
def BB : KL := { f := 12, ps := [.c true [.int .i64, .int .i64]], rs := [(false, [.str])], ok := fun _ => true }
noncomputable def Gn : List (Nat × Func) := [(12, Tryd.f12), (17, Tryd.f17)]
theorem Jx : C8 Tryd.prog Gn := ⟨VK, UP, trivial⟩
noncomputable def Ng : Ctx := { Ax := Ax, eqs := eqs, fns := fun f => look f Gn, ctr := [(17, Bj)], lim := 30, big := [], lps := [] }
theorem KW : XL Tryd.prog T Ng where
 Ax := BV
 eqs := Cs
 mixed := mixed
 ctr := AB ⟨⟨rfl, Cp⟩, trivial⟩
 fns := AN Jx
 big := AD trivial
 lps := CC rfl
theorem CD : DH Tryd.prog T BB := DQ KW Bn (g := Fb) (ls := [V 45]) (by kernel_rfl) (fun aq => by rw [show BB.f = 12 from rfl, Ue]; rfl) fun aq e h1 h2 h3 => by
 subst h1
 rw [show BB.f = 12 from rfl, Ue] at h2 ⊢
 obtain ⟨ho, hr⟩ := Kk e h3 h2
 have r0 := hr
 refine ⟨⟨ho.1, ho.2.1, ho.2.2.1, ho.2.2.2.1, ho.2.2.2.2.1, ho.2.2.2.2.2, trivial⟩, ?_⟩
 show Ah [.str] (U8 _).2 = Ah [.str] [L.ev e (V 45)]
 exact (OY r0 rfl)
def BP : KL := { f := 14, ps := [.c true [.int .i64, .int .i64, .int .i64, .int .i64]], rs := [(false, [.str])], ok := fun _ => true }
noncomputable def Hi : List (Nat × Func) := [(14, Tryd.f14), (17, Tryd.f17)]
theorem Km : C8 Tryd.prog Hi := ⟨VM, UP, trivial⟩
noncomputable def O4 : Ctx := { Ax := Ax, eqs := eqs, fns := fun f => look f Hi, ctr := [(17, Bj)], lim := 30, big := [], lps := [] }
theorem MG : XL Tryd.prog T O4 where
 Ax := BV
 eqs := Cs
 mixed := mixed
 ctr := AB ⟨⟨rfl, Cp⟩, trivial⟩
 fns := AN Km
 big := AD trivial
 lps := CC rfl
theorem Dd : DH Tryd.prog T BP := DQ MG Bn (g := Gd) (ls := [V 40]) (by kernel_rfl) (fun aq => by rw [show BP.f = 14 from rfl, Uf]; rfl) fun aq e h1 h2 h3 => by
 subst h1
 rw [show BP.f = 14 from rfl, Uf] at h2 ⊢
 obtain ⟨ho, hr⟩ := KX e h3 h2
 have r0 := hr
 refine ⟨⟨ho.1, ho.2.1, ho.2.2, trivial⟩, ?_⟩
 show Ah [.str] (U9 _).2 = Ah [.str] [L.ev e (V 40)]
 exact (OY r0 rfl)
def BQ : KL := { f := 10, ps := [.d true [.int .i64, .int .i64, .int .i64, .int .i64, .int .i64, .sl [.int .i64, .int .i64, .int .i64, .int .i64]]], rs := [(false, [.str])], ok := fun _ => true }
noncomputable def EB : List (Nat × Func) := [(10, Tryd.f10), (17, Tryd.f17), (12, Tryd.f12), (14, Tryd.f14)]
theorem FF : C8 Tryd.prog EB := ⟨VJ, UP, VK, VM, trivial⟩
noncomputable def Hj : Ctx := { Ax := Ax, eqs := eqs, fns := fun f => look f EB, ctr := [(17, Bj), (12, BB), (14, BP)], lim := 30, big := [], lps := [] }
theorem Kn : XL Tryd.prog T Hj where
 Ax := BV
 eqs := Cs
 mixed := mixed
 ctr := AB ⟨⟨rfl, Cp⟩, ⟨rfl, CD⟩, ⟨rfl, Dd⟩, trivial⟩
 fns := AN FF
 big := AD trivial
 lps := CC rfl
theorem SS : ∀ fn body c, Hj.fns Ge.f = some fn → fn.body = some body → Cx Ge.p body = some (.loop c) → BG Tryd.prog T Ge c :=
 Dx Kn Bn (g := Jy) (back := some (V 16, [V 0, V 1, V 2, V 3, V 4, V 5, V 41, V 42, V 8, V 9, V 10, V 11, V 12, V 13, V 14, V 15])) (exs := [(V 17, [some (V 6)])]) (by kernel_rfl) (fun aq => by rw [show Ge.id = 1080 from rfl, Mq]; rfl) Ra fun aq e h1 h2 h3 => by
  rw [show Ge.id = 1080 from rfl, Mq] at h2 ⊢
  exact Rb aq e h1 h2 h3
noncomputable def O5 : Ctx := { Ax := Ax, eqs := eqs, fns := fun f => look f EB, ctr := [(17, Bj), (12, BB), (14, BP)], lim := 30, big := [], lps := [Ge] }
theorem MH : XL Tryd.prog T O5 where
 Ax := BV
 eqs := Cs
 mixed := mixed
 ctr := AB ⟨⟨rfl, Cp⟩, ⟨rfl, CD⟩, ⟨rfl, Dd⟩, trivial⟩
 fns := AN FF
 big := AD trivial
 lps := Cy ⟨SS, trivial⟩
theorem De : DH Tryd.prog T BQ := DQ MH Bn (g := Gf) (ls := [V 37]) (by kernel_rfl) (fun aq => by rw [show BQ.f = 10 from rfl, Ug]; rfl) fun aq e h1 h2 h3 => by
 subst h1
 rw [show BQ.f = 10 from rfl, Ug] at h2 ⊢
 obtain ⟨ho, hr⟩ := KY e h3 _ rfl h2
 have r0 := hr
 refine ⟨⟨ho.1, ho.2.1, ho.2.2.1, ho.2.2.2.1, ho.2.2.2.2.1, ho.2.2.2.2.2.1, ho.2.2.2.2.2.2.1, ho.2.2.2.2.2.2.2.1, ho.2.2.2.2.2.2.2.2.1, ho.2.2.2.2.2.2.2.2.2.1, ho.2.2.2.2.2.2.2.2.2.2.1, ho.2.2.2.2.2.2.2.2.2.2.2.1, ho.2.2.2.2.2.2.2.2.2.2.2.2, trivial⟩, ?_⟩
 show Ah [.str] (Va _).2 = Ah [.str] [L.ev e (V 37)]
 exact (OY r0 rfl)
def CA : KL := { f := 15, ps := [.lst [.int .i64, .int .i64, .int .i64, .int .i64, .int .i64, .sl [.int .i64, .int .i64, .int .i64, .int .i64]]], rs := [(false, [.str])], ok := fun _ => true }
noncomputable def DW : List (Nat × Func) := [(15, Tryd.f15), (10, Tryd.f10)]
theorem EV : C8 Tryd.prog DW := ⟨Wp, VJ, trivial⟩
noncomputable def Gp : Ctx := { Ax := Ax, eqs := eqs, fns := fun f => look f DW, ctr := [(10, BQ)], lim := 30, big := [], lps := [] }
theorem JA : XL Tryd.prog T Gp where
 Ax := BV
 eqs := Cs
 mixed := mixed
 ctr := AB ⟨⟨rfl, De⟩, trivial⟩
 fns := AN EV
 big := AD trivial
 lps := CC rfl
theorem SU : ∀ fn body c, Gp.fns Gg.f = some fn → fn.body = some body → Cx Gg.p body = some (.loop c) → BG Tryd.prog T Gg c :=
 Dx JA Bn (g := Jz) (back := some (V 4, [V 0, V 25, V 26, V 3])) (exs := [(V 5, [some (V 1)])]) (by kernel_rfl) (fun aq => by rw [show Gg.id = 1090 from rfl, Mr]; rfl) Rc fun aq e h1 h2 h3 => by
  rw [show Gg.id = 1090 from rfl, Mr] at h2 ⊢
  exact Re aq e h1 h2 h3
noncomputable def Nh : Ctx := { Ax := Ax, eqs := eqs, fns := fun f => look f DW, ctr := [(10, BQ)], lim := 30, big := [], lps := [Gg] }
theorem KZ : XL Tryd.prog T Nh where
 Ax := BV
 eqs := Cs
 mixed := mixed
 ctr := AB ⟨⟨rfl, De⟩, trivial⟩
 fns := AN EV
 big := AD trivial
 lps := Cy ⟨SU, trivial⟩
theorem Gq : DH Tryd.prog T CA := DQ KZ Bn (g := Fc) (ls := [V 3]) (by kernel_rfl) (fun aq => by rw [show CA.f = 15 from rfl, Uh]; rfl) fun aq e h1 h2 h3 => by
 subst h1
 rw [show CA.f = 15 from rfl, Uh] at h2 ⊢
 obtain ⟨ho, hr⟩ := Ko e h3 h2
 have r0 := hr
 refine ⟨⟨ho, trivial⟩, ?_⟩
 show Ah [.str] (Vb _).2 = Ah [.str] [L.ev e (V 3)]
 exact (OY r0 rfl)
end Rx.S
