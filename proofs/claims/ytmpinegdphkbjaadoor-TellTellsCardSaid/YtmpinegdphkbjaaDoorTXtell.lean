import Derived.Test.YtmpinegdphkbjaaDoorTXe
import Derived.Test.YtmpinegdphkbjaaDoorTXAppendInt
import Derived.Test.YtmpinegdphkbjaaDoorTYtell
set_option linter.unusedVariables false
set_option linter.unusedSimpArgs false
namespace Rx.S
open Go Rx Go.Proofs
set_option maxRecDepth 100000
set_option maxHeartbeats 4000000
def Db : KL := { f := 11, ps := [.c true [.int .i64, .int .i64]], rs := [(false, [.str])], ok := fun _ => true }
noncomputable def Ha : List (Nat × Func) := [(11, Tryd.f11), (18, Tryd.f18), (20, Tryd.f20)]
theorem Kf : C8 Tryd.prog Ha := ⟨Wo, VN, UQ, trivial⟩
noncomputable def O2 : Ctx := { Ax := Ax, eqs := eqs, fns := fun f => look f Ha, ctr := [], lim := 30, big := [], lps := [], muts := [(20, A3)] }
theorem MB : XL Tryd.prog T O2 where
 Ax := BV
 eqs := Cs
 mixed := mixed
 ctr := AB trivial
 fns := AN Kf
 big := AD trivial
 lps := CC rfl
 muts := B0 ⟨⟨rfl, A0⟩, trivial⟩
theorem Hb : DH Tryd.prog T Db := DQ MB Bn (g := F7) (ls := [V 71]) (by kernel_rfl) (fun aq => by rw [show Db.f = 11 from rfl, Ub]; rfl) fun aq e h1 h2 h3 => by
 subst h1
 rw [show Db.f = 11 from rfl, Ub] at h2 ⊢
 obtain ⟨ho, hr⟩ := KR e h3 h2
 have r0 := hr
 refine ⟨⟨ho.1, ho.2.1, ho.2.2.1, ho.2.2.2.1, ho.2.2.2.2.1, ho.2.2.2.2.2.1, ho.2.2.2.2.2.2.1, ho.2.2.2.2.2.2.2, trivial⟩, ?_⟩
 show Ah [.str] (U5 _).2 = Ah [.str] [L.ev e (V 71)]
 exact (OY r0 rfl)
def CW : KL := { f := 13, ps := [.c true [.int .i64, .int .i64, .int .i64, .int .i64]], rs := [(false, [.str])], ok := fun _ => true }
noncomputable def H7 : List (Nat × Func) := [(13, Tryd.f13), (19, Tryd.f19), (20, Tryd.f20)]
theorem KS : C8 Tryd.prog H7 := ⟨VL, VO, UQ, trivial⟩
noncomputable def P1 : Ctx := { Ax := Ax, eqs := eqs, fns := fun f => look f H7, ctr := [], lim := 30, big := [], lps := [], muts := [(20, A3)] }
theorem Nc : XL Tryd.prog T P1 where
 Ax := BV
 eqs := Cs
 mixed := mixed
 ctr := AB trivial
 fns := AN KS
 big := AD trivial
 lps := CC rfl
 muts := B0 ⟨⟨rfl, A0⟩, trivial⟩
theorem E9 : DH Tryd.prog T CW := DQ Nc Bn (g := Hc) (ls := [V 59]) (by kernel_rfl) (fun aq => by rw [show CW.f = 13 from rfl, Uc]; rfl) fun aq e h1 h2 h3 => by
 subst h1
 rw [show CW.f = 13 from rfl, Uc] at h2 ⊢
 obtain ⟨ho, hr⟩ := MC e h3 h2
 have r0 := hr
 refine ⟨⟨ho.1, ho.2.1, ho.2.2.1, ho.2.2.2.1, ho.2.2.2.2.1, ho.2.2.2.2.2, trivial⟩, ?_⟩
 show Ah [.str] (U6 _).2 = Ah [.str] [L.ev e (V 59)]
 exact (OY r0 rfl)
def CX : KL := { f := 9, ps := [.d true [.int .i64, .int .i64, .int .i64, .int .i64, .int .i64, .sl [.int .i64, .int .i64, .int .i64, .int .i64]]], rs := [(false, [.str])], ok := fun _ => true }
noncomputable def Dy : List (Nat × Func) := [(9, Tryd.f9), (16, Tryd.f16), (20, Tryd.f20), (18, Tryd.f18), (19, Tryd.f19)]
theorem DV : C8 Tryd.prog Dy := ⟨W5, Wq, UQ, VN, VO, trivial⟩
noncomputable def H8 : Ctx := { Ax := Ax, eqs := eqs, fns := fun f => look f Dy, ctr := [], lim := 30, big := [], lps := [], muts := [(20, A3)] }
theorem KT : XL Tryd.prog T H8 where
 Ax := BV
 eqs := Cs
 mixed := mixed
 ctr := AB trivial
 fns := AN DV
 big := AD trivial
 lps := CC rfl
 muts := B0 ⟨⟨rfl, A0⟩, trivial⟩
theorem N8 : ∀ fn body c, H8.fns ET.f = some fn → fn.body = some body → Cx ET.p body = some (.loop c) → BG Tryd.prog T ET c :=
 Dx KT Bn (g := Jq) (back := some (V 11, [V 92, V 1, V 2, V 3, V 4, V 5, V 6, V 7, V 96, V 9, V 94])) (exs := [(V 98, [some (V 0), some (V 10)])]) (by kernel_rfl) (fun aq => by rw [show ET.id = 1030 from rfl, Mk]; rfl) QX fun aq e h1 h2 h3 => by
  rw [show ET.id = 1030 from rfl, Mk] at h2 ⊢
  exact QY aq e h1 h2 h3
noncomputable def H9 : Ctx := { Ax := Ax, eqs := eqs, fns := fun f => look f Dy, ctr := [], lim := 30, big := [], lps := [ET], muts := [(20, A3)] }
theorem KU : XL Tryd.prog T H9 where
 Ax := BV
 eqs := Cs
 mixed := mixed
 ctr := AB trivial
 fns := AN DV
 big := AD trivial
 lps := Cy ⟨N8, trivial⟩
 muts := B0 ⟨⟨rfl, A0⟩, trivial⟩
theorem SP : ∀ fn body c, H9.fns F9.f = some fn → fn.body = some body → Cx F9.p body = some (.loop c) → BG Tryd.prog T F9 c :=
 Dx KU Bn (g := Jr) (back := some (V 11, [V 82, V 1, V 2, V 3, V 4, V 5, V 6, V 7, V 86, V 9, V 84])) (exs := [(V 88, [some (V 0), some (V 10)])]) (by kernel_rfl) (fun aq => by rw [show F9.id = 1031 from rfl, Ml]; rfl) QZ fun aq e h1 h2 h3 => by
  rw [show F9.id = 1031 from rfl, Ml] at h2 ⊢
  exact Q0 aq e h1 h2 h3
noncomputable def P4 : Ctx := { Ax := Ax, eqs := eqs, fns := fun f => look f Dy, ctr := [], lim := 30, big := [], lps := [ET, F9], muts := [(20, A3)] }
theorem Nf : XL Tryd.prog T P4 where
 Ax := BV
 eqs := Cs
 mixed := mixed
 ctr := AB trivial
 fns := AN DV
 big := AD trivial
 lps := Cy ⟨N8, SP, trivial⟩
 muts := B0 ⟨⟨rfl, A0⟩, trivial⟩
theorem Fa : DH Tryd.prog T CX := DQ Nf Bn (g := Hd) (ls := [V 22]) (by kernel_rfl) (fun aq => by rw [show CX.f = 9 from rfl, Wy]; rfl) fun aq e h1 h2 h3 => by
 subst h1
 rw [show CX.f = 9 from rfl, Wy] at h2 ⊢
 obtain ⟨ho, hr⟩ := MD e h3 _ rfl h2
 have r0 := hr
 refine ⟨⟨ho.1, ho.2.1, ho.2.2.1, ho.2.2.2, trivial⟩, ?_⟩
 show Ah [.str] (WG _).2 = Ah [.str] [L.ev e (V 22)]
 exact (OY r0 rfl)
def Dc : KL := { f := 8, ps := [.lst [.int .i64, .int .i64, .int .i64, .int .i64, .int .i64, .sl [.int .i64, .int .i64, .int .i64, .int .i64]]], rs := [(false, [.str])], ok := fun _ => true }
noncomputable def Cj : List (Nat × Func) := [(8, Tryd.f8), (16, Tryd.f16), (20, Tryd.f20), (18, Tryd.f18), (19, Tryd.f19)]
theorem Co : C8 Tryd.prog Cj := ⟨Xd, Wq, UQ, VN, VO, trivial⟩
noncomputable def He : Ctx := { Ax := Ax, eqs := eqs, fns := fun f => look f Cj, ctr := [], lim := 30, big := [], lps := [], muts := [(20, A3)] }
theorem Kg : XL Tryd.prog T He where
 Ax := BV
 eqs := Cs
 mixed := mixed
 ctr := AB trivial
 fns := AN Co
 big := AD trivial
 lps := CC rfl
 muts := B0 ⟨⟨rfl, A0⟩, trivial⟩
theorem Kh : ∀ fn body c, He.fns Ea.f = some fn → fn.body = some body → Cx Ea.p body = some (.loop c) → BG Tryd.prog T Ea c :=
 Dx Kg Bn (g := Js) (back := some (V 14, [V 95, V 1, V 2, V 3, V 4, V 5, V 6, V 7, V 8, V 99, V 10, V 11, V 12, V 97])) (exs := [(V 101, [some (V 0), some (V 9), some (V 14), some (V 13)])]) (by kernel_rfl) (fun aq => by rw [show Ea.id = 1044 from rfl, Mm]; rfl) Q2 fun aq e h1 h2 h3 => by
  rw [show Ea.id = 1044 from rfl, Mm] at h2 ⊢
  exact Q3 aq e h1 h2 h3
noncomputable def Hf : Ctx := { Ax := Ax, eqs := eqs, fns := fun f => look f Cj, ctr := [], lim := 30, big := [], lps := [Ea], muts := [(20, A3)] }
theorem Ki : XL Tryd.prog T Hf where
 Ax := BV
 eqs := Cs
 mixed := mixed
 ctr := AB trivial
 fns := AN Co
 big := AD trivial
 lps := Cy ⟨Kh, trivial⟩
 muts := B0 ⟨⟨rfl, A0⟩, trivial⟩
theorem N9 : ∀ fn body c, Hf.fns EU.f = some fn → fn.body = some body → Cx EU.p body = some (.loop c) → BG Tryd.prog T EU c :=
 Dx Ki Bn (g := Jt) (back := some (V 16, [V 87, V 1, V 2, V 3, V 4, V 5, V 6, V 7, V 8, V 9, V 10, V 91, V 12, V 13, V 14, V 89])) (exs := [(V 93, [some (V 0), some (V 11), some (V 16), some (V 15)])]) (by kernel_rfl) (fun aq => by rw [show EU.id = 1045 from rfl, Mn]; rfl) Q4 fun aq e h1 h2 h3 => by
  rw [show EU.id = 1045 from rfl, Mn] at h2 ⊢
  exact Q5 aq e h1 h2 h3
noncomputable def Hg : Ctx := { Ax := Ax, eqs := eqs, fns := fun f => look f Cj, ctr := [], lim := 30, big := [], lps := [Ea, EU], muts := [(20, A3)] }
theorem Kj : XL Tryd.prog T Hg where
 Ax := BV
 eqs := Cs
 mixed := mixed
 ctr := AB trivial
 fns := AN Co
 big := AD trivial
 lps := Cy ⟨Kh, N9, trivial⟩
 muts := B0 ⟨⟨rfl, A0⟩, trivial⟩
theorem SQ : ∀ fn body c, Hg.fns Ga.f = some fn → fn.body = some body → Cx Ga.p body = some (.loop c) → BG Tryd.prog T Ga c :=
 Dx Kj Bn (g := Ju) (back := some (V 5, [V 0, V 37, V 42, V 3, V 36])) (exs := [(V 6, [some (V 1), some (V 4)])]) (by kernel_rfl) (fun aq => by rw [show Ga.id = 1046 from rfl, Mo]; rfl) Q6 fun aq e h1 h2 h3 => by
  rw [show Ga.id = 1046 from rfl, Mo] at h2 ⊢
  exact Q7 aq e h1 h2 h3
noncomputable def O3 : Ctx := { Ax := Ax, eqs := eqs, fns := fun f => look f Cj, ctr := [], lim := 30, big := [], lps := [Ea, EU, Ga], muts := [(20, A3)] }
theorem ME : XL Tryd.prog T O3 where
 Ax := BV
 eqs := Cs
 mixed := mixed
 ctr := AB trivial
 fns := AN Co
 big := AD trivial
 lps := Cy ⟨Kh, N9, SQ, trivial⟩
 muts := B0 ⟨⟨rfl, A0⟩, trivial⟩
theorem Hh : DH Tryd.prog T Dc := DQ ME Bn (g := Gb) (ls := [V 5]) (by kernel_rfl) (fun aq => by rw [show Dc.f = 8 from rfl, Wz]; rfl) fun aq e h1 h2 h3 => by
 subst h1
 rw [show Dc.f = 8 from rfl, Wz] at h2 ⊢
 obtain ⟨ho, hr⟩ := KV e h3 h2
 have r0 := hr
 refine ⟨⟨ho, trivial⟩, ?_⟩
 show Ah [.str] (WH _).2 = Ah [.str] [L.ev e (V 5)]
 exact (OY r0 rfl)
end Rx.S
