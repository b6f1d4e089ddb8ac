import Derived.Test.YtmpinegdphkbjaaDoorVXe
import Derived.Test.YtmpinegdphkbjaaDoorVXAppendInt
import Derived.Test.YtmpinegdphkbjaaDoorVYtell
set_option linter.unusedVariables false
set_option linter.unusedSimpArgs false
namespace Rx.S
open Go Rx Go.Proofs
set_option maxRecDepth 100000
set_option maxHeartbeats 4000000
def DA : MM := { f := 8, ps := [.lst [.int .i64, .int .i64, .int .i64, .int .i64, .int .i64, .sl [.int .i64, .int .i64, .int .i64, .int .i64]]], rs := [(false, [.str])], ok := fun _ => true }
noncomputable def B3 : List (Nat × Func) := [(8, Tryd.f8), (16, Tryd.f16), (20, Tryd.f20), (18, Tryd.f18), (19, Tryd.f19)]
theorem B9 : F7 Tryd.prog B3 := ⟨Vi, Uz, T0, UA, TZ, trivial⟩
noncomputable def Gi : Ctx := { Ax := Ax, eqs := eqs, fns := fun f => look f B3, ctr := [], lim := 30, big := [], lps := [], muts := [(20, A4)] }
theorem I4 : XL Tryd.prog T Gi where
 Ax := Ed
 eqs := FA
 mixed := mixed
 ctr := A8 trivial
 fns := BJ B9
 big := A9 trivial
 lps := GL rfl
 muts := B8 ⟨⟨rfl, A5⟩, trivial⟩
theorem I5 : ∀ fn body c, Gi.fns Dz.f = some fn → fn.body = some body → C8 Dz.p body = some (.loop c) → Ca Tryd.prog T Dz c :=
 GK I4 Df (g := Ij) (back := some (V 14, [V 95, V 1, V 2, V 3, V 4, V 5, V 6, V 7, V 8, V 99, V 10, V 11, V 12, V 97])) (exs := [(V 101, [some (V 0), some (V 9), some (V 14), some (V 13)])]) (by kernel_rfl) (fun aq => by rw [show Dz.id = 1044 from rfl, KU]; rfl) PC fun aq e h1 h2 h3 => by
  rw [show Dz.id = 1044 from rfl, KU] at h2 ⊢
  exact PD aq e h1 h2 h3
noncomputable def Gj : Ctx := { Ax := Ax, eqs := eqs, fns := fun f => look f B3, ctr := [], lim := 30, big := [], lps := [Dz], muts := [(20, A4)] }
theorem I6 : XL Tryd.prog T Gj where
 Ax := Ed
 eqs := FA
 mixed := mixed
 ctr := A8 trivial
 fns := BJ B9
 big := A9 trivial
 lps := EX ⟨I5, trivial⟩
 muts := B8 ⟨⟨rfl, A5⟩, trivial⟩
theorem MG : ∀ fn body c, Gj.fns Ee.f = some fn → fn.body = some body → C8 Ee.p body = some (.loop c) → Ca Tryd.prog T Ee c :=
 GK I6 Df (g := Ik) (back := some (V 16, [V 87, V 1, V 2, V 3, V 4, V 5, V 6, V 7, V 8, V 9, V 10, V 91, V 12, V 13, V 14, V 89])) (exs := [(V 93, [some (V 0), some (V 11), some (V 16), some (V 15)])]) (by kernel_rfl) (fun aq => by rw [show Ee.id = 1045 from rfl, KV]; rfl) PE fun aq e h1 h2 h3 => by
  rw [show Ee.id = 1045 from rfl, KV] at h2 ⊢
  exact PF aq e h1 h2 h3
noncomputable def Gk : Ctx := { Ax := Ax, eqs := eqs, fns := fun f => look f B3, ctr := [], lim := 30, big := [], lps := [Dz, Ee], muts := [(20, A4)] }
theorem I7 : XL Tryd.prog T Gk where
 Ax := Ed
 eqs := FA
 mixed := mixed
 ctr := A8 trivial
 fns := BJ B9
 big := A9 trivial
 lps := EX ⟨I5, MG, trivial⟩
 muts := B8 ⟨⟨rfl, A5⟩, trivial⟩
theorem Ro : ∀ fn body c, Gk.fns Fo.f = some fn → fn.body = some body → C8 Fo.p body = some (.loop c) → Ca Tryd.prog T Fo c :=
 GK I7 Df (g := Il) (back := some (V 5, [V 0, V 37, V 42, V 3, V 36])) (exs := [(V 6, [some (V 1), some (V 4)])]) (by kernel_rfl) (fun aq => by rw [show Fo.id = 1046 from rfl, KW]; rfl) PG fun aq e h1 h2 h3 => by
  rw [show Fo.id = 1046 from rfl, KW] at h2 ⊢
  exact PH aq e h1 h2 h3
noncomputable def NI : Ctx := { Ax := Ax, eqs := eqs, fns := fun f => look f B3, ctr := [], lim := 30, big := [], lps := [Dz, Ee, Fo], muts := [(20, A4)] }
theorem K3 : XL Tryd.prog T NI where
 Ax := Ed
 eqs := FA
 mixed := mixed
 ctr := A8 trivial
 fns := BJ B9
 big := A9 trivial
 lps := EX ⟨I5, MG, Ro, trivial⟩
 muts := B8 ⟨⟨rfl, A5⟩, trivial⟩
theorem K4 : FX Tryd.prog T DA := I1 K3 Df (g := Fp) (ls := [V 5]) (by kernel_rfl) (fun aq => by rw [show DA.f = 8 from rfl, UH]; rfl) fun aq e h1 h2 h3 => by
 subst h1
 rw [show DA.f = 8 from rfl, UH] at h2 ⊢
 obtain ⟨ho, hr⟩ := Jy e h3 h2
 have r0 := hr
 refine ⟨⟨ho, trivial⟩, ?_⟩
 show Aj [.str] (UO _).2 = Aj [.str] [L.ev e (V 5)]
 exact (TY r0 rfl)
def Ef : MM := { f := 13, ps := [.c true [.int .i64, .int .i64, .int .i64, .int .i64]], rs := [(false, [.str])], ok := fun _ => true }
noncomputable def G7 : List (Nat × Func) := [(13, Tryd.f13), (19, Tryd.f19), (20, Tryd.f20)]
theorem Jz : F7 Tryd.prog G7 := ⟨Uy, TZ, T0, trivial⟩
noncomputable def ON : Ctx := { Ax := Ax, eqs := eqs, fns := fun f => look f G7, ctr := [], lim := 30, big := [], lps := [], muts := [(20, A4)] }
theorem LD : XL Tryd.prog T ON where
 Ax := Ed
 eqs := FA
 mixed := mixed
 ctr := A8 trivial
 fns := BJ Jz
 big := A9 trivial
 lps := GL rfl
 muts := B8 ⟨⟨rfl, A5⟩, trivial⟩
theorem LF : FX Tryd.prog T Ef := I1 LD Df (g := Gl) (ls := [V 59]) (by kernel_rfl) (fun aq => by rw [show Ef.f = 13 from rfl, SH]; rfl) fun aq e h1 h2 h3 => by
 subst h1
 rw [show Ef.f = 13 from rfl, SH] at h2 ⊢
 obtain ⟨ho, hr⟩ := K5 e h3 h2
 have r0 := hr
 refine ⟨⟨ho.1, ho.2.1, ho.2.2.1, ho.2.2.2.1, ho.2.2.2.2.1, ho.2.2.2.2.2, trivial⟩, ?_⟩
 show Aj [.str] (Tm _).2 = Aj [.str] [L.ev e (V 59)]
 exact (TY r0 rfl)
def Eh : MM := { f := 9, ps := [.d true [.int .i64, .int .i64, .int .i64, .int .i64, .int .i64, .sl [.int .i64, .int .i64, .int .i64, .int .i64]]], rs := [(false, [.str])], ok := fun _ => true }
noncomputable def CV : List (Nat × Func) := [(9, Tryd.f9), (16, Tryd.f16), (20, Tryd.f20), (18, Tryd.f18), (19, Tryd.f19)]
theorem Dh : F7 Tryd.prog CV := ⟨Vj, Uz, T0, UA, TZ, trivial⟩
noncomputable def G8 : Ctx := { Ax := Ax, eqs := eqs, fns := fun f => look f CV, ctr := [], lim := 30, big := [], lps := [], muts := [(20, A4)] }
theorem JA : XL Tryd.prog T G8 where
 Ax := Ed
 eqs := FA
 mixed := mixed
 ctr := A8 trivial
 fns := BJ Dh
 big := A9 trivial
 lps := GL rfl
 muts := B8 ⟨⟨rfl, A5⟩, trivial⟩
theorem MH : ∀ fn body c, G8.fns Eg.f = some fn → fn.body = some body → C8 Eg.p body = some (.loop c) → Ca Tryd.prog T Eg c :=
 GK JA Df (g := Io) (back := some (V 11, [V 92, V 1, V 2, V 3, V 4, V 5, V 6, V 7, V 96, V 9, V 94])) (exs := [(V 98, [some (V 0), some (V 10)])]) (by kernel_rfl) (fun aq => by rw [show Eg.id = 1030 from rfl, KS]; rfl) PJ fun aq e h1 h2 h3 => by
  rw [show Eg.id = 1030 from rfl, KS] at h2 ⊢
  exact PK aq e h1 h2 h3
noncomputable def G9 : Ctx := { Ax := Ax, eqs := eqs, fns := fun f => look f CV, ctr := [], lim := 30, big := [], lps := [Eg], muts := [(20, A4)] }
theorem JB : XL Tryd.prog T G9 where
 Ax := Ed
 eqs := FA
 mixed := mixed
 ctr := A8 trivial
 fns := BJ Dh
 big := A9 trivial
 lps := EX ⟨MH, trivial⟩
 muts := B8 ⟨⟨rfl, A5⟩, trivial⟩
theorem Rp : ∀ fn body c, G9.fns Fs.f = some fn → fn.body = some body → C8 Fs.p body = some (.loop c) → Ca Tryd.prog T Fs c :=
 GK JB Df (g := Ip) (back := some (V 11, [V 82, V 1, V 2, V 3, V 4, V 5, V 6, V 7, V 86, V 9, V 84])) (exs := [(V 88, [some (V 0), some (V 10)])]) (by kernel_rfl) (fun aq => by rw [show Fs.id = 1031 from rfl, KT]; rfl) PL fun aq e h1 h2 h3 => by
  rw [show Fs.id = 1031 from rfl, KT] at h2 ⊢
  exact PM aq e h1 h2 h3
noncomputable def OQ : Ctx := { Ax := Ax, eqs := eqs, fns := fun f => look f CV, ctr := [], lim := 30, big := [], lps := [Eg, Fs], muts := [(20, A4)] }
theorem LG : XL Tryd.prog T OQ where
 Ax := Ed
 eqs := FA
 mixed := mixed
 ctr := A8 trivial
 fns := BJ Dh
 big := A9 trivial
 lps := EX ⟨MH, Rp, trivial⟩
 muts := B8 ⟨⟨rfl, A5⟩, trivial⟩
theorem LH : FX Tryd.prog T Eh := I1 LG Df (g := Gm) (ls := [V 22]) (by kernel_rfl) (fun aq => by rw [show Eh.f = 9 from rfl, UG]; rfl) fun aq e h1 h2 h3 => by
 subst h1
 rw [show Eh.f = 9 from rfl, UG] at h2 ⊢
 obtain ⟨ho, hr⟩ := K6 e h3 _ rfl h2
 have r0 := hr
 refine ⟨⟨ho.1, ho.2.1, ho.2.2.1, ho.2.2.2, trivial⟩, ?_⟩
 show Aj [.str] (UN _).2 = Aj [.str] [L.ev e (V 22)]
 exact (TY r0 rfl)
end Rx.S
