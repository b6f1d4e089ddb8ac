import Derived.Test.YtmpinegdphkbjaaDoorUXe
import Derived.Test.YtmpinegdphkbjaaDoorUXAppendInt
import Derived.Test.YtmpinegdphkbjaaDoorUYtell
set_option linter.unusedVariables false
set_option linter.unusedSimpArgs false
namespace Rx.S
open Go Rx Go.Proofs
set_option maxRecDepth 100000
set_option maxHeartbeats 4000000
def Cc : M4 := { f := 8, ps := [.lst [.int .i64, .int .i64, .int .i64, .int .i64, .int .i64, .sl [.int .i64, .int .i64, .int .i64, .int .i64]]], rs := [(false, [.str])], ok := fun _ => true }
noncomputable def B8 : List (Nat × Func) := [(8, Tryd.f8), (16, Tryd.f16), (20, Tryd.f20), (18, Tryd.f18), (19, Tryd.f19)]
theorem Cd : Gg Tryd.prog B8 := ⟨VC, UU, Ul, UW, Uk, trivial⟩
noncomputable def Gv : Ctx := { AD := AD, eqs := eqs, fns := fun f => look f B8, ctr := [], lim := 30, big := [], lps := [], muts := [(20, A4)] }
theorem Jj : XL Tryd.prog T Gv where
 AD := D4
 eqs := Er
 mixed := mixed
 ctr := AU trivial
 fns := Bo Cd
 big := AV trivial
 lps := GV rfl
 muts := Cb ⟨⟨rfl, A5⟩, trivial⟩
theorem Jk : ∀ fn body c, Gv.fns DG.f = some fn → fn.body = some body → CL DG.p body = some (.loop c) → BR Tryd.prog T DG c :=
 Ep Jj CN (g := Iv) (back := some (V 14, [V 95, V 1, V 2, V 3, V 4, V 5, V 6, V 7, V 8, V 99, V 10, V 11, V 12, V 97])) (exs := [(V 101, [some (V 0), some (V 9), some (V 14), some (V 13)])]) (by kernel_rfl) (fun aq => by rw [show DG.id = 1044 from rfl, Ld]; rfl) P1 fun aq e h1 h2 h3 => by
  rw [show DG.id = 1044 from rfl, Ld] at h2 ⊢
  exact P2 aq e h1 h2 h3
noncomputable def Gw : Ctx := { AD := AD, eqs := eqs, fns := fun f => look f B8, ctr := [], lim := 30, big := [], lps := [DG], muts := [(20, A4)] }
theorem Jl : XL Tryd.prog T Gw where
 AD := D4
 eqs := Er
 mixed := mixed
 ctr := AU trivial
 fns := Bo Cd
 big := AV trivial
 lps := Dg ⟨Jk, trivial⟩
 muts := Cb ⟨⟨rfl, A5⟩, trivial⟩
theorem MX : ∀ fn body c, Gw.fns Et.f = some fn → fn.body = some body → CL Et.p body = some (.loop c) → BR Tryd.prog T Et c :=
 Ep Jl CN (g := Iw) (back := some (V 16, [V 87, V 1, V 2, V 3, V 4, V 5, V 6, V 7, V 8, V 9, V 10, V 91, V 12, V 13, V 14, V 89])) (exs := [(V 93, [some (V 0), some (V 11), some (V 16), some (V 15)])]) (by kernel_rfl) (fun aq => by rw [show Et.id = 1045 from rfl, Le]; rfl) P3 fun aq e h1 h2 h3 => by
  rw [show Et.id = 1045 from rfl, Le] at h2 ⊢
  exact P4 aq e h1 h2 h3
noncomputable def Gx : Ctx := { AD := AD, eqs := eqs, fns := fun f => look f B8, ctr := [], lim := 30, big := [], lps := [DG, Et], muts := [(20, A4)] }
theorem Jm : XL Tryd.prog T Gx where
 AD := D4
 eqs := Er
 mixed := mixed
 ctr := AU trivial
 fns := Bo Cd
 big := AV trivial
 lps := Dg ⟨Jk, MX, trivial⟩
 muts := Cb ⟨⟨rfl, A5⟩, trivial⟩
theorem RJ : ∀ fn body c, Gx.fns FE.f = some fn → fn.body = some body → CL FE.p body = some (.loop c) → BR Tryd.prog T FE c :=
 Ep Jm CN (g := Ix) (back := some (V 5, [V 0, V 37, V 42, V 3, V 36])) (exs := [(V 6, [some (V 1), some (V 4)])]) (by kernel_rfl) (fun aq => by rw [show FE.id = 1046 from rfl, Lf]; rfl) P5 fun aq e h1 h2 h3 => by
  rw [show FE.id = 1046 from rfl, Lf] at h2 ⊢
  exact P6 aq e h1 h2 h3
noncomputable def NX : Ctx := { AD := AD, eqs := eqs, fns := fun f => look f B8, ctr := [], lim := 30, big := [], lps := [DG, Et, FE], muts := [(20, A4)] }
theorem Lq : XL Tryd.prog T NX where
 AD := D4
 eqs := Er
 mixed := mixed
 ctr := AU trivial
 fns := Bo Cd
 big := AV trivial
 lps := Dg ⟨Jk, MX, RJ, trivial⟩
 muts := Cb ⟨⟨rfl, A5⟩, trivial⟩
theorem D5 : F9 Tryd.prog T Cc := Je Lq CN (g := FF) (ls := [V 5]) (by kernel_rfl) (fun aq => by rw [show Cc.f = 8 from rfl, U3]; rfl) fun aq e h1 h2 h3 => by
 subst h1
 rw [show Cc.f = 8 from rfl, U3] at h2 ⊢
 obtain ⟨ho, hr⟩ := JP e h3 h2
 have r0 := hr
 refine ⟨⟨ho, trivial⟩, ?_⟩
 show Ak [.str] (Va _).2 = Ak [.str] [L.ev e (V 5)]
 exact (Uj r0 rfl)
def Eu : M4 := { f := 13, ps := [.c true [.int .i64, .int .i64, .int .i64, .int .i64]], rs := [(false, [.str])], ok := fun _ => true }
noncomputable def Hi : List (Nat × Func) := [(13, Tryd.f13), (19, Tryd.f19), (20, Tryd.f20)]
theorem JQ : Gg Tryd.prog Hi := ⟨UT, Uk, Ul, trivial⟩
noncomputable def O2 : Ctx := { AD := AD, eqs := eqs, fns := fun f => look f Hi, ctr := [], lim := 30, big := [], lps := [], muts := [(20, A4)] }
theorem L4 : XL Tryd.prog T O2 where
 AD := D4
 eqs := Er
 mixed := mixed
 ctr := AU trivial
 fns := Bo JQ
 big := AV trivial
 lps := GV rfl
 muts := Cb ⟨⟨rfl, A5⟩, trivial⟩
theorem L5 : F9 Tryd.prog T Eu := Je L4 CN (g := Gy) (ls := [V 59]) (by kernel_rfl) (fun aq => by rw [show Eu.f = 13 from rfl, S1]; rfl) fun aq e h1 h2 h3 => by
 subst h1
 rw [show Eu.f = 13 from rfl, S1] at h2 ⊢
 obtain ⟨ho, hr⟩ := Lr e h3 h2
 have r0 := hr
 refine ⟨⟨ho.1, ho.2.1, ho.2.2.1, ho.2.2.2.1, ho.2.2.2.2.1, ho.2.2.2.2.2, trivial⟩, ?_⟩
 show Ak [.str] (TJ _).2 = Ak [.str] [L.ev e (V 59)]
 exact (Uj r0 rfl)
def Ew : M4 := { f := 9, ps := [.d true [.int .i64, .int .i64, .int .i64, .int .i64, .int .i64, .sl [.int .i64, .int .i64, .int .i64, .int .i64]]], rs := [(false, [.str])], ok := fun _ => true }
noncomputable def C5 : List (Nat × Func) := [(9, Tryd.f9), (16, Tryd.f16), (20, Tryd.f20), (18, Tryd.f18), (19, Tryd.f19)]
theorem Dq : Gg Tryd.prog C5 := ⟨VD, UU, Ul, UW, Uk, trivial⟩
noncomputable def Hj : Ctx := { AD := AD, eqs := eqs, fns := fun f => look f C5, ctr := [], lim := 30, big := [], lps := [], muts := [(20, A4)] }
theorem JR : XL Tryd.prog T Hj where
 AD := D4
 eqs := Er
 mixed := mixed
 ctr := AU trivial
 fns := Bo Dq
 big := AV trivial
 lps := GV rfl
 muts := Cb ⟨⟨rfl, A5⟩, trivial⟩
theorem MY : ∀ fn body c, Hj.fns Ev.f = some fn → fn.body = some body → CL Ev.p body = some (.loop c) → BR Tryd.prog T Ev c :=
 Ep JR CN (g := Iz) (back := some (V 11, [V 92, V 1, V 2, V 3, V 4, V 5, V 6, V 7, V 96, V 9, V 94])) (exs := [(V 98, [some (V 0), some (V 10)])]) (by kernel_rfl) (fun aq => by rw [show Ev.id = 1030 from rfl, La]; rfl) P8 fun aq e h1 h2 h3 => by
  rw [show Ev.id = 1030 from rfl, La] at h2 ⊢
  exact P9 aq e h1 h2 h3
noncomputable def Hk : Ctx := { AD := AD, eqs := eqs, fns := fun f => look f C5, ctr := [], lim := 30, big := [], lps := [Ev], muts := [(20, A4)] }
theorem JS : XL Tryd.prog T Hk where
 AD := D4
 eqs := Er
 mixed := mixed
 ctr := AU trivial
 fns := Bo Dq
 big := AV trivial
 lps := Dg ⟨MY, trivial⟩
 muts := Cb ⟨⟨rfl, A5⟩, trivial⟩
theorem RK : ∀ fn body c, Hk.fns FH.f = some fn → fn.body = some body → CL FH.p body = some (.loop c) → BR Tryd.prog T FH c :=
 Ep JS CN (g := IA) (back := some (V 11, [V 82, V 1, V 2, V 3, V 4, V 5, V 6, V 7, V 86, V 9, V 84])) (exs := [(V 88, [some (V 0), some (V 10)])]) (by kernel_rfl) (fun aq => by rw [show FH.id = 1031 from rfl, Lb]; rfl) Qa fun aq e h1 h2 h3 => by
  rw [show FH.id = 1031 from rfl, Lb] at h2 ⊢
  exact Qb aq e h1 h2 h3
noncomputable def O5 : Ctx := { AD := AD, eqs := eqs, fns := fun f => look f C5, ctr := [], lim := 30, big := [], lps := [Ev, FH], muts := [(20, A4)] }
theorem L6 : XL Tryd.prog T O5 where
 AD := D4
 eqs := Er
 mixed := mixed
 ctr := AU trivial
 fns := Bo Dq
 big := AV trivial
 lps := Dg ⟨MY, RK, trivial⟩
 muts := Cb ⟨⟨rfl, A5⟩, trivial⟩
theorem L7 : F9 Tryd.prog T Ew := Je L6 CN (g := Gz) (ls := [V 22]) (by kernel_rfl) (fun aq => by rw [show Ew.f = 9 from rfl, U2]; rfl) fun aq e h1 h2 h3 => by
 subst h1
 rw [show Ew.f = 9 from rfl, U2] at h2 ⊢
 obtain ⟨ho, hr⟩ := Ls e h3 _ rfl h2
 have r0 := hr
 refine ⟨⟨ho.1, ho.2.1, ho.2.2.1, ho.2.2.2, trivial⟩, ?_⟩
 show Ak [.str] (U9 _).2 = Ak [.str] [L.ev e (V 22)]
 exact (Uj r0 rfl)
end Rx.S
