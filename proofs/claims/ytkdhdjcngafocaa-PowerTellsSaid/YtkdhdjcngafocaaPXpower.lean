import Derived.Test.YtkdhdjcngafocaaPXe
import Derived.Test.YtkdhdjcngafocaaPXconf
import Derived.Test.YtkdhdjcngafocaaPXfault
import Derived.Test.YtkdhdjcngafocaaPXslices
import Derived.Test.YtkdhdjcngafocaaPXtally
import Derived.Test.YtkdhdjcngafocaaPYpower
set_option linter.unusedVariables false
set_option linter.unusedSimpArgs false
namespace Rx.S
open Go Rx Go.Proofs
set_option maxRecDepth 100000
set_option maxHeartbeats 4000000
def Di : Iy := { f := 8, ps := [.lst [.int .i64], .c false [.int .i64], .c false [.int .i64]], rs := [(false, [.bool])], ok := fun _ => true }
noncomputable def JX : List (Nat × Func) := [(8, Try.f8)]
theorem NF : Bb Try.prog JX := ⟨Ys, trivial⟩
noncomputable def Sm : Ctx := { Aw := Aw, eqs := eqs, fns := fun f => look f JX, ctr := [], lim := 30, big := [], lps := [] }
theorem Ql : XL Try.prog T Sm where
 Aw := Be
 eqs := Bo
 mixed := mixed
 ctr := Ap trivial
 fns := Az NF
 big := Aq trivial
 lps := AX rfl
theorem GA : BV Try.prog T Di := BF Ql AS (g := Jl) (ls := [V 12]) (by kernel_rfl) (fun aq => by rw [show Di.f = 8 from rfl, Ym]; rfl) fun aq e h1 h2 h3 => by
 subst h1
 rw [show Di.f = 8 from rfl, Ym] at h2 ⊢
 obtain ⟨ho, hr⟩ := Oj e h3 h2
 have r0 := hr
 refine ⟨⟨ho, trivial⟩, ?_⟩
 show Af [.bool] (Yx _).2 = Af [.bool] [L.ev e (V 12)]
 exact (JQ r0 rfl)
def Dq : Iy := { f := 9, ps := [.lst [.int .i64], .c false [.int .i64], .c false [.int .i64]], rs := [(false, [.int .i64])], ok := fun _ => true }
noncomputable def GX : List (Nat × Func) := [(9, Try.f9), (8, Try.f8)]
theorem JY : Bb Try.prog GX := ⟨Y2, Ys, trivial⟩
noncomputable def Ok : Ctx := { Aw := Aw, eqs := eqs, fns := fun f => look f GX, ctr := [(8, Di)], lim := 30, big := [], lps := [] }
theorem LL : XL Try.prog T Ok where
 Aw := Be
 eqs := Bo
 mixed := mixed
 ctr := Ap ⟨⟨rfl, GA⟩, trivial⟩
 fns := Az JY
 big := Aq trivial
 lps := AX rfl
theorem LM : BV Try.prog T Dq := BF LL AS (g := Fo) (ls := [V 14]) (by kernel_rfl) (fun aq => by rw [show Dq.f = 9 from rfl, Yn]; rfl) fun aq e h1 h2 h3 => by
 subst h1
 rw [show Dq.f = 9 from rfl, Yn] at h2 ⊢
 obtain ⟨ho, hr⟩ := KW e h3 h2
 have r0 := hr
 refine ⟨⟨ho.1, ho.2, trivial⟩, ?_⟩
 show Af [.int .i64] (Yy _).2 = Af [.int .i64] [L.ev e (V 14)]
 exact (Rg r0 rfl)
def D9 : Iy := { f := 27, ps := [.c false [.int .i64]], rs := [(false, [.bool])], ok := fun _ => true }
noncomputable def HW : List (Nat × Func) := [(27, Try.f27)]
theorem K0 : Bb Try.prog HW := ⟨Ye, trivial⟩
noncomputable def Qo : Ctx := { Aw := Aw, eqs := eqs, fns := fun f => look f HW, ctr := [], lim := 30, big := [], lps := [] }
theorem NI : XL Try.prog T Qo where
 Aw := Be
 eqs := Bo
 mixed := mixed
 ctr := Ap trivial
 fns := Az K0
 big := Aq trivial
 lps := AX rfl
theorem NJ : BV Try.prog T D9 := BF NI AS (g := GD) (ls := [V 3]) (by kernel_rfl) (fun aq => by rw [show D9.f = 27 from rfl, VU]; rfl) fun aq e h1 h2 h3 => by
 subst h1
 rw [show D9.f = 27 from rfl, VU] at h2 ⊢
 obtain ⟨ho, hr⟩ := LQ e h3 h2
 have r0 := hr
 refine ⟨trivial, ?_⟩
 show Af [.bool] (WO _).2 = Af [.bool] [L.ev e (V 3)]
 exact (JQ r0 rfl)
def Ci : Iy := { f := 26, ps := [.c false [.int .i64]], rs := [(false, [.bool])], ok := fun _ => true }
noncomputable def F1 : List (Nat × Func) := [(26, Try.f26), (27, Try.f27)]
theorem Jn : Bb Try.prog F1 := ⟨Yd, Ye, trivial⟩
noncomputable def NK : Ctx := { Aw := Aw, eqs := eqs, fns := fun f => look f F1, ctr := [(27, D9)], lim := 30, big := [], lps := [] }
theorem K1 : XL Try.prog T NK where
 Aw := Be
 eqs := Bo
 mixed := mixed
 ctr := Ap ⟨⟨rfl, NJ⟩, trivial⟩
 fns := Az Jn
 big := Aq trivial
 lps := AX rfl
theorem F2 : BV Try.prog T Ci := BF K1 AS (g := ED) (ls := [V 3]) (by kernel_rfl) (fun aq => by rw [show Ci.f = 26 from rfl, VV]; rfl) fun aq e h1 h2 h3 => by
 subst h1
 rw [show Ci.f = 26 from rfl, VV] at h2 ⊢
 obtain ⟨ho, hr⟩ := J2 e h3 h2
 have r0 := hr
 refine ⟨⟨ho, trivial⟩, ?_⟩
 show Af [.bool] (WQ _).2 = Af [.bool] [L.ev e (V 3)]
 exact (JQ r0 rfl)
def Ds : Iy := { f := 13, ps := [.c false [.int .i64], .lst [.int .i64]], rs := [(false, [.bool])], ok := fun _ => true }
noncomputable def DR : List (Nat × Func) := [(13, Try.f13), (21, Try.f21), (25, Try.f25), (31, Try.f31), (26, Try.f26)]
theorem E2 : Bb Try.prog DR := ⟨X5, Xx, YU, YV, Yd, trivial⟩
noncomputable def GZ : Ctx := { Aw := Aw, eqs := eqs, fns := fun f => look f DR, ctr := [(21, BQ), (26, Ci)], lim := 30, big := [], lps := [] }
theorem J3 : XL Try.prog T GZ where
 Aw := Be
 eqs := Bo
 mixed := mixed
 ctr := Ap ⟨⟨rfl, Da⟩, ⟨rfl, F2⟩, trivial⟩
 fns := Az E2
 big := Aq trivial
 lps := AX rfl
theorem Up : ∀ fn body c, GZ.fns GB.f = some fn → fn.body = some body → CO GB.p body = some (.loop c) → BN Try.prog T GB c :=
 D8 J3 AS (g := J1) (back := some (V 20, [V 0, V 17, V 2])) (exs := [(V 21, [some (V 1), some (B true), none]), (V 4, [none, none, some (B true)])]) (by kernel_rfl) (fun aq => by rw [show GB.id = 1130 from rfl, Nr]; rfl) So fun aq e h1 h2 h3 => by
  rw [show GB.id = 1130 from rfl, Nr] at h2 ⊢
  exact Sp aq e h1 h2 h3
noncomputable def On : Ctx := { Aw := Aw, eqs := eqs, fns := fun f => look f DR, ctr := [(21, BQ), (26, Ci)], lim := 30, big := [], lps := [GB] }
theorem LR : XL Try.prog T On where
 Aw := Be
 eqs := Bo
 mixed := mixed
 ctr := Ap ⟨⟨rfl, Da⟩, ⟨rfl, F2⟩, trivial⟩
 fns := Az E2
 big := Aq trivial
 lps := C4 ⟨Up, trivial⟩
theorem LU : BV Try.prog T Ds := BF LR AS (g := Fq) (ls := [V 22]) (by kernel_rfl) (fun aq => by rw [show Ds.f = 13 from rfl, VY]; rfl) fun aq e h1 h2 h3 => by
 subst h1
 rw [show Ds.f = 13 from rfl, VY] at h2 ⊢
 obtain ⟨ho, hr⟩ := KY e h3 h2
 have r0 := hr
 refine ⟨⟨ho.1, ho.2.1, ho.2.2, trivial⟩, ?_⟩
 show Af [.bool] (WT _).2 = Af [.bool] [L.ev e (V 22)]
 exact (JQ r0 rfl)
def Du : SK := { f := 10, ps := [.c false [.int .i64], .lst [.int .i64]], rs := [.lst [.int .i64] 3, .c false [.int .i64]], ok := fun _ => true, w := 4 }
noncomputable def DT : List (Nat × Func) := [(10, Try.f10), (21, Try.f21), (22, Try.f22)]
theorem E4 : Bb Try.prog DT := ⟨Xv, Xx, Yb, trivial⟩
noncomputable def G4 : Ctx := { Aw := Aw, eqs := eqs, fns := fun f => look f DT, ctr := [(22, Cu), (21, BQ)], lim := 30, big := [], lps := [] }
theorem Kb : XL Try.prog T G4 where
 Aw := Be
 eqs := Bo
 mixed := mixed
 ctr := Ap ⟨⟨rfl, G3⟩, ⟨rfl, Da⟩, trivial⟩
 fns := Az E4
 big := Aq trivial
 lps := AX rfl
theorem Us : ∀ fn body c, G4.fns GH.f = some fn → fn.body = some body → CO GH.p body = some (.loop c) → BN Try.prog T GH c :=
 D8 Kb AS (g := J9) (back := some (V 7, [V 0, V 1, V 2, V 3, V 17, V 5, V 16])) (exs := [(V 8, [some (V 6)])]) (by kernel_rfl) (fun aq => by rw [show GH.id = 1160 from rfl, Nu]; rfl) Sv fun aq e h1 h2 h3 => by
  rw [show GH.id = 1160 from rfl, Nu] at h2 ⊢
  exact Sw aq e h1 h2 h3
noncomputable def Ou : Ctx := { Aw := Aw, eqs := eqs, fns := fun f => look f DT, ctr := [(22, Cu), (21, BQ)], lim := 30, big := [], lps := [GH] }
theorem L0 : XL Try.prog T Ou where
 Aw := Be
 eqs := Bo
 mixed := mixed
 ctr := Ap ⟨⟨rfl, G3⟩, ⟨rfl, Da⟩, trivial⟩
 fns := Az E4
 big := Aq trivial
 lps := C4 ⟨Us, trivial⟩
theorem G5 : OW Try.prog T Du := Vw L0 AS (g := Fu) (ls := [V 22, V 20, V 21]) (by kernel_rfl) fun aq e h1 h2 h3 => by
 subst h1
 rw [show Du.f = 10 from rfl, WY] at h2 ⊢
 obtain ⟨ho, hr⟩ := K6 e h3 h2
 obtain ⟨r0, r1, r2⟩ := hr
 refine ⟨⟨ho.1, ho.2.1, ho.2.2.1, ho.2.2.2, trivial⟩, ?_⟩
 exact ⟨_, _, _, _, _, _, rfl, rfl, r0, r1, ⟨[_], _, [_], _, rfl, rfl, rfl, rfl, (Rg r2 rfl), ⟨rfl, rfl⟩⟩⟩
def DI : Iy := { f := 7, ps := [.lst [.int .i64], .c true [.int .i64, .int .i64]], rs := [(false, [.int .i64])], ok := fun _ => true }
noncomputable def FA : List (Nat × Func) := [(7, Try.f7), (19, Try.f19), (20, Try.f20)]
theorem Ha : Bb Try.prog FA := ⟨YS, Ya, YT, trivial⟩
noncomputable def IT : Ctx := { Aw := Aw, eqs := eqs, fns := fun f => look f FA, ctr := [(19, Dc)], lim := 30, big := [], lps := [], muts := [(20, Fz)] }
theorem L7 : XL Try.prog T IT where
 Aw := Be
 eqs := Bo
 mixed := mixed
 ctr := Ap ⟨⟨rfl, H2⟩, trivial⟩
 fns := Az Ha
 big := Aq trivial
 lps := AX rfl
 muts := KQ ⟨⟨rfl, G9⟩, trivial⟩
theorem Uy : ∀ fn body c, IT.fns GJ.f = some fn → fn.body = some body → CO GJ.p body = some (.loop c) → BN Try.prog T GJ c :=
 D8 L7 AS (g := Kf) (back := some (V 7, [V 0, V 1, V 2, V 27, V 29, V 5, V 28])) (exs := [(V 8, [some (V 3), some (V 6)])]) (by kernel_rfl) (fun aq => by rw [show GJ.id = 1180 from rfl, Nw]; rfl) Sz fun aq e h1 h2 h3 => by
  rw [show GJ.id = 1180 from rfl, Nw] at h2 ⊢
  exact SA aq e h1 h2 h3
noncomputable def RB : Ctx := { Aw := Aw, eqs := eqs, fns := fun f => look f FA, ctr := [(19, Dc)], lim := 30, big := [], lps := [GJ], muts := [(20, Fz)] }
theorem Oy : XL Try.prog T RB where
 Aw := Be
 eqs := Bo
 mixed := mixed
 ctr := Ap ⟨⟨rfl, H2⟩, trivial⟩
 fns := Az Ha
 big := Aq trivial
 lps := C4 ⟨Uy, trivial⟩
 muts := KQ ⟨⟨rfl, G9⟩, trivial⟩
theorem IU : BV Try.prog T DI := BF Oy AS (g := HX) (ls := [V 18]) (by kernel_rfl) (fun aq => by rw [show DI.f = 7 from rfl, Yo]; rfl) fun aq e h1 h2 h3 => by
 subst h1
 rw [show DI.f = 7 from rfl, Yo] at h2 ⊢
 obtain ⟨ho, hr⟩ := NM e h3 h2
 have r0 := hr
 refine ⟨⟨ho.1, ho.2.1, ho.2.2.1, ho.2.2.2, trivial⟩, ?_⟩
 show Af [.int .i64] (Yz _).2 = Af [.int .i64] [L.ev e (V 18)]
 exact (Rg r0 rfl)
end Rx.S
