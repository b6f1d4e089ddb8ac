import Derived.Test.YtkdhdjcngafocaaPXe
import Derived.Test.YtkdhdjcngafocaaPXconf
import Derived.Test.YtkdhdjcngafocaaPXfault
import Derived.Test.YtkdhdjcngafocaaPXtally
import Derived.Test.YtkdhdjcngafocaaPYref16
set_option linter.unusedVariables false
set_option linter.unusedSimpArgs false
namespace Rx.S
open Go Rx Go.Proofs
set_option maxRecDepth 100000
set_option maxHeartbeats 4000000
def Ch : Iy := { f := 15, ps := [.lst [.int .i64], .c false [.int .i64], .c false [.int .i64]], rs := [(false, [.bool])], ok := fun _ => true }
noncomputable def JZ : List (Nat × Func) := [(15, Try.f15)]
theorem NG : Bb Try.prog JZ := ⟨Wx, trivial⟩
noncomputable def Sn : Ctx := { Aw := Aw, eqs := eqs, fns := fun f => look f JZ, ctr := [], lim := 30, big := [], lps := [] }
theorem Qm : XL Try.prog T Sn where
 Aw := Be
 eqs := Bo
 mixed := mixed
 ctr := Ap trivial
 fns := Az NG
 big := Aq trivial
 lps := AX rfl
theorem C9 : BV Try.prog T Ch := BF Qm AS (g := Jm) (ls := [V 12]) (by kernel_rfl) (fun aq => by rw [show Ch.f = 15 from rfl, VW]; rfl) fun aq e h1 h2 h3 => by
 subst h1
 rw [show Ch.f = 15 from rfl, VW] at h2 ⊢
 obtain ⟨ho, hr⟩ := Ol e h3 h2
 have r0 := hr
 refine ⟨⟨ho, trivial⟩, ?_⟩
 show Af [.bool] (WR _).2 = Af [.bool] [L.ev e (V 12)]
 exact (JQ r0 rfl)
def Dr : Iy := { f := 17, ps := [.lst [.int .i64], .c false [.int .i64], .c false [.int .i64]], rs := [(false, [.int .i64])], ok := fun _ => true }
noncomputable def GY : List (Nat × Func) := [(17, Try.f17), (15, Try.f15)]
theorem J0 : Bb Try.prog GY := ⟨X8, Wx, trivial⟩
noncomputable def Om : Ctx := { Aw := Aw, eqs := eqs, fns := fun f => look f GY, ctr := [(15, Ch)], lim := 30, big := [], lps := [] }
theorem LN : XL Try.prog T Om where
 Aw := Be
 eqs := Bo
 mixed := mixed
 ctr := Ap ⟨⟨rfl, C9⟩, trivial⟩
 fns := Az J0
 big := Aq trivial
 lps := AX rfl
theorem LO : BV Try.prog T Dr := BF LN AS (g := Fp) (ls := [V 15]) (by kernel_rfl) (fun aq => by rw [show Dr.f = 17 from rfl, VX]; rfl) fun aq e h1 h2 h3 => by
 subst h1
 rw [show Dr.f = 17 from rfl, VX] at h2 ⊢
 obtain ⟨ho, hr⟩ := KX e h3 h2
 have r0 := hr
 refine ⟨⟨ho.1, ho.2, trivial⟩, ?_⟩
 show Af [.int .i64] (WS _).2 = Af [.int .i64] [L.ev e (V 15)]
 exact (Rg r0 rfl)
def Dt : Iy := { f := 14, ps := [.c false [.int .i64], .lst [.int .i64]], rs := [(false, [.bool])], ok := fun _ => true }
noncomputable def DS : List (Nat × Func) := [(14, Try.f14), (23, Try.f23)]
theorem E3 : Bb Try.prog DS := ⟨X6, Xy, trivial⟩
noncomputable def G1 : Ctx := { Aw := Aw, eqs := eqs, fns := fun f => look f DS, ctr := [(23, BA)], lim := 30, big := [], lps := [] }
theorem J6 : XL Try.prog T G1 where
 Aw := Be
 eqs := Bo
 mixed := mixed
 ctr := Ap ⟨⟨rfl, Cx⟩, trivial⟩
 fns := Az E3
 big := Aq trivial
 lps := AX rfl
theorem Uq : ∀ fn body c, G1.fns GF.f = some fn → fn.body = some body → CO GF.p body = some (.loop c) → BN Try.prog T GF c :=
 D8 J6 AS (g := J4) (back := some (V 24, [V 0, V 1, V 21, V 3])) (exs := [(V 25, [some (B true), none]), (V 5, [none, some (B true)])]) (by kernel_rfl) (fun aq => by rw [show GF.id = 1140 from rfl, Ns]; rfl) Sq fun aq e h1 h2 h3 => by
  rw [show GF.id = 1140 from rfl, Ns] at h2 ⊢
  exact Sr aq e h1 h2 h3
noncomputable def Oq : Ctx := { Aw := Aw, eqs := eqs, fns := fun f => look f DS, ctr := [(23, BA)], lim := 30, big := [], lps := [GF] }
theorem LX : XL Try.prog T Oq where
 Aw := Be
 eqs := Bo
 mixed := mixed
 ctr := Ap ⟨⟨rfl, Cx⟩, trivial⟩
 fns := Az E3
 big := Aq trivial
 lps := C4 ⟨Uq, trivial⟩
theorem LY : BV Try.prog T Dt := BF LX AS (g := Fs) (ls := [V 15]) (by kernel_rfl) (fun aq => by rw [show Dt.f = 14 from rfl, VZ]; rfl) fun aq e h1 h2 h3 => by
 subst h1
 rw [show Dt.f = 14 from rfl, VZ] at h2 ⊢
 obtain ⟨ho, hr⟩ := K2 e h3 h2
 have r0 := hr
 refine ⟨⟨ho.1, ho.2.1, ho.2.2, trivial⟩, ?_⟩
 show Af [.bool] (WU _).2 = Af [.bool] [L.ev e (V 15)]
 exact (JQ r0 rfl)
def Db : Iy := { f := 16, ps := [.lst [.int .i64]], rs := [(false, [.bool])], ok := fun _ => true }
noncomputable def Dj : List (Nat × Func) := [(16, Try.f16)]
theorem EF : Bb Try.prog Dj := ⟨X7, trivial⟩
noncomputable def F3 : Ctx := { Aw := Aw, eqs := eqs, fns := fun f => look f Dj, ctr := [], lim := 30, big := [], lps := [] }
theorem Jo : XL Try.prog T F3 where
 Aw := Be
 eqs := Bo
 mixed := mixed
 ctr := Ap trivial
 fns := Az EF
 big := Aq trivial
 lps := AX rfl
theorem Ur : ∀ fn body c, F3.fns GG.f = some fn → fn.body = some body → CO GG.p body = some (.loop c) → BN Try.prog T GG c :=
 D8 Jo AS (g := J7) (back := some (V 23, [V 0, V 20, V 2])) (exs := [(V 24, [some (B true), none]), (V 4, [none, some (B true)])]) (by kernel_rfl) (fun aq => by rw [show GG.id = 1150 from rfl, Nt]; rfl) Ss fun aq e h1 h2 h3 => by
  rw [show GG.id = 1150 from rfl, Nt] at h2 ⊢
  exact Su aq e h1 h2 h3
noncomputable def NL : Ctx := { Aw := Aw, eqs := eqs, fns := fun f => look f Dj, ctr := [], lim := 30, big := [], lps := [GG] }
theorem K4 : XL Try.prog T NL where
 Aw := Be
 eqs := Bo
 mixed := mixed
 ctr := Ap trivial
 fns := Az EF
 big := Aq trivial
 lps := C4 ⟨Ur, trivial⟩
theorem K5 : BV Try.prog T Db := BF K4 AS (g := EE) (ls := [V 8]) (by kernel_rfl) (fun aq => by rw [show Db.f = 16 from rfl, V0]; rfl) fun aq e h1 h2 h3 => by
 subst h1
 rw [show Db.f = 16 from rfl, V0] at h2 ⊢
 obtain ⟨ho, hr⟩ := J8 e h3 h2
 have r0 := hr
 refine ⟨⟨ho.1, ho.2, trivial⟩, ?_⟩
 show Af [.bool] (WV _).2 = Af [.bool] [L.ev e (V 8)]
 exact (JQ r0 rfl)
def Fy : SK := { f := 11, ps := [.c false [.int .i64], .lst [.int .i64]], rs := [.lst [.int .i64] 3, .c false [.int .i64]], ok := fun _ => true, w := 4 }
noncomputable def DU : List (Nat × Func) := [(11, Try.f11), (23, Try.f23), (24, Try.f24)]
theorem E5 : Bb Try.prog DU := ⟨X4, Xy, Yc, trivial⟩
noncomputable def G8 : Ctx := { Aw := Aw, eqs := eqs, fns := fun f => look f DU, ctr := [(24, Cv), (23, BA)], lim := 30, big := [], lps := [] }
theorem Ke : XL Try.prog T G8 where
 Aw := Be
 eqs := Bo
 mixed := mixed
 ctr := Ap ⟨⟨rfl, G7⟩, ⟨rfl, Cx⟩, trivial⟩
 fns := Az E5
 big := Aq trivial
 lps := AX rfl
theorem Ut : ∀ fn body c, G8.fns GI.f = some fn → fn.body = some body → CO GI.p body = some (.loop c) → BN Try.prog T GI c :=
 D8 Ke AS (g := Kc) (back := some (V 9, [V 0, V 1, V 21, V 3, V 4, V 5, V 20])) (exs := [(V 10, [some (V 6)])]) (by kernel_rfl) (fun aq => by rw [show GI.id = 1170 from rfl, Nv]; rfl) Sx fun aq e h1 h2 h3 => by
  rw [show GI.id = 1170 from rfl, Nv] at h2 ⊢
  exact Sy aq e h1 h2 h3
noncomputable def Ow : Ctx := { Aw := Aw, eqs := eqs, fns := fun f => look f DU, ctr := [(24, Cv), (23, BA)], lim := 30, big := [], lps := [GI] }
theorem L3 : XL Try.prog T Ow where
 Aw := Be
 eqs := Bo
 mixed := mixed
 ctr := Ap ⟨⟨rfl, G7⟩, ⟨rfl, Cx⟩, trivial⟩
 fns := Az E5
 big := Aq trivial
 lps := C4 ⟨Ut, trivial⟩
theorem L4 : OW Try.prog T Fy := Vw L3 AS (g := Fw) (ls := [V 18, V 16, V 17]) (by kernel_rfl) fun aq e h1 h2 h3 => by
 subst h1
 rw [show Fy.f = 11 from rfl, WZ] at h2 ⊢
 obtain ⟨ho, hr⟩ := K8 e h3 h2
 obtain ⟨r0, r1, r2⟩ := hr
 refine ⟨⟨ho.1, ho.2.1, ho.2.2, trivial⟩, ?_⟩
 exact ⟨_, _, _, _, _, _, rfl, rfl, r0, r1, ⟨[_], _, [_], _, rfl, rfl, rfl, rfl, (Rg r2 rfl), ⟨rfl, rfl⟩⟩⟩
def E7 : Iy := { f := 18, ps := [.lst [.int .i64], .c true [.int .i64, .int .i64]], rs := [(false, [.int .i64])], ok := fun _ => true }
noncomputable def Dv : List (Nat × Func) := [(18, Try.f18), (15, Try.f15), (28, Try.f28)]
theorem DV : Bb Try.prog Dv := ⟨X9, Wx, Yf, trivial⟩
noncomputable def IV : Ctx := { Aw := Aw, eqs := eqs, fns := fun f => look f Dv, ctr := [(28, Co), (15, Ch)], lim := 30, big := [], lps := [] }
theorem L9 : XL Try.prog T IV where
 Aw := Be
 eqs := Bo
 mixed := mixed
 ctr := Ap ⟨⟨rfl, EG⟩, ⟨rfl, C9⟩, trivial⟩
 fns := Az DV
 big := Aq trivial
 lps := AX rfl
theorem Pp : ∀ fn body c, IV.fns E6.f = some fn → fn.body = some body → CO E6.p body = some (.loop c) → BN Try.prog T E6 c :=
 D8 L9 AS (g := Ki) (back := some (V 11, [V 0, V 1, V 2, V 3, V 4, V 26, V 27, V 7, V 8, V 9, V 10])) (exs := [(V 12, [some (V 5), some (V 6), some (V 6), some (V 11)])]) (by kernel_rfl) (fun aq => by rw [show E6.id = 1190 from rfl, Nx]; rfl) SE fun aq e h1 h2 h3 => by
  rw [show E6.id = 1190 from rfl, Nx] at h2 ⊢
  exact SF aq e h1 h2 h3
noncomputable def IW : Ctx := { Aw := Aw, eqs := eqs, fns := fun f => look f Dv, ctr := [(28, Co), (15, Ch)], lim := 30, big := [], lps := [E6] }
theorem Ma : XL Try.prog T IW where
 Aw := Be
 eqs := Bo
 mixed := mixed
 ctr := Ap ⟨⟨rfl, EG⟩, ⟨rfl, C9⟩, trivial⟩
 fns := Az DV
 big := Aq trivial
 lps := C4 ⟨Pp, trivial⟩
theorem Uz : ∀ fn body c, IW.fns GM.f = some fn → fn.body = some body → CO GM.p body = some (.loop c) → BN Try.prog T GM c :=
 D8 Ma AS (g := Kj) (back := some (V 22, [V 0, V 1, V 2, V 19, V 4])) (exs := [(V 23, [some (V 3), some (B true), none]), (V 6, [none, none, some (B true)])]) (by kernel_rfl) (fun aq => by rw [show GM.id = 1191 from rfl, Ny]; rfl) SG fun aq e h1 h2 h3 => by
  rw [show GM.id = 1191 from rfl, Ny] at h2 ⊢
  exact SH aq e h1 h2 h3
noncomputable def RE : Ctx := { Aw := Aw, eqs := eqs, fns := fun f => look f Dv, ctr := [(28, Co), (15, Ch)], lim := 30, big := [], lps := [E6, GM] }
theorem Oz : XL Try.prog T RE where
 Aw := Be
 eqs := Bo
 mixed := mixed
 ctr := Ap ⟨⟨rfl, EG⟩, ⟨rfl, C9⟩, trivial⟩
 fns := Az DV
 big := Aq trivial
 lps := C4 ⟨Pp, Uz, trivial⟩
theorem OA : BV Try.prog T E7 := BF Oz AS (g := H3) (ls := [V 11]) (by kernel_rfl) (fun aq => by rw [show E7.f = 18 from rfl, V1]; rfl) fun aq e h1 h2 h3 => by
 subst h1
 rw [show E7.f = 18 from rfl, V1] at h2 ⊢
 obtain ⟨ho, hr⟩ := NR e h3 h2
 have r0 := hr
 refine ⟨⟨ho.1, ho.2, trivial⟩, ?_⟩
 show Af [.int .i64] (WW _).2 = Af [.int .i64] [L.ev e (V 11)]
 exact (Rg r0 rfl)
end Rx.S
