import Derived.Test.YtngghkhjejkelabMXe
import Derived.Test.YtngghkhjejkelabMXconf
import Derived.Test.YtngghkhjejkelabMXring
import Derived.Test.YtngghkhjejkelabMXtally
import Derived.Test.YtngghkhjejkelabMYvote
set_option linter.unusedVariables false
set_option linter.unusedSimpArgs false
namespace Rx.S
open Go Rx Go.Proofs
set_option maxRecDepth 100000
set_option maxHeartbeats 4000000
def Ey : DR := { f := 30, ps := [.c false [.int .i64], .c true [.int .i64, .int .i64, .int .i64, .int .i64, .int .i64, .int .i64, .int .i64, .int .i64, .int .i64, .int .i64, .int .i64, .int .i64]], rs := [(true, [.int .i64, .int .i64, .int .i64, .int .i64, .int .i64, .int .i64, .int .i64, .int .i64, .int .i64, .int .i64, .int .i64, .int .i64]), (false, [.int .i64])], ok := fun _ => true }
noncomputable def KS : List (Nat × Func) := [(30, Try.f30), (43, Try.f43), (34, Try.f34), (40, Try.f40), (49, Try.f49), (50, Try.f50)]
theorem O3 : AG Try.prog KS := ⟨Ago, Agq, Ag9, ZN, Ahl, Ahm, trivial⟩
noncomputable def Xb : Ctx := { At := At, eqs := eqs, fns := fun f => look f KS, ctr := [(49, ER), (50, IS), (43, DD), (40, Bz)], lim := 30, big := [], lps := [] }
theorem Tr : XL Try.prog T Xb where
 At := AL
 eqs := AP
 mixed := mixed
 ctr := Af ⟨⟨rfl, Qq⟩, ⟨rfl, W7⟩, ⟨rfl, Gs⟩, ⟨rfl, BL⟩, trivial⟩
 fns := Am O3
 big := Ag trivial
 lps := Ax rfl
theorem KT : A2 Try.prog T Ey := AR Tr Aw (g := IQ) (ls := [V 114, V 115, V 116, V 117, V 118, V 119, V 120, V 121, V 122, V 123, V 124, V 125, V 101]) (by kernel_rfl) (fun aq => by rw [show Ey.f = 30 from rfl, Ad2]; rfl) fun aq e h1 h2 h3 => by
 subst h1
 rw [show Ey.f = 30 from rfl, Ad2] at h2 ⊢
 obtain ⟨ho, hr⟩ := Qo e h3 _ rfl _ rfl h2
 obtain ⟨r0, r1, r2, r3, r4, r5, r6, r7, r8, r9, r10, r11, r12⟩ := hr
 refine ⟨⟨ho.1, ho.2.1, ho.2.2.1, ho.2.2.2.1, ho.2.2.2.2.1, ho.2.2.2.2.2.1, ho.2.2.2.2.2.2.1, ho.2.2.2.2.2.2.2.1, ho.2.2.2.2.2.2.2.2.1, ho.2.2.2.2.2.2.2.2.2.1, ho.2.2.2.2.2.2.2.2.2.2.1, ho.2.2.2.2.2.2.2.2.2.2.2.1, ho.2.2.2.2.2.2.2.2.2.2.2.2.1, ho.2.2.2.2.2.2.2.2.2.2.2.2.2.1, ho.2.2.2.2.2.2.2.2.2.2.2.2.2.2, trivial⟩, ?_⟩
 show Aa [.int .i64, .int .i64, .int .i64, .int .i64, .int .i64, .int .i64, .int .i64, .int .i64, .int .i64, .int .i64, .int .i64, .int .i64, .int .i64] (Afl _).2 = Aa [.int .i64, .int .i64, .int .i64, .int .i64, .int .i64, .int .i64, .int .i64, .int .i64, .int .i64, .int .i64, .int .i64, .int .i64, .int .i64] [L.ev e (V 114), L.ev e (V 115), L.ev e (V 116), L.ev e (V 117), L.ev e (V 118), L.ev e (V 119), L.ev e (V 120), L.ev e (V 121), L.ev e (V 122), L.ev e (V 123), L.ev e (V 124), L.ev e (V 125), L.ev e (V 101)]
 exact (Ab r0 (Ab r1 (Ab r2 (Ab r3 (Ab r4 (Ab r5 (Ab r6 (Ab r7 (Ab r8 (Ab r9 (Ab r10 (Ab r11 (Ab r12 rfl)))))))))))))
def BM : DR := { f := 25, ps := [.c false [.int .i64], .c true [.int .i64, .int .i64, .int .i64, .int .i64, .int .i64, .int .i64, .int .i64, .int .i64, .int .i64, .int .i64, .int .i64, .int .i64]], rs := [(false, [.bool])], ok := fun _ => true }
noncomputable def KU : List (Nat × Func) := [(25, Try.f25), (30, Try.f30)]
theorem O4 : AG Try.prog KU := ⟨ZM, Ago, trivial⟩
noncomputable def Xc : Ctx := { At := At, eqs := eqs, fns := fun f => look f KU, ctr := [(30, Ey)], lim := 30, big := [], lps := [] }
theorem Tt : XL Try.prog T Xc where
 At := AL
 eqs := AP
 mixed := mixed
 ctr := Af ⟨⟨rfl, KT⟩, trivial⟩
 fns := Am O4
 big := Ag trivial
 lps := Ax rfl
theorem B1 : A2 Try.prog T BM := AR Tt Aw (g := IP) (ls := [V 51]) (by kernel_rfl) (fun aq => by rw [show BM.f = 25 from rfl, Ad3]; rfl) fun aq e h1 h2 h3 => by
 subst h1
 rw [show BM.f = 25 from rfl, Ad3] at h2 ⊢
 obtain ⟨ho, hr⟩ := Qn e h3 _ rfl h2
 have r0 := hr
 refine ⟨⟨ho, trivial⟩, ?_⟩
 show Aa [.bool] (Afm _).2 = Aa [.bool] [L.ev e (V 51)]
 exact (Uz r0 rfl)
def GX : DR := { f := 21, ps := [.c false [.int .i64], .c true [.int .i64, .int .i64, .int .i64, .int .i64, .int .i64, .int .i64, .int .i64, .int .i64, .int .i64, .int .i64, .int .i64, .int .i64]], rs := [(true, [.int .i64, .int .i64, .int .i64, .int .i64, .int .i64, .int .i64, .int .i64, .int .i64, .int .i64, .int .i64, .int .i64, .int .i64]), (false, [.int .i64])], ok := fun _ => true }
noncomputable def Mj : List (Nat × Func) := [(21, Try.f21), (25, Try.f25), (33, Try.f33), (34, Try.f34), (40, Try.f40), (35, Try.f35), (36, Try.f36)]
theorem Qw : AG Try.prog Mj := ⟨AgZ, ZM, Ag8, Ag9, ZN, Aha, Ahb, trivial⟩
noncomputable def YL : Ctx := { At := At, eqs := eqs, fns := fun f => look f Mj, ctr := [(35, IW), (33, FM), (36, GW), (40, Bz), (25, BM)], lim := 30, big := [], lps := [] }
theorem UR : XL Try.prog T YL where
 At := AL
 eqs := AP
 mixed := mixed
 ctr := Af ⟨⟨rfl, Xe⟩, ⟨rfl, Tz⟩, ⟨rfl, UQ⟩, ⟨rfl, BL⟩, ⟨rfl, B1⟩, trivial⟩
 fns := Am Qw
 big := Ag trivial
 lps := Ax rfl
theorem US : A2 Try.prog T GX := AR UR Aw (g := KW) (ls := [V 113, V 114, V 115, V 116, V 117, V 118, V 119, V 120, V 121, V 122, V 123, V 124, V 101]) (by kernel_rfl) (fun aq => by rw [show GX.f = 21 from rfl, Ad4]; rfl) fun aq e h1 h2 h3 => by
 subst h1
 rw [show GX.f = 21 from rfl, Ad4] at h2 ⊢
 obtain ⟨ho, hr⟩ := Tv e h3 _ rfl _ rfl h2
 obtain ⟨r0, r1, r2, r3, r4, r5, r6, r7, r8, r9, r10, r11, r12⟩ := hr
 refine ⟨⟨ho.1, ho.2.1, ho.2.2.1, ho.2.2.2.1, ho.2.2.2.2.1, ho.2.2.2.2.2.1, ho.2.2.2.2.2.2.1, ho.2.2.2.2.2.2.2.1, ho.2.2.2.2.2.2.2.2.1, ho.2.2.2.2.2.2.2.2.2.1, ho.2.2.2.2.2.2.2.2.2.2.1, ho.2.2.2.2.2.2.2.2.2.2.2.1, ho.2.2.2.2.2.2.2.2.2.2.2.2.1, ho.2.2.2.2.2.2.2.2.2.2.2.2.2.1, ho.2.2.2.2.2.2.2.2.2.2.2.2.2.2, trivial⟩, ?_⟩
 show Aa [.int .i64, .int .i64, .int .i64, .int .i64, .int .i64, .int .i64, .int .i64, .int .i64, .int .i64, .int .i64, .int .i64, .int .i64, .int .i64] (Afn _).2 = Aa [.int .i64, .int .i64, .int .i64, .int .i64, .int .i64, .int .i64, .int .i64, .int .i64, .int .i64, .int .i64, .int .i64, .int .i64, .int .i64] [L.ev e (V 113), L.ev e (V 114), L.ev e (V 115), L.ev e (V 116), L.ev e (V 117), L.ev e (V 118), L.ev e (V 119), L.ev e (V 120), L.ev e (V 121), L.ev e (V 122), L.ev e (V 123), L.ev e (V 124), L.ev e (V 101)]
 exact (Ab r0 (Ab r1 (Ab r2 (Ab r3 (Ab r4 (Ab r5 (Ab r6 (Ab r7 (Ab r8 (Ab r9 (Ab r10 (Ab r11 (Ab r12 rfl)))))))))))))
def Db : XG := { f := 53, ps := [.c false [.int .i64], .c true [.int .i64, .int .i64, .int .i64, .int .i64, .int .i64, .int .i64, .int .i64, .int .i64, .int .i64, .int .i64, .int .i64, .int .i64]], rs := [.lst [.int .i64] 3], ok := fun _ => true, w := 3 }
noncomputable def Fl : List (Nat × Func) := [(53, Try.f53), (66, Try.f66), (40, Try.f40)]
theorem GY : AG Try.prog Fl := ⟨Agr, Aht, ZN, trivial⟩
noncomputable def JJ : Ctx := { At := At, eqs := eqs, fns := fun f => look f Fl, ctr := [(66, H9), (40, Bz)], lim := 30, big := [], lps := [] }
theorem NM : XL Try.prog T JJ where
 At := AL
 eqs := AP
 mixed := mixed
 ctr := Af ⟨⟨rfl, P8⟩, ⟨rfl, BL⟩, trivial⟩
 fns := Am GY
 big := Ag trivial
 lps := Ax rfl
theorem Acl : ∀ fn body c, JJ.fns IZ.f = some fn → fn.body = some body → CK IZ.p body = some (.loop c) → BT Try.prog T IZ c :=
 CB NM Aw (g := NL) (back := some (V 73, [V 0, V 1, V 2, V 3, V 4, V 5, V 6, V 7, V 8, V 9, V 10, V 11, V 12, V 71, V 69])) (exs := [(V 74, [some (V 14)])]) (by kernel_rfl) (fun aq => by rw [show IZ.id = 1540 from rfl, SU]; rfl) Z3 fun aq e h1 h2 h3 => by
  rw [show IZ.id = 1540 from rfl, SU] at h2 ⊢
  exact Z4 aq e h1 h2 h3
noncomputable def UU : Ctx := { At := At, eqs := eqs, fns := fun f => look f Fl, ctr := [(66, H9), (40, Bz)], lim := 30, big := [], lps := [IZ] }
theorem Qy : XL Try.prog T UU where
 At := AL
 eqs := AP
 mixed := mixed
 ctr := Af ⟨⟨rfl, P8⟩, ⟨rfl, BL⟩, trivial⟩
 fns := Am GY
 big := Ag trivial
 lps := BY ⟨Acl, trivial⟩
theorem DW : Nm Try.prog T Db := Sv Qy Aw (g := Hp) (ls := [V 18, V 0]) (by kernel_rfl) fun aq e h1 h2 h3 => by
 subst h1
 rw [show Db.f = 53 from rfl, AfQ] at h2 ⊢
 obtain ⟨ho, hr⟩ := O7 e h3 _ rfl h2
 obtain ⟨r0, r1⟩ := hr
 refine ⟨⟨ho.1, ho.2, trivial⟩, ?_⟩
 exact ⟨_, _, _, _, _, _, rfl, rfl, r0, r1, ⟨rfl, rfl⟩⟩
def FN : DR := { f := 38, ps := [.c false [.int .i64], .c true [.int .i64, .int .i64, .int .i64, .int .i64, .int .i64, .int .i64, .int .i64, .int .i64, .int .i64, .int .i64, .int .i64, .int .i64], .c false [.int .i64]], rs := [(false, [.int .i64])], ok := fun _ => true }
noncomputable def KZ : List (Nat × Func) := [(38, Try.f38), (25, Try.f25), (53, Try.f53)]
theorem O9 : AG Try.prog KZ := ⟨Ahc, ZM, Agr, trivial⟩
noncomputable def Xh : Ctx := { At := At, eqs := eqs, fns := fun f => look f KZ, ctr := [(25, BM)], lim := 30, big := [(53, Db)], lps := [] }
theorem TB : XL Try.prog T Xh where
 At := AL
 eqs := AP
 mixed := mixed
 ctr := Af ⟨⟨rfl, B1⟩, trivial⟩
 fns := Am O9
 big := Ag ⟨⟨rfl, DW⟩, trivial⟩
 lps := Ax rfl
theorem TC : A2 Try.prog T FN := AR TB Aw (g := IY) (ls := [V 34]) (by kernel_rfl) (fun aq => by rw [show FN.f = 38 from rfl, Aec]; rfl) fun aq e h1 h2 h3 => by
 subst h1
 rw [show FN.f = 38 from rfl, Aec] at h2 ⊢
 obtain ⟨ho, hr⟩ := Qx e h3 _ rfl h2
 have r0 := hr
 refine ⟨⟨ho.1, ho.2.1, ho.2.2, trivial⟩, ?_⟩
 show Aa [.int .i64] (Afv _).2 = Aa [.int .i64] [L.ev e (V 34)]
 exact (Ab r0 rfl)
def G0 : DR := { f := 39, ps := [.c false [.int .i64], .c true [.int .i64, .int .i64, .int .i64, .int .i64, .int .i64, .int .i64, .int .i64, .int .i64, .int .i64, .int .i64, .int .i64, .int .i64]], rs := [(false, [.int .i64]), (false, [.int .i64])], ok := fun _ => true }
noncomputable def ET : List (Nat × Func) := [(39, Try.f39), (25, Try.f25), (53, Try.f53), (54, Try.f54), (55, Try.f55)]
theorem Fm : AG Try.prog ET := ⟨Ahd, ZM, Agr, AhO, AhP, trivial⟩
noncomputable def Mk : Ctx := { At := At, eqs := eqs, fns := fun f => look f ET, ctr := [(25, BM)], lim := 30, big := [(53, Db)], lps := [] }
theorem Qz : XL Try.prog T Mk where
 At := AL
 eqs := AP
 mixed := mixed
 ctr := Af ⟨⟨rfl, B1⟩, trivial⟩
 fns := Am Fm
 big := Ag ⟨⟨rfl, DW⟩, trivial⟩
 lps := Ax rfl
theorem V7 : ∀ fn body c, Mk.fns GZ.f = some fn → fn.body = some body → CK GZ.p body = some (.loop c) → BT Try.prog T GZ c :=
 CB Qz Aw (g := NN) (back := some (V 18, [V 0, V 24, V 25, V 3, V 4, V 5, V 6, V 7, V 8, V 9, V 10, V 11, V 12, V 13, V 14, V 15, V 16, V 17])) (exs := [(V 19, [some (V 1)])]) (by kernel_rfl) (fun aq => by rw [show GZ.id = 1560 from rfl, SW]; rfl) Z5 fun aq e h1 h2 h3 => by
  rw [show GZ.id = 1560 from rfl, SW] at h2 ⊢
  exact Z6 aq e h1 h2 h3
noncomputable def Ml : Ctx := { At := At, eqs := eqs, fns := fun f => look f ET, ctr := [(25, BM)], lim := 30, big := [(53, Db)], lps := [GZ] }
theorem QA : XL Try.prog T Ml where
 At := AL
 eqs := AP
 mixed := mixed
 ctr := Af ⟨⟨rfl, B1⟩, trivial⟩
 fns := Am Fm
 big := Ag ⟨⟨rfl, DW⟩, trivial⟩
 lps := BY ⟨V7, trivial⟩
theorem Acm : ∀ fn body c, Ml.fns I0.f = some fn → fn.body = some body → CK I0.p body = some (.loop c) → BT Try.prog T I0 c :=
 CB QA Aw (g := NO) (back := some (V 31, [V 0, V 1, V 28, V 3, V 4, V 5, V 6, V 7, V 8, V 9, V 10, V 11, V 12, V 13, V 14, V 15])) (exs := [(V 32, [some (V 2), some (B true), none]), (V 17, [none, none, some (B true)])]) (by kernel_rfl) (fun aq => by rw [show I0.id = 1561 from rfl, SX]; rfl) Z7 fun aq e h1 h2 h3 => by
  rw [show I0.id = 1561 from rfl, SX] at h2 ⊢
  exact Z8 aq e h1 h2 h3
noncomputable def YQ : Ctx := { At := At, eqs := eqs, fns := fun f => look f ET, ctr := [(25, BM)], lim := 30, big := [(53, Db)], lps := [GZ, I0] }
theorem UW : XL Try.prog T YQ where
 At := AL
 eqs := AP
 mixed := mixed
 ctr := Af ⟨⟨rfl, B1⟩, trivial⟩
 fns := Am Fm
 big := Ag ⟨⟨rfl, DW⟩, trivial⟩
 lps := BY ⟨V7, Acm, trivial⟩
theorem UX : A2 Try.prog T G0 := AR UW Aw (g := K0) (ls := [V 46, V 47]) (by kernel_rfl) (fun aq => by rw [show G0.f = 39 from rfl, Aed]; rfl) fun aq e h1 h2 h3 => by
 subst h1
 rw [show G0.f = 39 from rfl, Aed] at h2 ⊢
 obtain ⟨ho, hr⟩ := TD e h3 _ rfl h2
 obtain ⟨r0, r1⟩ := hr
 refine ⟨⟨ho.1, ho.2.1, ho.2.2.1, ho.2.2.2.1, ho.2.2.2.2.1, ho.2.2.2.2.2.1, ho.2.2.2.2.2.2, trivial⟩, ?_⟩
 show Aa [.int .i64, .int .i64] (Afw _).2 = Aa [.int .i64, .int .i64] [L.ev e (V 46), L.ev e (V 47)]
 exact (Ab r0 (Ab r1 rfl))
end Rx.S
