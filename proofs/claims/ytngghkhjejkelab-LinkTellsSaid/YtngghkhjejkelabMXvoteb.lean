import Derived.Test.YtngghkhjejkelabMXe
import Derived.Test.YtngghkhjejkelabMXconf
import Derived.Test.YtngghkhjejkelabMXring
import Derived.Test.YtngghkhjejkelabMXtally
import Derived.Test.YtngghkhjejkelabMYvoteb
set_option linter.unusedVariables false
set_option linter.unusedSimpArgs false
namespace Rx.S
open Go Rx Go.Proofs
set_option maxRecDepth 100000
set_option maxHeartbeats 4000000
def Gu : DR := { f := 19, ps := [.c false [.int .i64], .c false [.int .i64]], rs := [(false, [.bool])], ok := fun _ => true }
noncomputable def NZ : List (Nat × Func) := [(19, Try.f19)]
theorem TR : AG Try.prog NZ := ⟨AgY, trivial⟩
noncomputable def Aal : Ctx := { At := At, eqs := eqs, fns := fun f => look f NZ, ctr := [], lim := 30, big := [], lps := [] }
theorem Xq : XL Try.prog T Aal where
 At := AL
 eqs := AP
 mixed := mixed
 ctr := Af trivial
 fns := Am TR
 big := Ag trivial
 lps := Ax rfl
theorem N0 : A2 Try.prog T Gu := AR Xq Aw (g := MV) (ls := [V 4]) (by kernel_rfl) (fun aq => by rw [show Gu.f = 19 from rfl, Ad5]; rfl) fun aq e h1 h2 h3 => by
 subst h1
 rw [show Gu.f = 19 from rfl, Ad5] at h2 ⊢
 obtain ⟨ho, hr⟩ := U7 e h3 h2
 have r0 := hr
 refine ⟨trivial, ?_⟩
 show Aa [.bool] (Afo _).2 = Aa [.bool] [L.ev e (V 4)]
 exact (Uz r0 rfl)
def A9 : DR := { f := 8, ps := [.c false [.int .i64], .c true [.int .i64, .int .i64, .int .i64, .int .i64, .int .i64, .int .i64, .int .i64, .int .i64, .int .i64, .int .i64, .int .i64, .int .i64]], rs := [(false, [.bool])], ok := fun _ => true }
noncomputable def Fo : List (Nat × Func) := [(8, Try.f8), (18, Try.f18), (19, Try.f19), (20, Try.f20)]
theorem G3 : AG Try.prog Fo := ⟨fn8, AbJ, AgY, Yp, trivial⟩
noncomputable def JQ : Ctx := { At := At, eqs := eqs, fns := fun f => look f Fo, ctr := [(18, Bv), (20, A6), (19, Gu)], lim := 30, big := [], lps := [] }
theorem N1 : XL Try.prog T JQ where
 At := AL
 eqs := AP
 mixed := mixed
 ctr := Af ⟨⟨rfl, BN⟩, ⟨rfl, A8⟩, ⟨rfl, N0⟩, trivial⟩
 fns := Am G3
 big := Ag trivial
 lps := Ax rfl
theorem Acr : ∀ fn body c, JQ.fns Jc.f = some fn → fn.body = some body → CK Jc.p body = some (.loop c) → BT Try.prog T Jc c :=
 CB N1 Aw (g := NV) (back := some (V 46, [V 0, V 1, V 2, V 3, V 4, V 5, V 6, V 7, V 8, V 9, V 10, V 11, V 12, V 43, V 14, V 15])) (exs := [(V 47, [some (B true), none]), (V 17, [none, some (B true)])]) (by kernel_rfl) (fun aq => by rw [show Jc.id = 1470 from rfl, SO]; rfl) Aaj fun aq e h1 h2 h3 => by
  rw [show Jc.id = 1470 from rfl, SO] at h2 ⊢
  exact Aak aq e h1 h2 h3
noncomputable def U8 : Ctx := { At := At, eqs := eqs, fns := fun f => look f Fo, ctr := [(18, Bv), (20, A6), (19, Gu)], lim := 30, big := [], lps := [Jc] }
theorem QQ : XL Try.prog T U8 where
 At := AL
 eqs := AP
 mixed := mixed
 ctr := Af ⟨⟨rfl, BN⟩, ⟨rfl, A8⟩, ⟨rfl, N0⟩, trivial⟩
 fns := Am G3
 big := Ag trivial
 lps := BY ⟨Acr, trivial⟩
theorem Bl : A2 Try.prog T A9 := AR QQ Aw (g := Hs) (ls := [V 56]) (by kernel_rfl) (fun aq => by rw [show A9.f = 8 from rfl, T_8]; rfl) fun aq e h1 h2 h3 => by
 subst h1
 rw [show A9.f = 8 from rfl, T_8] at h2 ⊢
 obtain ⟨ho, hr⟩ := Pg e h3 _ rfl h2
 have r0 := hr
 refine ⟨⟨ho.1, ho.2.1, ho.2.2.1, ho.2.2.2.1, ho.2.2.2.2.1, ho.2.2.2.2.2.1, ho.2.2.2.2.2.2.1, ho.2.2.2.2.2.2.2.1, ho.2.2.2.2.2.2.2.2, trivial⟩, ?_⟩
 show Aa [.bool] (t_8 _).2 = Aa [.bool] [L.ev e (V 56)]
 exact (Uz r0 rfl)
def FR : DR := { f := 45, ps := [.c false [.int .i64], .c true [.int .i64, .int .i64, .int .i64, .int .i64, .int .i64, .int .i64, .int .i64, .int .i64, .int .i64, .int .i64, .int .i64, .int .i64]], rs := [(true, [.int .i64, .int .i64, .int .i64, .int .i64, .int .i64, .int .i64, .int .i64, .int .i64, .int .i64, .int .i64, .int .i64, .int .i64]), (false, [.int .i64])], ok := fun _ => true }
noncomputable def Gy : List (Nat × Func) := [(45, Try.f45), (8, Try.f8), (60, Try.f60), (20, Try.f20), (61, Try.f61), (62, Try.f62)]
theorem Ib : AG Try.prog Gy := ⟨Ahh, fn8, Ahp, Yp, Ahq, Ahr, trivial⟩
noncomputable def Lh : Ctx := { At := At, eqs := eqs, fns := fun f => look f Gy, ctr := [(60, Gx), (61, EA), (62, EB), (20, A6), (8, A9)], lim := 30, big := [], lps := [] }
theorem Po : XL Try.prog T Lh where
 At := AL
 eqs := AP
 mixed := mixed
 ctr := Af ⟨⟨rfl, N5⟩, ⟨rfl, Ld⟩, ⟨rfl, Lg⟩, ⟨rfl, A8⟩, ⟨rfl, Bl⟩, trivial⟩
 fns := Am Ib
 big := Ag trivial
 lps := Ax rfl
theorem Acu : ∀ fn body c, Lh.fns Jg.f = some fn → fn.body = some body → CK Jg.p body = some (.loop c) → BT Try.prog T Jg c :=
 CB Po Aw (g := N3) (back := some (V 24, [V 0, V 1, V 2, V 3, V 4, V 5, V 6, V 7, V 8, V 9, V 10, V 11, V 12, V 42, V 14, V 15, V 34, V 35, V 36, V 37, V 38, V 39, V 40, V 41])) (exs := [(V 25, [some (V 16), some (V 17), some (V 18), some (V 19), some (V 20), some (V 21), some (V 22), some (V 23)])]) (by kernel_rfl) (fun aq => by rw [show Jg.id = 1500 from rfl, SQ]; rfl) Aao fun aq e h1 h2 h3 => by
  rw [show Jg.id = 1500 from rfl, SQ] at h2 ⊢
  exact Aap aq e h1 h2 h3
noncomputable def Xv : Ctx := { At := At, eqs := eqs, fns := fun f => look f Gy, ctr := [(60, Gx), (61, EA), (62, EB), (20, A6), (8, A9)], lim := 30, big := [], lps := [Jg] }
theorem TX : XL Try.prog T Xv where
 At := AL
 eqs := AP
 mixed := mixed
 ctr := Af ⟨⟨rfl, N5⟩, ⟨rfl, Ld⟩, ⟨rfl, Lg⟩, ⟨rfl, A8⟩, ⟨rfl, Bl⟩, trivial⟩
 fns := Am Ib
 big := Ag trivial
 lps := BY ⟨Acu, trivial⟩
theorem TY : A2 Try.prog T FR := AR TX Aw (g := Jh) (ls := [V 53, V 54, V 55, V 56, V 57, V 58, V 59, V 60, V 61, V 62, V 63, V 64, V 41]) (by kernel_rfl) (fun aq => by rw [show FR.f = 45 from rfl, Ad8]; rfl) fun aq e h1 h2 h3 => by
 subst h1
 rw [show FR.f = 45 from rfl, Ad8] at h2 ⊢
 obtain ⟨ho, hr⟩ := QT e h3 _ rfl _ rfl h2
 obtain ⟨r0, r1, r2, r3, r4, r5, r6, r7, r8, r9, r10, r11, r12⟩ := hr
 refine ⟨⟨ho.1, ho.2.1, ho.2.2.1, ho.2.2.2.1, ho.2.2.2.2.1, ho.2.2.2.2.2, trivial⟩, ?_⟩
 show Aa [.int .i64, .int .i64, .int .i64, .int .i64, .int .i64, .int .i64, .int .i64, .int .i64, .int .i64, .int .i64, .int .i64, .int .i64, .int .i64] (Afr _).2 = Aa [.int .i64, .int .i64, .int .i64, .int .i64, .int .i64, .int .i64, .int .i64, .int .i64, .int .i64, .int .i64, .int .i64, .int .i64, .int .i64] [L.ev e (V 53), L.ev e (V 54), L.ev e (V 55), L.ev e (V 56), L.ev e (V 57), L.ev e (V 58), L.ev e (V 59), L.ev e (V 60), L.ev e (V 61), L.ev e (V 62), L.ev e (V 63), L.ev e (V 64), L.ev e (V 41)]
 exact (Ab r0 (Ab r1 (Ab r2 (Ab r3 (Ab r4 (Ab r5 (Ab r6 (Ab r7 (Ab r8 (Ab r9 (Ab r10 (Ab r11 (Ab r12 rfl)))))))))))))
def DQ : DR := { f := 68, ps := [.c false [.int .i64], .c true [.int .i64, .int .i64, .int .i64, .int .i64, .int .i64, .int .i64, .int .i64, .int .i64, .int .i64, .int .i64, .int .i64, .int .i64], .c false [.int .i64], .c false [.int .i64]], rs := [(false, [.bool])], ok := fun _ => true }
noncomputable def JR : List (Nat × Func) := [(68, Try.f68), (69, Try.f69), (20, Try.f20)]
theorem N9 : AG Try.prog JR := ⟨Ahu, Ahv, Yp, trivial⟩
noncomputable def Vc : Ctx := { At := At, eqs := eqs, fns := fun f => look f JR, ctr := [(69, Jl), (20, A6)], lim := 30, big := [], lps := [] }
theorem QX : XL Try.prog T Vc where
 At := AL
 eqs := AP
 mixed := mixed
 ctr := Af ⟨⟨rfl, Xx⟩, ⟨rfl, A8⟩, trivial⟩
 fns := Am N9
 big := Ag trivial
 lps := Ax rfl
theorem JS : A2 Try.prog T DQ := AR QX Aw (g := Hy) (ls := [V 40]) (by kernel_rfl) (fun aq => by rw [show DQ.f = 68 from rfl, Ad9]; rfl) fun aq e h1 h2 h3 => by
 subst h1
 rw [show DQ.f = 68 from rfl, Ad9] at h2 ⊢
 obtain ⟨ho, hr⟩ := Pq e h3 _ rfl h2
 have r0 := hr
 refine ⟨⟨ho.1, ho.2.1, ho.2.2.1, ho.2.2.2.1, ho.2.2.2.2, trivial⟩, ?_⟩
 show Aa [.bool] (Afs _).2 = Aa [.bool] [L.ev e (V 40)]
 exact (Uz r0 rfl)
def Dc : DR := { f := 65, ps := [.c false [.int .i64], .c true [.int .i64, .int .i64, .int .i64, .int .i64, .int .i64, .int .i64, .int .i64, .int .i64, .int .i64, .int .i64, .int .i64, .int .i64], .c false [.int .i64]], rs := [(false, [.int .i64])], ok := fun _ => true }
noncomputable def Fp : List (Nat × Func) := [(65, Try.f65), (8, Try.f8), (68, Try.f68)]
theorem G4 : AG Try.prog Fp := ⟨Agt, fn8, Ahu, trivial⟩
noncomputable def JT : Ctx := { At := At, eqs := eqs, fns := fun f => look f Fp, ctr := [(8, A9), (68, DQ)], lim := 30, big := [], lps := [] }
theorem Oa : XL Try.prog T JT where
 At := AL
 eqs := AP
 mixed := mixed
 ctr := Af ⟨⟨rfl, Bl⟩, ⟨rfl, JS⟩, trivial⟩
 fns := Am G4
 big := Ag trivial
 lps := Ax rfl
theorem Acv : ∀ fn body c, JT.fns Jk.f = some fn → fn.body = some body → CK Jk.p body = some (.loop c) → BT Try.prog T Jk c :=
 CB Oa Aw (g := N7) (back := some (V 19, [V 0, V 1, V 2, V 3, V 4, V 5, V 6, V 7, V 8, V 9, V 10, V 11, V 12, V 13, V 28, V 29])) (exs := [(V 20, [some (V 14)])]) (by kernel_rfl) (fun aq => by rw [show Jk.id = 1520 from rfl, SR]; rfl) Aar fun aq e h1 h2 h3 => by
  rw [show Jk.id = 1520 from rfl, SR] at h2 ⊢
  exact Aas aq e h1 h2 h3
noncomputable def Vd : Ctx := { At := At, eqs := eqs, fns := fun f => look f Fp, ctr := [(8, A9), (68, DQ)], lim := 30, big := [], lps := [Jk] }
theorem QY : XL Try.prog T Vd where
 At := AL
 eqs := AP
 mixed := mixed
 ctr := Af ⟨⟨rfl, Bl⟩, ⟨rfl, JS⟩, trivial⟩
 fns := Am G4
 big := Ag trivial
 lps := BY ⟨Acv, trivial⟩
theorem Fq : A2 Try.prog T Dc := AR QY Aw (g := Hx) (ls := [V 15]) (by kernel_rfl) (fun aq => by rw [show Dc.f = 65 from rfl, Aea]; rfl) fun aq e h1 h2 h3 => by
 subst h1
 rw [show Dc.f = 65 from rfl, Aea] at h2 ⊢
 obtain ⟨ho, hr⟩ := Pp e h3 _ rfl h2
 have r0 := hr
 refine ⟨⟨ho, trivial⟩, ?_⟩
 show Aa [.int .i64] (Aft _).2 = Aa [.int .i64] [L.ev e (V 15)]
 exact (Ab r0 rfl)
def FT : DR := { f := 64, ps := [.c false [.int .i64], .c true [.int .i64, .int .i64, .int .i64, .int .i64, .int .i64, .int .i64, .int .i64, .int .i64, .int .i64, .int .i64, .int .i64, .int .i64]], rs := [(false, [.int .i64]), (false, [.int .i64])], ok := fun _ => true }
noncomputable def GA : List (Nat × Func) := [(64, Try.f64), (8, Try.f8), (65, Try.f65)]
theorem Ic : AG Try.prog GA := ⟨Ahs, fn8, Agt, trivial⟩
noncomputable def Li : Ctx := { At := At, eqs := eqs, fns := fun f => look f GA, ctr := [(8, A9), (65, Dc)], lim := 30, big := [], lps := [] }
theorem Pr : XL Try.prog T Li where
 At := AL
 eqs := AP
 mixed := mixed
 ctr := Af ⟨⟨rfl, Bl⟩, ⟨rfl, Fq⟩, trivial⟩
 fns := Am Ic
 big := Ag trivial
 lps := Ax rfl
theorem Acw : ∀ fn body c, Li.fns Jm.f = some fn → fn.body = some body → CK Jm.p body = some (.loop c) → BT Try.prog T Jm c :=
 CB Pr Aw (g := Ob) (back := some (V 18, [V 0, V 1, V 2, V 3, V 4, V 5, V 6, V 7, V 8, V 9, V 10, V 11, V 12, V 30, V 31])) (exs := [(V 19, [some (V 13)])]) (by kernel_rfl) (fun aq => by rw [show Jm.id = 1530 from rfl, SS]; rfl) Aau fun aq e h1 h2 h3 => by
  rw [show Jm.id = 1530 from rfl, SS] at h2 ⊢
  exact Aav aq e h1 h2 h3
noncomputable def Xy : Ctx := { At := At, eqs := eqs, fns := fun f => look f GA, ctr := [(8, A9), (65, Dc)], lim := 30, big := [], lps := [Jm] }
theorem T0 : XL Try.prog T Xy where
 At := AL
 eqs := AP
 mixed := mixed
 ctr := Af ⟨⟨rfl, Bl⟩, ⟨rfl, Fq⟩, trivial⟩
 fns := Am Ic
 big := Ag trivial
 lps := BY ⟨Acw, trivial⟩
theorem T1 : A2 Try.prog T FT := AR T0 Aw (g := Jn) (ls := [V 23, V 24]) (by kernel_rfl) (fun aq => by rw [show FT.f = 64 from rfl, Aeb]; rfl) fun aq e h1 h2 h3 => by
 subst h1
 rw [show FT.f = 64 from rfl, Aeb] at h2 ⊢
 obtain ⟨ho, hr⟩ := QZ e h3 _ rfl h2
 obtain ⟨r0, r1⟩ := hr
 refine ⟨⟨ho.1, ho.2.1, ho.2.2, trivial⟩, ?_⟩
 show Aa [.int .i64, .int .i64] (Afu _).2 = Aa [.int .i64, .int .i64] [L.ev e (V 23), L.ev e (V 24)]
 exact (Ab r0 (Ab r1 rfl))
def Dd : DR := { f := 14, ps := [.c false [.int .i64]], rs := [(true, [.int .i64, .int .i64, .int .i64, .int .i64, .int .i64, .int .i64, .int .i64, .int .i64, .int .i64, .int .i64, .int .i64, .int .i64]), (false, [.int .i64])], ok := fun _ => true }
noncomputable def Fs : List (Nat × Func) := [(14, Try.f14), (18, Try.f18), (20, Try.f20)]
theorem G5 : AG Try.prog Fs := ⟨Agm, AbJ, Yp, trivial⟩
noncomputable def JV : Ctx := { At := At, eqs := eqs, fns := fun f => look f Fs, ctr := [(18, Bv), (20, A6)], lim := 30, big := [], lps := [] }
theorem Og : XL Try.prog T JV where
 At := AL
 eqs := AP
 mixed := mixed
 ctr := Af ⟨⟨rfl, BN⟩, ⟨rfl, A8⟩, trivial⟩
 fns := Am G5
 big := Ag trivial
 lps := Ax rfl
theorem Acy : ∀ fn body c, JV.fns Jr.f = some fn → fn.body = some body → CK Jr.p body = some (.loop c) → BT Try.prog T Jr c :=
 CB Og Aw (g := Of) (back := some (V 14, [V 0, V 28, V 2, V 3, V 4, V 5, V 20, V 21, V 22, V 23, V 24, V 25, V 26, V 27])) (exs := [(V 15, [some (V 6), some (V 7), some (V 8), some (V 9), some (V 10), some (V 11), some (V 12), some (V 13)])]) (by kernel_rfl) (fun aq => by rw [show Jr.id = 1490 from rfl, SP]; rfl) AaA fun aq e h1 h2 h3 => by
  rw [show Jr.id = 1490 from rfl, SP] at h2 ⊢
  exact AaB aq e h1 h2 h3
noncomputable def Vf : Ctx := { At := At, eqs := eqs, fns := fun f => look f Fs, ctr := [(18, Bv), (20, A6)], lim := 30, big := [], lps := [Jr] }
theorem Q3 : XL Try.prog T Vf where
 At := AL
 eqs := AP
 mixed := mixed
 ctr := Af ⟨⟨rfl, BN⟩, ⟨rfl, A8⟩, trivial⟩
 fns := Am G5
 big := Ag trivial
 lps := BY ⟨Acy, trivial⟩
theorem Ft : A2 Try.prog T Dd := AR Q3 Aw (g := HC) (ls := [V 21, V 22, V 23, V 24, V 25, V 26, V 27, V 28, N 0, V 29, N 0, N 0, V 20]) (by kernel_rfl) (fun aq => by rw [show Dd.f = 14 from rfl, Ad7]; rfl) fun aq e h1 h2 h3 => by
 subst h1
 rw [show Dd.f = 14 from rfl, Ad7] at h2 ⊢
 obtain ⟨ho, hr⟩ := Px e h3 _ rfl h2
 obtain ⟨r0, r1, r2, r3, r4, r5, r6, r7, r8, r9, r10, r11, r12⟩ := hr
 refine ⟨⟨ho.1, ho.2.1, ho.2.2, trivial⟩, ?_⟩
 show Aa [.int .i64, .int .i64, .int .i64, .int .i64, .int .i64, .int .i64, .int .i64, .int .i64, .int .i64, .int .i64, .int .i64, .int .i64, .int .i64] (Afq _).2 = Aa [.int .i64, .int .i64, .int .i64, .int .i64, .int .i64, .int .i64, .int .i64, .int .i64, .int .i64, .int .i64, .int .i64, .int .i64, .int .i64] [L.ev e (V 21), L.ev e (V 22), L.ev e (V 23), L.ev e (V 24), L.ev e (V 25), L.ev e (V 26), L.ev e (V 27), L.ev e (V 28), L.ev e (N 0), L.ev e (V 29), L.ev e (N 0), L.ev e (N 0), L.ev e (V 20)]
 exact (Ab r0 (Ab r1 (Ab r2 (Ab r3 (Ab r4 (Ab r5 (Ab r6 (Ab r7 (Ab r8 (Ab r9 (Ab r10 (Ab r11 (Ab r12 rfl)))))))))))))
def EY : DR := { f := 31, ps := [.c false [.int .i64], .c true [.int .i64, .int .i64, .int .i64, .int .i64, .int .i64, .int .i64, .int .i64, .int .i64, .int .i64, .int .i64, .int .i64, .int .i64]], rs := [(true, [.int .i64, .int .i64, .int .i64, .int .i64, .int .i64, .int .i64, .int .i64, .int .i64, .int .i64, .int .i64, .int .i64, .int .i64]), (false, [.int .i64])], ok := fun _ => true }
noncomputable def JY : List (Nat × Func) := [(31, Try.f31), (18, Try.f18), (51, Try.f51), (52, Try.f52), (20, Try.f20)]
theorem Ok : AG Try.prog JY := ⟨Ag6, AbJ, Ahn, AeU, Yp, trivial⟩
noncomputable def Vi : Ctx := { At := At, eqs := eqs, fns := fun f => look f JY, ctr := [(51, EX), (52, Ef), (18, Bv), (20, A6)], lim := 30, big := [], lps := [] }
theorem Ra : XL Try.prog T Vi where
 At := AL
 eqs := AP
 mixed := mixed
 ctr := Af ⟨⟨rfl, Q9⟩, ⟨rfl, Hw⟩, ⟨rfl, BN⟩, ⟨rfl, A8⟩, trivial⟩
 fns := Am Ok
 big := Ag trivial
 lps := Ax rfl
theorem Rb : A2 Try.prog T EY := AR Ra Aw (g := HE) (ls := [V 114, V 115, V 116, V 117, V 118, V 119, V 120, V 121, V 122, V 123, V 124, V 125, V 101]) (by kernel_rfl) (fun aq => by rw [show EY.f = 31 from rfl, Ad6]; rfl) fun aq e h1 h2 h3 => by
 subst h1
 rw [show EY.f = 31 from rfl, Ad6] at h2 ⊢
 obtain ⟨ho, hr⟩ := PD e h3 _ rfl _ rfl h2
 obtain ⟨r0, r1, r2, r3, r4, r5, r6, r7, r8, r9, r10, r11, r12⟩ := hr
 refine ⟨⟨ho.1, ho.2.1, ho.2.2.1, ho.2.2.2.1, ho.2.2.2.2.1, ho.2.2.2.2.2.1, ho.2.2.2.2.2.2.1, ho.2.2.2.2.2.2.2.1, ho.2.2.2.2.2.2.2.2.1, ho.2.2.2.2.2.2.2.2.2.1, ho.2.2.2.2.2.2.2.2.2.2.1, ho.2.2.2.2.2.2.2.2.2.2.2.1, ho.2.2.2.2.2.2.2.2.2.2.2.2.1, ho.2.2.2.2.2.2.2.2.2.2.2.2.2.1, ho.2.2.2.2.2.2.2.2.2.2.2.2.2.2, trivial⟩, ?_⟩
 show Aa [.int .i64, .int .i64, .int .i64, .int .i64, .int .i64, .int .i64, .int .i64, .int .i64, .int .i64, .int .i64, .int .i64, .int .i64, .int .i64] (Afp _).2 = Aa [.int .i64, .int .i64, .int .i64, .int .i64, .int .i64, .int .i64, .int .i64, .int .i64, .int .i64, .int .i64, .int .i64, .int .i64, .int .i64] [L.ev e (V 114), L.ev e (V 115), L.ev e (V 116), L.ev e (V 117), L.ev e (V 118), L.ev e (V 119), L.ev e (V 120), L.ev e (V 121), L.ev e (V 122), L.ev e (V 123), L.ev e (V 124), L.ev e (V 125), L.ev e (V 101)]
 exact (Ab r0 (Ab r1 (Ab r2 (Ab r3 (Ab r4 (Ab r5 (Ab r6 (Ab r7 (Ab r8 (Ab r9 (Ab r10 (Ab r11 (Ab r12 rfl)))))))))))))
end Rx.S
