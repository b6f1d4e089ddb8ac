import Derived.Test.YtngghkhjejkelabMXe
import Derived.Test.YtngghkhjejkelabMXconf
import Derived.Test.YtngghkhjejkelabMXvote
import Derived.Test.YtngghkhjejkelabMXvoteb
import Derived.Test.YtngghkhjejkelabMYgate
set_option linter.unusedVariables false
set_option linter.unusedSimpArgs false
namespace Rx.S
open Go Rx Go.Proofs
set_option maxRecDepth 100000
set_option maxHeartbeats 4000000
def Ff : DR := { f := 26, ps := [.c false [.int .i64], .lst [.int .i64, .int .i64]], rs := [(false, [.bool])], ok := fun _ => true }
noncomputable def Hn : List (Nat × Func) := [(26, Try.f26), (43, Try.f43)]
theorem JI : AG Try.prog Hn := ⟨Agn, Agq, trivial⟩
noncomputable def Mg : Ctx := { At := At, eqs := eqs, fns := fun f => look f Hn, ctr := [(43, DD)], lim := 30, big := [], lps := [] }
theorem Qt : XL Try.prog T Mg where
 At := AL
 eqs := AP
 mixed := mixed
 ctr := Af ⟨⟨rfl, Gs⟩, trivial⟩
 fns := Am JI
 big := Ag trivial
 lps := Ax rfl
theorem Acj : ∀ fn body c, Mg.fns IV.f = some fn → fn.body = some body → CK IV.p body = some (.loop c) → BT Try.prog T IV c :=
 CB Qt Aw (g := NJ) (back := some (V 38, [V 0, V 1, V 2, V 3, V 4, V 35, V 6])) (exs := [(V 39, [some (B true), none]), (V 8, [none, some (B true)])]) (by kernel_rfl) (fun aq => by rw [show IV.id = 1630 from rfl, SY]; rfl) Z0 fun aq e h1 h2 h3 => by
  rw [show IV.id = 1630 from rfl, SY] at h2 ⊢
  exact Z1 aq e h1 h2 h3
noncomputable def YJ : Ctx := { At := At, eqs := eqs, fns := fun f => look f Hn, ctr := [(43, DD)], lim := 30, big := [], lps := [IV] }
theorem UM : XL Try.prog T YJ where
 At := AL
 eqs := AP
 mixed := mixed
 ctr := Af ⟨⟨rfl, Gs⟩, trivial⟩
 fns := Am JI
 big := Ag trivial
 lps := BY ⟨Acj, trivial⟩
theorem Mh : A2 Try.prog T Ff := AR UM Aw (g := KV) (ls := [V 23]) (by kernel_rfl) (fun aq => by rw [show Ff.f = 26 from rfl, Aeg]; rfl) fun aq e h1 h2 h3 => by
 subst h1
 rw [show Ff.f = 26 from rfl, Aeg] at h2 ⊢
 obtain ⟨ho, hr⟩ := Tu e h3 h2
 have r0 := hr
 refine ⟨⟨ho.1, ho.2.1, ho.2.2, trivial⟩, ?_⟩
 show Aa [.bool] (Afz _).2 = Aa [.bool] [L.ev e (V 23)]
 exact (Uz r0 rfl)
def EU : DR := { f := 23, ps := [.c false [.int .i64], .c true [.int .i64, .int .i64, .int .i64, .int .i64, .int .i64, .int .i64, .int .i64, .int .i64, .int .i64, .int .i64, .int .i64, .int .i64]], rs := [(true, [.int .i64, .int .i64, .int .i64, .int .i64, .int .i64, .int .i64, .int .i64, .int .i64, .int .i64, .int .i64, .int .i64, .int .i64]), (false, [.int .i64])], ok := fun _ => true }
noncomputable def JK : List (Nat × Func) := [(23, Try.f23), (25, Try.f25), (38, Try.f38), (39, Try.f39), (40, Try.f40)]
theorem NP : AG Try.prog JK := ⟨Ag1, ZM, Ahc, Ahd, ZN, trivial⟩
noncomputable def UY : Ctx := { At := At, eqs := eqs, fns := fun f => look f JK, ctr := [(40, Bz), (25, BM), (38, FN), (39, G0)], lim := 30, big := [], lps := [] }
theorem QB : XL Try.prog T UY where
 At := AL
 eqs := AP
 mixed := mixed
 ctr := Af ⟨⟨rfl, BL⟩, ⟨rfl, B1⟩, ⟨rfl, TC⟩, ⟨rfl, UX⟩, trivial⟩
 fns := Am NP
 big := Ag trivial
 lps := Ax rfl
theorem QC : A2 Try.prog T EU := AR QB Aw (g := Ho) (ls := [V 43, V 44, V 45, V 46, V 47, V 48, V 49, V 50, V 51, V 52, V 53, V 54, V 40]) (by kernel_rfl) (fun aq => by rw [show EU.f = 23 from rfl, Aee]; rfl) fun aq e h1 h2 h3 => by
 subst h1
 rw [show EU.f = 23 from rfl, Aee] at h2 ⊢
 obtain ⟨ho, hr⟩ := O6 e h3 _ rfl _ rfl h2
 obtain ⟨r0, r1, r2, r3, r4, r5, r6, r7, r8, r9, r10, r11, r12⟩ := hr
 refine ⟨⟨ho.1, ho.2.1, ho.2.2.1, ho.2.2.2, trivial⟩, ?_⟩
 show Aa [.int .i64, .int .i64, .int .i64, .int .i64, .int .i64, .int .i64, .int .i64, .int .i64, .int .i64, .int .i64, .int .i64, .int .i64, .int .i64] (Afx _).2 = Aa [.int .i64, .int .i64, .int .i64, .int .i64, .int .i64, .int .i64, .int .i64, .int .i64, .int .i64, .int .i64, .int .i64, .int .i64, .int .i64] [L.ev e (V 43), L.ev e (V 44), L.ev e (V 45), L.ev e (V 46), L.ev e (V 47), L.ev e (V 48), L.ev e (V 49), L.ev e (V 50), L.ev e (V 51), L.ev e (V 52), L.ev e (V 53), L.ev e (V 54), L.ev e (V 40)]
 exact (Ab r0 (Ab r1 (Ab r2 (Ab r3 (Ab r4 (Ab r5 (Ab r6 (Ab r7 (Ab r8 (Ab r9 (Ab r10 (Ab r11 (Ab r12 rfl)))))))))))))
def DE : DR := { f := 37, ps := [.c false [.int .i64], .c true [.int .i64, .int .i64, .int .i64, .int .i64, .int .i64, .int .i64, .int .i64, .int .i64, .int .i64, .int .i64, .int .i64, .int .i64], .lst [.int .i64, .int .i64]], rs := [(false, [.int .i64])], ok := fun _ => true }
noncomputable def K2 : List (Nat × Func) := [(37, Try.f37), (25, Try.f25), (26, Try.f26)]
theorem Pa : AG Try.prog K2 := ⟨Agp, ZM, Agn, trivial⟩
noncomputable def Xi : Ctx := { At := At, eqs := eqs, fns := fun f => look f K2, ctr := [(25, BM), (26, Ff)], lim := 30, big := [], lps := [] }
theorem TF : XL Try.prog T Xi where
 At := AL
 eqs := AP
 mixed := mixed
 ctr := Af ⟨⟨rfl, B1⟩, ⟨rfl, Mh⟩, trivial⟩
 fns := Am Pa
 big := Ag trivial
 lps := Ax rfl
theorem Gt : A2 Try.prog T DE := AR TF Aw (g := I2) (ls := [V 32]) (by kernel_rfl) (fun aq => by rw [show DE.f = 37 from rfl, Aei]; rfl) fun aq e h1 h2 h3 => by
 subst h1
 rw [show DE.f = 37 from rfl, Aei] at h2 ⊢
 obtain ⟨ho, hr⟩ := QD e h3 _ rfl h2
 have r0 := hr
 refine ⟨⟨ho.1, ho.2, trivial⟩, ?_⟩
 show Aa [.int .i64] (AfB _).2 = Aa [.int .i64] [L.ev e (V 32)]
 exact (Ab r0 rfl)
def G1 : DR := { f := 22, ps := [.c false [.int .i64], .c true [.int .i64, .int .i64, .int .i64, .int .i64, .int .i64, .int .i64, .int .i64, .int .i64, .int .i64, .int .i64, .int .i64, .int .i64], .lst [.int .i64, .int .i64]], rs := [(true, [.int .i64, .int .i64, .int .i64, .int .i64, .int .i64, .int .i64, .int .i64, .int .i64, .int .i64, .int .i64, .int .i64, .int .i64]), (false, [.int .i64])], ok := fun _ => true }
noncomputable def Hq : List (Nat × Func) := [(22, Try.f22), (37, Try.f37)]
theorem JL : AG Try.prog Hq := ⟨Ag0, Agp, trivial⟩
noncomputable def Mm : Ctx := { At := At, eqs := eqs, fns := fun f => look f Hq, ctr := [(37, DE)], lim := 30, big := [], lps := [] }
theorem QE : XL Try.prog T Mm where
 At := AL
 eqs := AP
 mixed := mixed
 ctr := Af ⟨⟨rfl, Gt⟩, trivial⟩
 fns := Am JL
 big := Ag trivial
 lps := Ax rfl
theorem Acn : ∀ fn body c, Mm.fns I1.f = some fn → fn.body = some body → CK I1.p body = some (.loop c) → BT Try.prog T I1 c :=
 CB QE Aw (g := NQ) (back := some (V 26, [V 0, V 1, V 2, V 3, V 4, V 5, V 6, V 7, V 8, V 9, V 10, V 11, V 12, V 13, V 14, V 15, V 56, V 17, V 48, V 49, V 50, V 51, V 52, V 53, V 54, V 55])) (exs := [(V 27, [some (V 18), some (V 19), some (V 20), some (V 21), some (V 22), some (V 23), some (V 24), some (V 25)])]) (by kernel_rfl) (fun aq => by rw [show I1.id = 1670 from rfl, S0]; rfl) Z9 fun aq e h1 h2 h3 => by
  rw [show I1.id = 1670 from rfl, S0] at h2 ⊢
  exact Aaa aq e h1 h2 h3
noncomputable def YS : Ctx := { At := At, eqs := eqs, fns := fun f => look f Hq, ctr := [(37, DE)], lim := 30, big := [], lps := [I1] }
theorem UZ : XL Try.prog T YS where
 At := AL
 eqs := AP
 mixed := mixed
 ctr := Af ⟨⟨rfl, Gt⟩, trivial⟩
 fns := Am JL
 big := Ag trivial
 lps := BY ⟨Acn, trivial⟩
theorem U0 : A2 Try.prog T G1 := AR UZ Aw (g := K1) (ls := [V 39, V 40, V 41, V 42, V 43, V 44, V 45, V 46, V 47, V 48, V 49, V 50, V 30]) (by kernel_rfl) (fun aq => by rw [show G1.f = 22 from rfl, Aek]; rfl) fun aq e h1 h2 h3 => by
 subst h1
 rw [show G1.f = 22 from rfl, Aek] at h2 ⊢
 obtain ⟨ho, hr⟩ := TE e h3 _ rfl _ rfl h2
 obtain ⟨r0, r1, r2, r3, r4, r5, r6, r7, r8, r9, r10, r11, r12⟩ := hr
 refine ⟨⟨ho.1, ho.2, trivial⟩, ?_⟩
 show Aa [.int .i64, .int .i64, .int .i64, .int .i64, .int .i64, .int .i64, .int .i64, .int .i64, .int .i64, .int .i64, .int .i64, .int .i64, .int .i64] (AfD _).2 = Aa [.int .i64, .int .i64, .int .i64, .int .i64, .int .i64, .int .i64, .int .i64, .int .i64, .int .i64, .int .i64, .int .i64, .int .i64, .int .i64] [L.ev e (V 39), L.ev e (V 40), L.ev e (V 41), L.ev e (V 42), L.ev e (V 43), L.ev e (V 44), L.ev e (V 45), L.ev e (V 46), L.ev e (V 47), L.ev e (V 48), L.ev e (V 49), L.ev e (V 50), L.ev e (V 30)]
 exact (Ab r0 (Ab r1 (Ab r2 (Ab r3 (Ab r4 (Ab r5 (Ab r6 (Ab r7 (Ab r8 (Ab r9 (Ab r10 (Ab r11 (Ab r12 rfl)))))))))))))
def FO : DR := { f := 42, ps := [.c false [.int .i64], .c true [.int .i64, .int .i64, .int .i64, .int .i64, .int .i64, .int .i64, .int .i64, .int .i64, .int .i64, .int .i64, .int .i64, .int .i64], .lst [.int .i64, .int .i64]], rs := [(true, [.int .i64, .int .i64, .int .i64, .int .i64, .int .i64, .int .i64, .int .i64, .int .i64, .int .i64, .int .i64, .int .i64, .int .i64]), (true, [.int .i64, .int .i64])], ok := fun _ => true }
noncomputable def K3 : List (Nat × Func) := [(42, Try.f42), (40, Try.f40)]
theorem Pb : AG Try.prog K3 := ⟨Ahf, ZN, trivial⟩
noncomputable def Xj : Ctx := { At := At, eqs := eqs, fns := fun f => look f K3, ctr := [(40, Bz)], lim := 30, big := [], lps := [] }
theorem TG : XL Try.prog T Xj where
 At := AL
 eqs := AP
 mixed := mixed
 ctr := Af ⟨⟨rfl, BL⟩, trivial⟩
 fns := Am Pb
 big := Ag trivial
 lps := Ax rfl
theorem TH : A2 Try.prog T FO := AR TG Aw (g := I4) (ls := [V 1, V 2, V 3, V 4, V 5, V 6, V 7, V 8, V 9, V 10, V 26, V 12, V 27, V 28]) (by kernel_rfl) (fun aq => by rw [show FO.f = 42 from rfl, Aem]; rfl) fun aq e h1 h2 h3 => by
 subst h1
 rw [show FO.f = 42 from rfl, Aem] at h2 ⊢
 obtain ⟨ho, hr⟩ := QG e h3 _ rfl _ rfl h2
 obtain ⟨r0, r1, r2, r3, r4, r5, r6, r7, r8, r9, r10, r11, r12, r13⟩ := hr
 refine ⟨⟨ho.1, ho.2, trivial⟩, ?_⟩
 show Aa [.int .i64, .int .i64, .int .i64, .int .i64, .int .i64, .int .i64, .int .i64, .int .i64, .int .i64, .int .i64, .int .i64, .int .i64, .int .i64, .int .i64] (AfF _).2 = Aa [.int .i64, .int .i64, .int .i64, .int .i64, .int .i64, .int .i64, .int .i64, .int .i64, .int .i64, .int .i64, .int .i64, .int .i64, .int .i64, .int .i64] [L.ev e (V 1), L.ev e (V 2), L.ev e (V 3), L.ev e (V 4), L.ev e (V 5), L.ev e (V 6), L.ev e (V 7), L.ev e (V 8), L.ev e (V 9), L.ev e (V 10), L.ev e (V 26), L.ev e (V 12), L.ev e (V 27), L.ev e (V 28)]
 exact (Ab r0 (Ab r1 (Ab r2 (Ab r3 (Ab r4 (Ab r5 (Ab r6 (Ab r7 (Ab r8 (Ab r9 (Ab r10 (Ab r11 (Ab r12 (Ab r13 rfl))))))))))))))
def FP : DR := { f := 41, ps := [.c false [.int .i64], .c true [.int .i64, .int .i64, .int .i64, .int .i64, .int .i64, .int .i64, .int .i64, .int .i64, .int .i64, .int .i64, .int .i64, .int .i64], .lst [.int .i64, .int .i64]], rs := [(true, [.int .i64, .int .i64, .int .i64, .int .i64, .int .i64, .int .i64, .int .i64, .int .i64, .int .i64, .int .i64, .int .i64, .int .i64]), (true, [.int .i64, .int .i64])], ok := fun _ => true }
noncomputable def Ez : List (Nat × Func) := [(41, Try.f41), (57, Try.f57), (40, Try.f40), (58, Try.f58)]
theorem EJ : AG Try.prog Ez := ⟨Ahe, AhR, ZN, AhS, trivial⟩
noncomputable def K4 : Ctx := { At := At, eqs := eqs, fns := fun f => look f Ez, ctr := [(40, Bz)], lim := 30, big := [], lps := [] }
theorem Pc : XL Try.prog T K4 where
 At := AL
 eqs := AP
 mixed := mixed
 ctr := Af ⟨⟨rfl, BL⟩, trivial⟩
 fns := Am EJ
 big := Ag trivial
 lps := Ax rfl
theorem V8 : ∀ fn body c, K4.fns G2.f = some fn → fn.body = some body → CK G2.p body = some (.loop c) → BT Try.prog T G2 c :=
 CB Pc Aw (g := NR) (back := some (V 31, [V 0, V 28, V 2, V 3, V 4, V 5, V 6, V 7, V 8, V 9, V 10, V 11, V 12, V 13, V 14])) (exs := [(V 32, [some (V 1), some (B true), none]), (V 16, [none, none, some (B true)])]) (by kernel_rfl) (fun aq => by rw [show G2.id = 1700 from rfl, S2]; rfl) Aab fun aq e h1 h2 h3 => by
  rw [show G2.id = 1700 from rfl, S2] at h2 ⊢
  exact Aac aq e h1 h2 h3
noncomputable def K5 : Ctx := { At := At, eqs := eqs, fns := fun f => look f Ez, ctr := [(40, Bz)], lim := 30, big := [], lps := [G2] }
theorem Pd : XL Try.prog T K5 where
 At := AL
 eqs := AP
 mixed := mixed
 ctr := Af ⟨⟨rfl, BL⟩, trivial⟩
 fns := Am EJ
 big := Ag trivial
 lps := BY ⟨V8, trivial⟩
theorem Aco : ∀ fn body c, K5.fns I5.f = some fn → fn.body = some body → CK I5.p body = some (.loop c) → BT Try.prog T I5 c :=
 CB Pd Aw (g := NS) (back := some (V 27, [V 0, V 1, V 2, V 3, V 4, V 5, V 6, V 7, V 8, V 9, V 10, V 11, V 12, V 13, V 14, V 15, V 16, V 41, V 18, V 33, V 34, V 35, V 36, V 37, V 38, V 39, V 40])) (exs := [(V 28, [some (V 19), some (V 20), some (V 21), some (V 22), some (V 23), some (V 24), some (V 25), some (V 26)])]) (by kernel_rfl) (fun aq => by rw [show I5.id = 1701 from rfl, S3]; rfl) Aad fun aq e h1 h2 h3 => by
  rw [show I5.id = 1701 from rfl, S3] at h2 ⊢
  exact Aae aq e h1 h2 h3
noncomputable def Xk : Ctx := { At := At, eqs := eqs, fns := fun f => look f Ez, ctr := [(40, Bz)], lim := 30, big := [], lps := [G2, I5] }
theorem TI : XL Try.prog T Xk where
 At := AL
 eqs := AP
 mixed := mixed
 ctr := Af ⟨⟨rfl, BL⟩, trivial⟩
 fns := Am EJ
 big := Ag trivial
 lps := BY ⟨V8, Aco, trivial⟩
theorem TJ : A2 Try.prog T FP := AR TI Aw (g := I6) (ls := [V 49, V 50, V 51, V 52, V 53, V 54, V 55, V 56, V 57, V 58, V 11, V 12, V 59, V 60]) (by kernel_rfl) (fun aq => by rw [show FP.f = 41 from rfl, Aen]; rfl) fun aq e h1 h2 h3 => by
 subst h1
 rw [show FP.f = 41 from rfl, Aen] at h2 ⊢
 obtain ⟨ho, hr⟩ := QH e h3 _ rfl _ rfl h2
 obtain ⟨r0, r1, r2, r3, r4, r5, r6, r7, r8, r9, r10, r11, r12, r13⟩ := hr
 refine ⟨⟨ho.1, ho.2.1, ho.2.2.1, ho.2.2.2.1, ho.2.2.2.2, trivial⟩, ?_⟩
 show Aa [.int .i64, .int .i64, .int .i64, .int .i64, .int .i64, .int .i64, .int .i64, .int .i64, .int .i64, .int .i64, .int .i64, .int .i64, .int .i64, .int .i64] (AfG _).2 = Aa [.int .i64, .int .i64, .int .i64, .int .i64, .int .i64, .int .i64, .int .i64, .int .i64, .int .i64, .int .i64, .int .i64, .int .i64, .int .i64, .int .i64] [L.ev e (V 49), L.ev e (V 50), L.ev e (V 51), L.ev e (V 52), L.ev e (V 53), L.ev e (V 54), L.ev e (V 55), L.ev e (V 56), L.ev e (V 57), L.ev e (V 58), L.ev e (V 11), L.ev e (V 12), L.ev e (V 59), L.ev e (V 60)]
 exact (Ab r0 (Ab r1 (Ab r2 (Ab r3 (Ab r4 (Ab r5 (Ab r6 (Ab r7 (Ab r8 (Ab r9 (Ab r10 (Ab r11 (Ab r12 (Ab r13 rfl))))))))))))))
def FQ : DR := { f := 24, ps := [.c false [.int .i64], .c true [.int .i64, .int .i64, .int .i64, .int .i64, .int .i64, .int .i64, .int .i64, .int .i64, .int .i64, .int .i64, .int .i64, .int .i64], .lst [.int .i64, .int .i64]], rs := [(true, [.int .i64, .int .i64, .int .i64, .int .i64, .int .i64, .int .i64, .int .i64, .int .i64, .int .i64, .int .i64, .int .i64, .int .i64]), (true, [.int .i64, .int .i64]), (false, [.int .i64])], ok := fun _ => true }
noncomputable def K6 : List (Nat × Func) := [(24, Try.f24), (37, Try.f37), (41, Try.f41), (42, Try.f42)]
theorem Pe : AG Try.prog K6 := ⟨Ag2, Agp, Ahe, Ahf, trivial⟩
noncomputable def Xl : Ctx := { At := At, eqs := eqs, fns := fun f => look f K6, ctr := [(37, DE), (42, FO), (41, FP)], lim := 30, big := [], lps := [] }
theorem TL : XL Try.prog T Xl where
 At := AL
 eqs := AP
 mixed := mixed
 ctr := Af ⟨⟨rfl, Gt⟩, ⟨rfl, TH⟩, ⟨rfl, TJ⟩, trivial⟩
 fns := Am Pe
 big := Ag trivial
 lps := Ax rfl
theorem TM : A2 Try.prog T FQ := AR TL Aw (g := I3) (ls := [V 83, V 84, V 85, V 86, V 87, V 88, V 89, V 90, V 91, V 92, V 93, V 94, V 95, V 96, V 70]) (by kernel_rfl) (fun aq => by rw [show FQ.f = 24 from rfl, Aeo]; rfl) fun aq e h1 h2 h3 => by
 subst h1
 rw [show FQ.f = 24 from rfl, Aeo] at h2 ⊢
 obtain ⟨ho, hr⟩ := QF e h3 _ rfl _ rfl h2
 obtain ⟨r0, r1, r2, r3, r4, r5, r6, r7, r8, r9, r10, r11, r12, r13, r14⟩ := hr
 refine ⟨⟨ho.1, ho.2.1, ho.2.2, trivial⟩, ?_⟩
 show Aa [.int .i64, .int .i64, .int .i64, .int .i64, .int .i64, .int .i64, .int .i64, .int .i64, .int .i64, .int .i64, .int .i64, .int .i64, .int .i64, .int .i64, .int .i64] (AfH _).2 = Aa [.int .i64, .int .i64, .int .i64, .int .i64, .int .i64, .int .i64, .int .i64, .int .i64, .int .i64, .int .i64, .int .i64, .int .i64, .int .i64, .int .i64, .int .i64] [L.ev e (V 83), L.ev e (V 84), L.ev e (V 85), L.ev e (V 86), L.ev e (V 87), L.ev e (V 88), L.ev e (V 89), L.ev e (V 90), L.ev e (V 91), L.ev e (V 92), L.ev e (V 93), L.ev e (V 94), L.ev e (V 95), L.ev e (V 96), L.ev e (V 70)]
 exact (Ab r0 (Ab r1 (Ab r2 (Ab r3 (Ab r4 (Ab r5 (Ab r6 (Ab r7 (Ab r8 (Ab r9 (Ab r10 (Ab r11 (Ab r12 (Ab r13 (Ab r14 rfl)))))))))))))))
def DF : DR := { f := 10, ps := [.c false [.int .i64], .lst [.int .i64, .int .i64]], rs := [(false, [.bool])], ok := fun _ => true }
noncomputable def Gv : List (Nat × Func) := [(10, Try.f10), (18, Try.f18)]
theorem Ia : AG Try.prog Gv := ⟨AeT, AbJ, trivial⟩
noncomputable def La : Ctx := { At := At, eqs := eqs, fns := fun f => look f Gv, ctr := [(18, Bv)], lim := 30, big := [], lps := [] }
theorem Pl : XL Try.prog T La where
 At := AL
 eqs := AP
 mixed := mixed
 ctr := Af ⟨⟨rfl, BN⟩, trivial⟩
 fns := Am Ia
 big := Ag trivial
 lps := Ax rfl
theorem Acs : ∀ fn body c, La.fns Jd.f = some fn → fn.body = some body → CK Jd.p body = some (.loop c) → BT Try.prog T Jd c :=
 CB Pl Aw (g := N2) (back := some (V 38, [V 0, V 1, V 35, V 3])) (exs := [(V 39, [some (B true), none]), (V 5, [none, some (B true)])]) (by kernel_rfl) (fun aq => by rw [show Jd.id = 1640 from rfl, SZ]; rfl) Aam fun aq e h1 h2 h3 => by
  rw [show Jd.id = 1640 from rfl, SZ] at h2 ⊢
  exact Aan aq e h1 h2 h3
noncomputable def Xr : Ctx := { At := At, eqs := eqs, fns := fun f => look f Gv, ctr := [(18, Bv)], lim := 30, big := [], lps := [Jd] }
theorem TS : XL Try.prog T Xr where
 At := AL
 eqs := AP
 mixed := mixed
 ctr := Af ⟨⟨rfl, BN⟩, trivial⟩
 fns := Am Ia
 big := Ag trivial
 lps := BY ⟨Acs, trivial⟩
theorem Gw : A2 Try.prog T DF := AR TS Aw (g := Je) (ls := [V 15]) (by kernel_rfl) (fun aq => by rw [show DF.f = 10 from rfl, Aeh]; rfl) fun aq e h1 h2 h3 => by
 subst h1
 rw [show DF.f = 10 from rfl, Aeh] at h2 ⊢
 obtain ⟨ho, hr⟩ := QR e h3 h2
 have r0 := hr
 refine ⟨⟨ho.1, ho.2.1, ho.2.2, trivial⟩, ?_⟩
 show Aa [.bool] (AfA _).2 = Aa [.bool] [L.ev e (V 15)]
 exact (Uz r0 rfl)
def EC : DR := { f := 47, ps := [.c false [.int .i64], .c true [.int .i64, .int .i64, .int .i64, .int .i64, .int .i64, .int .i64, .int .i64, .int .i64, .int .i64, .int .i64, .int .i64, .int .i64]], rs := [(true, [.int .i64, .int .i64, .int .i64, .int .i64, .int .i64, .int .i64, .int .i64, .int .i64, .int .i64, .int .i64, .int .i64, .int .i64]), (false, [.int .i64])], ok := fun _ => true }
noncomputable def Ie : List (Nat × Func) := [(47, Try.f47), (8, Try.f8), (64, Try.f64), (65, Try.f65), (20, Try.f20)]
theorem MY : AG Try.prog Ie := ⟨Ahj, fn8, Ahs, Agt, Yp, trivial⟩
noncomputable def T2 : Ctx := { At := At, eqs := eqs, fns := fun f => look f Ie, ctr := [(20, A6), (8, A9), (65, Dc), (64, FT)], lim := 30, big := [], lps := [] }
theorem Ps : XL Try.prog T T2 where
 At := AL
 eqs := AP
 mixed := mixed
 ctr := Af ⟨⟨rfl, A8⟩, ⟨rfl, Bl⟩, ⟨rfl, Fq⟩, ⟨rfl, T1⟩, trivial⟩
 fns := Am MY
 big := Ag trivial
 lps := Ax rfl
theorem Pt : A2 Try.prog T EC := AR Ps Aw (g := Gz) (ls := [V 55, V 56, V 57, V 58, V 59, V 60, V 61, V 62, V 63, V 64, V 65, V 66, V 52]) (by kernel_rfl) (fun aq => by rw [show EC.f = 47 from rfl, Aef]; rfl) fun aq e h1 h2 h3 => by
 subst h1
 rw [show EC.f = 47 from rfl, Aef] at h2 ⊢
 obtain ⟨ho, hr⟩ := N6 e h3 _ rfl _ rfl h2
 obtain ⟨r0, r1, r2, r3, r4, r5, r6, r7, r8, r9, r10, r11, r12⟩ := hr
 refine ⟨⟨ho.1, ho.2.1, ho.2.2.1, ho.2.2.2, trivial⟩, ?_⟩
 show Aa [.int .i64, .int .i64, .int .i64, .int .i64, .int .i64, .int .i64, .int .i64, .int .i64, .int .i64, .int .i64, .int .i64, .int .i64, .int .i64] (Afy _).2 = Aa [.int .i64, .int .i64, .int .i64, .int .i64, .int .i64, .int .i64, .int .i64, .int .i64, .int .i64, .int .i64, .int .i64, .int .i64, .int .i64] [L.ev e (V 55), L.ev e (V 56), L.ev e (V 57), L.ev e (V 58), L.ev e (V 59), L.ev e (V 60), L.ev e (V 61), L.ev e (V 62), L.ev e (V 63), L.ev e (V 64), L.ev e (V 65), L.ev e (V 66), L.ev e (V 52)]
 exact (Ab r0 (Ab r1 (Ab r2 (Ab r3 (Ab r4 (Ab r5 (Ab r6 (Ab r7 (Ab r8 (Ab r9 (Ab r10 (Ab r11 (Ab r12 rfl)))))))))))))
def CJ : DR := { f := 63, ps := [.c false [.int .i64], .c true [.int .i64, .int .i64, .int .i64, .int .i64, .int .i64, .int .i64, .int .i64, .int .i64, .int .i64, .int .i64, .int .i64, .int .i64], .lst [.int .i64, .int .i64]], rs := [(false, [.int .i64])], ok := fun _ => true }
noncomputable def JU : List (Nat × Func) := [(63, Try.f63), (8, Try.f8), (10, Try.f10)]
theorem Od : AG Try.prog JU := ⟨Ags, fn8, AeT, trivial⟩
noncomputable def Ve : Ctx := { At := At, eqs := eqs, fns := fun f => look f JU, ctr := [(8, A9), (10, DF)], lim := 30, big := [], lps := [] }
theorem Q2 : XL Try.prog T Ve where
 At := AL
 eqs := AP
 mixed := mixed
 ctr := Af ⟨⟨rfl, Bl⟩, ⟨rfl, Gw⟩, trivial⟩
 fns := Am Od
 big := Ag trivial
 lps := Ax rfl
theorem DX : A2 Try.prog T CJ := AR Q2 Aw (g := Hz) (ls := [V 32]) (by kernel_rfl) (fun aq => by rw [show CJ.f = 63 from rfl, Aej]; rfl) fun aq e h1 h2 h3 => by
 subst h1
 rw [show CJ.f = 63 from rfl, Aej] at h2 ⊢
 obtain ⟨ho, hr⟩ := Pu e h3 _ rfl h2
 have r0 := hr
 refine ⟨⟨ho.1, ho.2, trivial⟩, ?_⟩
 show Aa [.int .i64] (AfC _).2 = Aa [.int .i64] [L.ev e (V 32)]
 exact (Ab r0 rfl)
def FU : DR := { f := 46, ps := [.c false [.int .i64], .c true [.int .i64, .int .i64, .int .i64, .int .i64, .int .i64, .int .i64, .int .i64, .int .i64, .int .i64, .int .i64, .int .i64, .int .i64], .lst [.int .i64, .int .i64]], rs := [(true, [.int .i64, .int .i64, .int .i64, .int .i64, .int .i64, .int .i64, .int .i64, .int .i64, .int .i64, .int .i64, .int .i64, .int .i64]), (false, [.int .i64])], ok := fun _ => true }
noncomputable def GB : List (Nat × Func) := [(46, Try.f46), (63, Try.f63)]
theorem Ig : AG Try.prog GB := ⟨Ahi, Ags, trivial⟩
noncomputable def Lj : Ctx := { At := At, eqs := eqs, fns := fun f => look f GB, ctr := [(63, CJ)], lim := 30, big := [], lps := [] }
theorem Pv : XL Try.prog T Lj where
 At := AL
 eqs := AP
 mixed := mixed
 ctr := Af ⟨⟨rfl, DX⟩, trivial⟩
 fns := Am Ig
 big := Ag trivial
 lps := Ax rfl
theorem Acx : ∀ fn body c, Lj.fns Jo.f = some fn → fn.body = some body → CK Jo.p body = some (.loop c) → BT Try.prog T Jo c :=
 CB Pv Aw (g := Oc) (back := some (V 26, [V 0, V 1, V 2, V 3, V 4, V 5, V 6, V 7, V 8, V 9, V 10, V 11, V 12, V 13, V 14, V 56, V 16, V 17, V 48, V 49, V 50, V 51, V 52, V 53, V 54, V 55])) (exs := [(V 27, [some (V 18), some (V 19), some (V 20), some (V 21), some (V 22), some (V 23), some (V 24), some (V 25)])]) (by kernel_rfl) (fun aq => by rw [show Jo.id = 1680 from rfl, S1]; rfl) Aaw fun aq e h1 h2 h3 => by
  rw [show Jo.id = 1680 from rfl, S1] at h2 ⊢
  exact Aax aq e h1 h2 h3
noncomputable def Xz : Ctx := { At := At, eqs := eqs, fns := fun f => look f GB, ctr := [(63, CJ)], lim := 30, big := [], lps := [Jo] }
theorem T3 : XL Try.prog T Xz where
 At := AL
 eqs := AP
 mixed := mixed
 ctr := Af ⟨⟨rfl, DX⟩, trivial⟩
 fns := Am Ig
 big := Ag trivial
 lps := BY ⟨Acx, trivial⟩
theorem T4 : A2 Try.prog T FU := AR T3 Aw (g := Jp) (ls := [V 39, V 40, V 41, V 42, V 43, V 44, V 45, V 46, V 47, V 48, V 49, V 50, V 30]) (by kernel_rfl) (fun aq => by rw [show FU.f = 46 from rfl, Ael]; rfl) fun aq e h1 h2 h3 => by
 subst h1
 rw [show FU.f = 46 from rfl, Ael] at h2 ⊢
 obtain ⟨ho, hr⟩ := Q0 e h3 _ rfl _ rfl h2
 obtain ⟨r0, r1, r2, r3, r4, r5, r6, r7, r8, r9, r10, r11, r12⟩ := hr
 refine ⟨⟨ho.1, ho.2, trivial⟩, ?_⟩
 show Aa [.int .i64, .int .i64, .int .i64, .int .i64, .int .i64, .int .i64, .int .i64, .int .i64, .int .i64, .int .i64, .int .i64, .int .i64, .int .i64] (AfE _).2 = Aa [.int .i64, .int .i64, .int .i64, .int .i64, .int .i64, .int .i64, .int .i64, .int .i64, .int .i64, .int .i64, .int .i64, .int .i64, .int .i64] [L.ev e (V 39), L.ev e (V 40), L.ev e (V 41), L.ev e (V 42), L.ev e (V 43), L.ev e (V 44), L.ev e (V 45), L.ev e (V 46), L.ev e (V 47), L.ev e (V 48), L.ev e (V 49), L.ev e (V 50), L.ev e (V 30)]
 exact (Ab r0 (Ab r1 (Ab r2 (Ab r3 (Ab r4 (Ab r5 (Ab r6 (Ab r7 (Ab r8 (Ab r9 (Ab r10 (Ab r11 (Ab r12 rfl)))))))))))))
def EW : DR := { f := 48, ps := [.c false [.int .i64], .c true [.int .i64, .int .i64, .int .i64, .int .i64, .int .i64, .int .i64, .int .i64, .int .i64, .int .i64, .int .i64, .int .i64, .int .i64], .lst [.int .i64, .int .i64]], rs := [(true, [.int .i64, .int .i64, .int .i64, .int .i64, .int .i64, .int .i64, .int .i64, .int .i64, .int .i64, .int .i64, .int .i64, .int .i64]), (true, [.int .i64, .int .i64]), (false, [.int .i64])], ok := fun _ => true }
noncomputable def Fu : List (Nat × Func) := [(48, Try.f48), (63, Try.f63), (20, Try.f20), (14, Try.f14)]
theorem G6 : AG Try.prog Fu := ⟨Ahk, Ags, Yp, Agm, trivial⟩
noncomputable def JW : Ctx := { At := At, eqs := eqs, fns := fun f => look f Fu, ctr := [(20, A6), (14, Dd), (63, CJ)], lim := 30, big := [], lps := [] }
theorem Oh : XL Try.prog T JW where
 At := AL
 eqs := AP
 mixed := mixed
 ctr := Af ⟨⟨rfl, A8⟩, ⟨rfl, Ft⟩, ⟨rfl, DX⟩, trivial⟩
 fns := Am G6
 big := Ag trivial
 lps := Ax rfl
theorem Acz : ∀ fn body c, JW.fns Jq.f = some fn → fn.body = some body → CK Jq.p body = some (.loop c) → BT Try.prog T Jq c :=
 CB Oh Aw (g := Oe) (back := some (V 57, [V 0, V 1, V 2, V 3, V 4, V 5, V 6, V 7, V 8, V 9, V 10, V 11, V 12, V 13, V 14, V 54, V 16, V 17, V 18])) (exs := [(V 58, [some (V 36), some (V 37), some (V 38), some (V 39), some (V 40), some (V 41), some (V 42), some (V 43), some (V 15), some (V 36), some (V 37), some (V 38), some (V 39), some (V 40), some (V 41), some (V 42), some (V 43), some (V 15), some (V 30), some (V 51), some (B true), none]), (V 25, [none, none, none, none, none, none, none, none, none, none, none, none, none, none, none, none, none, none, none, none, none, some (B true)])]) (by kernel_rfl) (fun aq => by rw [show Jq.id = 1720 from rfl, S4]; rfl) Aay fun aq e h1 h2 h3 => by
  rw [show Jq.id = 1720 from rfl, S4] at h2 ⊢
  exact Aaz aq e h1 h2 h3
noncomputable def Vg : Ctx := { At := At, eqs := eqs, fns := fun f => look f Fu, ctr := [(20, A6), (14, Dd), (63, CJ)], lim := 30, big := [], lps := [Jq] }
theorem Q4 : XL Try.prog T Vg where
 At := AL
 eqs := AP
 mixed := mixed
 ctr := Af ⟨⟨rfl, A8⟩, ⟨rfl, Ft⟩, ⟨rfl, DX⟩, trivial⟩
 fns := Am G6
 big := Ag trivial
 lps := BY ⟨Acz, trivial⟩
theorem Q5 : A2 Try.prog T EW := AR Q4 Aw (g := HA) (ls := [V 135, V 136, V 137, V 138, V 139, V 140, V 141, V 142, V 143, V 144, V 145, V 146, V 147, V 148, V 123]) (by kernel_rfl) (fun aq => by rw [show EW.f = 48 from rfl, Aep]; rfl) fun aq e h1 h2 h3 => by
 subst h1
 rw [show EW.f = 48 from rfl, Aep] at h2 ⊢
 obtain ⟨ho, hr⟩ := Pw e h3 _ rfl _ rfl h2
 obtain ⟨r0, r1, r2, r3, r4, r5, r6, r7, r8, r9, r10, r11, r12, r13, r14⟩ := hr
 refine ⟨⟨ho.1, ho.2.1, ho.2.2.1, ho.2.2.2.1, ho.2.2.2.2.1, ho.2.2.2.2.2, trivial⟩, ?_⟩
 show Aa [.int .i64, .int .i64, .int .i64, .int .i64, .int .i64, .int .i64, .int .i64, .int .i64, .int .i64, .int .i64, .int .i64, .int .i64, .int .i64, .int .i64, .int .i64] (AfI _).2 = Aa [.int .i64, .int .i64, .int .i64, .int .i64, .int .i64, .int .i64, .int .i64, .int .i64, .int .i64, .int .i64, .int .i64, .int .i64, .int .i64, .int .i64, .int .i64] [L.ev e (V 135), L.ev e (V 136), L.ev e (V 137), L.ev e (V 138), L.ev e (V 139), L.ev e (V 140), L.ev e (V 141), L.ev e (V 142), L.ev e (V 143), L.ev e (V 144), L.ev e (V 145), L.ev e (V 146), L.ev e (V 147), L.ev e (V 148), L.ev e (V 123)]
 exact (Ab r0 (Ab r1 (Ab r2 (Ab r3 (Ab r4 (Ab r5 (Ab r6 (Ab r7 (Ab r8 (Ab r9 (Ab r10 (Ab r11 (Ab r12 (Ab r13 (Ab r14 rfl)))))))))))))))
end Rx.S
