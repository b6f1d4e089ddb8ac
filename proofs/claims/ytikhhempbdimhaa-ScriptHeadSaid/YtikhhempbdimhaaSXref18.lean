import Derived.Test.YtikhhempbdimhaaSXe
import Derived.Test.YtikhhempbdimhaaSXref17
import Derived.Test.YtikhhempbdimhaaSXwire
import Derived.Test.YtikhhempbdimhaaSYref18
set_option linter.unusedVariables false
set_option linter.unusedSimpArgs false
namespace Rx.S
open Go Rx Go.Proofs
set_option maxRecDepth 100000
set_option maxHeartbeats 4000000
def BA : J7 := { f := 26, ps := [.c false [.str], .c false [.int .i64]], rs := [(false, [.int .i64])], ok := fun _ => true }
noncomputable def LU : List (Nat × Func) := [(26, Try.f26)]
theorem Qe : BR Try.prog LU := ⟨Ab8, trivial⟩
noncomputable def V6 : Ctx := { Ay := Ay, eqs := eqs, fns := fun f => look f LU, ctr := [], lim := 30, big := [], lps := [] }
theorem S4 : XL Try.prog T V6 where
 Ay := AZ
 eqs := A4
 mixed := mixed
 ctr := Am trivial
 fns := Ar Qe
 big := An trivial
 lps := Bw rfl
theorem BC : CJ Try.prog T BA := Cr S4 AI (g := K0) (ls := [V 12]) (by kernel_rfl) (fun aq => by rw [show BA.f = 26 from rfl, Yn]; rfl) fun aq e h1 h2 h3 => by
 subst h1
 rw [show BA.f = 26 from rfl, Yn] at h2 ⊢
 obtain ⟨ho, hr⟩ := QV e h3 h2
 have r0 := hr
 refine ⟨⟨ho, trivial⟩, ?_⟩
 show Ag [.int .i64] (Aav _).2 = Ag [.int .i64] [L.ev e (V 12)]
 exact (Ya r0 rfl)
def A0 : J7 := { f := 41, ps := [.c false [.str], .c false [.int .i64], .c false [.int .i64]], rs := [(false, [.str]), (false, [.int .i64])], ok := fun _ => true }
noncomputable def DM : List (Nat × Func) := [(41, Try.f41), (26, Try.f26), (52, Try.f52)]
theorem EF : BR Try.prog DM := ⟨AcO, Ab8, AcQ, trivial⟩
noncomputable def FY : Ctx := { Ay := Ay, eqs := eqs, fns := fun f => look f DM, ctr := [(52, Er), (26, BA)], lim := 30, big := [], lps := [] }
theorem J4 : XL Try.prog T FY where
 Ay := AZ
 eqs := A4
 mixed := mixed
 ctr := Am ⟨⟨rfl, Kt⟩, ⟨rfl, BC⟩, trivial⟩
 fns := Ar EF
 big := An trivial
 lps := Bw rfl
theorem YP : ∀ fn body c, FY.fns Hk.f = some fn → fn.body = some body → Bx Hk.p body = some (.loop c) → A2 Try.prog T Hk c :=
 Bf J4 AI (g := LV) (back := some (V 14, [V 0, V 1, V 2, V 3, V 24, V 5, V 29, V 7, V 8, V 9, V 10, V 11, V 12, V 23])) (exs := [(V 15, [some (V 4), some (V 13)])]) (by kernel_rfl) (fun aq => by rw [show Hk.id = 1170 from rfl, PQ]; rfl) V7 fun aq e h1 h2 h3 => by
  rw [show Hk.id = 1170 from rfl, PQ] at h2 ⊢
  exact V8 aq e h1 h2 h3
noncomputable def N5 : Ctx := { Ay := Ay, eqs := eqs, fns := fun f => look f DM, ctr := [(52, Er), (26, BA)], lim := 30, big := [], lps := [Hk] }
theorem L2 : XL Try.prog T N5 where
 Ay := AZ
 eqs := A4
 mixed := mixed
 ctr := Am ⟨⟨rfl, Kt⟩, ⟨rfl, BC⟩, trivial⟩
 fns := Ar EF
 big := An trivial
 lps := AU ⟨YP, trivial⟩
theorem Bk : CJ Try.prog T A0 := Cr L2 AI (g := EA) (ls := [V 37, V 38]) (by kernel_rfl) (fun aq => by rw [show A0.f = 41 from rfl, Yo]; rfl) fun aq e h1 h2 h3 => by
 subst h1
 rw [show A0.f = 41 from rfl, Yo] at h2 ⊢
 obtain ⟨ho, hr⟩ := K1 e h3 h2
 obtain ⟨r0, r1⟩ := hr
 refine ⟨⟨ho.1, ho.2.1, ho.2.2.1, ho.2.2.2, trivial⟩, ?_⟩
 show Ag [.str, .int .i64] (Aaw _).2 = Ag [.str, .int .i64] [L.ev e (V 37), L.ev e (V 38)]
 exact (Z3 r0 (Ya r1 rfl))
def EX : WQ := { f := 10, ps := [.c false [.str]], rs := [.d true [.int .i64, .sl [.int .i64], .int .i64, .int .i64, .bool, .sl [.int .i64, .int .i64, .int .i64, .int .i64], .int .i64, .int .i64, .int .i64, .int .i64, .int .i64, .int .i64, .int .i64, .int .i64, .int .i64, .int .i64, .int .i64, .int .i64, .int .i64, .int .i64, .int .i64, .int .i64, .int .i64, .int .i64, .int .i64, .int .i64, .int .i64, .int .i64, .int .i64, .int .i64, .sl [.str, .str, .sl [.int .i64], .int .i64]]], ok := fun _ => true, w := 35 }
noncomputable def By : List (Nat × Func) := [(10, Try.f10), (24, Try.f24), (26, Try.f26), (25, Try.f25), (27, Try.f27), (41, Try.f41)]
theorem Bs : BR Try.prog By := ⟨Ab6, Adn, Ab8, Ado, Adp, AcO, trivial⟩
noncomputable def Jb : Ctx := { Ay := Ay, eqs := eqs, fns := fun f => look f By, ctr := [(26, BA), (41, A0)], lim := 30, big := [], lps := [] }
theorem Nh : XL Try.prog T Jb where
 Ay := AZ
 eqs := A4
 mixed := mixed
 ctr := Am ⟨⟨rfl, BC⟩, ⟨rfl, Bk⟩, trivial⟩
 fns := Ar Bs
 big := An trivial
 lps := Bw rfl
theorem E4 : ∀ fn body c, Jb.fns De.f = some fn → fn.body = some body → Bx De.p body = some (.loop c) → A2 Try.prog T De c :=
 Bf Nh AI (g := LM) (back := some (V 9, [V 0, V 35, V 2, V 3, V 4, V 5, V 36, V 30, V 29])) (exs := [(V 10, [some (V 1), some (V 7), some (V 8)])]) (by kernel_rfl) (fun aq => by rw [show De.id = 1180 from rfl, PR]; rfl) VU fun aq e h1 h2 h3 => by
  rw [show De.id = 1180 from rfl, PR] at h2 ⊢
  exact VV aq e h1 h2 h3
noncomputable def Jc : Ctx := { Ay := Ay, eqs := eqs, fns := fun f => look f By, ctr := [(26, BA), (41, A0)], lim := 30, big := [], lps := [De] }
theorem Ni : XL Try.prog T Jc where
 Ay := AZ
 eqs := A4
 mixed := mixed
 ctr := Am ⟨⟨rfl, BC⟩, ⟨rfl, Bk⟩, trivial⟩
 fns := Ar Bs
 big := An trivial
 lps := AU ⟨E4, trivial⟩
theorem GN : ∀ fn body c, Jc.fns DL.f = some fn → fn.body = some body → Bx DL.p body = some (.loop c) → A2 Try.prog T DL c :=
 Bf Ni AI (g := LN) (back := some (V 17, [V 0, V 1, V 2, V 3, V 4, V 5, V 35, V 7, V 27, V 28, V 29, V 30, V 31, V 32, V 33, V 34, V 16])) (exs := [(V 18, [some (V 8), some (V 9), some (V 10), some (V 11), some (V 12), some (V 13), some (V 14), some (V 15)])]) (by kernel_rfl) (fun aq => by rw [show DL.id = 1181 from rfl, PT]; rfl) VW fun aq e h1 h2 h3 => by
  rw [show DL.id = 1181 from rfl, PT] at h2 ⊢
  exact VX aq e h1 h2 h3
noncomputable def Jd : Ctx := { Ay := Ay, eqs := eqs, fns := fun f => look f By, ctr := [(26, BA), (41, A0)], lim := 30, big := [], lps := [De, DL] }
theorem Nj : XL Try.prog T Jd where
 Ay := AZ
 eqs := A4
 mixed := mixed
 ctr := Am ⟨⟨rfl, BC⟩, ⟨rfl, Bk⟩, trivial⟩
 fns := Ar Bs
 big := An trivial
 lps := AU ⟨E4, GN, trivial⟩
theorem JY : ∀ fn body c, Jd.fns D9.f = some fn → fn.body = some body → Bx D9.p body = some (.loop c) → A2 Try.prog T D9 c :=
 Bf Nj AI (g := LO) (back := some (V 34, [V 0, V 1, V 2, V 3, V 4, V 5, V 52, V 7, V 8, V 9, V 10, V 11, V 12, V 13, V 14, V 15, V 16, V 17, V 18, V 19, V 20, V 21, V 22, V 23, V 24, V 44, V 45, V 46, V 47, V 48, V 49, V 50, V 51, V 33])) (exs := [(V 35, [some (V 25), some (V 26), some (V 27), some (V 28), some (V 29), some (V 30), some (V 31), some (V 32)])]) (by kernel_rfl) (fun aq => by rw [show D9.id = 1182 from rfl, PU]; rfl) VY fun aq e h1 h2 h3 => by
  rw [show D9.id = 1182 from rfl, PU] at h2 ⊢
  exact VZ aq e h1 h2 h3
noncomputable def Je : Ctx := { Ay := Ay, eqs := eqs, fns := fun f => look f By, ctr := [(26, BA), (41, A0)], lim := 30, big := [], lps := [De, DL, D9] }
theorem Nk : XL Try.prog T Je where
 Ay := AZ
 eqs := A4
 mixed := mixed
 ctr := Am ⟨⟨rfl, BC⟩, ⟨rfl, Bk⟩, trivial⟩
 fns := Ar Bs
 big := An trivial
 lps := AU ⟨E4, GN, JY, trivial⟩
theorem Nl : ∀ fn body c, Je.fns EV.f = some fn → fn.body = some body → Bx EV.p body = some (.loop c) → A2 Try.prog T EV c :=
 Bf Nk AI (g := LP) (back := some (V 8, [V 0, V 21, V 2, V 3, V 4, V 5, V 16, V 15])) (exs := [(V 9, [some (V 6), some (V 7)])]) (by kernel_rfl) (fun aq => by rw [show EV.id = 1183 from rfl, PW]; rfl) V0 fun aq e h1 h2 h3 => by
  rw [show EV.id = 1183 from rfl, PW] at h2 ⊢
  exact V1 aq e h1 h2 h3
noncomputable def Jf : Ctx := { Ay := Ay, eqs := eqs, fns := fun f => look f By, ctr := [(26, BA), (41, A0)], lim := 30, big := [], lps := [De, DL, D9, EV] }
theorem Nn : XL Try.prog T Jf where
 Ay := AZ
 eqs := A4
 mixed := mixed
 ctr := Am ⟨⟨rfl, BC⟩, ⟨rfl, Bk⟩, trivial⟩
 fns := Ar Bs
 big := An trivial
 lps := AU ⟨E4, GN, JY, Nl, trivial⟩
theorem RY : ∀ fn body c, Jf.fns FW.f = some fn → fn.body = some body → Bx FW.p body = some (.loop c) → A2 Try.prog T FW c :=
 Bf Nn AI (g := LQ) (back := some (V 41, [V 0, V 1, V 2, V 3, V 4, V 5, V 6, V 7, V 8, V 9, V 10, V 11, V 12, V 13, V 14, V 15, V 16, V 17, V 18, V 19, V 20, V 21, V 22, V 23, V 24, V 25, V 26, V 27, V 28, V 29, V 30, V 31, V 32, V 55, V 34, V 35, V 36, V 37, V 38, V 50, V 49])) (exs := [(V 42, [some (V 33), some (V 33), some (V 41), some (V 39), some (V 40)])]) (by kernel_rfl) (fun aq => by rw [show FW.id = 1186 from rfl, PX]; rfl) V2 fun aq e h1 h2 h3 => by
  rw [show FW.id = 1186 from rfl, PX] at h2 ⊢
  exact V3 aq e h1 h2 h3
noncomputable def Jg : Ctx := { Ay := Ay, eqs := eqs, fns := fun f => look f By, ctr := [(26, BA), (41, A0)], lim := 30, big := [], lps := [De, DL, D9, EV, FW] }
theorem No : XL Try.prog T Jg where
 Ay := AZ
 eqs := A4
 mixed := mixed
 ctr := Am ⟨⟨rfl, BC⟩, ⟨rfl, Bk⟩, trivial⟩
 fns := Ar Bs
 big := An trivial
 lps := AU ⟨E4, GN, JY, Nl, RY, trivial⟩
theorem YQ : ∀ fn body c, Jg.fns Hi.f = some fn → fn.body = some body → Bx Hi.p body = some (.loop c) → A2 Try.prog T Hi c :=
 Bf No AI (g := LR) (back := some (V 45, [V 0, V 80, V 2, V 93, V 4, V 5, V 6, V 7, V 8, V 9, V 10, V 11, V 12, V 13, V 14, V 15, V 16, V 17, V 18, V 19, V 20, V 21, V 22, V 23, V 24, V 25, V 26, V 27, V 28, V 29, V 30, V 31, V 32, V 33, V 34, V 35, V 36, V 37, V 38, V 39, V 40, V 88, V 42, V 43, V 87])) (exs := [(V 46, [some (V 1), some (V 41), some (V 44)])]) (by kernel_rfl) (fun aq => by rw [show Hi.id = 1187 from rfl, PY]; rfl) V4 fun aq e h1 h2 h3 => by
  rw [show Hi.id = 1187 from rfl, PY] at h2 ⊢
  exact V5 aq e h1 h2 h3
noncomputable def S6 : Ctx := { Ay := Ay, eqs := eqs, fns := fun f => look f By, ctr := [(26, BA), (41, A0)], lim := 30, big := [], lps := [De, DL, D9, EV, FW, Hi] }
theorem Qk : XL Try.prog T S6 where
 Ay := AZ
 eqs := A4
 mixed := mixed
 ctr := Am ⟨⟨rfl, BC⟩, ⟨rfl, Bk⟩, trivial⟩
 fns := Ar Bs
 big := An trivial
 lps := AU ⟨E4, GN, JY, Nl, RY, YQ, trivial⟩
theorem Jh : Ry Try.prog T EX := Z5 Qk AI (g := Hj) (ls := [V 4, V 146, V 119, V 12, V 28, V 9, V 145, V 120, V 121, V 122, V 123, V 124, V 125, V 126, V 127, V 128, V 129, V 130, V 131, V 132, V 133, V 134, V 135, V 136, V 137, V 138, V 139, V 140, V 141, V 142, V 143, V 144, V 159, V 158]) (by kernel_rfl) fun aq e h1 h2 h3 => by
 subst h1
 rw [show EX.f = 10 from rfl, Abs] at h2 ⊢
 obtain ⟨ho, hr⟩ := NY e h3 _ rfl h2
 obtain ⟨r0, r1, r2, r3, r4, r5, r6, r7, r8, r9, r10, r11, r12, r13, r14, r15, r16, r17, r18, r19, r20, r21, r22, r23, r24, r25, r26, r27, r28, r29, r30, r31, r32, r33⟩ := hr
 refine ⟨⟨ho.1, ho.2.1, ho.2.2.1, ho.2.2.2.1, ho.2.2.2.2.1, ho.2.2.2.2.2.1, ho.2.2.2.2.2.2.1, ho.2.2.2.2.2.2.2.1, ho.2.2.2.2.2.2.2.2.1, ho.2.2.2.2.2.2.2.2.2.1, ho.2.2.2.2.2.2.2.2.2.2.1, ho.2.2.2.2.2.2.2.2.2.2.2.1, ho.2.2.2.2.2.2.2.2.2.2.2.2.1, ho.2.2.2.2.2.2.2.2.2.2.2.2.2.1, ho.2.2.2.2.2.2.2.2.2.2.2.2.2.2.1, ho.2.2.2.2.2.2.2.2.2.2.2.2.2.2.2.1, ho.2.2.2.2.2.2.2.2.2.2.2.2.2.2.2.2.1, ho.2.2.2.2.2.2.2.2.2.2.2.2.2.2.2.2.2.1, ho.2.2.2.2.2.2.2.2.2.2.2.2.2.2.2.2.2.2.1, ho.2.2.2.2.2.2.2.2.2.2.2.2.2.2.2.2.2.2.2.1, ho.2.2.2.2.2.2.2.2.2.2.2.2.2.2.2.2.2.2.2.2.1, ho.2.2.2.2.2.2.2.2.2.2.2.2.2.2.2.2.2.2.2.2.2.1, ho.2.2.2.2.2.2.2.2.2.2.2.2.2.2.2.2.2.2.2.2.2.2.1, ho.2.2.2.2.2.2.2.2.2.2.2.2.2.2.2.2.2.2.2.2.2.2.2.1, ho.2.2.2.2.2.2.2.2.2.2.2.2.2.2.2.2.2.2.2.2.2.2.2.2.1, ho.2.2.2.2.2.2.2.2.2.2.2.2.2.2.2.2.2.2.2.2.2.2.2.2.2.1, ho.2.2.2.2.2.2.2.2.2.2.2.2.2.2.2.2.2.2.2.2.2.2.2.2.2.2.1, ho.2.2.2.2.2.2.2.2.2.2.2.2.2.2.2.2.2.2.2.2.2.2.2.2.2.2.2.1, ho.2.2.2.2.2.2.2.2.2.2.2.2.2.2.2.2.2.2.2.2.2.2.2.2.2.2.2.2, trivial⟩, ?_⟩
 exact ⟨[_, _, _, _, _, _, _, _, _, _, _, _, _, _, _, _, _, _, _, _, _, _, _, _, _, _, _, _, _, _, _, _, _, _], _, [_, _, _, _, _, _, _, _, _, _, _, _, _, _, _, _, _, _, _, _, _, _, _, _, _, _, _, _, _, _, _, _, _, _], _, rfl, rfl, rfl, rfl, ⟨_, _, _, _, rfl, rfl, (AQ r0), ⟨_, _, _, _, _, _, rfl, rfl, r1, r2, ⟨_, _, _, _, rfl, rfl, (AQ r3), ⟨_, _, _, _, rfl, rfl, (AQ r4), ⟨_, _, _, _, rfl, rfl, (AbD r5), ⟨_, _, _, _, _, _, rfl, rfl, r6, r7, ⟨_, _, _, _, rfl, rfl, (AQ r8), ⟨_, _, _, _, rfl, rfl, (AQ r9), ⟨_, _, _, _, rfl, rfl, (AQ r10), ⟨_, _, _, _, rfl, rfl, (AQ r11), ⟨_, _, _, _, rfl, rfl, (AQ r12), ⟨_, _, _, _, rfl, rfl, (AQ r13), ⟨_, _, _, _, rfl, rfl, (AQ r14), ⟨_, _, _, _, rfl, rfl, (AQ r15), ⟨_, _, _, _, rfl, rfl, (AQ r16), ⟨_, _, _, _, rfl, rfl, (AQ r17), ⟨_, _, _, _, rfl, rfl, (AQ r18), ⟨_, _, _, _, rfl, rfl, (AQ r19), ⟨_, _, _, _, rfl, rfl, (AQ r20), ⟨_, _, _, _, rfl, rfl, (AQ r21), ⟨_, _, _, _, rfl, rfl, (AQ r22), ⟨_, _, _, _, rfl, rfl, (AQ r23), ⟨_, _, _, _, rfl, rfl, (AQ r24), ⟨_, _, _, _, rfl, rfl, (AQ r25), ⟨_, _, _, _, rfl, rfl, (AQ r26), ⟨_, _, _, _, rfl, rfl, (AQ r27), ⟨_, _, _, _, rfl, rfl, (AQ r28), ⟨_, _, _, _, rfl, rfl, (AQ r29), ⟨_, _, _, _, rfl, rfl, (AQ r30), ⟨_, _, _, _, rfl, rfl, (AQ r31), ⟨_, _, _, _, _, _, rfl, rfl, r32, r33, ⟨rfl, rfl⟩⟩⟩⟩⟩⟩⟩⟩⟩⟩⟩⟩⟩⟩⟩⟩⟩⟩⟩⟩⟩⟩⟩⟩⟩⟩⟩⟩⟩⟩⟩⟩, ⟨rfl, rfl⟩⟩
def Df : J7 := { f := 17, ps := [.lst [.str, .str, .sl [.int .i64], .int .i64], .lst [.str, .str, .sl [.int .i64], .int .i64]], rs := [(false, [.bool])], ok := fun _ => true }
noncomputable def DN : List (Nat × Func) := [(17, Try.f17), (15, Try.f15)]
theorem EG : BR Try.prog DN := ⟨AcF, Ab7, trivial⟩
noncomputable def F0 : Ctx := { Ay := Ay, eqs := eqs, fns := fun f => look f DN, ctr := [(15, C2)], lim := 30, big := [], lps := [] }
theorem J5 : XL Try.prog T F0 where
 Ay := AZ
 eqs := A4
 mixed := mixed
 ctr := Am ⟨⟨rfl, FA⟩, trivial⟩
 fns := Ar EG
 big := An trivial
 lps := Bw rfl
theorem YT : ∀ fn body c, F0.fns Hs.f = some fn → fn.body = some body → Bx Hs.p body = some (.loop c) → A2 Try.prog T Hs c :=
 Bf J5 AI (g := L6) (back := some (V 61, [V 0, V 1, V 57, V 3, V 4, V 5])) (exs := [(V 62, [some (B true), none]), (V 63, [none, some (B true)])]) (by kernel_rfl) (fun aq => by rw [show Hs.id = 1210 from rfl, P1]; rfl) Wj fun aq e h1 h2 h3 => by
  rw [show Hs.id = 1210 from rfl, P1] at h2 ⊢
  exact Wk aq e h1 h2 h3
noncomputable def Oa : Ctx := { Ay := Ay, eqs := eqs, fns := fun f => look f DN, ctr := [(15, C2)], lim := 30, big := [], lps := [Hs] }
theorem L7 : XL Try.prog T Oa where
 Ay := AZ
 eqs := A4
 mixed := mixed
 ctr := Am ⟨⟨rfl, FA⟩, trivial⟩
 fns := Ar EG
 big := An trivial
 lps := AU ⟨YT, trivial⟩
theorem L8 : CJ Try.prog T Df := Cr L7 AI (g := EC) (ls := [V 19]) (by kernel_rfl) (fun aq => by rw [show Df.f = 17 from rfl, AaI]; rfl) fun aq e h1 h2 h3 => by
 subst h1
 rw [show Df.f = 17 from rfl, AaI] at h2 ⊢
 obtain ⟨ho, hr⟩ := K2 e h3 h2
 have r0 := hr
 refine ⟨⟨ho.1, ho.2, trivial⟩, ?_⟩
 show Ag [.bool] (Abr _).2 = Ag [.bool] [L.ev e (V 19)]
 exact (SZ r0 rfl)
def DO : J7 := { f := 8, ps := [.d true [.int .i64, .sl [.int .i64], .int .i64, .int .i64, .bool, .sl [.int .i64, .int .i64, .int .i64, .int .i64], .int .i64, .int .i64, .int .i64, .int .i64, .int .i64, .int .i64, .int .i64, .int .i64, .int .i64, .int .i64, .int .i64, .int .i64, .int .i64, .int .i64, .int .i64, .int .i64, .int .i64, .int .i64, .int .i64, .int .i64, .int .i64, .int .i64, .int .i64, .int .i64, .sl [.str, .str, .sl [.int .i64], .int .i64]], .d true [.int .i64, .sl [.int .i64], .int .i64, .int .i64, .bool, .sl [.int .i64, .int .i64, .int .i64, .int .i64], .int .i64, .int .i64, .int .i64, .int .i64, .int .i64, .int .i64, .int .i64, .int .i64, .int .i64, .int .i64, .int .i64, .int .i64, .int .i64, .int .i64, .int .i64, .int .i64, .int .i64, .int .i64, .int .i64, .int .i64, .int .i64, .int .i64, .int .i64, .int .i64, .sl [.str, .str, .sl [.int .i64], .int .i64]]], rs := [(false, [.bool])], ok := fun _ => true }
noncomputable def Jj : List (Nat × Func) := [(8, Try.f8), (15, Try.f15), (16, Try.f16), (17, Try.f17)]
theorem Nr : BR Try.prog Jj := ⟨fn8, Ab7, AcE, AcF, trivial⟩
noncomputable def S8 : Ctx := { Ay := Ay, eqs := eqs, fns := fun f => look f Jj, ctr := [(15, C2), (16, Eb), (17, Df)], lim := 30, big := [], lps := [] }
theorem Qm : XL Try.prog T S8 where
 Ay := AZ
 eqs := A4
 mixed := mixed
 ctr := Am ⟨⟨rfl, FA⟩, ⟨rfl, N9⟩, ⟨rfl, L8⟩, trivial⟩
 fns := Ar Nr
 big := An trivial
 lps := Bw rfl
theorem Jk : CJ Try.prog T DO := Cr Qm AI (g := Ho) (ls := [V 134]) (by kernel_rfl) (fun aq => by rw [show DO.f = 8 from rfl, T_8]; rfl) fun aq e h1 h2 h3 => by
 subst h1
 rw [show DO.f = 8 from rfl, T_8] at h2 ⊢
 obtain ⟨ho, hr⟩ := N6 e h3 _ rfl _ rfl h2
 have r0 := hr
 refine ⟨⟨ho.1, ho.2.1, ho.2.2, trivial⟩, ?_⟩
 show Ag [.bool] (t_8 _).2 = Ag [.bool] [L.ev e (V 134)]
 exact (SZ r0 rfl)
end Rx.S
