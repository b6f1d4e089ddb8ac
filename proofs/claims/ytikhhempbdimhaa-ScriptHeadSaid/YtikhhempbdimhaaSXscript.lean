import Derived.Test.YtikhhempbdimhaaSXe
import Derived.Test.YtikhhempbdimhaaSXwire
import Derived.Test.YtikhhempbdimhaaSYscript
set_option linter.unusedVariables false
set_option linter.unusedSimpArgs false
namespace Rx.S
open Go Rx Go.Proofs
set_option maxRecDepth 100000
set_option maxHeartbeats 4000000
def Ed : WQ := { f := 9, ps := [.c false [.str]], rs := [.d true [.int .i64, .sl [.int .i64], .int .i64, .int .i64, .bool, .sl [.int .i64, .int .i64, .int .i64, .int .i64], .int .i64, .int .i64, .int .i64, .int .i64, .int .i64, .int .i64, .int .i64, .int .i64, .int .i64, .int .i64, .int .i64, .int .i64, .int .i64, .int .i64, .int .i64, .int .i64, .int .i64, .int .i64, .int .i64, .int .i64, .int .i64, .int .i64, .int .i64, .int .i64, .sl [.str, .str, .sl [.int .i64], .int .i64]]], ok := fun _ => true, w := 35 }
noncomputable def AP : List (Nat × Func) := [(9, Try.f9), (18, Try.f18), (19, Try.f19), (22, Try.f22), (20, Try.f20), (21, Try.f21), (23, Try.f23), (39, Try.f39), (50, Try.f50), (40, Try.f40), (51, Try.f51)]
theorem AL : BR Try.prog AP := ⟨fn9, AcG, AcH, AcK, AcI, AcJ, AcL, AcM, Ab9, AcN, AcP, trivial⟩
noncomputable def HK : Ctx := { Ay := Ay, eqs := eqs, fns := fun f => look f AP, ctr := [(50, Bb)], lim := 30, big := [], lps := [] }
theorem Mn : XL Try.prog T HK where
 Ay := AZ
 eqs := A4
 mixed := mixed
 ctr := Am ⟨⟨rfl, A9⟩, trivial⟩
 fns := Ar AL
 big := An trivial
 lps := Bw rfl
theorem CE : ∀ fn body c, HK.fns Cd.f = some fn → fn.body = some body → Bx Cd.p body = some (.loop c) → A2 Try.prog T Cd c :=
 Bf Mn AI (g := L9) (back := some (V 8, [V 0, V 89, V 2, V 71, V 4, V 5, V 6, V 88])) (exs := [(V 91, [some (V 3), some (V 7)])]) (by kernel_rfl) (fun aq => by rw [show Cd.id = 1230 from rfl, P2]; rfl) Wl fun aq e h1 h2 h3 => by
  rw [show Cd.id = 1230 from rfl, P2] at h2 ⊢
  exact Wm aq e h1 h2 h3
noncomputable def HL : Ctx := { Ay := Ay, eqs := eqs, fns := fun f => look f AP, ctr := [(50, Bb)], lim := 30, big := [], lps := [Cd] }
theorem Mo : XL Try.prog T HL where
 Ay := AZ
 eqs := A4
 mixed := mixed
 ctr := Am ⟨⟨rfl, A9⟩, trivial⟩
 fns := Ar AL
 big := An trivial
 lps := AU ⟨CE, trivial⟩
theorem C4 : ∀ fn body c, HL.fns Cs.f = some fn → fn.body = some body → Bx Cs.p body = some (.loop c) → A2 Try.prog T Cs c :=
 Bf Mo AI (g := Ma) (back := some (V 9, [V 0, V 33, V 2, V 11, V 4, V 5, V 6, V 7, V 32])) (exs := [(V 10, [some (V 3), some (V 8)])]) (by kernel_rfl) (fun aq => by rw [show Cs.id = 1231 from rfl, P3]; rfl) Wn fun aq e h1 h2 h3 => by
  rw [show Cs.id = 1231 from rfl, P3] at h2 ⊢
  exact Wo aq e h1 h2 h3
noncomputable def HM : Ctx := { Ay := Ay, eqs := eqs, fns := fun f => look f AP, ctr := [(50, Bb)], lim := 30, big := [], lps := [Cd, Cs] }
theorem Mp : XL Try.prog T HM where
 Ay := AZ
 eqs := A4
 mixed := mixed
 ctr := Am ⟨⟨rfl, A9⟩, trivial⟩
 fns := Ar AL
 big := An trivial
 lps := AU ⟨CE, C4, trivial⟩
theorem Dx : ∀ fn body c, HM.fns CL.f = some fn → fn.body = some body → Bx CL.p body = some (.loop c) → A2 Try.prog T CL c :=
 Bf Mp AI (g := Mb) (back := some (V 22, [V 0, V 46, V 2, V 24, V 4, V 5, V 6, V 7, V 8, V 9, V 10, V 11, V 12, V 13, V 14, V 15, V 16, V 17, V 18, V 19, V 20, V 45])) (exs := [(V 23, [some (V 3), some (V 21)])]) (by kernel_rfl) (fun aq => by rw [show CL.id = 1232 from rfl, P4]; rfl) Wp fun aq e h1 h2 h3 => by
  rw [show CL.id = 1232 from rfl, P4] at h2 ⊢
  exact Wq aq e h1 h2 h3
noncomputable def HN : Ctx := { Ay := Ay, eqs := eqs, fns := fun f => look f AP, ctr := [(50, Bb)], lim := 30, big := [], lps := [Cd, Cs, CL] }
theorem Mq : XL Try.prog T HN where
 Ay := AZ
 eqs := A4
 mixed := mixed
 ctr := Am ⟨⟨rfl, A9⟩, trivial⟩
 fns := Ar AL
 big := An trivial
 lps := AU ⟨CE, C4, Dx, trivial⟩
theorem DZ : ∀ fn body c, HN.fns C3.f = some fn → fn.body = some body → Bx C3.p body = some (.loop c) → A2 Try.prog T C3 c :=
 Bf Mq AI (g := Mc) (back := some (V 8, [V 0, V 32, V 2, V 10, V 4, V 5, V 6, V 31])) (exs := [(V 9, [some (V 3), some (V 7)])]) (by kernel_rfl) (fun aq => by rw [show C3.id = 1233 from rfl, P5]; rfl) Ws fun aq e h1 h2 h3 => by
  rw [show C3.id = 1233 from rfl, P5] at h2 ⊢
  exact Wu aq e h1 h2 h3
noncomputable def HO : Ctx := { Ay := Ay, eqs := eqs, fns := fun f => look f AP, ctr := [(50, Bb)], lim := 30, big := [], lps := [Cd, Cs, CL, C3] }
theorem Mr : XL Try.prog T HO where
 Ay := AZ
 eqs := A4
 mixed := mixed
 ctr := Am ⟨⟨rfl, A9⟩, trivial⟩
 fns := Ar AL
 big := An trivial
 lps := AU ⟨CE, C4, Dx, DZ, trivial⟩
theorem E5 : ∀ fn body c, HO.fns Dg.f = some fn → fn.body = some body → Bx Dg.p body = some (.loop c) → A2 Try.prog T Dg c :=
 Bf Mr AI (g := Md) (back := some (V 39, [V 0, V 63, V 2, V 41, V 4, V 5, V 6, V 7, V 8, V 9, V 10, V 11, V 12, V 13, V 14, V 15, V 16, V 17, V 18, V 19, V 20, V 21, V 22, V 23, V 24, V 25, V 26, V 27, V 28, V 29, V 30, V 31, V 32, V 33, V 34, V 35, V 36, V 37, V 62])) (exs := [(V 40, [some (V 1), some (V 39), some (V 3), some (V 38)])]) (by kernel_rfl) (fun aq => by rw [show Dg.id = 1244 from rfl, P6]; rfl) Wv fun aq e h1 h2 h3 => by
  rw [show Dg.id = 1244 from rfl, P6] at h2 ⊢
  exact Ww aq e h1 h2 h3
noncomputable def HP : Ctx := { Ay := Ay, eqs := eqs, fns := fun f => look f AP, ctr := [(50, Bb)], lim := 30, big := [], lps := [Cd, Cs, CL, C3, Dg] }
theorem Ms : XL Try.prog T HP where
 Ay := AZ
 eqs := A4
 mixed := mixed
 ctr := Am ⟨⟨rfl, A9⟩, trivial⟩
 fns := Ar AL
 big := An trivial
 lps := AU ⟨CE, C4, Dx, DZ, E5, trivial⟩
theorem GQ : ∀ fn body c, HP.fns DP.f = some fn → fn.body = some body → Bx DP.p body = some (.loop c) → A2 Try.prog T DP c :=
 Bf Ms AI (g := Me) (back := some (V 46, [V 0, V 1, V 55, V 3, V 4, V 5, V 6, V 7, V 60, V 9, V 10, V 11, V 12, V 13, V 14, V 15, V 16, V 17, V 18, V 19, V 20, V 21, V 22, V 23, V 24, V 25, V 26, V 27, V 28, V 29, V 30, V 31, V 32, V 33, V 34, V 35, V 36, V 37, V 38, V 39, V 40, V 41, V 42, V 43, V 44, V 54])) (exs := [(V 47, [some (V 2), some (V 8), some (V 46), some (V 45)])]) (by kernel_rfl) (fun aq => by rw [show DP.id = 1245 from rfl, P7]; rfl) Wx fun aq e h1 h2 h3 => by
  rw [show DP.id = 1245 from rfl, P7] at h2 ⊢
  exact Wy aq e h1 h2 h3
noncomputable def HQ : Ctx := { Ay := Ay, eqs := eqs, fns := fun f => look f AP, ctr := [(50, Bb)], lim := 30, big := [], lps := [Cd, Cs, CL, C3, Dg, DP] }
theorem Mt : XL Try.prog T HQ where
 Ay := AZ
 eqs := A4
 mixed := mixed
 ctr := Am ⟨⟨rfl, A9⟩, trivial⟩
 fns := Ar AL
 big := An trivial
 lps := AU ⟨CE, C4, Dx, DZ, E5, GQ, trivial⟩
theorem J0 : ∀ fn body c, HQ.fns Ec.f = some fn → fn.body = some body → Bx Ec.p body = some (.loop c) → A2 Try.prog T Ec c :=
 Bf Mt AI (g := Mf) (back := some (V 40, [V 0, V 64, V 2, V 42, V 4, V 5, V 6, V 7, V 8, V 9, V 10, V 11, V 12, V 13, V 14, V 15, V 16, V 17, V 18, V 19, V 20, V 21, V 22, V 23, V 24, V 25, V 26, V 27, V 28, V 29, V 30, V 31, V 32, V 33, V 34, V 35, V 36, V 37, V 38, V 63])) (exs := [(V 41, [some (V 1), some (V 40), some (V 3), some (V 39)])]) (by kernel_rfl) (fun aq => by rw [show Ec.id = 1246 from rfl, P8]; rfl) Wz fun aq e h1 h2 h3 => by
  rw [show Ec.id = 1246 from rfl, P8] at h2 ⊢
  exact WA aq e h1 h2 h3
noncomputable def HR : Ctx := { Ay := Ay, eqs := eqs, fns := fun f => look f AP, ctr := [(50, Bb)], lim := 30, big := [], lps := [Cd, Cs, CL, C3, Dg, DP, Ec] }
theorem Mu : XL Try.prog T HR where
 Ay := AZ
 eqs := A4
 mixed := mixed
 ctr := Am ⟨⟨rfl, A9⟩, trivial⟩
 fns := Ar AL
 big := An trivial
 lps := AU ⟨CE, C4, Dx, DZ, E5, GQ, J0, trivial⟩
theorem Nw : ∀ fn body c, HR.fns EY.f = some fn → fn.body = some body → Bx EY.p body = some (.loop c) → A2 Try.prog T EY c :=
 Bf Mu AI (g := Mg) (back := some (V 47, [V 0, V 1, V 56, V 3, V 4, V 5, V 6, V 7, V 61, V 9, V 10, V 11, V 12, V 13, V 14, V 15, V 16, V 17, V 18, V 19, V 20, V 21, V 22, V 23, V 24, V 25, V 26, V 27, V 28, V 29, V 30, V 31, V 32, V 33, V 34, V 35, V 36, V 37, V 38, V 39, V 40, V 41, V 42, V 43, V 44, V 45, V 55])) (exs := [(V 48, [some (V 2), some (V 8), some (V 47), some (V 46)])]) (by kernel_rfl) (fun aq => by rw [show EY.id = 1247 from rfl, P9]; rfl) WB fun aq e h1 h2 h3 => by
  rw [show EY.id = 1247 from rfl, P9] at h2 ⊢
  exact WC aq e h1 h2 h3
noncomputable def HS : Ctx := { Ay := Ay, eqs := eqs, fns := fun f => look f AP, ctr := [(50, Bb)], lim := 30, big := [], lps := [Cd, Cs, CL, C3, Dg, DP, Ec, EY] }
theorem Mv : XL Try.prog T HS where
 Ay := AZ
 eqs := A4
 mixed := mixed
 ctr := Am ⟨⟨rfl, A9⟩, trivial⟩
 fns := Ar AL
 big := An trivial
 lps := AU ⟨CE, C4, Dx, DZ, E5, GQ, J0, Nw, trivial⟩
theorem RZ : ∀ fn body c, HS.fns F1.f = some fn → fn.body = some body → Bx F1.p body = some (.loop c) → A2 Try.prog T F1 c :=
 Bf Mv AI (g := Mh) (back := some (V 38, [V 0, V 63, V 2, V 40, V 4, V 5, V 6, V 7, V 8, V 9, V 10, V 11, V 12, V 13, V 14, V 15, V 16, V 17, V 18, V 19, V 20, V 21, V 22, V 23, V 24, V 25, V 26, V 27, V 28, V 29, V 30, V 31, V 32, V 33, V 34, V 35, V 36, V 62])) (exs := [(V 39, [some (V 1), some (V 38), some (V 3), some (V 37)])]) (by kernel_rfl) (fun aq => by rw [show F1.id = 1248 from rfl, Qa]; rfl) WD fun aq e h1 h2 h3 => by
  rw [show F1.id = 1248 from rfl, Qa] at h2 ⊢
  exact WE aq e h1 h2 h3
noncomputable def HT : Ctx := { Ay := Ay, eqs := eqs, fns := fun f => look f AP, ctr := [(50, Bb)], lim := 30, big := [], lps := [Cd, Cs, CL, C3, Dg, DP, Ec, EY, F1] }
theorem Mw : XL Try.prog T HT where
 Ay := AZ
 eqs := A4
 mixed := mixed
 ctr := Am ⟨⟨rfl, A9⟩, trivial⟩
 fns := Ar AL
 big := An trivial
 lps := AU ⟨CE, C4, Dx, DZ, E5, GQ, J0, Nw, RZ, trivial⟩
theorem YY : ∀ fn body c, HT.fns Ht.f = some fn → fn.body = some body → Bx Ht.p body = some (.loop c) → A2 Try.prog T Ht c :=
 Bf Mw AI (g := Mi) (back := some (V 46, [V 0, V 1, V 2, V 3, V 4, V 5, V 6, V 7, V 8, V 9, V 10, V 11, V 12, V 243, V 230, V 15, V 16, V 17, V 18, V 19, V 20, V 21, V 22, V 23, V 24, V 25, V 26, V 27, V 28, V 29, V 30, V 31, V 32, V 33, V 34, V 35, V 36, V 37, V 38, V 39, V 40, V 41, V 238, V 43, V 44, V 237])) (exs := [(V 245, [some (V 14), some (V 42), some (V 45)])]) (by kernel_rfl) (fun aq => by rw [show Ht.id = 1249 from rfl, Qb]; rfl) WG fun aq e h1 h2 h3 => by
  rw [show Ht.id = 1249 from rfl, Qb] at h2 ⊢
  exact WH aq e h1 h2 h3
noncomputable def Q7 : Ctx := { Ay := Ay, eqs := eqs, fns := fun f => look f AP, ctr := [(50, Bb)], lim := 30, big := [], lps := [Cd, Cs, CL, C3, Dg, DP, Ec, EY, F1, Ht] }
theorem Oc : XL Try.prog T Q7 where
 Ay := AZ
 eqs := A4
 mixed := mixed
 ctr := Am ⟨⟨rfl, A9⟩, trivial⟩
 fns := Ar AL
 big := An trivial
 lps := AU ⟨CE, C4, Dx, DZ, E5, GQ, J0, Nw, RZ, YY, trivial⟩
theorem HU : Ry Try.prog T Ed := Z5 Oc AI (g := Gi) (ls := [V 12, V 270, V 243, V 31, V 46, V 34, V 269, V 244, V 245, V 246, V 247, V 248, V 249, V 250, V 251, V 252, V 253, V 254, V 255, V 256, V 257, V 258, V 259, V 260, V 261, V 262, V 263, V 264, V 265, V 266, V 267, V 268, V 304, V 303]) (by kernel_rfl) fun aq e h1 h2 h3 => by
 subst h1
 rw [show Ed.f = 9 from rfl, T_9] at h2 ⊢
 obtain ⟨ho, hr⟩ := Ns e h3 _ rfl h2
 obtain ⟨r0, r1, r2, r3, r4, r5, r6, r7, r8, r9, r10, r11, r12, r13, r14, r15, r16, r17, r18, r19, r20, r21, r22, r23, r24, r25, r26, r27, r28, r29, r30, r31, r32, r33⟩ := hr
 refine ⟨⟨ho.1, ho.2.1, ho.2.2.1, ho.2.2.2.1, ho.2.2.2.2.1, ho.2.2.2.2.2.1, ho.2.2.2.2.2.2.1, ho.2.2.2.2.2.2.2.1, ho.2.2.2.2.2.2.2.2.1, ho.2.2.2.2.2.2.2.2.2.1, ho.2.2.2.2.2.2.2.2.2.2.1, ho.2.2.2.2.2.2.2.2.2.2.2.1, ho.2.2.2.2.2.2.2.2.2.2.2.2.1, ho.2.2.2.2.2.2.2.2.2.2.2.2.2.1, ho.2.2.2.2.2.2.2.2.2.2.2.2.2.2.1, ho.2.2.2.2.2.2.2.2.2.2.2.2.2.2.2.1, ho.2.2.2.2.2.2.2.2.2.2.2.2.2.2.2.2.1, ho.2.2.2.2.2.2.2.2.2.2.2.2.2.2.2.2.2.1, ho.2.2.2.2.2.2.2.2.2.2.2.2.2.2.2.2.2.2.1, ho.2.2.2.2.2.2.2.2.2.2.2.2.2.2.2.2.2.2.2.1, ho.2.2.2.2.2.2.2.2.2.2.2.2.2.2.2.2.2.2.2.2.1, ho.2.2.2.2.2.2.2.2.2.2.2.2.2.2.2.2.2.2.2.2.2, trivial⟩, ?_⟩
 exact ⟨[_, _, _, _, _, _, _, _, _, _, _, _, _, _, _, _, _, _, _, _, _, _, _, _, _, _, _, _, _, _, _, _, _, _], _, [_, _, _, _, _, _, _, _, _, _, _, _, _, _, _, _, _, _, _, _, _, _, _, _, _, _, _, _, _, _, _, _, _, _], _, rfl, rfl, rfl, rfl, ⟨_, _, _, _, rfl, rfl, (AQ r0), ⟨_, _, _, _, _, _, rfl, rfl, r1, r2, ⟨_, _, _, _, rfl, rfl, (AQ r3), ⟨_, _, _, _, rfl, rfl, (AQ r4), ⟨_, _, _, _, rfl, rfl, (AbD r5), ⟨_, _, _, _, _, _, rfl, rfl, r6, r7, ⟨_, _, _, _, rfl, rfl, (AQ r8), ⟨_, _, _, _, rfl, rfl, (AQ r9), ⟨_, _, _, _, rfl, rfl, (AQ r10), ⟨_, _, _, _, rfl, rfl, (AQ r11), ⟨_, _, _, _, rfl, rfl, (AQ r12), ⟨_, _, _, _, rfl, rfl, (AQ r13), ⟨_, _, _, _, rfl, rfl, (AQ r14), ⟨_, _, _, _, rfl, rfl, (AQ r15), ⟨_, _, _, _, rfl, rfl, (AQ r16), ⟨_, _, _, _, rfl, rfl, (AQ r17), ⟨_, _, _, _, rfl, rfl, (AQ r18), ⟨_, _, _, _, rfl, rfl, (AQ r19), ⟨_, _, _, _, rfl, rfl, (AQ r20), ⟨_, _, _, _, rfl, rfl, (AQ r21), ⟨_, _, _, _, rfl, rfl, (AQ r22), ⟨_, _, _, _, rfl, rfl, (AQ r23), ⟨_, _, _, _, rfl, rfl, (AQ r24), ⟨_, _, _, _, rfl, rfl, (AQ r25), ⟨_, _, _, _, rfl, rfl, (AQ r26), ⟨_, _, _, _, rfl, rfl, (AQ r27), ⟨_, _, _, _, rfl, rfl, (AQ r28), ⟨_, _, _, _, rfl, rfl, (AQ r29), ⟨_, _, _, _, rfl, rfl, (AQ r30), ⟨_, _, _, _, rfl, rfl, (AQ r31), ⟨_, _, _, _, _, _, rfl, rfl, r32, r33, ⟨rfl, rfl⟩⟩⟩⟩⟩⟩⟩⟩⟩⟩⟩⟩⟩⟩⟩⟩⟩⟩⟩⟩⟩⟩⟩⟩⟩⟩⟩⟩⟩⟩⟩⟩, ⟨rfl, rfl⟩⟩
end Rx.S
