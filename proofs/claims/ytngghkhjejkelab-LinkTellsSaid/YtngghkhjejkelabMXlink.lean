import Derived.Test.YtngghkhjejkelabMXe
import Derived.Test.YtngghkhjejkelabMXvote
import Derived.Test.YtngghkhjejkelabMXvoteb
import Derived.Test.YtngghkhjejkelabMXgate
import Derived.Test.YtngghkhjejkelabMXhub
import Derived.Test.YtngghkhjejkelabMXport
import Derived.Test.YtngghkhjejkelabMYlink
set_option linter.unusedVariables false
set_option linter.unusedSimpArgs false
namespace Rx.S
open Go Rx Go.Proofs
set_option maxRecDepth 100000
set_option maxHeartbeats 4000000
def Ja : XG := { f := 27, ps := [.c true [.int .i64, .int .i64, .int .i64, .int .i64, .int .i64, .int .i64, .int .i64, .int .i64, .int .i64, .int .i64, .int .i64, .int .i64, .int .i64, .int .i64, .int .i64, .int .i64, .int .i64, .int .i64, .int .i64, .int .i64, .int .i64, .int .i64, .int .i64, .int .i64], .d true [.sl [.int .i64, .int .i64], .sl [.int .i64, .int .i64]], .c true [.bool, .bool]], rs := [.d true [.int .i64, .int .i64, .int .i64, .int .i64, .int .i64, .int .i64, .int .i64, .int .i64, .int .i64, .int .i64, .int .i64, .int .i64, .sl [.int .i64, .int .i64], .int .i64, .int .i64, .int .i64, .int .i64, .int .i64, .int .i64, .int .i64, .int .i64, .int .i64, .int .i64, .int .i64, .int .i64, .sl [.int .i64, .int .i64]]], ok := fun _ => true, w := 29 }
noncomputable def K9 : List (Nat × Func) := [(27, Try.f27), (44, Try.f44)]
theorem Pf : AG Try.prog K9 := ⟨Ag3, Ahg, trivial⟩
noncomputable def Xp : Ctx := { At := At, eqs := eqs, fns := fun f => look f K9, ctr := [], lim := 30, big := [(44, K8)], lps := [] }
theorem TP : XL Try.prog T Xp where
 At := AL
 eqs := AP
 mixed := mixed
 ctr := Af trivial
 fns := Am Pf
 big := Ag ⟨⟨rfl, U2⟩, trivial⟩
 lps := Ax rfl
theorem TQ : Nm Try.prog T Ja := Sv TP Aw (g := I8) (ls := [V 0, V 1, V 2, V 3, V 4, V 5, V 6, V 7, V 8, V 9, V 10, V 11, V 36, V 35, V 38, V 39, V 40, V 41, V 42, V 43, V 44, V 45, V 46, V 47, V 48, V 49, V 51, V 50]) (by kernel_rfl) fun aq e h1 h2 h3 => by
 subst h1
 rw [show Ja.f = 27 from rfl, AfU] at h2 ⊢
 obtain ⟨ho, hr⟩ := QI e h3 _ rfl _ rfl _ rfl h2
 obtain ⟨r0, r1, r2, r3, r4, r5, r6, r7, r8, r9, r10, r11, r12, r13, r14, r15, r16, r17, r18, r19, r20, r21, r22, r23, r24, r25, r26, r27⟩ := hr
 refine ⟨⟨ho, trivial⟩, ?_⟩
 exact ⟨[_, _, _, _, _, _, _, _, _, _, _, _, _, _, _, _, _, _, _, _, _, _, _, _, _, _, _, _], _, [_, _, _, _, _, _, _, _, _, _, _, _, _, _, _, _, _, _, _, _, _, _, _, _, _, _, _, _], _, rfl, rfl, rfl, rfl, ⟨_, _, _, _, rfl, rfl, (Dl r0), ⟨_, _, _, _, rfl, rfl, (Dl r1), ⟨_, _, _, _, rfl, rfl, (Dl r2), ⟨_, _, _, _, rfl, rfl, (Dl r3), ⟨_, _, _, _, rfl, rfl, (Dl r4), ⟨_, _, _, _, rfl, rfl, (Dl r5), ⟨_, _, _, _, rfl, rfl, (Dl r6), ⟨_, _, _, _, rfl, rfl, (Dl r7), ⟨_, _, _, _, rfl, rfl, (Dl r8), ⟨_, _, _, _, rfl, rfl, (Dl r9), ⟨_, _, _, _, rfl, rfl, (Dl r10), ⟨_, _, _, _, rfl, rfl, (Dl r11), ⟨_, _, _, _, _, _, rfl, rfl, r12, r13, ⟨_, _, _, _, rfl, rfl, (Dl r14), ⟨_, _, _, _, rfl, rfl, (Dl r15), ⟨_, _, _, _, rfl, rfl, (Dl r16), ⟨_, _, _, _, rfl, rfl, (Dl r17), ⟨_, _, _, _, rfl, rfl, (Dl r18), ⟨_, _, _, _, rfl, rfl, (Dl r19), ⟨_, _, _, _, rfl, rfl, (Dl r20), ⟨_, _, _, _, rfl, rfl, (Dl r21), ⟨_, _, _, _, rfl, rfl, (Dl r22), ⟨_, _, _, _, rfl, rfl, (Dl r23), ⟨_, _, _, _, rfl, rfl, (Dl r24), ⟨_, _, _, _, rfl, rfl, (Dl r25), ⟨_, _, _, _, _, _, rfl, rfl, r26, r27, ⟨rfl, rfl⟩⟩⟩⟩⟩⟩⟩⟩⟩⟩⟩⟩⟩⟩⟩⟩⟩⟩⟩⟩⟩⟩⟩⟩⟩⟩⟩, ⟨rfl, rfl⟩⟩
def Fg : DR := { f := 13, ps := [.c false [.int .i64], .c true [.int .i64, .int .i64, .int .i64, .int .i64, .int .i64, .int .i64, .int .i64, .int .i64, .int .i64, .int .i64, .int .i64, .int .i64, .int .i64, .int .i64, .int .i64, .int .i64, .int .i64, .int .i64, .int .i64, .int .i64, .int .i64, .int .i64, .int .i64, .int .i64], .d true [.sl [.int .i64, .int .i64], .sl [.int .i64, .int .i64]], .c true [.bool, .bool]], rs := [(true, [.int .i64, .int .i64, .int .i64, .int .i64, .int .i64, .int .i64, .int .i64, .int .i64, .int .i64, .int .i64, .int .i64, .int .i64, .int .i64, .int .i64, .int .i64, .int .i64, .int .i64, .int .i64, .int .i64, .int .i64, .int .i64, .int .i64, .int .i64, .int .i64]), (true, [.int .i64, .int .i64, .int .i64, .int .i64]), (false, [.int .i64])], ok := fun _ => true }
noncomputable def Mo : List (Nat × Func) := [(13, Try.f13), (25, Try.f25), (26, Try.f26), (27, Try.f27), (11, Try.f11)]
theorem QK : AG Try.prog Mo := ⟨Agl, ZM, Agn, Ag3, AgT, trivial⟩
noncomputable def YY : Ctx := { At := At, eqs := eqs, fns := fun f => look f Mo, ctr := [(25, BM), (26, Ff), (11, I7)], lim := 30, big := [(27, Ja)], lps := [] }
theorem U3 : XL Try.prog T YY where
 At := AL
 eqs := AP
 mixed := mixed
 ctr := Af ⟨⟨rfl, B1⟩, ⟨rfl, Mh⟩, ⟨rfl, Xn⟩, trivial⟩
 fns := Am QK
 big := Ag ⟨⟨rfl, TQ⟩, trivial⟩
 lps := Ax rfl
theorem Mp : A2 Try.prog T Fg := AR U3 Aw (g := KO) (ls := [V 219, V 220, V 221, V 222, V 223, V 224, V 225, V 226, V 227, V 228, V 229, V 230, V 231, V 232, V 233, V 234, V 235, V 236, V 237, V 238, V 239, V 240, V 241, V 242, V 243, V 244, V 245, V 246, V 202]) (by kernel_rfl) (fun aq => by rw [show Fg.f = 13 from rfl, Aes]; rfl) fun aq e h1 h2 h3 => by
 subst h1
 rw [show Fg.f = 13 from rfl, Aes] at h2 ⊢
 obtain ⟨ho, hr⟩ := Tl e h3 _ rfl _ rfl _ rfl _ rfl h2
 obtain ⟨r0, r1, r2, r3, r4, r5, r6, r7, r8, r9, r10, r11, r12, r13, r14, r15, r16, r17, r18, r19, r20, r21, r22, r23, r24, r25, r26, r27, r28⟩ := hr
 refine ⟨⟨ho.1, ho.2.1, ho.2.2.1, ho.2.2.2.1, ho.2.2.2.2.1, ho.2.2.2.2.2.1, ho.2.2.2.2.2.2, trivial⟩, ?_⟩
 show Aa [.int .i64, .int .i64, .int .i64, .int .i64, .int .i64, .int .i64, .int .i64, .int .i64, .int .i64, .int .i64, .int .i64, .int .i64, .int .i64, .int .i64, .int .i64, .int .i64, .int .i64, .int .i64, .int .i64, .int .i64, .int .i64, .int .i64, .int .i64, .int .i64, .int .i64, .int .i64, .int .i64, .int .i64, .int .i64] (AfL _).2 = Aa [.int .i64, .int .i64, .int .i64, .int .i64, .int .i64, .int .i64, .int .i64, .int .i64, .int .i64, .int .i64, .int .i64, .int .i64, .int .i64, .int .i64, .int .i64, .int .i64, .int .i64, .int .i64, .int .i64, .int .i64, .int .i64, .int .i64, .int .i64, .int .i64, .int .i64, .int .i64, .int .i64, .int .i64, .int .i64] [L.ev e (V 219), L.ev e (V 220), L.ev e (V 221), L.ev e (V 222), L.ev e (V 223), L.ev e (V 224), L.ev e (V 225), L.ev e (V 226), L.ev e (V 227), L.ev e (V 228), L.ev e (V 229), L.ev e (V 230), L.ev e (V 231), L.ev e (V 232), L.ev e (V 233), L.ev e (V 234), L.ev e (V 235), L.ev e (V 236), L.ev e (V 237), L.ev e (V 238), L.ev e (V 239), L.ev e (V 240), L.ev e (V 241), L.ev e (V 242), L.ev e (V 243), L.ev e (V 244), L.ev e (V 245), L.ev e (V 246), L.ev e (V 202)]
 exact (Ab r0 (Ab r1 (Ab r2 (Ab r3 (Ab r4 (Ab r5 (Ab r6 (Ab r7 (Ab r8 (Ab r9 (Ab r10 (Ab r11 (Ab r12 (Ab r13 (Ab r14 (Ab r15 (Ab r16 (Ab r17 (Ab r18 (Ab r19 (Ab r20 (Ab r21 (Ab r22 (Ab r23 (Ab r24 (Ab r25 (Ab r26 (Ab r27 (Ab r28 rfl)))))))))))))))))))))))))))))
def FW : DR := { f := 15, ps := [.c false [.int .i64], .c true [.int .i64, .int .i64, .int .i64, .int .i64, .int .i64, .int .i64, .int .i64, .int .i64, .int .i64, .int .i64, .int .i64, .int .i64, .int .i64, .int .i64, .int .i64, .int .i64, .int .i64, .int .i64, .int .i64, .int .i64, .int .i64, .int .i64, .int .i64, .int .i64], .d true [.sl [.int .i64, .int .i64], .sl [.int .i64, .int .i64]], .c true [.bool, .bool]], rs := [(true, [.int .i64, .int .i64, .int .i64, .int .i64, .int .i64, .int .i64, .int .i64, .int .i64, .int .i64, .int .i64, .int .i64, .int .i64, .int .i64, .int .i64, .int .i64, .int .i64, .int .i64, .int .i64, .int .i64, .int .i64, .int .i64, .int .i64, .int .i64, .int .i64]), (true, [.int .i64, .int .i64, .int .i64, .int .i64]), (false, [.int .i64])], ok := fun _ => true }
noncomputable def Lm : List (Nat × Func) := [(15, Try.f15), (8, Try.f8), (10, Try.f10), (28, Try.f28), (29, Try.f29)]
theorem PA : AG Try.prog Lm := ⟨AgV, fn8, AeT, Ag4, Ag5, trivial⟩
noncomputable def XC : Ctx := { At := At, eqs := eqs, fns := fun f => look f Lm, ctr := [(8, A9), (10, DF), (29, FV)], lim := 30, big := [(28, Ju)], lps := [] }
theorem T9 : XL Try.prog T XC where
 At := AL
 eqs := AP
 mixed := mixed
 ctr := Af ⟨⟨rfl, Bl⟩, ⟨rfl, Gw⟩, ⟨rfl, T6⟩, trivial⟩
 fns := Am PA
 big := Ag ⟨⟨rfl, T8⟩, trivial⟩
 lps := Ax rfl
theorem Ua : A2 Try.prog T FW := AR T9 Aw (g := Jb) (ls := [V 151, V 152, V 153, V 154, V 155, V 156, V 157, V 158, V 159, V 160, V 161, V 162, V 163, V 164, V 165, V 166, V 167, V 168, V 169, V 170, V 171, V 172, V 173, V 174, V 175, V 176, V 177, V 178, V 150]) (by kernel_rfl) (fun aq => by rw [show FW.f = 15 from rfl, Aet]; rfl) fun aq e h1 h2 h3 => by
 subst h1
 rw [show FW.f = 15 from rfl, Aet] at h2 ⊢
 obtain ⟨ho, hr⟩ := QL e h3 _ rfl _ rfl _ rfl _ rfl h2
 obtain ⟨r0, r1, r2, r3, r4, r5, r6, r7, r8, r9, r10, r11, r12, r13, r14, r15, r16, r17, r18, r19, r20, r21, r22, r23, r24, r25, r26, r27, r28⟩ := hr
 refine ⟨⟨ho.1, ho.2.1, ho.2.2.1, ho.2.2.2.1, ho.2.2.2.2.1, ho.2.2.2.2.2.1, ho.2.2.2.2.2.2, trivial⟩, ?_⟩
 show Aa [.int .i64, .int .i64, .int .i64, .int .i64, .int .i64, .int .i64, .int .i64, .int .i64, .int .i64, .int .i64, .int .i64, .int .i64, .int .i64, .int .i64, .int .i64, .int .i64, .int .i64, .int .i64, .int .i64, .int .i64, .int .i64, .int .i64, .int .i64, .int .i64, .int .i64, .int .i64, .int .i64, .int .i64, .int .i64] (AfM _).2 = Aa [.int .i64, .int .i64, .int .i64, .int .i64, .int .i64, .int .i64, .int .i64, .int .i64, .int .i64, .int .i64, .int .i64, .int .i64, .int .i64, .int .i64, .int .i64, .int .i64, .int .i64, .int .i64, .int .i64, .int .i64, .int .i64, .int .i64, .int .i64, .int .i64, .int .i64, .int .i64, .int .i64, .int .i64, .int .i64] [L.ev e (V 151), L.ev e (V 152), L.ev e (V 153), L.ev e (V 154), L.ev e (V 155), L.ev e (V 156), L.ev e (V 157), L.ev e (V 158), L.ev e (V 159), L.ev e (V 160), L.ev e (V 161), L.ev e (V 162), L.ev e (V 163), L.ev e (V 164), L.ev e (V 165), L.ev e (V 166), L.ev e (V 167), L.ev e (V 168), L.ev e (V 169), L.ev e (V 170), L.ev e (V 171), L.ev e (V 172), L.ev e (V 173), L.ev e (V 174), L.ev e (V 175), L.ev e (V 176), L.ev e (V 177), L.ev e (V 178), L.ev e (V 150)]
 exact (Ab r0 (Ab r1 (Ab r2 (Ab r3 (Ab r4 (Ab r5 (Ab r6 (Ab r7 (Ab r8 (Ab r9 (Ab r10 (Ab r11 (Ab r12 (Ab r13 (Ab r14 (Ab r15 (Ab r16 (Ab r17 (Ab r18 (Ab r19 (Ab r20 (Ab r21 (Ab r22 (Ab r23 (Ab r24 (Ab r25 (Ab r26 (Ab r27 (Ab r28 rfl)))))))))))))))))))))))))))))
def FX : DR := { f := 16, ps := [.c false [.int .i64], .c true [.int .i64, .int .i64, .int .i64, .int .i64, .int .i64, .int .i64, .int .i64, .int .i64, .int .i64, .int .i64, .int .i64, .int .i64, .int .i64, .int .i64, .int .i64, .int .i64, .int .i64, .int .i64, .int .i64, .int .i64, .int .i64, .int .i64, .int .i64, .int .i64]], rs := [(true, [.int .i64, .int .i64, .int .i64, .int .i64, .int .i64, .int .i64, .int .i64, .int .i64, .int .i64, .int .i64, .int .i64, .int .i64, .int .i64, .int .i64, .int .i64, .int .i64, .int .i64, .int .i64, .int .i64, .int .i64, .int .i64, .int .i64, .int .i64, .int .i64]), (false, [.int .i64])], ok := fun _ => true }
noncomputable def Ln : List (Nat × Func) := [(16, Try.f16), (30, Try.f30)]
theorem PB : AG Try.prog Ln := ⟨AgW, Ago, trivial⟩
noncomputable def XD : Ctx := { At := At, eqs := eqs, fns := fun f => look f Ln, ctr := [(30, Ey)], lim := 30, big := [], lps := [] }
theorem Ub : XL Try.prog T XD where
 At := AL
 eqs := AP
 mixed := mixed
 ctr := Af ⟨⟨rfl, KT⟩, trivial⟩
 fns := Am PB
 big := Ag trivial
 lps := Ax rfl
theorem Uc : A2 Try.prog T FX := AR Ub Aw (g := Jv) (ls := [V 165, V 166, V 167, V 168, V 169, V 170, V 171, V 172, V 173, V 174, V 175, V 176, V 177, V 178, V 179, V 180, V 181, V 182, V 183, V 184, V 185, V 186, V 187, V 188, V 111]) (by kernel_rfl) (fun aq => by rw [show FX.f = 16 from rfl, Aeu]; rfl) fun aq e h1 h2 h3 => by
 subst h1
 rw [show FX.f = 16 from rfl, Aeu] at h2 ⊢
 obtain ⟨ho, hr⟩ := Q7 e h3 _ rfl _ rfl _ rfl _ rfl h2
 obtain ⟨r0, r1, r2, r3, r4, r5, r6, r7, r8, r9, r10, r11, r12, r13, r14, r15, r16, r17, r18, r19, r20, r21, r22, r23, r24⟩ := hr
 refine ⟨⟨ho.1, ho.2, trivial⟩, ?_⟩
 show Aa [.int .i64, .int .i64, .int .i64, .int .i64, .int .i64, .int .i64, .int .i64, .int .i64, .int .i64, .int .i64, .int .i64, .int .i64, .int .i64, .int .i64, .int .i64, .int .i64, .int .i64, .int .i64, .int .i64, .int .i64, .int .i64, .int .i64, .int .i64, .int .i64, .int .i64] (AfN _).2 = Aa [.int .i64, .int .i64, .int .i64, .int .i64, .int .i64, .int .i64, .int .i64, .int .i64, .int .i64, .int .i64, .int .i64, .int .i64, .int .i64, .int .i64, .int .i64, .int .i64, .int .i64, .int .i64, .int .i64, .int .i64, .int .i64, .int .i64, .int .i64, .int .i64, .int .i64] [L.ev e (V 165), L.ev e (V 166), L.ev e (V 167), L.ev e (V 168), L.ev e (V 169), L.ev e (V 170), L.ev e (V 171), L.ev e (V 172), L.ev e (V 173), L.ev e (V 174), L.ev e (V 175), L.ev e (V 176), L.ev e (V 177), L.ev e (V 178), L.ev e (V 179), L.ev e (V 180), L.ev e (V 181), L.ev e (V 182), L.ev e (V 183), L.ev e (V 184), L.ev e (V 185), L.ev e (V 186), L.ev e (V 187), L.ev e (V 188), L.ev e (V 111)]
 exact (Ab r0 (Ab r1 (Ab r2 (Ab r3 (Ab r4 (Ab r5 (Ab r6 (Ab r7 (Ab r8 (Ab r9 (Ab r10 (Ab r11 (Ab r12 (Ab r13 (Ab r14 (Ab r15 (Ab r16 (Ab r17 (Ab r18 (Ab r19 (Ab r20 (Ab r21 (Ab r22 (Ab r23 (Ab r24 rfl)))))))))))))))))))))))))
def EZ : DR := { f := 17, ps := [.c false [.int .i64], .c true [.int .i64, .int .i64, .int .i64, .int .i64, .int .i64, .int .i64, .int .i64, .int .i64, .int .i64, .int .i64, .int .i64, .int .i64, .int .i64, .int .i64, .int .i64, .int .i64, .int .i64, .int .i64, .int .i64, .int .i64, .int .i64, .int .i64, .int .i64, .int .i64]], rs := [(true, [.int .i64, .int .i64, .int .i64, .int .i64, .int .i64, .int .i64, .int .i64, .int .i64, .int .i64, .int .i64, .int .i64, .int .i64, .int .i64, .int .i64, .int .i64, .int .i64, .int .i64, .int .i64, .int .i64, .int .i64, .int .i64, .int .i64, .int .i64, .int .i64]), (false, [.int .i64])], ok := fun _ => true }
noncomputable def JZ : List (Nat × Func) := [(17, Try.f17), (31, Try.f31)]
theorem Ol : AG Try.prog JZ := ⟨AgX, Ag6, trivial⟩
noncomputable def Vj : Ctx := { At := At, eqs := eqs, fns := fun f => look f JZ, ctr := [(31, EY)], lim := 30, big := [], lps := [] }
theorem Rc : XL Try.prog T Vj where
 At := AL
 eqs := AP
 mixed := mixed
 ctr := Af ⟨⟨rfl, Rb⟩, trivial⟩
 fns := Am Ol
 big := Ag trivial
 lps := Ax rfl
theorem Rd : A2 Try.prog T EZ := AR Rc Aw (g := HD) (ls := [V 58, V 59, V 60, V 61, V 62, V 63, V 64, V 65, V 66, V 67, V 68, V 69, V 70, V 71, V 72, V 73, V 74, V 75, V 76, V 77, V 78, V 79, V 80, V 81, V 57]) (by kernel_rfl) (fun aq => by rw [show EZ.f = 17 from rfl, Aev]; rfl) fun aq e h1 h2 h3 => by
 subst h1
 rw [show EZ.f = 17 from rfl, Aev] at h2 ⊢
 obtain ⟨ho, hr⟩ := PC e h3 _ rfl _ rfl _ rfl _ rfl h2
 obtain ⟨r0, r1, r2, r3, r4, r5, r6, r7, r8, r9, r10, r11, r12, r13, r14, r15, r16, r17, r18, r19, r20, r21, r22, r23, r24⟩ := hr
 refine ⟨⟨ho.1, ho.2, trivial⟩, ?_⟩
 show Aa [.int .i64, .int .i64, .int .i64, .int .i64, .int .i64, .int .i64, .int .i64, .int .i64, .int .i64, .int .i64, .int .i64, .int .i64, .int .i64, .int .i64, .int .i64, .int .i64, .int .i64, .int .i64, .int .i64, .int .i64, .int .i64, .int .i64, .int .i64, .int .i64, .int .i64] (AfO _).2 = Aa [.int .i64, .int .i64, .int .i64, .int .i64, .int .i64, .int .i64, .int .i64, .int .i64, .int .i64, .int .i64, .int .i64, .int .i64, .int .i64, .int .i64, .int .i64, .int .i64, .int .i64, .int .i64, .int .i64, .int .i64, .int .i64, .int .i64, .int .i64, .int .i64, .int .i64] [L.ev e (V 58), L.ev e (V 59), L.ev e (V 60), L.ev e (V 61), L.ev e (V 62), L.ev e (V 63), L.ev e (V 64), L.ev e (V 65), L.ev e (V 66), L.ev e (V 67), L.ev e (V 68), L.ev e (V 69), L.ev e (V 70), L.ev e (V 71), L.ev e (V 72), L.ev e (V 73), L.ev e (V 74), L.ev e (V 75), L.ev e (V 76), L.ev e (V 77), L.ev e (V 78), L.ev e (V 79), L.ev e (V 80), L.ev e (V 81), L.ev e (V 57)]
 exact (Ab r0 (Ab r1 (Ab r2 (Ab r3 (Ab r4 (Ab r5 (Ab r6 (Ab r7 (Ab r8 (Ab r9 (Ab r10 (Ab r11 (Ab r12 (Ab r13 (Ab r14 (Ab r15 (Ab r16 (Ab r17 (Ab r18 (Ab r19 (Ab r20 (Ab r21 (Ab r22 (Ab r23 (Ab r24 rfl)))))))))))))))))))))))))
end Rx.S
