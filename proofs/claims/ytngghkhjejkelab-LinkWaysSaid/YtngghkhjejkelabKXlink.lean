import Derived.Test.YtngghkhjejkelabKXe
import Derived.Test.YtngghkhjejkelabKXvote
import Derived.Test.YtngghkhjejkelabKXgate
import Derived.Test.YtngghkhjejkelabKXhub
import Derived.Test.YtngghkhjejkelabKXport
import Derived.Test.YtngghkhjejkelabKYlink
set_option linter.unusedVariables false
set_option linter.unusedSimpArgs false
namespace Rx.S
open Go Rx Go.Proofs
set_option maxRecDepth 100000
set_option maxHeartbeats 4000000
def c_link_sides : Big := { f := 27, ps := [.c true [.int .i64, .int .i64, .int .i64, .int .i64, .int .i64, .int .i64, .int .i64, .int .i64, .int .i64, .int .i64, .int .i64, .int .i64, .int .i64, .int .i64, .int .i64, .int .i64, .int .i64, .int .i64, .int .i64, .int .i64, .int .i64, .int .i64, .int .i64, .int .i64], .d true [.sl [.int .i64, .int .i64], .sl [.int .i64, .int .i64]], .c true [.bool, .bool]], rs := [.d true [.int .i64, .int .i64, .int .i64, .int .i64, .int .i64, .int .i64, .int .i64, .int .i64, .int .i64, .int .i64, .int .i64, .int .i64, .sl [.int .i64, .int .i64], .int .i64, .int .i64, .int .i64, .int .i64, .int .i64, .int .i64, .int .i64, .int .i64, .int .i64, .int .i64, .int .i64, .int .i64, .sl [.int .i64, .int .i64]]], ok := fun _ => true, w := 29 }
noncomputable def fns_link_sides : List (Nat × Func) := [(27, Try.f27), (44, Try.f44)]
theorem fnsOk_link_sides : FnsAll Try.prog fns_link_sides := ⟨fn27, fn44, trivial⟩
noncomputable def X_link_sides : Ctx := { tys := tys, eqs := eqs, fns := fun f => look f fns_link_sides, ctr := [], lim := 30, big := [(44, c_port_Both)], lps := [] }
theorem xok_link_sides : XL Try.prog T X_link_sides where
 tys := tysOk
 eqs := eqsOk
 mixed := mixed
 ctr := ctrsOK_of trivial
 fns := fnsOK_of fnsOk_link_sides
 big := bigsOK_of ⟨⟨rfl, ctr_port_Both⟩, trivial⟩
 lps := lps_nil rfl
theorem ctr_link_sides : BigOK Try.prog T c_link_sides := big_of xok_link_sides widths (g := g_link_sides) (ls := [V 0, V 1, V 2, V 3, V 4, V 5, V 6, V 7, V 8, V 9, V 10, V 11, V 36, V 35, V 38, V 39, V 40, V 41, V 42, V 43, V 44, V 45, V 46, V 47, V 48, V 49, V 51, V 50]) (by kernel_rfl) fun aq e h1 h2 h3 => by
 subst h1
 rw [show c_link_sides.f = 27 from rfl, T_27] at h2 ⊢
 obtain ⟨ho, hr⟩ := pure_link_sides e h3 _ rfl _ rfl _ rfl h2
 obtain ⟨r0, r1, r2, r3, r4, r5, r6, r7, r8, r9, r10, r11, r12, r13, r14, r15, r16, r17, r18, r19, r20, r21, r22, r23, r24, r25, r26, r27⟩ := hr
 refine ⟨⟨ho, trivial⟩, ?_⟩
 exact ⟨[_, _, _, _, _, _, _, _, _, _, _, _, _, _, _, _, _, _, _, _, _, _, _, _, _, _, _, _], _, [_, _, _, _, _, _, _, _, _, _, _, _, _, _, _, _, _, _, _, _, _, _, _, _, _, _, _, _], _, rfl, rfl, rfl, rfl, ⟨_, _, _, _, rfl, rfl, (semI1 r0), ⟨_, _, _, _, rfl, rfl, (semI1 r1), ⟨_, _, _, _, rfl, rfl, (semI1 r2), ⟨_, _, _, _, rfl, rfl, (semI1 r3), ⟨_, _, _, _, rfl, rfl, (semI1 r4), ⟨_, _, _, _, rfl, rfl, (semI1 r5), ⟨_, _, _, _, rfl, rfl, (semI1 r6), ⟨_, _, _, _, rfl, rfl, (semI1 r7), ⟨_, _, _, _, rfl, rfl, (semI1 r8), ⟨_, _, _, _, rfl, rfl, (semI1 r9), ⟨_, _, _, _, rfl, rfl, (semI1 r10), ⟨_, _, _, _, rfl, rfl, (semI1 r11), ⟨_, _, _, _, _, _, rfl, rfl, r12, r13, ⟨_, _, _, _, rfl, rfl, (semI1 r14), ⟨_, _, _, _, rfl, rfl, (semI1 r15), ⟨_, _, _, _, rfl, rfl, (semI1 r16), ⟨_, _, _, _, rfl, rfl, (semI1 r17), ⟨_, _, _, _, rfl, rfl, (semI1 r18), ⟨_, _, _, _, rfl, rfl, (semI1 r19), ⟨_, _, _, _, rfl, rfl, (semI1 r20), ⟨_, _, _, _, rfl, rfl, (semI1 r21), ⟨_, _, _, _, rfl, rfl, (semI1 r22), ⟨_, _, _, _, rfl, rfl, (semI1 r23), ⟨_, _, _, _, rfl, rfl, (semI1 r24), ⟨_, _, _, _, rfl, rfl, (semI1 r25), ⟨_, _, _, _, _, _, rfl, rfl, r26, r27, ⟨rfl, rfl⟩⟩⟩⟩⟩⟩⟩⟩⟩⟩⟩⟩⟩⟩⟩⟩⟩⟩⟩⟩⟩⟩⟩⟩⟩⟩⟩, ⟨rfl, rfl⟩⟩
def c_link_Step : Ctr := { f := 13, ps := [.c false [.int .i64], .c true [.int .i64, .int .i64, .int .i64, .int .i64, .int .i64, .int .i64, .int .i64, .int .i64, .int .i64, .int .i64, .int .i64, .int .i64, .int .i64, .int .i64, .int .i64, .int .i64, .int .i64, .int .i64, .int .i64, .int .i64, .int .i64, .int .i64, .int .i64, .int .i64], .d true [.sl [.int .i64, .int .i64], .sl [.int .i64, .int .i64]], .c true [.bool, .bool]], rs := [(true, [.int .i64, .int .i64, .int .i64, .int .i64, .int .i64, .int .i64, .int .i64, .int .i64, .int .i64, .int .i64, .int .i64, .int .i64, .int .i64, .int .i64, .int .i64, .int .i64, .int .i64, .int .i64, .int .i64, .int .i64, .int .i64, .int .i64, .int .i64, .int .i64]), (true, [.int .i64, .int .i64, .int .i64, .int .i64]), (false, [.int .i64])], ok := fun _ => true }
noncomputable def fns_link_Step : List (Nat × Func) := [(13, Try.f13), (25, Try.f25), (26, Try.f26), (27, Try.f27), (11, Try.f11)]
theorem fnsOk_link_Step : FnsAll Try.prog fns_link_Step := ⟨fn13, fn25, fn26, fn27, fn11, trivial⟩
noncomputable def X_link_Step : Ctx := { tys := tys, eqs := eqs, fns := fun f => look f fns_link_Step, ctr := [(25, c_vote_Right), (26, c_gate_Fits), (11, c_hub_Step)], lim := 30, big := [(27, c_link_sides)], lps := [] }
theorem xok_link_Step : XL Try.prog T X_link_Step where
 tys := tysOk
 eqs := eqsOk
 mixed := mixed
 ctr := ctrsOK_of ⟨⟨rfl, ctr_vote_Right⟩, ⟨rfl, ctr_gate_Fits⟩, ⟨rfl, ctr_hub_Step⟩, trivial⟩
 fns := fnsOK_of fnsOk_link_Step
 big := bigsOK_of ⟨⟨rfl, ctr_link_sides⟩, trivial⟩
 lps := lps_nil rfl
theorem ctr_link_Step : CtrOK Try.prog T c_link_Step := ctr_of xok_link_Step widths (g := g_link_Step) (ls := [V 219, V 220, V 221, V 222, V 223, V 224, V 225, V 226, V 227, V 228, V 229, V 230, V 231, V 232, V 233, V 234, V 235, V 236, V 237, V 238, V 239, V 240, V 241, V 242, V 243, V 244, V 245, V 246, V 202]) (by kernel_rfl) (fun aq => by rw [show c_link_Step.f = 13 from rfl, T_13]; rfl) fun aq e h1 h2 h3 => by
 subst h1
 rw [show c_link_Step.f = 13 from rfl, T_13] at h2 ⊢
 obtain ⟨ho, hr⟩ := pure_link_Step e h3 _ rfl _ rfl _ rfl _ rfl h2
 obtain ⟨r0, r1, r2, r3, r4, r5, r6, r7, r8, r9, r10, r11, r12, r13, r14, r15, r16, r17, r18, r19, r20, r21, r22, r23, r24, r25, r26, r27, r28⟩ := hr
 refine ⟨⟨ho.1, ho.2.1, ho.2.2.1, ho.2.2.2.1, ho.2.2.2.2.1, ho.2.2.2.2.2.1, ho.2.2.2.2.2.2, trivial⟩, ?_⟩
 show semMany [.int .i64, .int .i64, .int .i64, .int .i64, .int .i64, .int .i64, .int .i64, .int .i64, .int .i64, .int .i64, .int .i64, .int .i64, .int .i64, .int .i64, .int .i64, .int .i64, .int .i64, .int .i64, .int .i64, .int .i64, .int .i64, .int .i64, .int .i64, .int .i64, .int .i64, .int .i64, .int .i64, .int .i64, .int .i64] (t_13 _).2 = semMany [.int .i64, .int .i64, .int .i64, .int .i64, .int .i64, .int .i64, .int .i64, .int .i64, .int .i64, .int .i64, .int .i64, .int .i64, .int .i64, .int .i64, .int .i64, .int .i64, .int .i64, .int .i64, .int .i64, .int .i64, .int .i64, .int .i64, .int .i64, .int .i64, .int .i64, .int .i64, .int .i64, .int .i64, .int .i64] [L.ev e (V 219), L.ev e (V 220), L.ev e (V 221), L.ev e (V 222), L.ev e (V 223), L.ev e (V 224), L.ev e (V 225), L.ev e (V 226), L.ev e (V 227), L.ev e (V 228), L.ev e (V 229), L.ev e (V 230), L.ev e (V 231), L.ev e (V 232), L.ev e (V 233), L.ev e (V 234), L.ev e (V 235), L.ev e (V 236), L.ev e (V 237), L.ev e (V 238), L.ev e (V 239), L.ev e (V 240), L.ev e (V 241), L.ev e (V 242), L.ev e (V 243), L.ev e (V 244), L.ev e (V 245), L.ev e (V 246), L.ev e (V 202)]
 exact (semI r0 (semI r1 (semI r2 (semI r3 (semI r4 (semI r5 (semI r6 (semI r7 (semI r8 (semI r9 (semI r10 (semI r11 (semI r12 (semI r13 (semI r14 (semI r15 (semI r16 (semI r17 (semI r18 (semI r19 (semI r20 (semI r21 (semI r22 (semI r23 (semI r24 (semI r25 (semI r26 (semI r27 (semI r28 rfl)))))))))))))))))))))))))))))
end Rx.S
