import Derived.Test.YtngghkhjejkelabKXe
import Derived.Test.YtngghkhjejkelabKXvote
import Derived.Test.YtngghkhjejkelabKXgate
import Derived.Test.YtngghkhjejkelabKYhub
set_option linter.unusedVariables false
set_option linter.unusedSimpArgs false
namespace Rx.S
open Go Rx Go.Proofs
set_option maxRecDepth 100000
set_option maxHeartbeats 4000000
def c_hub_Step : Ctr := { f := 11, ps := [.c false [.int .i64], .c true [.int .i64, .int .i64, .int .i64, .int .i64, .int .i64, .int .i64, .int .i64, .int .i64, .int .i64, .int .i64, .int .i64, .int .i64], .lst [.int .i64, .int .i64]], rs := [(true, [.int .i64, .int .i64, .int .i64, .int .i64, .int .i64, .int .i64, .int .i64, .int .i64, .int .i64, .int .i64, .int .i64, .int .i64]), (true, [.int .i64, .int .i64]), (false, [.int .i64])], ok := fun _ => true }
noncomputable def fns_hub_Step : List (Nat × Func) := [(11, Try.f11), (21, Try.f21), (22, Try.f22), (23, Try.f23), (24, Try.f24)]
theorem fnsOk_hub_Step : FnsAll Try.prog fns_hub_Step := ⟨fn11, fn21, fn22, fn23, fn24, trivial⟩
noncomputable def X_hub_Step : Ctx := { tys := tys, eqs := eqs, fns := fun f => look f fns_hub_Step, ctr := [(21, c_vote_Tick), (23, c_gate_Settle), (22, c_gate_Note), (24, c_gate_Relay)], lim := 30, big := [], lps := [] }
theorem xok_hub_Step : XL Try.prog T X_hub_Step where
 tys := tysOk
 eqs := eqsOk
 mixed := mixed
 ctr := ctrsOK_of ⟨⟨rfl, ctr_vote_Tick⟩, ⟨rfl, ctr_gate_Settle⟩, ⟨rfl, ctr_gate_Note⟩, ⟨rfl, ctr_gate_Relay⟩, trivial⟩
 fns := fnsOK_of fnsOk_hub_Step
 big := bigsOK_of trivial
 lps := lps_nil rfl
theorem ctr_hub_Step : CtrOK Try.prog T c_hub_Step := ctr_of xok_hub_Step widths (g := g_hub_Step) (ls := [V 152, V 153, V 154, V 155, V 156, V 157, V 158, V 159, V 160, V 161, V 162, V 163, V 164, V 165, V 138]) (by kernel_rfl) (fun aq => by rw [show c_hub_Step.f = 11 from rfl, T_11]; rfl) fun aq e h1 h2 h3 => by
 subst h1
 rw [show c_hub_Step.f = 11 from rfl, T_11] at h2 ⊢
 obtain ⟨ho, hr⟩ := pure_hub_Step e h3 _ rfl _ rfl h2
 obtain ⟨r0, r1, r2, r3, r4, r5, r6, r7, r8, r9, r10, r11, r12, r13, r14⟩ := hr
 refine ⟨⟨ho.1, ho.2.1, ho.2.2.1, ho.2.2.2, trivial⟩, ?_⟩
 show semMany [.int .i64, .int .i64, .int .i64, .int .i64, .int .i64, .int .i64, .int .i64, .int .i64, .int .i64, .int .i64, .int .i64, .int .i64, .int .i64, .int .i64, .int .i64] (t_11 _).2 = semMany [.int .i64, .int .i64, .int .i64, .int .i64, .int .i64, .int .i64, .int .i64, .int .i64, .int .i64, .int .i64, .int .i64, .int .i64, .int .i64, .int .i64, .int .i64] [L.ev e (V 152), L.ev e (V 153), L.ev e (V 154), L.ev e (V 155), L.ev e (V 156), L.ev e (V 157), L.ev e (V 158), L.ev e (V 159), L.ev e (V 160), L.ev e (V 161), L.ev e (V 162), L.ev e (V 163), L.ev e (V 164), L.ev e (V 165), L.ev e (V 138)]
 exact (semI r0 (semI r1 (semI r2 (semI r3 (semI r4 (semI r5 (semI r6 (semI r7 (semI r8 (semI r9 (semI r10 (semI r11 (semI r12 (semI r13 (semI r14 rfl)))))))))))))))
def c_ref13_Few : Ctr := { f := 7, ps := [.lst [.sl [.int .i64, .int .i64]], .c false [.int .i64]], rs := [(false, [.bool])], ok := fun _ => true }
noncomputable def fns_ref13_Few : List (Nat × Func) := [(7, Try.f7)]
theorem fnsOk_ref13_Few : FnsAll Try.prog fns_ref13_Few := ⟨fn7, trivial⟩
noncomputable def X_ref13_Few_0 : Ctx := { tys := tys, eqs := eqs, fns := fun f => look f fns_ref13_Few, ctr := [], lim := 30, big := [], lps := [] }
theorem xok_ref13_Few_0 : XL Try.prog T X_ref13_Few_0 where
 tys := tysOk
 eqs := eqsOk
 mixed := mixed
 ctr := ctrsOK_of trivial
 fns := fnsOK_of fnsOk_ref13_Few
 big := bigsOK_of trivial
 lps := lps_nil rfl
theorem lpok_1820 : ∀ fn body c, X_ref13_Few_0.fns lp_1820.f = some fn → fn.body = some body → subAt lp_1820.p body = some (.loop c) → LoopOK Try.prog T lp_1820 c :=
 loop_of xok_ref13_Few_0 widths (g := g_L1820) (back := some (V 21, [V 0, V 1, V 18, V 3, V 4])) (exs := [(V 22, [some (B true), none]), (V 6, [none, some (B true)])]) (by kernel_rfl) (fun aq => by rw [show lp_1820.id = 1820 from rfl, T_1820]; rfl) m_1820 fun aq e h1 h2 h3 => by
  rw [show lp_1820.id = 1820 from rfl, T_1820] at h2 ⊢
  exact lpure_1820 aq e h1 h2 h3
noncomputable def X_ref13_Few : Ctx := { tys := tys, eqs := eqs, fns := fun f => look f fns_ref13_Few, ctr := [], lim := 30, big := [], lps := [lp_1820] }
theorem xok_ref13_Few : XL Try.prog T X_ref13_Few where
 tys := tysOk
 eqs := eqsOk
 mixed := mixed
 ctr := ctrsOK_of trivial
 fns := fnsOK_of fnsOk_ref13_Few
 big := bigsOK_of trivial
 lps := lpsOK_of ⟨lpok_1820, trivial⟩
theorem ctr_ref13_Few : CtrOK Try.prog T c_ref13_Few := ctr_of xok_ref13_Few widths (g := g_ref13_Few) (ls := [V 18]) (by kernel_rfl) (fun aq => by rw [show c_ref13_Few.f = 7 from rfl, T_7]; rfl) fun aq e h1 h2 h3 => by
 subst h1
 rw [show c_ref13_Few.f = 7 from rfl, T_7] at h2 ⊢
 obtain ⟨ho, hr⟩ := pure_ref13_Few e h3 h2
 have r0 := hr
 refine ⟨⟨ho.1, ho.2, trivial⟩, ?_⟩
 show semMany [.bool] (t_7 _).2 = semMany [.bool] [L.ev e (V 18)]
 exact (semB r0 rfl)
end Rx.S
