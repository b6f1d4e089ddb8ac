import Derived.Test.YtjipnabidebgbaaJXe
import Derived.Test.YtjipnabidebgbaaJXvote
import Derived.Test.YtjipnabidebgbaaJXgate
import Derived.Test.YtjipnabidebgbaaJYhub
set_option linter.unusedVariables false
set_option linter.unusedSimpArgs false
namespace Rx.S
open Go Rx Go.Proofs
set_option maxRecDepth 100000
set_option maxHeartbeats 4000000
def c_hub_Step : Ctr := { f := 119, ps := [.c false [.int .i64], .c true [.int .i64, .int .i64, .int .i64, .int .i64, .int .i64, .int .i64, .int .i64, .int .i64, .int .i64, .int .i64, .int .i64, .int .i64], .lst [.int .i64, .int .i64]], rs := [(true, [.int .i64, .int .i64, .int .i64, .int .i64, .int .i64, .int .i64, .int .i64, .int .i64, .int .i64, .int .i64, .int .i64, .int .i64]), (true, [.int .i64, .int .i64]), (false, [.int .i64])], ok := fun _ => true }
noncomputable def fns_hub_Step : List (Nat × Func) := [(119, Try.f119), (90, Try.f90), (106, Try.f106), (105, Try.f105), (104, Try.f104)]
theorem fnsOk_hub_Step : FnsAll Try.prog fns_hub_Step := ⟨fn119, fn90, fn106, fn105, fn104, trivial⟩
noncomputable def X_hub_Step : Ctx := { tys := tys, eqs := eqs, fns := fun f => look f fns_hub_Step, ctr := [(90, c_vote_Tick), (105, c_gate_Settle), (106, c_gate_Note), (104, c_gate_Relay)], lim := 30, big := [], lps := [] }
theorem xok_hub_Step : XL Try.prog T X_hub_Step where
 tys := tysOk
 eqs := eqsOk
 mixed := mixed
 ctr := ctrsOK_of ⟨⟨rfl, ctr_vote_Tick⟩, ⟨rfl, ctr_gate_Settle⟩, ⟨rfl, ctr_gate_Note⟩, ⟨rfl, ctr_gate_Relay⟩, trivial⟩
 fns := fnsOK_of fnsOk_hub_Step
 big := bigsOK_of trivial
 lps := lps_nil rfl
theorem ctr_hub_Step : CtrOK Try.prog T c_hub_Step := ctr_of xok_hub_Step widths (g := g_hub_Step) (ls := [V 152, V 153, V 154, V 155, V 156, V 157, V 158, V 159, V 160, V 161, V 162, V 163, V 164, V 165, V 138]) (by kernel_rfl) (fun aq => by rw [show c_hub_Step.f = 119 from rfl, T_119]; rfl) fun aq e h1 h2 h3 => by
 subst h1
 rw [show c_hub_Step.f = 119 from rfl, T_119] at h2 ⊢
 obtain ⟨ho, hr⟩ := pure_hub_Step e h3 _ rfl _ rfl h2
 obtain ⟨r0, r1, r2, r3, r4, r5, r6, r7, r8, r9, r10, r11, r12, r13, r14⟩ := hr
 refine ⟨⟨ho.1, ho.2.1, ho.2.2.1, ho.2.2.2, trivial⟩, ?_⟩
 show semMany [.int .i64, .int .i64, .int .i64, .int .i64, .int .i64, .int .i64, .int .i64, .int .i64, .int .i64, .int .i64, .int .i64, .int .i64, .int .i64, .int .i64, .int .i64] (t_119 _).2 = semMany [.int .i64, .int .i64, .int .i64, .int .i64, .int .i64, .int .i64, .int .i64, .int .i64, .int .i64, .int .i64, .int .i64, .int .i64, .int .i64, .int .i64, .int .i64] [L.ev e (V 152), L.ev e (V 153), L.ev e (V 154), L.ev e (V 155), L.ev e (V 156), L.ev e (V 157), L.ev e (V 158), L.ev e (V 159), L.ev e (V 160), L.ev e (V 161), L.ev e (V 162), L.ev e (V 163), L.ev e (V 164), L.ev e (V 165), L.ev e (V 138)]
 exact (semI r0 (semI r1 (semI r2 (semI r3 (semI r4 (semI r5 (semI r6 (semI r7 (semI r8 (semI r9 (semI r10 (semI r11 (semI r12 (semI r13 (semI r14 rfl)))))))))))))))
end Rx.S
