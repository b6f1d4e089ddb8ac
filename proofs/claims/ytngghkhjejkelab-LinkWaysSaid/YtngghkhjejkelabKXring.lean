import Derived.Test.YtngghkhjejkelabKXe
import Derived.Test.YtngghkhjejkelabKYring
set_option linter.unusedVariables false
set_option linter.unusedSimpArgs false
namespace Rx.S
open Go Rx Go.Proofs
set_option maxRecDepth 100000
set_option maxHeartbeats 4000000
def c_ring_Next : Ctr := { f := 36, ps := [.c false [.int .i64], .c false [.int .i64]], rs := [(false, [.int .i64])], ok := fun _ => true }
noncomputable def fns_ring_Next : List (Nat × Func) := [(36, Try.f36)]
theorem fnsOk_ring_Next : FnsAll Try.prog fns_ring_Next := ⟨fn36, trivial⟩
noncomputable def X_ring_Next : Ctx := { tys := tys, eqs := eqs, fns := fun f => look f fns_ring_Next, ctr := [], lim := 30, big := [], lps := [] }
theorem xok_ring_Next : XL Try.prog T X_ring_Next where
 tys := tysOk
 eqs := eqsOk
 mixed := mixed
 ctr := ctrsOK_of trivial
 fns := fnsOK_of fnsOk_ring_Next
 big := bigsOK_of trivial
 lps := lps_nil rfl
theorem ctr_ring_Next : CtrOK Try.prog T c_ring_Next := ctr_of xok_ring_Next widths (g := g_ring_Next) (ls := [V 7]) (by kernel_rfl) (fun aq => by rw [show c_ring_Next.f = 36 from rfl, T_36]; rfl) fun aq e h1 h2 h3 => by
 subst h1
 rw [show c_ring_Next.f = 36 from rfl, T_36] at h2 ⊢
 obtain ⟨ho, hr⟩ := pure_ring_Next e h3 h2
 have r0 := hr
 refine ⟨trivial, ?_⟩
 show semMany [.int .i64] (t_36 _).2 = semMany [.int .i64] [L.ev e (V 7)]
 exact (semI r0 rfl)
def c_ring_Mod : Ctr := { f := 50, ps := [.c false [.int .i64], .c false [.int .i64]], rs := [(false, [.int .i64])], ok := fun _ => true }
noncomputable def fns_ring_Mod : List (Nat × Func) := [(50, Try.f50)]
theorem fnsOk_ring_Mod : FnsAll Try.prog fns_ring_Mod := ⟨fn50, trivial⟩
noncomputable def X_ring_Mod : Ctx := { tys := tys, eqs := eqs, fns := fun f => look f fns_ring_Mod, ctr := [], lim := 30, big := [], lps := [] }
theorem xok_ring_Mod : XL Try.prog T X_ring_Mod where
 tys := tysOk
 eqs := eqsOk
 mixed := mixed
 ctr := ctrsOK_of trivial
 fns := fnsOK_of fnsOk_ring_Mod
 big := bigsOK_of trivial
 lps := lps_nil rfl
theorem ctr_ring_Mod : CtrOK Try.prog T c_ring_Mod := ctr_of xok_ring_Mod widths (g := g_ring_Mod) (ls := [V 7]) (by kernel_rfl) (fun aq => by rw [show c_ring_Mod.f = 50 from rfl, T_50]; rfl) fun aq e h1 h2 h3 => by
 subst h1
 rw [show c_ring_Mod.f = 50 from rfl, T_50] at h2 ⊢
 obtain ⟨ho, hr⟩ := pure_ring_Mod e h3 h2
 have r0 := hr
 refine ⟨⟨ho, trivial⟩, ?_⟩
 show semMany [.int .i64] (t_50 _).2 = semMany [.int .i64] [L.ev e (V 7)]
 exact (semI r0 rfl)
def c_ring_At : Ctr := { f := 66, ps := [.c false [.int .i64], .c false [.int .i64], .c false [.int .i64]], rs := [(false, [.int .i64])], ok := fun _ => true }
noncomputable def fns_ring_At : List (Nat × Func) := [(66, Try.f66)]
theorem fnsOk_ring_At : FnsAll Try.prog fns_ring_At := ⟨fn66, trivial⟩
noncomputable def X_ring_At : Ctx := { tys := tys, eqs := eqs, fns := fun f => look f fns_ring_At, ctr := [], lim := 30, big := [], lps := [] }
theorem xok_ring_At : XL Try.prog T X_ring_At where
 tys := tysOk
 eqs := eqsOk
 mixed := mixed
 ctr := ctrsOK_of trivial
 fns := fnsOK_of fnsOk_ring_At
 big := bigsOK_of trivial
 lps := lps_nil rfl
theorem ctr_ring_At : CtrOK Try.prog T c_ring_At := ctr_of xok_ring_At widths (g := g_ring_At) (ls := [V 5]) (by kernel_rfl) (fun aq => by rw [show c_ring_At.f = 66 from rfl, T_66]; rfl) fun aq e h1 h2 h3 => by
 subst h1
 rw [show c_ring_At.f = 66 from rfl, T_66] at h2 ⊢
 obtain ⟨ho, hr⟩ := pure_ring_At e h3 h2
 have r0 := hr
 refine ⟨⟨ho, trivial⟩, ?_⟩
 show semMany [.int .i64] (t_66 _).2 = semMany [.int .i64] [L.ev e (V 5)]
 exact (semI r0 rfl)
end Rx.S
