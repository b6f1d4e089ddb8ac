import Derived.Test.YtngghkhjejkelabKXe
import Derived.Test.YtngghkhjejkelabKYtally
set_option linter.unusedVariables false
set_option linter.unusedSimpArgs false
namespace Rx.S
open Go Rx Go.Proofs
set_option maxRecDepth 100000
set_option maxHeartbeats 4000000
def c_tally_Up : Ctr := { f := 35, ps := [.c false [.int .i64], .c false [.int .i64]], rs := [(false, [.int .i64])], ok := fun _ => true }
noncomputable def fns_tally_Up : List (Nat × Func) := [(35, Try.f35)]
theorem fnsOk_tally_Up : FnsAll Try.prog fns_tally_Up := ⟨fn35, trivial⟩
noncomputable def X_tally_Up : Ctx := { tys := tys, eqs := eqs, fns := fun f => look f fns_tally_Up, ctr := [], lim := 30, big := [], lps := [] }
theorem xok_tally_Up : XL Try.prog T X_tally_Up where
 tys := tysOk
 eqs := eqsOk
 mixed := mixed
 ctr := ctrsOK_of trivial
 fns := fnsOK_of fnsOk_tally_Up
 big := bigsOK_of trivial
 lps := lps_nil rfl
theorem ctr_tally_Up : CtrOK Try.prog T c_tally_Up := ctr_of xok_tally_Up widths (g := g_tally_Up) (ls := [V 7]) (by kernel_rfl) (fun aq => by rw [show c_tally_Up.f = 35 from rfl, T_35]; rfl) fun aq e h1 h2 h3 => by
 subst h1
 rw [show c_tally_Up.f = 35 from rfl, T_35] at h2 ⊢
 obtain ⟨ho, hr⟩ := pure_tally_Up e h3 h2
 have r0 := hr
 refine ⟨trivial, ?_⟩
 show semMany [.int .i64] (t_35 _).2 = semMany [.int .i64] [L.ev e (V 7)]
 exact (semI r0 rfl)
def c_tally_Down : Ctr := { f := 33, ps := [.c false [.int .i64]], rs := [(false, [.int .i64])], ok := fun _ => true }
noncomputable def fns_tally_Down : List (Nat × Func) := [(33, Try.f33)]
theorem fnsOk_tally_Down : FnsAll Try.prog fns_tally_Down := ⟨fn33, trivial⟩
noncomputable def X_tally_Down : Ctx := { tys := tys, eqs := eqs, fns := fun f => look f fns_tally_Down, ctr := [], lim := 30, big := [], lps := [] }
theorem xok_tally_Down : XL Try.prog T X_tally_Down where
 tys := tysOk
 eqs := eqsOk
 mixed := mixed
 ctr := ctrsOK_of trivial
 fns := fnsOK_of fnsOk_tally_Down
 big := bigsOK_of trivial
 lps := lps_nil rfl
theorem ctr_tally_Down : CtrOK Try.prog T c_tally_Down := ctr_of xok_tally_Down widths (g := g_tally_Down) (ls := [V 2]) (by kernel_rfl) (fun aq => by rw [show c_tally_Down.f = 33 from rfl, T_33]; rfl) fun aq e h1 h2 h3 => by
 subst h1
 rw [show c_tally_Down.f = 33 from rfl, T_33] at h2 ⊢
 obtain ⟨ho, hr⟩ := pure_tally_Down e h3 h2
 have r0 := hr
 refine ⟨trivial, ?_⟩
 show semMany [.int .i64] (t_33 _).2 = semMany [.int .i64] [L.ev e (V 2)]
 exact (semI r0 rfl)
def c_tally_Clamp : Ctr := { f := 49, ps := [.c false [.int .i64], .c false [.int .i64], .c false [.int .i64]], rs := [(false, [.int .i64])], ok := fun _ => true }
noncomputable def fns_tally_Clamp : List (Nat × Func) := [(49, Try.f49)]
theorem fnsOk_tally_Clamp : FnsAll Try.prog fns_tally_Clamp := ⟨fn49, trivial⟩
noncomputable def X_tally_Clamp : Ctx := { tys := tys, eqs := eqs, fns := fun f => look f fns_tally_Clamp, ctr := [], lim := 30, big := [], lps := [] }
theorem xok_tally_Clamp : XL Try.prog T X_tally_Clamp where
 tys := tysOk
 eqs := eqsOk
 mixed := mixed
 ctr := ctrsOK_of trivial
 fns := fnsOK_of fnsOk_tally_Clamp
 big := bigsOK_of trivial
 lps := lps_nil rfl
theorem ctr_tally_Clamp : CtrOK Try.prog T c_tally_Clamp := ctr_of xok_tally_Clamp widths (g := g_tally_Clamp) (ls := [V 7]) (by kernel_rfl) (fun aq => by rw [show c_tally_Clamp.f = 49 from rfl, T_49]; rfl) fun aq e h1 h2 h3 => by
 subst h1
 rw [show c_tally_Clamp.f = 49 from rfl, T_49] at h2 ⊢
 obtain ⟨ho, hr⟩ := pure_tally_Clamp e h3 h2
 have r0 := hr
 refine ⟨trivial, ?_⟩
 show semMany [.int .i64] (t_49 _).2 = semMany [.int .i64] [L.ev e (V 7)]
 exact (semI r0 rfl)
end Rx.S
