import Derived.Test.YtngghkhjejkelabKXe
import Derived.Test.YtngghkhjejkelabKXconf
import Derived.Test.YtngghkhjejkelabKYvoteb
set_option linter.unusedVariables false
set_option linter.unusedSimpArgs false
namespace Rx.S
open Go Rx Go.Proofs
set_option maxRecDepth 100000
set_option maxHeartbeats 4000000
def c_ref11_in : Ctr := { f := 19, ps := [.c false [.int .i64], .c false [.int .i64]], rs := [(false, [.bool])], ok := fun _ => true }
noncomputable def fns_ref11_in : List (Nat × Func) := [(19, Try.f19)]
theorem fnsOk_ref11_in : FnsAll Try.prog fns_ref11_in := ⟨fn19, trivial⟩
noncomputable def X_ref11_in : Ctx := { tys := tys, eqs := eqs, fns := fun f => look f fns_ref11_in, ctr := [], lim := 30, big := [], lps := [] }
theorem xok_ref11_in : XL Try.prog T X_ref11_in where
 tys := tysOk
 eqs := eqsOk
 mixed := mixed
 ctr := ctrsOK_of trivial
 fns := fnsOK_of fnsOk_ref11_in
 big := bigsOK_of trivial
 lps := lps_nil rfl
theorem ctr_ref11_in : CtrOK Try.prog T c_ref11_in := ctr_of xok_ref11_in widths (g := g_ref11_in) (ls := [V 4]) (by kernel_rfl) (fun aq => by rw [show c_ref11_in.f = 19 from rfl, T_19]; rfl) fun aq e h1 h2 h3 => by
 subst h1
 rw [show c_ref11_in.f = 19 from rfl, T_19] at h2 ⊢
 obtain ⟨ho, hr⟩ := pure_ref11_in e h3 h2
 have r0 := hr
 refine ⟨trivial, ?_⟩
 show semMany [.bool] (t_19 _).2 = semMany [.bool] [L.ev e (V 4)]
 exact (semB r0 rfl)
def c_ref11_Right : Ctr := { f := 8, ps := [.c false [.int .i64], .c true [.int .i64, .int .i64, .int .i64, .int .i64, .int .i64, .int .i64, .int .i64, .int .i64, .int .i64, .int .i64, .int .i64, .int .i64]], rs := [(false, [.bool])], ok := fun _ => true }
noncomputable def fns_ref11_Right : List (Nat × Func) := [(8, Try.f8), (18, Try.f18), (19, Try.f19), (20, Try.f20)]
theorem fnsOk_ref11_Right : FnsAll Try.prog fns_ref11_Right := ⟨fn8, fn18, fn19, fn20, trivial⟩
noncomputable def X_ref11_Right_0 : Ctx := { tys := tys, eqs := eqs, fns := fun f => look f fns_ref11_Right, ctr := [(18, c_ref03_Right), (20, c_ref03_Block), (19, c_ref11_in)], lim := 30, big := [], lps := [] }
theorem xok_ref11_Right_0 : XL Try.prog T X_ref11_Right_0 where
 tys := tysOk
 eqs := eqsOk
 mixed := mixed
 ctr := ctrsOK_of ⟨⟨rfl, ctr_ref03_Right⟩, ⟨rfl, ctr_ref03_Block⟩, ⟨rfl, ctr_ref11_in⟩, trivial⟩
 fns := fnsOK_of fnsOk_ref11_Right
 big := bigsOK_of trivial
 lps := lps_nil rfl
theorem lpok_1470 : ∀ fn body c, X_ref11_Right_0.fns lp_1470.f = some fn → fn.body = some body → subAt lp_1470.p body = some (.loop c) → LoopOK Try.prog T lp_1470 c :=
 loop_of xok_ref11_Right_0 widths (g := g_L1470) (back := some (V 46, [V 0, V 1, V 2, V 3, V 4, V 5, V 6, V 7, V 8, V 9, V 10, V 11, V 12, V 43, V 14, V 15])) (exs := [(V 47, [some (B true), none]), (V 17, [none, some (B true)])]) (by kernel_rfl) (fun aq => by rw [show lp_1470.id = 1470 from rfl, T_1470]; rfl) m_1470 fun aq e h1 h2 h3 => by
  rw [show lp_1470.id = 1470 from rfl, T_1470] at h2 ⊢
  exact lpure_1470 aq e h1 h2 h3
noncomputable def X_ref11_Right : Ctx := { tys := tys, eqs := eqs, fns := fun f => look f fns_ref11_Right, ctr := [(18, c_ref03_Right), (20, c_ref03_Block), (19, c_ref11_in)], lim := 30, big := [], lps := [lp_1470] }
theorem xok_ref11_Right : XL Try.prog T X_ref11_Right where
 tys := tysOk
 eqs := eqsOk
 mixed := mixed
 ctr := ctrsOK_of ⟨⟨rfl, ctr_ref03_Right⟩, ⟨rfl, ctr_ref03_Block⟩, ⟨rfl, ctr_ref11_in⟩, trivial⟩
 fns := fnsOK_of fnsOk_ref11_Right
 big := bigsOK_of trivial
 lps := lpsOK_of ⟨lpok_1470, trivial⟩
theorem ctr_ref11_Right : CtrOK Try.prog T c_ref11_Right := ctr_of xok_ref11_Right widths (g := g_ref11_Right) (ls := [V 56]) (by kernel_rfl) (fun aq => by rw [show c_ref11_Right.f = 8 from rfl, T_8]; rfl) fun aq e h1 h2 h3 => by
 subst h1
 rw [show c_ref11_Right.f = 8 from rfl, T_8] at h2 ⊢
 obtain ⟨ho, hr⟩ := pure_ref11_Right e h3 _ rfl h2
 have r0 := hr
 refine ⟨⟨ho.1, ho.2.1, ho.2.2.1, ho.2.2.2.1, ho.2.2.2.2.1, ho.2.2.2.2.2.1, ho.2.2.2.2.2.2.1, ho.2.2.2.2.2.2.2.1, ho.2.2.2.2.2.2.2.2, trivial⟩, ?_⟩
 show semMany [.bool] (t_8 _).2 = semMany [.bool] [L.ev e (V 56)]
 exact (semB r0 rfl)
def c_ref11_Fresh : Ctr := { f := 14, ps := [.c false [.int .i64]], rs := [(true, [.int .i64, .int .i64, .int .i64, .int .i64, .int .i64, .int .i64, .int .i64, .int .i64, .int .i64, .int .i64, .int .i64, .int .i64]), (false, [.int .i64])], ok := fun _ => true }
noncomputable def fns_ref11_Fresh : List (Nat × Func) := [(14, Try.f14), (18, Try.f18), (20, Try.f20)]
theorem fnsOk_ref11_Fresh : FnsAll Try.prog fns_ref11_Fresh := ⟨fn14, fn18, fn20, trivial⟩
noncomputable def X_ref11_Fresh_0 : Ctx := { tys := tys, eqs := eqs, fns := fun f => look f fns_ref11_Fresh, ctr := [(18, c_ref03_Right), (20, c_ref03_Block)], lim := 30, big := [], lps := [] }
theorem xok_ref11_Fresh_0 : XL Try.prog T X_ref11_Fresh_0 where
 tys := tysOk
 eqs := eqsOk
 mixed := mixed
 ctr := ctrsOK_of ⟨⟨rfl, ctr_ref03_Right⟩, ⟨rfl, ctr_ref03_Block⟩, trivial⟩
 fns := fnsOK_of fnsOk_ref11_Fresh
 big := bigsOK_of trivial
 lps := lps_nil rfl
theorem lpok_1490 : ∀ fn body c, X_ref11_Fresh_0.fns lp_1490.f = some fn → fn.body = some body → subAt lp_1490.p body = some (.loop c) → LoopOK Try.prog T lp_1490 c :=
 loop_of xok_ref11_Fresh_0 widths (g := g_L1490) (back := some (V 14, [V 0, V 28, V 2, V 3, V 4, V 5, V 20, V 21, V 22, V 23, V 24, V 25, V 26, V 27])) (exs := [(V 15, [some (V 6), some (V 7), some (V 8), some (V 9), some (V 10), some (V 11), some (V 12), some (V 13)])]) (by kernel_rfl) (fun aq => by rw [show lp_1490.id = 1490 from rfl, T_1490]; rfl) m_1490 fun aq e h1 h2 h3 => by
  rw [show lp_1490.id = 1490 from rfl, T_1490] at h2 ⊢
  exact lpure_1490 aq e h1 h2 h3
noncomputable def X_ref11_Fresh : Ctx := { tys := tys, eqs := eqs, fns := fun f => look f fns_ref11_Fresh, ctr := [(18, c_ref03_Right), (20, c_ref03_Block)], lim := 30, big := [], lps := [lp_1490] }
theorem xok_ref11_Fresh : XL Try.prog T X_ref11_Fresh where
 tys := tysOk
 eqs := eqsOk
 mixed := mixed
 ctr := ctrsOK_of ⟨⟨rfl, ctr_ref03_Right⟩, ⟨rfl, ctr_ref03_Block⟩, trivial⟩
 fns := fnsOK_of fnsOk_ref11_Fresh
 big := bigsOK_of trivial
 lps := lpsOK_of ⟨lpok_1490, trivial⟩
theorem ctr_ref11_Fresh : CtrOK Try.prog T c_ref11_Fresh := ctr_of xok_ref11_Fresh widths (g := g_ref11_Fresh) (ls := [V 21, V 22, V 23, V 24, V 25, V 26, V 27, V 28, N 0, V 29, N 0, N 0, V 20]) (by kernel_rfl) (fun aq => by rw [show c_ref11_Fresh.f = 14 from rfl, T_14]; rfl) fun aq e h1 h2 h3 => by
 subst h1
 rw [show c_ref11_Fresh.f = 14 from rfl, T_14] at h2 ⊢
 obtain ⟨ho, hr⟩ := pure_ref11_Fresh e h3 _ rfl h2
 obtain ⟨r0, r1, r2, r3, r4, r5, r6, r7, r8, r9, r10, r11, r12⟩ := hr
 refine ⟨⟨ho.1, ho.2.1, ho.2.2, trivial⟩, ?_⟩
 show semMany [.int .i64, .int .i64, .int .i64, .int .i64, .int .i64, .int .i64, .int .i64, .int .i64, .int .i64, .int .i64, .int .i64, .int .i64, .int .i64] (t_14 _).2 = semMany [.int .i64, .int .i64, .int .i64, .int .i64, .int .i64, .int .i64, .int .i64, .int .i64, .int .i64, .int .i64, .int .i64, .int .i64, .int .i64] [L.ev e (V 21), L.ev e (V 22), L.ev e (V 23), L.ev e (V 24), L.ev e (V 25), L.ev e (V 26), L.ev e (V 27), L.ev e (V 28), L.ev e (N 0), L.ev e (V 29), L.ev e (N 0), L.ev e (N 0), L.ev e (V 20)]
 exact (semI r0 (semI r1 (semI r2 (semI r3 (semI r4 (semI r5 (semI r6 (semI r7 (semI r8 (semI r9 (semI r10 (semI r11 (semI r12 rfl)))))))))))))
end Rx.S
