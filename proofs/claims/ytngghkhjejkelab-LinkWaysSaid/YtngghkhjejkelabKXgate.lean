import Derived.Test.YtngghkhjejkelabKXe
import Derived.Test.YtngghkhjejkelabKXconf
import Derived.Test.YtngghkhjejkelabKXvote
import Derived.Test.YtngghkhjejkelabKYgate
set_option linter.unusedVariables false
set_option linter.unusedSimpArgs false
namespace Rx.S
open Go Rx Go.Proofs
set_option maxRecDepth 100000
set_option maxHeartbeats 4000000
def c_ref12_Fits : Ctr := { f := 10, ps := [.c false [.int .i64], .lst [.int .i64, .int .i64]], rs := [(false, [.bool])], ok := fun _ => true }
noncomputable def fns_ref12_Fits : List (Nat × Func) := [(10, Try.f10), (18, Try.f18)]
theorem fnsOk_ref12_Fits : FnsAll Try.prog fns_ref12_Fits := ⟨fn10, fn18, trivial⟩
noncomputable def X_ref12_Fits_0 : Ctx := { tys := tys, eqs := eqs, fns := fun f => look f fns_ref12_Fits, ctr := [(18, c_ref03_Right)], lim := 30, big := [], lps := [] }
theorem xok_ref12_Fits_0 : XL Try.prog T X_ref12_Fits_0 where
 tys := tysOk
 eqs := eqsOk
 mixed := mixed
 ctr := ctrsOK_of ⟨⟨rfl, ctr_ref03_Right⟩, trivial⟩
 fns := fnsOK_of fnsOk_ref12_Fits
 big := bigsOK_of trivial
 lps := lps_nil rfl
theorem lpok_1640 : ∀ fn body c, X_ref12_Fits_0.fns lp_1640.f = some fn → fn.body = some body → subAt lp_1640.p body = some (.loop c) → LoopOK Try.prog T lp_1640 c :=
 loop_of xok_ref12_Fits_0 widths (g := g_L1640) (back := some (V 38, [V 0, V 1, V 35, V 3])) (exs := [(V 39, [some (B true), none]), (V 5, [none, some (B true)])]) (by kernel_rfl) (fun aq => by rw [show lp_1640.id = 1640 from rfl, T_1640]; rfl) m_1640 fun aq e h1 h2 h3 => by
  rw [show lp_1640.id = 1640 from rfl, T_1640] at h2 ⊢
  exact lpure_1640 aq e h1 h2 h3
noncomputable def X_ref12_Fits : Ctx := { tys := tys, eqs := eqs, fns := fun f => look f fns_ref12_Fits, ctr := [(18, c_ref03_Right)], lim := 30, big := [], lps := [lp_1640] }
theorem xok_ref12_Fits : XL Try.prog T X_ref12_Fits where
 tys := tysOk
 eqs := eqsOk
 mixed := mixed
 ctr := ctrsOK_of ⟨⟨rfl, ctr_ref03_Right⟩, trivial⟩
 fns := fnsOK_of fnsOk_ref12_Fits
 big := bigsOK_of trivial
 lps := lpsOK_of ⟨lpok_1640, trivial⟩
theorem ctr_ref12_Fits : CtrOK Try.prog T c_ref12_Fits := ctr_of xok_ref12_Fits widths (g := g_ref12_Fits) (ls := [V 15]) (by kernel_rfl) (fun aq => by rw [show c_ref12_Fits.f = 10 from rfl, T_10]; rfl) fun aq e h1 h2 h3 => by
 subst h1
 rw [show c_ref12_Fits.f = 10 from rfl, T_10] at h2 ⊢
 obtain ⟨ho, hr⟩ := pure_ref12_Fits e h3 h2
 have r0 := hr
 refine ⟨⟨ho.1, ho.2.1, ho.2.2, trivial⟩, ?_⟩
 show semMany [.bool] (t_10 _).2 = semMany [.bool] [L.ev e (V 15)]
 exact (semB r0 rfl)
def c_gate_Settle : Ctr := { f := 23, ps := [.c false [.int .i64], .c true [.int .i64, .int .i64, .int .i64, .int .i64, .int .i64, .int .i64, .int .i64, .int .i64, .int .i64, .int .i64, .int .i64, .int .i64]], rs := [(true, [.int .i64, .int .i64, .int .i64, .int .i64, .int .i64, .int .i64, .int .i64, .int .i64, .int .i64, .int .i64, .int .i64, .int .i64]), (false, [.int .i64])], ok := fun _ => true }
noncomputable def fns_gate_Settle : List (Nat × Func) := [(23, Try.f23), (25, Try.f25), (38, Try.f38), (39, Try.f39), (40, Try.f40)]
theorem fnsOk_gate_Settle : FnsAll Try.prog fns_gate_Settle := ⟨fn23, fn25, fn38, fn39, fn40, trivial⟩
noncomputable def X_gate_Settle : Ctx := { tys := tys, eqs := eqs, fns := fun f => look f fns_gate_Settle, ctr := [(40, c_conf_Block), (25, c_vote_Right), (38, c_vote_Votes), (39, c_vote_Best)], lim := 30, big := [], lps := [] }
theorem xok_gate_Settle : XL Try.prog T X_gate_Settle where
 tys := tysOk
 eqs := eqsOk
 mixed := mixed
 ctr := ctrsOK_of ⟨⟨rfl, ctr_conf_Block⟩, ⟨rfl, ctr_vote_Right⟩, ⟨rfl, ctr_vote_Votes⟩, ⟨rfl, ctr_vote_Best⟩, trivial⟩
 fns := fnsOK_of fnsOk_gate_Settle
 big := bigsOK_of trivial
 lps := lps_nil rfl
theorem ctr_gate_Settle : CtrOK Try.prog T c_gate_Settle := ctr_of xok_gate_Settle widths (g := g_gate_Settle) (ls := [V 43, V 44, V 45, V 46, V 47, V 48, V 49, V 50, V 51, V 52, V 53, V 54, V 40]) (by kernel_rfl) (fun aq => by rw [show c_gate_Settle.f = 23 from rfl, T_23]; rfl) fun aq e h1 h2 h3 => by
 subst h1
 rw [show c_gate_Settle.f = 23 from rfl, T_23] at h2 ⊢
 obtain ⟨ho, hr⟩ := pure_gate_Settle e h3 _ rfl _ rfl h2
 obtain ⟨r0, r1, r2, r3, r4, r5, r6, r7, r8, r9, r10, r11, r12⟩ := hr
 refine ⟨⟨ho.1, ho.2.1, ho.2.2.1, ho.2.2.2, trivial⟩, ?_⟩
 show semMany [.int .i64, .int .i64, .int .i64, .int .i64, .int .i64, .int .i64, .int .i64, .int .i64, .int .i64, .int .i64, .int .i64, .int .i64, .int .i64] (t_23 _).2 = semMany [.int .i64, .int .i64, .int .i64, .int .i64, .int .i64, .int .i64, .int .i64, .int .i64, .int .i64, .int .i64, .int .i64, .int .i64, .int .i64] [L.ev e (V 43), L.ev e (V 44), L.ev e (V 45), L.ev e (V 46), L.ev e (V 47), L.ev e (V 48), L.ev e (V 49), L.ev e (V 50), L.ev e (V 51), L.ev e (V 52), L.ev e (V 53), L.ev e (V 54), L.ev e (V 40)]
 exact (semI r0 (semI r1 (semI r2 (semI r3 (semI r4 (semI r5 (semI r6 (semI r7 (semI r8 (semI r9 (semI r10 (semI r11 (semI r12 rfl)))))))))))))
def c_gate_Fits : Ctr := { f := 26, ps := [.c false [.int .i64], .lst [.int .i64, .int .i64]], rs := [(false, [.bool])], ok := fun _ => true }
noncomputable def fns_gate_Fits : List (Nat × Func) := [(26, Try.f26), (43, Try.f43)]
theorem fnsOk_gate_Fits : FnsAll Try.prog fns_gate_Fits := ⟨fn26, fn43, trivial⟩
noncomputable def X_gate_Fits_0 : Ctx := { tys := tys, eqs := eqs, fns := fun f => look f fns_gate_Fits, ctr := [(43, c_conf_Right)], lim := 30, big := [], lps := [] }
theorem xok_gate_Fits_0 : XL Try.prog T X_gate_Fits_0 where
 tys := tysOk
 eqs := eqsOk
 mixed := mixed
 ctr := ctrsOK_of ⟨⟨rfl, ctr_conf_Right⟩, trivial⟩
 fns := fnsOK_of fnsOk_gate_Fits
 big := bigsOK_of trivial
 lps := lps_nil rfl
theorem lpok_1630 : ∀ fn body c, X_gate_Fits_0.fns lp_1630.f = some fn → fn.body = some body → subAt lp_1630.p body = some (.loop c) → LoopOK Try.prog T lp_1630 c :=
 loop_of xok_gate_Fits_0 widths (g := g_L1630) (back := some (V 38, [V 0, V 1, V 2, V 3, V 4, V 35, V 6])) (exs := [(V 39, [some (B true), none]), (V 8, [none, some (B true)])]) (by kernel_rfl) (fun aq => by rw [show lp_1630.id = 1630 from rfl, T_1630]; rfl) m_1630 fun aq e h1 h2 h3 => by
  rw [show lp_1630.id = 1630 from rfl, T_1630] at h2 ⊢
  exact lpure_1630 aq e h1 h2 h3
noncomputable def X_gate_Fits : Ctx := { tys := tys, eqs := eqs, fns := fun f => look f fns_gate_Fits, ctr := [(43, c_conf_Right)], lim := 30, big := [], lps := [lp_1630] }
theorem xok_gate_Fits : XL Try.prog T X_gate_Fits where
 tys := tysOk
 eqs := eqsOk
 mixed := mixed
 ctr := ctrsOK_of ⟨⟨rfl, ctr_conf_Right⟩, trivial⟩
 fns := fnsOK_of fnsOk_gate_Fits
 big := bigsOK_of trivial
 lps := lpsOK_of ⟨lpok_1630, trivial⟩
theorem ctr_gate_Fits : CtrOK Try.prog T c_gate_Fits := ctr_of xok_gate_Fits widths (g := g_gate_Fits) (ls := [V 23]) (by kernel_rfl) (fun aq => by rw [show c_gate_Fits.f = 26 from rfl, T_26]; rfl) fun aq e h1 h2 h3 => by
 subst h1
 rw [show c_gate_Fits.f = 26 from rfl, T_26] at h2 ⊢
 obtain ⟨ho, hr⟩ := pure_gate_Fits e h3 h2
 have r0 := hr
 refine ⟨⟨ho.1, ho.2.1, ho.2.2, trivial⟩, ?_⟩
 show semMany [.bool] (t_26 _).2 = semMany [.bool] [L.ev e (V 23)]
 exact (semB r0 rfl)
def c_gate_check : Ctr := { f := 37, ps := [.c false [.int .i64], .c true [.int .i64, .int .i64, .int .i64, .int .i64, .int .i64, .int .i64, .int .i64, .int .i64, .int .i64, .int .i64, .int .i64, .int .i64], .lst [.int .i64, .int .i64]], rs := [(false, [.int .i64])], ok := fun _ => true }
noncomputable def fns_gate_check : List (Nat × Func) := [(37, Try.f37), (25, Try.f25), (26, Try.f26)]
theorem fnsOk_gate_check : FnsAll Try.prog fns_gate_check := ⟨fn37, fn25, fn26, trivial⟩
noncomputable def X_gate_check : Ctx := { tys := tys, eqs := eqs, fns := fun f => look f fns_gate_check, ctr := [(25, c_vote_Right), (26, c_gate_Fits)], lim := 30, big := [], lps := [] }
theorem xok_gate_check : XL Try.prog T X_gate_check where
 tys := tysOk
 eqs := eqsOk
 mixed := mixed
 ctr := ctrsOK_of ⟨⟨rfl, ctr_vote_Right⟩, ⟨rfl, ctr_gate_Fits⟩, trivial⟩
 fns := fnsOK_of fnsOk_gate_check
 big := bigsOK_of trivial
 lps := lps_nil rfl
theorem ctr_gate_check : CtrOK Try.prog T c_gate_check := ctr_of xok_gate_check widths (g := g_gate_check) (ls := [V 32]) (by kernel_rfl) (fun aq => by rw [show c_gate_check.f = 37 from rfl, T_37]; rfl) fun aq e h1 h2 h3 => by
 subst h1
 rw [show c_gate_check.f = 37 from rfl, T_37] at h2 ⊢
 obtain ⟨ho, hr⟩ := pure_gate_check e h3 _ rfl h2
 have r0 := hr
 refine ⟨⟨ho.1, ho.2, trivial⟩, ?_⟩
 show semMany [.int .i64] (t_37 _).2 = semMany [.int .i64] [L.ev e (V 32)]
 exact (semI r0 rfl)
def c_gate_Note : Ctr := { f := 22, ps := [.c false [.int .i64], .c true [.int .i64, .int .i64, .int .i64, .int .i64, .int .i64, .int .i64, .int .i64, .int .i64, .int .i64, .int .i64, .int .i64, .int .i64], .lst [.int .i64, .int .i64]], rs := [(true, [.int .i64, .int .i64, .int .i64, .int .i64, .int .i64, .int .i64, .int .i64, .int .i64, .int .i64, .int .i64, .int .i64, .int .i64]), (false, [.int .i64])], ok := fun _ => true }
noncomputable def fns_gate_Note : List (Nat × Func) := [(22, Try.f22), (37, Try.f37)]
theorem fnsOk_gate_Note : FnsAll Try.prog fns_gate_Note := ⟨fn22, fn37, trivial⟩
noncomputable def X_gate_Note_0 : Ctx := { tys := tys, eqs := eqs, fns := fun f => look f fns_gate_Note, ctr := [(37, c_gate_check)], lim := 30, big := [], lps := [] }
theorem xok_gate_Note_0 : XL Try.prog T X_gate_Note_0 where
 tys := tysOk
 eqs := eqsOk
 mixed := mixed
 ctr := ctrsOK_of ⟨⟨rfl, ctr_gate_check⟩, trivial⟩
 fns := fnsOK_of fnsOk_gate_Note
 big := bigsOK_of trivial
 lps := lps_nil rfl
theorem lpok_1670 : ∀ fn body c, X_gate_Note_0.fns lp_1670.f = some fn → fn.body = some body → subAt lp_1670.p body = some (.loop c) → LoopOK Try.prog T lp_1670 c :=
 loop_of xok_gate_Note_0 widths (g := g_L1670) (back := some (V 26, [V 0, V 1, V 2, V 3, V 4, V 5, V 6, V 7, V 8, V 9, V 10, V 11, V 12, V 13, V 14, V 15, V 56, V 17, V 48, V 49, V 50, V 51, V 52, V 53, V 54, V 55])) (exs := [(V 27, [some (V 18), some (V 19), some (V 20), some (V 21), some (V 22), some (V 23), some (V 24), some (V 25)])]) (by kernel_rfl) (fun aq => by rw [show lp_1670.id = 1670 from rfl, T_1670]; rfl) m_1670 fun aq e h1 h2 h3 => by
  rw [show lp_1670.id = 1670 from rfl, T_1670] at h2 ⊢
  exact lpure_1670 aq e h1 h2 h3
noncomputable def X_gate_Note : Ctx := { tys := tys, eqs := eqs, fns := fun f => look f fns_gate_Note, ctr := [(37, c_gate_check)], lim := 30, big := [], lps := [lp_1670] }
theorem xok_gate_Note : XL Try.prog T X_gate_Note where
 tys := tysOk
 eqs := eqsOk
 mixed := mixed
 ctr := ctrsOK_of ⟨⟨rfl, ctr_gate_check⟩, trivial⟩
 fns := fnsOK_of fnsOk_gate_Note
 big := bigsOK_of trivial
 lps := lpsOK_of ⟨lpok_1670, trivial⟩
theorem ctr_gate_Note : CtrOK Try.prog T c_gate_Note := ctr_of xok_gate_Note widths (g := g_gate_Note) (ls := [V 39, V 40, V 41, V 42, V 43, V 44, V 45, V 46, V 47, V 48, V 49, V 50, V 30]) (by kernel_rfl) (fun aq => by rw [show c_gate_Note.f = 22 from rfl, T_22]; rfl) fun aq e h1 h2 h3 => by
 subst h1
 rw [show c_gate_Note.f = 22 from rfl, T_22] at h2 ⊢
 obtain ⟨ho, hr⟩ := pure_gate_Note e h3 _ rfl _ rfl h2
 obtain ⟨r0, r1, r2, r3, r4, r5, r6, r7, r8, r9, r10, r11, r12⟩ := hr
 refine ⟨⟨ho.1, ho.2, trivial⟩, ?_⟩
 show semMany [.int .i64, .int .i64, .int .i64, .int .i64, .int .i64, .int .i64, .int .i64, .int .i64, .int .i64, .int .i64, .int .i64, .int .i64, .int .i64] (t_22 _).2 = semMany [.int .i64, .int .i64, .int .i64, .int .i64, .int .i64, .int .i64, .int .i64, .int .i64, .int .i64, .int .i64, .int .i64, .int .i64, .int .i64] [L.ev e (V 39), L.ev e (V 40), L.ev e (V 41), L.ev e (V 42), L.ev e (V 43), L.ev e (V 44), L.ev e (V 45), L.ev e (V 46), L.ev e (V 47), L.ev e (V 48), L.ev e (V 49), L.ev e (V 50), L.ev e (V 30)]
 exact (semI r0 (semI r1 (semI r2 (semI r3 (semI r4 (semI r5 (semI r6 (semI r7 (semI r8 (semI r9 (semI r10 (semI r11 (semI r12 rfl)))))))))))))
def c_gate_owner : Ctr := { f := 42, ps := [.c false [.int .i64], .c true [.int .i64, .int .i64, .int .i64, .int .i64, .int .i64, .int .i64, .int .i64, .int .i64, .int .i64, .int .i64, .int .i64, .int .i64], .lst [.int .i64, .int .i64]], rs := [(true, [.int .i64, .int .i64, .int .i64, .int .i64, .int .i64, .int .i64, .int .i64, .int .i64, .int .i64, .int .i64, .int .i64, .int .i64]), (true, [.int .i64, .int .i64])], ok := fun _ => true }
noncomputable def fns_gate_owner : List (Nat × Func) := [(42, Try.f42), (40, Try.f40)]
theorem fnsOk_gate_owner : FnsAll Try.prog fns_gate_owner := ⟨fn42, fn40, trivial⟩
noncomputable def X_gate_owner : Ctx := { tys := tys, eqs := eqs, fns := fun f => look f fns_gate_owner, ctr := [(40, c_conf_Block)], lim := 30, big := [], lps := [] }
theorem xok_gate_owner : XL Try.prog T X_gate_owner where
 tys := tysOk
 eqs := eqsOk
 mixed := mixed
 ctr := ctrsOK_of ⟨⟨rfl, ctr_conf_Block⟩, trivial⟩
 fns := fnsOK_of fnsOk_gate_owner
 big := bigsOK_of trivial
 lps := lps_nil rfl
theorem ctr_gate_owner : CtrOK Try.prog T c_gate_owner := ctr_of xok_gate_owner widths (g := g_gate_owner) (ls := [V 1, V 2, V 3, V 4, V 5, V 6, V 7, V 8, V 9, V 10, V 26, V 12, V 27, V 28]) (by kernel_rfl) (fun aq => by rw [show c_gate_owner.f = 42 from rfl, T_42]; rfl) fun aq e h1 h2 h3 => by
 subst h1
 rw [show c_gate_owner.f = 42 from rfl, T_42] at h2 ⊢
 obtain ⟨ho, hr⟩ := pure_gate_owner e h3 _ rfl _ rfl h2
 obtain ⟨r0, r1, r2, r3, r4, r5, r6, r7, r8, r9, r10, r11, r12, r13⟩ := hr
 refine ⟨⟨ho.1, ho.2, trivial⟩, ?_⟩
 show semMany [.int .i64, .int .i64, .int .i64, .int .i64, .int .i64, .int .i64, .int .i64, .int .i64, .int .i64, .int .i64, .int .i64, .int .i64, .int .i64, .int .i64] (t_42 _).2 = semMany [.int .i64, .int .i64, .int .i64, .int .i64, .int .i64, .int .i64, .int .i64, .int .i64, .int .i64, .int .i64, .int .i64, .int .i64, .int .i64, .int .i64] [L.ev e (V 1), L.ev e (V 2), L.ev e (V 3), L.ev e (V 4), L.ev e (V 5), L.ev e (V 6), L.ev e (V 7), L.ev e (V 8), L.ev e (V 9), L.ev e (V 10), L.ev e (V 26), L.ev e (V 12), L.ev e (V 27), L.ev e (V 28)]
 exact (semI r0 (semI r1 (semI r2 (semI r3 (semI r4 (semI r5 (semI r6 (semI r7 (semI r8 (semI r9 (semI r10 (semI r11 (semI r12 (semI r13 rfl))))))))))))))
def c_gate_first : Ctr := { f := 41, ps := [.c false [.int .i64], .c true [.int .i64, .int .i64, .int .i64, .int .i64, .int .i64, .int .i64, .int .i64, .int .i64, .int .i64, .int .i64, .int .i64, .int .i64], .lst [.int .i64, .int .i64]], rs := [(true, [.int .i64, .int .i64, .int .i64, .int .i64, .int .i64, .int .i64, .int .i64, .int .i64, .int .i64, .int .i64, .int .i64, .int .i64]), (true, [.int .i64, .int .i64])], ok := fun _ => true }
noncomputable def fns_gate_first : List (Nat × Func) := [(41, Try.f41), (57, Try.f57), (40, Try.f40), (58, Try.f58)]
theorem fnsOk_gate_first : FnsAll Try.prog fns_gate_first := ⟨fn41, fn57, fn40, fn58, trivial⟩
noncomputable def X_gate_first_0 : Ctx := { tys := tys, eqs := eqs, fns := fun f => look f fns_gate_first, ctr := [(40, c_conf_Block)], lim := 30, big := [], lps := [] }
theorem xok_gate_first_0 : XL Try.prog T X_gate_first_0 where
 tys := tysOk
 eqs := eqsOk
 mixed := mixed
 ctr := ctrsOK_of ⟨⟨rfl, ctr_conf_Block⟩, trivial⟩
 fns := fnsOK_of fnsOk_gate_first
 big := bigsOK_of trivial
 lps := lps_nil rfl
theorem lpok_1700 : ∀ fn body c, X_gate_first_0.fns lp_1700.f = some fn → fn.body = some body → subAt lp_1700.p body = some (.loop c) → LoopOK Try.prog T lp_1700 c :=
 loop_of xok_gate_first_0 widths (g := g_L1700) (back := some (V 31, [V 0, V 28, V 2, V 3, V 4, V 5, V 6, V 7, V 8, V 9, V 10, V 11, V 12, V 13, V 14])) (exs := [(V 32, [some (V 1), some (B true), none]), (V 16, [none, none, some (B true)])]) (by kernel_rfl) (fun aq => by rw [show lp_1700.id = 1700 from rfl, T_1700]; rfl) m_1700 fun aq e h1 h2 h3 => by
  rw [show lp_1700.id = 1700 from rfl, T_1700] at h2 ⊢
  exact lpure_1700 aq e h1 h2 h3
noncomputable def X_gate_first_1 : Ctx := { tys := tys, eqs := eqs, fns := fun f => look f fns_gate_first, ctr := [(40, c_conf_Block)], lim := 30, big := [], lps := [lp_1700] }
theorem xok_gate_first_1 : XL Try.prog T X_gate_first_1 where
 tys := tysOk
 eqs := eqsOk
 mixed := mixed
 ctr := ctrsOK_of ⟨⟨rfl, ctr_conf_Block⟩, trivial⟩
 fns := fnsOK_of fnsOk_gate_first
 big := bigsOK_of trivial
 lps := lpsOK_of ⟨lpok_1700, trivial⟩
theorem lpok_1701 : ∀ fn body c, X_gate_first_1.fns lp_1701.f = some fn → fn.body = some body → subAt lp_1701.p body = some (.loop c) → LoopOK Try.prog T lp_1701 c :=
 loop_of xok_gate_first_1 widths (g := g_L1701) (back := some (V 27, [V 0, V 1, V 2, V 3, V 4, V 5, V 6, V 7, V 8, V 9, V 10, V 11, V 12, V 13, V 14, V 15, V 16, V 41, V 18, V 33, V 34, V 35, V 36, V 37, V 38, V 39, V 40])) (exs := [(V 28, [some (V 19), some (V 20), some (V 21), some (V 22), some (V 23), some (V 24), some (V 25), some (V 26)])]) (by kernel_rfl) (fun aq => by rw [show lp_1701.id = 1701 from rfl, T_1701]; rfl) m_1701 fun aq e h1 h2 h3 => by
  rw [show lp_1701.id = 1701 from rfl, T_1701] at h2 ⊢
  exact lpure_1701 aq e h1 h2 h3
noncomputable def X_gate_first : Ctx := { tys := tys, eqs := eqs, fns := fun f => look f fns_gate_first, ctr := [(40, c_conf_Block)], lim := 30, big := [], lps := [lp_1700, lp_1701] }
theorem xok_gate_first : XL Try.prog T X_gate_first where
 tys := tysOk
 eqs := eqsOk
 mixed := mixed
 ctr := ctrsOK_of ⟨⟨rfl, ctr_conf_Block⟩, trivial⟩
 fns := fnsOK_of fnsOk_gate_first
 big := bigsOK_of trivial
 lps := lpsOK_of ⟨lpok_1700, lpok_1701, trivial⟩
theorem ctr_gate_first : CtrOK Try.prog T c_gate_first := ctr_of xok_gate_first widths (g := g_gate_first) (ls := [V 49, V 50, V 51, V 52, V 53, V 54, V 55, V 56, V 57, V 58, V 11, V 12, V 59, V 60]) (by kernel_rfl) (fun aq => by rw [show c_gate_first.f = 41 from rfl, T_41]; rfl) fun aq e h1 h2 h3 => by
 subst h1
 rw [show c_gate_first.f = 41 from rfl, T_41] at h2 ⊢
 obtain ⟨ho, hr⟩ := pure_gate_first e h3 _ rfl _ rfl h2
 obtain ⟨r0, r1, r2, r3, r4, r5, r6, r7, r8, r9, r10, r11, r12, r13⟩ := hr
 refine ⟨⟨ho.1, ho.2.1, ho.2.2.1, ho.2.2.2.1, ho.2.2.2.2, trivial⟩, ?_⟩
 show semMany [.int .i64, .int .i64, .int .i64, .int .i64, .int .i64, .int .i64, .int .i64, .int .i64, .int .i64, .int .i64, .int .i64, .int .i64, .int .i64, .int .i64] (t_41 _).2 = semMany [.int .i64, .int .i64, .int .i64, .int .i64, .int .i64, .int .i64, .int .i64, .int .i64, .int .i64, .int .i64, .int .i64, .int .i64, .int .i64, .int .i64] [L.ev e (V 49), L.ev e (V 50), L.ev e (V 51), L.ev e (V 52), L.ev e (V 53), L.ev e (V 54), L.ev e (V 55), L.ev e (V 56), L.ev e (V 57), L.ev e (V 58), L.ev e (V 11), L.ev e (V 12), L.ev e (V 59), L.ev e (V 60)]
 exact (semI r0 (semI r1 (semI r2 (semI r3 (semI r4 (semI r5 (semI r6 (semI r7 (semI r8 (semI r9 (semI r10 (semI r11 (semI r12 (semI r13 rfl))))))))))))))
def c_gate_Relay : Ctr := { f := 24, ps := [.c false [.int .i64], .c true [.int .i64, .int .i64, .int .i64, .int .i64, .int .i64, .int .i64, .int .i64, .int .i64, .int .i64, .int .i64, .int .i64, .int .i64], .lst [.int .i64, .int .i64]], rs := [(true, [.int .i64, .int .i64, .int .i64, .int .i64, .int .i64, .int .i64, .int .i64, .int .i64, .int .i64, .int .i64, .int .i64, .int .i64]), (true, [.int .i64, .int .i64]), (false, [.int .i64])], ok := fun _ => true }
noncomputable def fns_gate_Relay : List (Nat × Func) := [(24, Try.f24), (37, Try.f37), (41, Try.f41), (42, Try.f42)]
theorem fnsOk_gate_Relay : FnsAll Try.prog fns_gate_Relay := ⟨fn24, fn37, fn41, fn42, trivial⟩
noncomputable def X_gate_Relay : Ctx := { tys := tys, eqs := eqs, fns := fun f => look f fns_gate_Relay, ctr := [(37, c_gate_check), (42, c_gate_owner), (41, c_gate_first)], lim := 30, big := [], lps := [] }
theorem xok_gate_Relay : XL Try.prog T X_gate_Relay where
 tys := tysOk
 eqs := eqsOk
 mixed := mixed
 ctr := ctrsOK_of ⟨⟨rfl, ctr_gate_check⟩, ⟨rfl, ctr_gate_owner⟩, ⟨rfl, ctr_gate_first⟩, trivial⟩
 fns := fnsOK_of fnsOk_gate_Relay
 big := bigsOK_of trivial
 lps := lps_nil rfl
theorem ctr_gate_Relay : CtrOK Try.prog T c_gate_Relay := ctr_of xok_gate_Relay widths (g := g_gate_Relay) (ls := [V 83, V 84, V 85, V 86, V 87, V 88, V 89, V 90, V 91, V 92, V 93, V 94, V 95, V 96, V 70]) (by kernel_rfl) (fun aq => by rw [show c_gate_Relay.f = 24 from rfl, T_24]; rfl) fun aq e h1 h2 h3 => by
 subst h1
 rw [show c_gate_Relay.f = 24 from rfl, T_24] at h2 ⊢
 obtain ⟨ho, hr⟩ := pure_gate_Relay e h3 _ rfl _ rfl h2
 obtain ⟨r0, r1, r2, r3, r4, r5, r6, r7, r8, r9, r10, r11, r12, r13, r14⟩ := hr
 refine ⟨⟨ho.1, ho.2.1, ho.2.2, trivial⟩, ?_⟩
 show semMany [.int .i64, .int .i64, .int .i64, .int .i64, .int .i64, .int .i64, .int .i64, .int .i64, .int .i64, .int .i64, .int .i64, .int .i64, .int .i64, .int .i64, .int .i64] (t_24 _).2 = semMany [.int .i64, .int .i64, .int .i64, .int .i64, .int .i64, .int .i64, .int .i64, .int .i64, .int .i64, .int .i64, .int .i64, .int .i64, .int .i64, .int .i64, .int .i64] [L.ev e (V 83), L.ev e (V 84), L.ev e (V 85), L.ev e (V 86), L.ev e (V 87), L.ev e (V 88), L.ev e (V 89), L.ev e (V 90), L.ev e (V 91), L.ev e (V 92), L.ev e (V 93), L.ev e (V 94), L.ev e (V 95), L.ev e (V 96), L.ev e (V 70)]
 exact (semI r0 (semI r1 (semI r2 (semI r3 (semI r4 (semI r5 (semI r6 (semI r7 (semI r8 (semI r9 (semI r10 (semI r11 (semI r12 (semI r13 (semI r14 rfl)))))))))))))))
end Rx.S
