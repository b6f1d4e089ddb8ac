import Derived.Test.YtjipnabidebgbaaHXe
import Derived.Test.YtjipnabidebgbaaHXvote
import Derived.Test.YtjipnabidebgbaaHXvoteb
import Derived.Test.YtjipnabidebgbaaHXgate
import Derived.Test.YtjipnabidebgbaaHYhub
set_option linter.unusedVariables false
set_option linter.unusedSimpArgs false
namespace Rx.S
open Go Rx Go.Proofs
set_option maxRecDepth 100000
set_option maxHeartbeats 4000000
def c_hub_Step : Ctr := { f := 119, ps := [.c false [.int .i64], .c true [.int .i64, .int .i64, .int .i64, .int .i64, .int .i64, .int .i64, .int .i64, .int .i64, .int .i64, .int .i64, .int .i64, .int .i64], .lst [.int .i64, .int .i64]], rs := [(true, [.int .i64, .int .i64, .int .i64, .int .i64, .int .i64, .int .i64, .int .i64, .int .i64, .int .i64, .int .i64, .int .i64, .int .i64]), (true, [.int .i64, .int .i64]), (false, [.int .i64])], ok := fun _ => true }
noncomputable def fns_hub_Step : List (Nat × Func) := [(119, Try.f119), (90, Try.f90), (106, Try.f106), (105, Try.f105), (104, Try.f104)]
theorem fnsOk_hub_Step : FnsAll Try.prog fns_hub_Step := ⟨fn119, fn90, fn106, fn105, fn104, trivial⟩
noncomputable def X_hub_Step : Ctx := { tys := tys, eqs := eqs, fns := fun f => look f fns_hub_Step, ctr := [(90, c_vote_Tick), (105, c_gate_Settle), (106, c_gate_Note), (104, c_gate_Relay)], lim := 30, big := [], lps := [] }
theorem xok_hub_Step : XL Try.prog T X_hub_Step where
 tys := tysOk
 eqs := eqsOk
 mixed := mixed
 ctr := ctrsOK_of ⟨⟨rfl, ctr_vote_Tick⟩, ⟨rfl, ctr_gate_Settle⟩, ⟨rfl, ctr_gate_Note⟩, ⟨rfl, ctr_gate_Relay⟩, trivial⟩
 fns := fnsOK_of fnsOk_hub_Step
 big := bigsOK_of trivial
 lps := lps_nil rfl
theorem ctr_hub_Step : CtrOK Try.prog T c_hub_Step := ctr_of xok_hub_Step widths (g := g_hub_Step) (ls := [V 152, V 153, V 154, V 155, V 156, V 157, V 158, V 159, V 160, V 161, V 162, V 163, V 164, V 165, V 138]) (by kernel_rfl) (fun aq => by rw [show c_hub_Step.f = 119 from rfl, T_119]; rfl) fun aq e h1 h2 h3 => by
 subst h1
 rw [show c_hub_Step.f = 119 from rfl, T_119] at h2 ⊢
 obtain ⟨ho, hr⟩ := pure_hub_Step e h3 _ rfl _ rfl h2
 obtain ⟨r0, r1, r2, r3, r4, r5, r6, r7, r8, r9, r10, r11, r12, r13, r14⟩ := hr
 refine ⟨⟨ho.1, ho.2.1, ho.2.2.1, ho.2.2.2, trivial⟩, ?_⟩
 show semMany [.int .i64, .int .i64, .int .i64, .int .i64, .int .i64, .int .i64, .int .i64, .int .i64, .int .i64, .int .i64, .int .i64, .int .i64, .int .i64, .int .i64, .int .i64] (t_119 _).2 = semMany [.int .i64, .int .i64, .int .i64, .int .i64, .int .i64, .int .i64, .int .i64, .int .i64, .int .i64, .int .i64, .int .i64, .int .i64, .int .i64, .int .i64, .int .i64] [L.ev e (V 152), L.ev e (V 153), L.ev e (V 154), L.ev e (V 155), L.ev e (V 156), L.ev e (V 157), L.ev e (V 158), L.ev e (V 159), L.ev e (V 160), L.ev e (V 161), L.ev e (V 162), L.ev e (V 163), L.ev e (V 164), L.ev e (V 165), L.ev e (V 138)]
 exact (semI r0 (semI r1 (semI r2 (semI r3 (semI r4 (semI r5 (semI r6 (semI r7 (semI r8 (semI r9 (semI r10 (semI r11 (semI r12 (semI r13 (semI r14 rfl)))))))))))))))
def c_ref13_Step : Ctr := { f := 122, ps := [.c false [.int .i64], .c true [.int .i64, .int .i64, .int .i64, .int .i64, .int .i64, .int .i64, .int .i64, .int .i64, .int .i64, .int .i64, .int .i64, .int .i64], .lst [.int .i64, .int .i64]], rs := [(true, [.int .i64, .int .i64, .int .i64, .int .i64, .int .i64, .int .i64, .int .i64, .int .i64, .int .i64, .int .i64, .int .i64, .int .i64]), (true, [.int .i64, .int .i64]), (false, [.int .i64])], ok := fun _ => true }
noncomputable def fns_ref13_Step : List (Nat × Func) := [(122, Try.f122), (97, Try.f97), (102, Try.f102), (98, Try.f98), (107, Try.f107), (108, Try.f108), (109, Try.f109)]
theorem fnsOk_ref13_Step : FnsAll Try.prog fns_ref13_Step := ⟨fn122, fn97, fn102, fn98, fn107, fn108, fn109, trivial⟩
noncomputable def X_ref13_Step : Ctx := { tys := tys, eqs := eqs, fns := fun f => look f fns_ref13_Step, ctr := [(97, c_ref11_Right), (98, c_ref11_Tick), (108, c_ref12_Settle), (102, c_ref12_Fits), (107, c_ref12_Note), (109, c_ref12_Relay)], lim := 30, big := [], lps := [] }
theorem xok_ref13_Step : XL Try.prog T X_ref13_Step where
 tys := tysOk
 eqs := eqsOk
 mixed := mixed
 ctr := ctrsOK_of ⟨⟨rfl, ctr_ref11_Right⟩, ⟨rfl, ctr_ref11_Tick⟩, ⟨rfl, ctr_ref12_Settle⟩, ⟨rfl, ctr_ref12_Fits⟩, ⟨rfl, ctr_ref12_Note⟩, ⟨rfl, ctr_ref12_Relay⟩, trivial⟩
 fns := fnsOK_of fnsOk_ref13_Step
 big := bigsOK_of trivial
 lps := lps_nil rfl
theorem ctr_ref13_Step : CtrOK Try.prog T c_ref13_Step := ctr_of xok_ref13_Step widths (g := g_ref13_Step) (ls := [V 133, V 134, V 135, V 136, V 137, V 138, V 139, V 140, V 141, V 142, V 143, V 144, V 145, V 146, V 120]) (by kernel_rfl) (fun aq => by rw [show c_ref13_Step.f = 122 from rfl, T_122]; rfl) fun aq e h1 h2 h3 => by
 subst h1
 rw [show c_ref13_Step.f = 122 from rfl, T_122] at h2 ⊢
 obtain ⟨ho, hr⟩ := pure_ref13_Step e h3 _ rfl _ rfl h2
 obtain ⟨r0, r1, r2, r3, r4, r5, r6, r7, r8, r9, r10, r11, r12, r13, r14⟩ := hr
 refine ⟨⟨ho.1, ho.2.1, ho.2.2.1, ho.2.2.2.1, ho.2.2.2.2.1, ho.2.2.2.2.2, trivial⟩, ?_⟩
 show semMany [.int .i64, .int .i64, .int .i64, .int .i64, .int .i64, .int .i64, .int .i64, .int .i64, .int .i64, .int .i64, .int .i64, .int .i64, .int .i64, .int .i64, .int .i64] (t_122 _).2 = semMany [.int .i64, .int .i64, .int .i64, .int .i64, .int .i64, .int .i64, .int .i64, .int .i64, .int .i64, .int .i64, .int .i64, .int .i64, .int .i64, .int .i64, .int .i64] [L.ev e (V 133), L.ev e (V 134), L.ev e (V 135), L.ev e (V 136), L.ev e (V 137), L.ev e (V 138), L.ev e (V 139), L.ev e (V 140), L.ev e (V 141), L.ev e (V 142), L.ev e (V 143), L.ev e (V 144), L.ev e (V 145), L.ev e (V 146), L.ev e (V 120)]
 exact (semI r0 (semI r1 (semI r2 (semI r3 (semI r4 (semI r5 (semI r6 (semI r7 (semI r8 (semI r9 (semI r10 (semI r11 (semI r12 (semI r13 (semI r14 rfl)))))))))))))))
def c_hub_Run : Big := { f := 120, ps := [.c false [.int .i64], .c true [.int .i64, .int .i64, .int .i64, .int .i64, .int .i64, .int .i64, .int .i64, .int .i64, .int .i64, .int .i64, .int .i64, .int .i64], .lst [.sl [.int .i64, .int .i64]]], rs := [.c true [.int .i64, .int .i64, .int .i64, .int .i64, .int .i64, .int .i64, .int .i64, .int .i64, .int .i64, .int .i64, .int .i64, .int .i64], .lst [.int .i64, .int .i64] 57, .c false [.int .i64]], ok := fun _ => true, w := 16 }
noncomputable def fns_hub_Run : List (Nat × Func) := [(120, Try.f120), (96, Try.f96), (119, Try.f119)]
theorem fnsOk_hub_Run : FnsAll Try.prog fns_hub_Run := ⟨fn120, fn96, fn119, trivial⟩
noncomputable def X_hub_Run_0 : Ctx := { tys := tys, eqs := eqs, fns := fun f => look f fns_hub_Run, ctr := [(96, c_vote_Right), (119, c_hub_Step)], lim := 30, big := [], lps := [] }
theorem xok_hub_Run_0 : XL Try.prog T X_hub_Run_0 where
 tys := tysOk
 eqs := eqsOk
 mixed := mixed
 ctr := ctrsOK_of ⟨⟨rfl, ctr_vote_Right⟩, ⟨rfl, ctr_hub_Step⟩, trivial⟩
 fns := fnsOK_of fnsOk_hub_Run
 big := bigsOK_of trivial
 lps := lps_nil rfl
theorem lpok_1800 : ∀ fn body c, X_hub_Run_0.fns lp_1800.f = some fn → fn.body = some body → subAt lp_1800.p body = some (.loop c) → LoopOK Try.prog T lp_1800 c :=
 loop_of xok_hub_Run_0 widths (g := g_L1800) (back := some (V 66, [V 0, V 1, V 2, V 3, V 4, V 5, V 6, V 7, V 8, V 9, V 10, V 11, V 12, V 13, V 14, V 15, V 63, V 17, V 39, V 40, V 41, V 42, V 43, V 44, V 45, V 46, V 47, V 48, V 49, V 50, V 56])) (exs := [(V 67, [some (V 53), some (V 39), some (V 40), some (V 41), some (V 42), some (V 43), some (V 44), some (V 45), some (V 46), some (V 47), some (V 48), some (V 49), some (V 50), some (V 56), some (B true), none, none, none, none, none, none, none, none, none, none, none, none, none, none]), (V 32, [none, none, none, none, none, none, none, none, none, none, none, none, none, none, none, some (V 18), some (V 19), some (V 20), some (V 21), some (V 22), some (V 23), some (V 24), some (V 25), some (V 26), some (V 27), some (V 28), some (V 29), some (V 30), some (B true)])]) (by kernel_rfl) (fun aq => by rw [show lp_1800.id = 1800 from rfl, T_1800]; rfl) m_1800 fun aq e h1 h2 h3 => by
  rw [show lp_1800.id = 1800 from rfl, T_1800] at h2 ⊢
  exact lpure_1800 aq e h1 h2 h3
noncomputable def X_hub_Run : Ctx := { tys := tys, eqs := eqs, fns := fun f => look f fns_hub_Run, ctr := [(96, c_vote_Right), (119, c_hub_Step)], lim := 30, big := [], lps := [lp_1800] }
theorem xok_hub_Run : XL Try.prog T X_hub_Run where
 tys := tysOk
 eqs := eqsOk
 mixed := mixed
 ctr := ctrsOK_of ⟨⟨rfl, ctr_vote_Right⟩, ⟨rfl, ctr_hub_Step⟩, trivial⟩
 fns := fnsOK_of fnsOk_hub_Run
 big := bigsOK_of trivial
 lps := lpsOK_of ⟨lpok_1800, trivial⟩
theorem ctr_hub_Run : BigOK Try.prog T c_hub_Run := big_of xok_hub_Run widths (g := g_hub_Run) (ls := [V 104, V 105, V 106, V 107, V 108, V 109, V 110, V 111, V 112, V 113, V 114, V 115, V 116, V 90, V 91]) (by kernel_rfl) fun aq e h1 h2 h3 => by
 subst h1
 rw [show c_hub_Run.f = 120 from rfl, T_120] at h2 ⊢
 obtain ⟨ho, hr⟩ := pure_hub_Run e h3 _ rfl _ rfl h2
 obtain ⟨r0, r1, r2, r3, r4, r5, r6, r7, r8, r9, r10, r11, r12, r13, r14⟩ := hr
 refine ⟨⟨ho.1, ho.2.1, ho.2.2.1, ho.2.2.2, trivial⟩, ?_⟩
 exact ⟨[_, _, _, _, _, _, _, _, _, _, _, _], _, [_, _, _, _, _, _, _, _, _, _, _, _], _, rfl, rfl, rfl, rfl, (semI r0 (semI r1 (semI r2 (semI r3 (semI r4 (semI r5 (semI r6 (semI r7 (semI r8 (semI r9 (semI r10 (semI r11 rfl)))))))))))), ⟨_, _, _, _, _, _, rfl, rfl, r12, r13, ⟨[_], _, [_], _, rfl, rfl, rfl, rfl, (semI r14 rfl), ⟨rfl, rfl⟩⟩⟩⟩
def c_ref13_Run : Big := { f := 121, ps := [.c false [.int .i64], .c true [.int .i64, .int .i64, .int .i64, .int .i64, .int .i64, .int .i64, .int .i64, .int .i64, .int .i64, .int .i64, .int .i64, .int .i64], .lst [.sl [.int .i64, .int .i64]]], rs := [.c true [.int .i64, .int .i64, .int .i64, .int .i64, .int .i64, .int .i64, .int .i64, .int .i64, .int .i64, .int .i64, .int .i64, .int .i64], .lst [.int .i64, .int .i64] 57, .c false [.int .i64]], ok := fun _ => true, w := 16 }
noncomputable def fns_ref13_Run : List (Nat × Func) := [(121, Try.f121), (97, Try.f97), (122, Try.f122)]
theorem fnsOk_ref13_Run : FnsAll Try.prog fns_ref13_Run := ⟨fn121, fn97, fn122, trivial⟩
noncomputable def X_ref13_Run_0 : Ctx := { tys := tys, eqs := eqs, fns := fun f => look f fns_ref13_Run, ctr := [(97, c_ref11_Right), (122, c_ref13_Step)], lim := 30, big := [], lps := [] }
theorem xok_ref13_Run_0 : XL Try.prog T X_ref13_Run_0 where
 tys := tysOk
 eqs := eqsOk
 mixed := mixed
 ctr := ctrsOK_of ⟨⟨rfl, ctr_ref11_Right⟩, ⟨rfl, ctr_ref13_Step⟩, trivial⟩
 fns := fnsOK_of fnsOk_ref13_Run
 big := bigsOK_of trivial
 lps := lps_nil rfl
theorem lpok_1810 : ∀ fn body c, X_ref13_Run_0.fns lp_1810.f = some fn → fn.body = some body → subAt lp_1810.p body = some (.loop c) → LoopOK Try.prog T lp_1810 c :=
 loop_of xok_ref13_Run_0 widths (g := g_L1810) (back := some (V 73, [V 0, V 1, V 2, V 3, V 4, V 5, V 6, V 7, V 8, V 9, V 10, V 11, V 12, V 13, V 64, V 71, V 16, V 17, V 18, V 40, V 41, V 42, V 43, V 44, V 45, V 46, V 47, V 48, V 49, V 50, V 51, V 63])) (exs := [(V 74, [some (V 54), some (V 14), some (V 19), some (V 20), some (V 21), some (V 22), some (V 23), some (V 24), some (V 25), some (V 26), some (V 27), some (V 28), some (V 29), some (V 30), some (V 31), some (B true), none, none, none, none, none, none, none, none, none, none, none, none, none, none, none]), (V 33, [none, none, none, none, none, none, none, none, none, none, none, none, none, none, none, none, some (V 14), some (V 19), some (V 20), some (V 21), some (V 22), some (V 23), some (V 24), some (V 25), some (V 26), some (V 27), some (V 28), some (V 29), some (V 30), some (V 31), some (B true)])]) (by kernel_rfl) (fun aq => by rw [show lp_1810.id = 1810 from rfl, T_1810]; rfl) m_1810 fun aq e h1 h2 h3 => by
  rw [show lp_1810.id = 1810 from rfl, T_1810] at h2 ⊢
  exact lpure_1810 aq e h1 h2 h3
noncomputable def X_ref13_Run : Ctx := { tys := tys, eqs := eqs, fns := fun f => look f fns_ref13_Run, ctr := [(97, c_ref11_Right), (122, c_ref13_Step)], lim := 30, big := [], lps := [lp_1810] }
theorem xok_ref13_Run : XL Try.prog T X_ref13_Run where
 tys := tysOk
 eqs := eqsOk
 mixed := mixed
 ctr := ctrsOK_of ⟨⟨rfl, ctr_ref11_Right⟩, ⟨rfl, ctr_ref13_Step⟩, trivial⟩
 fns := fnsOK_of fnsOk_ref13_Run
 big := bigsOK_of trivial
 lps := lpsOK_of ⟨lpok_1810, trivial⟩
theorem ctr_ref13_Run : BigOK Try.prog T c_ref13_Run := big_of xok_ref13_Run widths (g := g_ref13_Run) (ls := [V 101, V 102, V 103, V 104, V 105, V 106, V 107, V 108, V 109, V 110, V 111, V 112, V 113, V 87, V 88]) (by kernel_rfl) fun aq e h1 h2 h3 => by
 subst h1
 rw [show c_ref13_Run.f = 121 from rfl, T_121] at h2 ⊢
 obtain ⟨ho, hr⟩ := pure_ref13_Run e h3 _ rfl _ rfl h2
 obtain ⟨r0, r1, r2, r3, r4, r5, r6, r7, r8, r9, r10, r11, r12, r13, r14⟩ := hr
 refine ⟨⟨ho.1, ho.2.1, ho.2.2, trivial⟩, ?_⟩
 exact ⟨[_, _, _, _, _, _, _, _, _, _, _, _], _, [_, _, _, _, _, _, _, _, _, _, _, _], _, rfl, rfl, rfl, rfl, (semI r0 (semI r1 (semI r2 (semI r3 (semI r4 (semI r5 (semI r6 (semI r7 (semI r8 (semI r9 (semI r10 (semI r11 rfl)))))))))))), ⟨_, _, _, _, _, _, rfl, rfl, r12, r13, ⟨[_], _, [_], _, rfl, rfl, rfl, rfl, (semI r14 rfl), ⟨rfl, rfl⟩⟩⟩⟩
def c_ref13_Few : Ctr := { f := 117, ps := [.lst [.sl [.int .i64, .int .i64]], .c false [.int .i64]], rs := [(false, [.bool])], ok := fun _ => true }
noncomputable def fns_ref13_Few : List (Nat × Func) := [(117, Try.f117)]
theorem fnsOk_ref13_Few : FnsAll Try.prog fns_ref13_Few := ⟨fn117, trivial⟩
noncomputable def X_ref13_Few_0 : Ctx := { tys := tys, eqs := eqs, fns := fun f => look f fns_ref13_Few, ctr := [], lim := 30, big := [], lps := [] }
theorem xok_ref13_Few_0 : XL Try.prog T X_ref13_Few_0 where
 tys := tysOk
 eqs := eqsOk
 mixed := mixed
 ctr := ctrsOK_of trivial
 fns := fnsOK_of fnsOk_ref13_Few
 big := bigsOK_of trivial
 lps := lps_nil rfl
theorem lpok_1820 : ∀ fn body c, X_ref13_Few_0.fns lp_1820.f = some fn → fn.body = some body → subAt lp_1820.p body = some (.loop c) → LoopOK Try.prog T lp_1820 c :=
 loop_of xok_ref13_Few_0 widths (g := g_L1820) (back := some (V 21, [V 0, V 1, V 18, V 3, V 4])) (exs := [(V 22, [some (B true), none]), (V 6, [none, some (B true)])]) (by kernel_rfl) (fun aq => by rw [show lp_1820.id = 1820 from rfl, T_1820]; rfl) m_1820 fun aq e h1 h2 h3 => by
  rw [show lp_1820.id = 1820 from rfl, T_1820] at h2 ⊢
  exact lpure_1820 aq e h1 h2 h3
noncomputable def X_ref13_Few : Ctx := { tys := tys, eqs := eqs, fns := fun f => look f fns_ref13_Few, ctr := [], lim := 30, big := [], lps := [lp_1820] }
theorem xok_ref13_Few : XL Try.prog T X_ref13_Few where
 tys := tysOk
 eqs := eqsOk
 mixed := mixed
 ctr := ctrsOK_of trivial
 fns := fnsOK_of fnsOk_ref13_Few
 big := bigsOK_of trivial
 lps := lpsOK_of ⟨lpok_1820, trivial⟩
theorem ctr_ref13_Few : CtrOK Try.prog T c_ref13_Few := ctr_of xok_ref13_Few widths (g := g_ref13_Few) (ls := [V 18]) (by kernel_rfl) (fun aq => by rw [show c_ref13_Few.f = 117 from rfl, T_117]; rfl) fun aq e h1 h2 h3 => by
 subst h1
 rw [show c_ref13_Few.f = 117 from rfl, T_117] at h2 ⊢
 obtain ⟨ho, hr⟩ := pure_ref13_Few e h3 h2
 have r0 := hr
 refine ⟨⟨ho.1, ho.2, trivial⟩, ?_⟩
 show semMany [.bool] (t_117 _).2 = semMany [.bool] [L.ev e (V 18)]
 exact (semB r0 rfl)
end Rx.S
