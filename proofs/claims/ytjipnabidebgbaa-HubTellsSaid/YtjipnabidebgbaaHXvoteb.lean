import Derived.Test.YtjipnabidebgbaaHXe
import Derived.Test.YtjipnabidebgbaaHXconf
import Derived.Test.YtjipnabidebgbaaHXring
import Derived.Test.YtjipnabidebgbaaHXtally
import Derived.Test.YtjipnabidebgbaaHYvoteb
set_option linter.unusedVariables false
set_option linter.unusedSimpArgs false
namespace Rx.S
open Go Rx Go.Proofs
set_option maxRecDepth 100000
set_option maxHeartbeats 4000000
def c_ref11_in : Ctr := { f := 147, ps := [.c false [.int .i64], .c false [.int .i64]], rs := [(false, [.bool])], ok := fun _ => true }
noncomputable def fns_ref11_in : List (Nat × Func) := [(147, Try.f147)]
theorem fnsOk_ref11_in : FnsAll Try.prog fns_ref11_in := ⟨fn147, trivial⟩
noncomputable def X_ref11_in : Ctx := { tys := tys, eqs := eqs, fns := fun f => look f fns_ref11_in, ctr := [], lim := 30, big := [], lps := [] }
theorem xok_ref11_in : XL Try.prog T X_ref11_in where
 tys := tysOk
 eqs := eqsOk
 mixed := mixed
 ctr := ctrsOK_of trivial
 fns := fnsOK_of fnsOk_ref11_in
 big := bigsOK_of trivial
 lps := lps_nil rfl
theorem ctr_ref11_in : CtrOK Try.prog T c_ref11_in := ctr_of xok_ref11_in widths (g := g_ref11_in) (ls := [V 4]) (by kernel_rfl) (fun aq => by rw [show c_ref11_in.f = 147 from rfl, T_147]; rfl) fun aq e h1 h2 h3 => by
 subst h1
 rw [show c_ref11_in.f = 147 from rfl, T_147] at h2 ⊢
 obtain ⟨ho, hr⟩ := pure_ref11_in e h3 h2
 have r0 := hr
 refine ⟨trivial, ?_⟩
 show semMany [.bool] (t_147 _).2 = semMany [.bool] [L.ev e (V 4)]
 exact (semB r0 rfl)
def c_ref11_Right : Ctr := { f := 97, ps := [.c false [.int .i64], .c true [.int .i64, .int .i64, .int .i64, .int .i64, .int .i64, .int .i64, .int .i64, .int .i64, .int .i64, .int .i64, .int .i64, .int .i64]], rs := [(false, [.bool])], ok := fun _ => true }
noncomputable def fns_ref11_Right : List (Nat × Func) := [(97, Try.f97), (51, Try.f51), (147, Try.f147), (52, Try.f52)]
theorem fnsOk_ref11_Right : FnsAll Try.prog fns_ref11_Right := ⟨fn97, fn51, fn147, fn52, trivial⟩
noncomputable def X_ref11_Right_0 : Ctx := { tys := tys, eqs := eqs, fns := fun f => look f fns_ref11_Right, ctr := [(51, c_ref03_Right), (52, c_ref03_Block), (147, c_ref11_in)], lim := 30, big := [], lps := [] }
theorem xok_ref11_Right_0 : XL Try.prog T X_ref11_Right_0 where
 tys := tysOk
 eqs := eqsOk
 mixed := mixed
 ctr := ctrsOK_of ⟨⟨rfl, ctr_ref03_Right⟩, ⟨rfl, ctr_ref03_Block⟩, ⟨rfl, ctr_ref11_in⟩, trivial⟩
 fns := fnsOK_of fnsOk_ref11_Right
 big := bigsOK_of trivial
 lps := lps_nil rfl
theorem lpok_1470 : ∀ fn body c, X_ref11_Right_0.fns lp_1470.f = some fn → fn.body = some body → subAt lp_1470.p body = some (.loop c) → LoopOK Try.prog T lp_1470 c :=
 loop_of xok_ref11_Right_0 widths (g := g_L1470) (back := some (V 46, [V 0, V 1, V 2, V 3, V 4, V 5, V 6, V 7, V 8, V 9, V 10, V 11, V 12, V 43, V 14, V 15])) (exs := [(V 47, [some (B true), none]), (V 17, [none, some (B true)])]) (by kernel_rfl) (fun aq => by rw [show lp_1470.id = 1470 from rfl, T_1470]; rfl) m_1470 fun aq e h1 h2 h3 => by
  rw [show lp_1470.id = 1470 from rfl, T_1470] at h2 ⊢
  exact lpure_1470 aq e h1 h2 h3
noncomputable def X_ref11_Right : Ctx := { tys := tys, eqs := eqs, fns := fun f => look f fns_ref11_Right, ctr := [(51, c_ref03_Right), (52, c_ref03_Block), (147, c_ref11_in)], lim := 30, big := [], lps := [lp_1470] }
theorem xok_ref11_Right : XL Try.prog T X_ref11_Right where
 tys := tysOk
 eqs := eqsOk
 mixed := mixed
 ctr := ctrsOK_of ⟨⟨rfl, ctr_ref03_Right⟩, ⟨rfl, ctr_ref03_Block⟩, ⟨rfl, ctr_ref11_in⟩, trivial⟩
 fns := fnsOK_of fnsOk_ref11_Right
 big := bigsOK_of trivial
 lps := lpsOK_of ⟨lpok_1470, trivial⟩
theorem ctr_ref11_Right : CtrOK Try.prog T c_ref11_Right := ctr_of xok_ref11_Right widths (g := g_ref11_Right) (ls := [V 56]) (by kernel_rfl) (fun aq => by rw [show c_ref11_Right.f = 97 from rfl, T_97]; rfl) fun aq e h1 h2 h3 => by
 subst h1
 rw [show c_ref11_Right.f = 97 from rfl, T_97] at h2 ⊢
 obtain ⟨ho, hr⟩ := pure_ref11_Right e h3 _ rfl h2
 have r0 := hr
 refine ⟨⟨ho.1, ho.2.1, ho.2.2.1, ho.2.2.2.1, ho.2.2.2.2.1, ho.2.2.2.2.2.1, ho.2.2.2.2.2.2.1, ho.2.2.2.2.2.2.2.1, ho.2.2.2.2.2.2.2.2, trivial⟩, ?_⟩
 show semMany [.bool] (t_97 _).2 = semMany [.bool] [L.ev e (V 56)]
 exact (semB r0 rfl)
def c_ref11_Tick : Ctr := { f := 98, ps := [.c false [.int .i64], .c true [.int .i64, .int .i64, .int .i64, .int .i64, .int .i64, .int .i64, .int .i64, .int .i64, .int .i64, .int .i64, .int .i64, .int .i64]], rs := [(true, [.int .i64, .int .i64, .int .i64, .int .i64, .int .i64, .int .i64, .int .i64, .int .i64, .int .i64, .int .i64, .int .i64, .int .i64]), (false, [.int .i64])], ok := fun _ => true }
noncomputable def fns_ref11_Tick : List (Nat × Func) := [(98, Try.f98), (97, Try.f97), (148, Try.f148), (52, Try.f52), (149, Try.f149), (36, Try.f36)]
theorem fnsOk_ref11_Tick : FnsAll Try.prog fns_ref11_Tick := ⟨fn98, fn97, fn148, fn52, fn149, fn36, trivial⟩
noncomputable def X_ref11_Tick_0 : Ctx := { tys := tys, eqs := eqs, fns := fun f => look f fns_ref11_Tick, ctr := [(148, c_ref04_Up), (149, c_ref04_Down), (36, c_ref05_Next), (52, c_ref03_Block), (97, c_ref11_Right)], lim := 30, big := [], lps := [] }
theorem xok_ref11_Tick_0 : XL Try.prog T X_ref11_Tick_0 where
 tys := tysOk
 eqs := eqsOk
 mixed := mixed
 ctr := ctrsOK_of ⟨⟨rfl, ctr_ref04_Up⟩, ⟨rfl, ctr_ref04_Down⟩, ⟨rfl, ctr_ref05_Next⟩, ⟨rfl, ctr_ref03_Block⟩, ⟨rfl, ctr_ref11_Right⟩, trivial⟩
 fns := fnsOK_of fnsOk_ref11_Tick
 big := bigsOK_of trivial
 lps := lps_nil rfl
theorem lpok_1500 : ∀ fn body c, X_ref11_Tick_0.fns lp_1500.f = some fn → fn.body = some body → subAt lp_1500.p body = some (.loop c) → LoopOK Try.prog T lp_1500 c :=
 loop_of xok_ref11_Tick_0 widths (g := g_L1500) (back := some (V 24, [V 0, V 1, V 2, V 3, V 4, V 5, V 6, V 7, V 8, V 9, V 10, V 11, V 12, V 42, V 14, V 15, V 34, V 35, V 36, V 37, V 38, V 39, V 40, V 41])) (exs := [(V 25, [some (V 16), some (V 17), some (V 18), some (V 19), some (V 20), some (V 21), some (V 22), some (V 23)])]) (by kernel_rfl) (fun aq => by rw [show lp_1500.id = 1500 from rfl, T_1500]; rfl) m_1500 fun aq e h1 h2 h3 => by
  rw [show lp_1500.id = 1500 from rfl, T_1500] at h2 ⊢
  exact lpure_1500 aq e h1 h2 h3
noncomputable def X_ref11_Tick : Ctx := { tys := tys, eqs := eqs, fns := fun f => look f fns_ref11_Tick, ctr := [(148, c_ref04_Up), (149, c_ref04_Down), (36, c_ref05_Next), (52, c_ref03_Block), (97, c_ref11_Right)], lim := 30, big := [], lps := [lp_1500] }
theorem xok_ref11_Tick : XL Try.prog T X_ref11_Tick where
 tys := tysOk
 eqs := eqsOk
 mixed := mixed
 ctr := ctrsOK_of ⟨⟨rfl, ctr_ref04_Up⟩, ⟨rfl, ctr_ref04_Down⟩, ⟨rfl, ctr_ref05_Next⟩, ⟨rfl, ctr_ref03_Block⟩, ⟨rfl, ctr_ref11_Right⟩, trivial⟩
 fns := fnsOK_of fnsOk_ref11_Tick
 big := bigsOK_of trivial
 lps := lpsOK_of ⟨lpok_1500, trivial⟩
theorem ctr_ref11_Tick : CtrOK Try.prog T c_ref11_Tick := ctr_of xok_ref11_Tick widths (g := g_ref11_Tick) (ls := [V 53, V 54, V 55, V 56, V 57, V 58, V 59, V 60, V 61, V 62, V 63, V 64, V 41]) (by kernel_rfl) (fun aq => by rw [show c_ref11_Tick.f = 98 from rfl, T_98]; rfl) fun aq e h1 h2 h3 => by
 subst h1
 rw [show c_ref11_Tick.f = 98 from rfl, T_98] at h2 ⊢
 obtain ⟨ho, hr⟩ := pure_ref11_Tick e h3 _ rfl _ rfl h2
 obtain ⟨r0, r1, r2, r3, r4, r5, r6, r7, r8, r9, r10, r11, r12⟩ := hr
 refine ⟨⟨ho.1, ho.2.1, ho.2.2.1, ho.2.2.2.1, ho.2.2.2.2.1, ho.2.2.2.2.2, trivial⟩, ?_⟩
 show semMany [.int .i64, .int .i64, .int .i64, .int .i64, .int .i64, .int .i64, .int .i64, .int .i64, .int .i64, .int .i64, .int .i64, .int .i64, .int .i64] (t_98 _).2 = semMany [.int .i64, .int .i64, .int .i64, .int .i64, .int .i64, .int .i64, .int .i64, .int .i64, .int .i64, .int .i64, .int .i64, .int .i64, .int .i64] [L.ev e (V 53), L.ev e (V 54), L.ev e (V 55), L.ev e (V 56), L.ev e (V 57), L.ev e (V 58), L.ev e (V 59), L.ev e (V 60), L.ev e (V 61), L.ev e (V 62), L.ev e (V 63), L.ev e (V 64), L.ev e (V 41)]
 exact (semI r0 (semI r1 (semI r2 (semI r3 (semI r4 (semI r5 (semI r6 (semI r7 (semI r8 (semI r9 (semI r10 (semI r11 (semI r12 rfl)))))))))))))
def c_ref11_votes : Ctr := { f := 150, ps := [.c false [.int .i64], .c true [.int .i64, .int .i64, .int .i64, .int .i64, .int .i64, .int .i64, .int .i64, .int .i64, .int .i64, .int .i64, .int .i64, .int .i64], .c false [.int .i64], .c false [.int .i64]], rs := [(false, [.bool])], ok := fun _ => true }
noncomputable def fns_ref11_votes : List (Nat × Func) := [(150, Try.f150), (38, Try.f38), (52, Try.f52)]
theorem fnsOk_ref11_votes : FnsAll Try.prog fns_ref11_votes := ⟨fn150, fn38, fn52, trivial⟩
noncomputable def X_ref11_votes : Ctx := { tys := tys, eqs := eqs, fns := fun f => look f fns_ref11_votes, ctr := [(38, c_ref05_At), (52, c_ref03_Block)], lim := 30, big := [], lps := [] }
theorem xok_ref11_votes : XL Try.prog T X_ref11_votes where
 tys := tysOk
 eqs := eqsOk
 mixed := mixed
 ctr := ctrsOK_of ⟨⟨rfl, ctr_ref05_At⟩, ⟨rfl, ctr_ref03_Block⟩, trivial⟩
 fns := fnsOK_of fnsOk_ref11_votes
 big := bigsOK_of trivial
 lps := lps_nil rfl
theorem ctr_ref11_votes : CtrOK Try.prog T c_ref11_votes := ctr_of xok_ref11_votes widths (g := g_ref11_votes) (ls := [V 40]) (by kernel_rfl) (fun aq => by rw [show c_ref11_votes.f = 150 from rfl, T_150]; rfl) fun aq e h1 h2 h3 => by
 subst h1
 rw [show c_ref11_votes.f = 150 from rfl, T_150] at h2 ⊢
 obtain ⟨ho, hr⟩ := pure_ref11_votes e h3 _ rfl h2
 have r0 := hr
 refine ⟨⟨ho.1, ho.2.1, ho.2.2.1, ho.2.2.2.1, ho.2.2.2.2, trivial⟩, ?_⟩
 show semMany [.bool] (t_150 _).2 = semMany [.bool] [L.ev e (V 40)]
 exact (semB r0 rfl)
def c_ref11_Votes : Ctr := { f := 101, ps := [.c false [.int .i64], .c true [.int .i64, .int .i64, .int .i64, .int .i64, .int .i64, .int .i64, .int .i64, .int .i64, .int .i64, .int .i64, .int .i64, .int .i64], .c false [.int .i64]], rs := [(false, [.int .i64])], ok := fun _ => true }
noncomputable def fns_ref11_Votes : List (Nat × Func) := [(101, Try.f101), (97, Try.f97), (150, Try.f150)]
theorem fnsOk_ref11_Votes : FnsAll Try.prog fns_ref11_Votes := ⟨fn101, fn97, fn150, trivial⟩
noncomputable def X_ref11_Votes_0 : Ctx := { tys := tys, eqs := eqs, fns := fun f => look f fns_ref11_Votes, ctr := [(97, c_ref11_Right), (150, c_ref11_votes)], lim := 30, big := [], lps := [] }
theorem xok_ref11_Votes_0 : XL Try.prog T X_ref11_Votes_0 where
 tys := tysOk
 eqs := eqsOk
 mixed := mixed
 ctr := ctrsOK_of ⟨⟨rfl, ctr_ref11_Right⟩, ⟨rfl, ctr_ref11_votes⟩, trivial⟩
 fns := fnsOK_of fnsOk_ref11_Votes
 big := bigsOK_of trivial
 lps := lps_nil rfl
theorem lpok_1520 : ∀ fn body c, X_ref11_Votes_0.fns lp_1520.f = some fn → fn.body = some body → subAt lp_1520.p body = some (.loop c) → LoopOK Try.prog T lp_1520 c :=
 loop_of xok_ref11_Votes_0 widths (g := g_L1520) (back := some (V 19, [V 0, V 1, V 2, V 3, V 4, V 5, V 6, V 7, V 8, V 9, V 10, V 11, V 12, V 13, V 28, V 29])) (exs := [(V 20, [some (V 14)])]) (by kernel_rfl) (fun aq => by rw [show lp_1520.id = 1520 from rfl, T_1520]; rfl) m_1520 fun aq e h1 h2 h3 => by
  rw [show lp_1520.id = 1520 from rfl, T_1520] at h2 ⊢
  exact lpure_1520 aq e h1 h2 h3
noncomputable def X_ref11_Votes : Ctx := { tys := tys, eqs := eqs, fns := fun f => look f fns_ref11_Votes, ctr := [(97, c_ref11_Right), (150, c_ref11_votes)], lim := 30, big := [], lps := [lp_1520] }
theorem xok_ref11_Votes : XL Try.prog T X_ref11_Votes where
 tys := tysOk
 eqs := eqsOk
 mixed := mixed
 ctr := ctrsOK_of ⟨⟨rfl, ctr_ref11_Right⟩, ⟨rfl, ctr_ref11_votes⟩, trivial⟩
 fns := fnsOK_of fnsOk_ref11_Votes
 big := bigsOK_of trivial
 lps := lpsOK_of ⟨lpok_1520, trivial⟩
theorem ctr_ref11_Votes : CtrOK Try.prog T c_ref11_Votes := ctr_of xok_ref11_Votes widths (g := g_ref11_Votes) (ls := [V 15]) (by kernel_rfl) (fun aq => by rw [show c_ref11_Votes.f = 101 from rfl, T_101]; rfl) fun aq e h1 h2 h3 => by
 subst h1
 rw [show c_ref11_Votes.f = 101 from rfl, T_101] at h2 ⊢
 obtain ⟨ho, hr⟩ := pure_ref11_Votes e h3 _ rfl h2
 have r0 := hr
 refine ⟨⟨ho, trivial⟩, ?_⟩
 show semMany [.int .i64] (t_101 _).2 = semMany [.int .i64] [L.ev e (V 15)]
 exact (semI r0 rfl)
def c_ref11_Best : Ctr := { f := 99, ps := [.c false [.int .i64], .c true [.int .i64, .int .i64, .int .i64, .int .i64, .int .i64, .int .i64, .int .i64, .int .i64, .int .i64, .int .i64, .int .i64, .int .i64]], rs := [(false, [.int .i64]), (false, [.int .i64])], ok := fun _ => true }
noncomputable def fns_ref11_Best : List (Nat × Func) := [(99, Try.f99), (97, Try.f97), (101, Try.f101)]
theorem fnsOk_ref11_Best : FnsAll Try.prog fns_ref11_Best := ⟨fn99, fn97, fn101, trivial⟩
noncomputable def X_ref11_Best_0 : Ctx := { tys := tys, eqs := eqs, fns := fun f => look f fns_ref11_Best, ctr := [(97, c_ref11_Right), (101, c_ref11_Votes)], lim := 30, big := [], lps := [] }
theorem xok_ref11_Best_0 : XL Try.prog T X_ref11_Best_0 where
 tys := tysOk
 eqs := eqsOk
 mixed := mixed
 ctr := ctrsOK_of ⟨⟨rfl, ctr_ref11_Right⟩, ⟨rfl, ctr_ref11_Votes⟩, trivial⟩
 fns := fnsOK_of fnsOk_ref11_Best
 big := bigsOK_of trivial
 lps := lps_nil rfl
theorem lpok_1530 : ∀ fn body c, X_ref11_Best_0.fns lp_1530.f = some fn → fn.body = some body → subAt lp_1530.p body = some (.loop c) → LoopOK Try.prog T lp_1530 c :=
 loop_of xok_ref11_Best_0 widths (g := g_L1530) (back := some (V 18, [V 0, V 1, V 2, V 3, V 4, V 5, V 6, V 7, V 8, V 9, V 10, V 11, V 12, V 30, V 31])) (exs := [(V 19, [some (V 13)])]) (by kernel_rfl) (fun aq => by rw [show lp_1530.id = 1530 from rfl, T_1530]; rfl) m_1530 fun aq e h1 h2 h3 => by
  rw [show lp_1530.id = 1530 from rfl, T_1530] at h2 ⊢
  exact lpure_1530 aq e h1 h2 h3
noncomputable def X_ref11_Best : Ctx := { tys := tys, eqs := eqs, fns := fun f => look f fns_ref11_Best, ctr := [(97, c_ref11_Right), (101, c_ref11_Votes)], lim := 30, big := [], lps := [lp_1530] }
theorem xok_ref11_Best : XL Try.prog T X_ref11_Best where
 tys := tysOk
 eqs := eqsOk
 mixed := mixed
 ctr := ctrsOK_of ⟨⟨rfl, ctr_ref11_Right⟩, ⟨rfl, ctr_ref11_Votes⟩, trivial⟩
 fns := fnsOK_of fnsOk_ref11_Best
 big := bigsOK_of trivial
 lps := lpsOK_of ⟨lpok_1530, trivial⟩
theorem ctr_ref11_Best : CtrOK Try.prog T c_ref11_Best := ctr_of xok_ref11_Best widths (g := g_ref11_Best) (ls := [V 23, V 24]) (by kernel_rfl) (fun aq => by rw [show c_ref11_Best.f = 99 from rfl, T_99]; rfl) fun aq e h1 h2 h3 => by
 subst h1
 rw [show c_ref11_Best.f = 99 from rfl, T_99] at h2 ⊢
 obtain ⟨ho, hr⟩ := pure_ref11_Best e h3 _ rfl h2
 obtain ⟨r0, r1⟩ := hr
 refine ⟨⟨ho.1, ho.2.1, ho.2.2, trivial⟩, ?_⟩
 show semMany [.int .i64, .int .i64] (t_99 _).2 = semMany [.int .i64, .int .i64] [L.ev e (V 23), L.ev e (V 24)]
 exact (semI r0 (semI r1 rfl))
def c_ref11_Fresh : Ctr := { f := 94, ps := [.c false [.int .i64]], rs := [(true, [.int .i64, .int .i64, .int .i64, .int .i64, .int .i64, .int .i64, .int .i64, .int .i64, .int .i64, .int .i64, .int .i64, .int .i64]), (false, [.int .i64])], ok := fun _ => true }
noncomputable def fns_ref11_Fresh : List (Nat × Func) := [(94, Try.f94), (51, Try.f51), (52, Try.f52)]
theorem fnsOk_ref11_Fresh : FnsAll Try.prog fns_ref11_Fresh := ⟨fn94, fn51, fn52, trivial⟩
noncomputable def X_ref11_Fresh_0 : Ctx := { tys := tys, eqs := eqs, fns := fun f => look f fns_ref11_Fresh, ctr := [(51, c_ref03_Right), (52, c_ref03_Block)], lim := 30, big := [], lps := [] }
theorem xok_ref11_Fresh_0 : XL Try.prog T X_ref11_Fresh_0 where
 tys := tysOk
 eqs := eqsOk
 mixed := mixed
 ctr := ctrsOK_of ⟨⟨rfl, ctr_ref03_Right⟩, ⟨rfl, ctr_ref03_Block⟩, trivial⟩
 fns := fnsOK_of fnsOk_ref11_Fresh
 big := bigsOK_of trivial
 lps := lps_nil rfl
theorem lpok_1490 : ∀ fn body c, X_ref11_Fresh_0.fns lp_1490.f = some fn → fn.body = some body → subAt lp_1490.p body = some (.loop c) → LoopOK Try.prog T lp_1490 c :=
 loop_of xok_ref11_Fresh_0 widths (g := g_L1490) (back := some (V 14, [V 0, V 28, V 2, V 3, V 4, V 5, V 20, V 21, V 22, V 23, V 24, V 25, V 26, V 27])) (exs := [(V 15, [some (V 6), some (V 7), some (V 8), some (V 9), some (V 10), some (V 11), some (V 12), some (V 13)])]) (by kernel_rfl) (fun aq => by rw [show lp_1490.id = 1490 from rfl, T_1490]; rfl) m_1490 fun aq e h1 h2 h3 => by
  rw [show lp_1490.id = 1490 from rfl, T_1490] at h2 ⊢
  exact lpure_1490 aq e h1 h2 h3
noncomputable def X_ref11_Fresh : Ctx := { tys := tys, eqs := eqs, fns := fun f => look f fns_ref11_Fresh, ctr := [(51, c_ref03_Right), (52, c_ref03_Block)], lim := 30, big := [], lps := [lp_1490] }
theorem xok_ref11_Fresh : XL Try.prog T X_ref11_Fresh where
 tys := tysOk
 eqs := eqsOk
 mixed := mixed
 ctr := ctrsOK_of ⟨⟨rfl, ctr_ref03_Right⟩, ⟨rfl, ctr_ref03_Block⟩, trivial⟩
 fns := fnsOK_of fnsOk_ref11_Fresh
 big := bigsOK_of trivial
 lps := lpsOK_of ⟨lpok_1490, trivial⟩
theorem ctr_ref11_Fresh : CtrOK Try.prog T c_ref11_Fresh := ctr_of xok_ref11_Fresh widths (g := g_ref11_Fresh) (ls := [V 21, V 22, V 23, V 24, V 25, V 26, V 27, V 28, N 0, V 29, N 0, N 0, V 20]) (by kernel_rfl) (fun aq => by rw [show c_ref11_Fresh.f = 94 from rfl, T_94]; rfl) fun aq e h1 h2 h3 => by
 subst h1
 rw [show c_ref11_Fresh.f = 94 from rfl, T_94] at h2 ⊢
 obtain ⟨ho, hr⟩ := pure_ref11_Fresh e h3 _ rfl h2
 obtain ⟨r0, r1, r2, r3, r4, r5, r6, r7, r8, r9, r10, r11, r12⟩ := hr
 refine ⟨⟨ho.1, ho.2.1, ho.2.2, trivial⟩, ?_⟩
 show semMany [.int .i64, .int .i64, .int .i64, .int .i64, .int .i64, .int .i64, .int .i64, .int .i64, .int .i64, .int .i64, .int .i64, .int .i64, .int .i64] (t_94 _).2 = semMany [.int .i64, .int .i64, .int .i64, .int .i64, .int .i64, .int .i64, .int .i64, .int .i64, .int .i64, .int .i64, .int .i64, .int .i64, .int .i64] [L.ev e (V 21), L.ev e (V 22), L.ev e (V 23), L.ev e (V 24), L.ev e (V 25), L.ev e (V 26), L.ev e (V 27), L.ev e (V 28), L.ev e (N 0), L.ev e (V 29), L.ev e (N 0), L.ev e (N 0), L.ev e (V 20)]
 exact (semI r0 (semI r1 (semI r2 (semI r3 (semI r4 (semI r5 (semI r6 (semI r7 (semI r8 (semI r9 (semI r10 (semI r11 (semI r12 rfl)))))))))))))
end Rx.S
