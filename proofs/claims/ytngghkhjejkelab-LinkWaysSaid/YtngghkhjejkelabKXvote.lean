import Derived.Test.YtngghkhjejkelabKXe
import Derived.Test.YtngghkhjejkelabKXconf
import Derived.Test.YtngghkhjejkelabKXring
import Derived.Test.YtngghkhjejkelabKXtally
import Derived.Test.YtngghkhjejkelabKYvote
set_option linter.unusedVariables false
set_option linter.unusedSimpArgs false
namespace Rx.S
open Go Rx Go.Proofs
set_option maxRecDepth 100000
set_option maxHeartbeats 4000000
def c_vote_Clean : Ctr := { f := 30, ps := [.c false [.int .i64], .c true [.int .i64, .int .i64, .int .i64, .int .i64, .int .i64, .int .i64, .int .i64, .int .i64, .int .i64, .int .i64, .int .i64, .int .i64]], rs := [(true, [.int .i64, .int .i64, .int .i64, .int .i64, .int .i64, .int .i64, .int .i64, .int .i64, .int .i64, .int .i64, .int .i64, .int .i64]), (false, [.int .i64])], ok := fun _ => true }
noncomputable def fns_vote_Clean : List (Nat × Func) := [(30, Try.f30), (43, Try.f43), (34, Try.f34), (40, Try.f40), (49, Try.f49), (50, Try.f50)]
theorem fnsOk_vote_Clean : FnsAll Try.prog fns_vote_Clean := ⟨fn30, fn43, fn34, fn40, fn49, fn50, trivial⟩
noncomputable def X_vote_Clean : Ctx := { tys := tys, eqs := eqs, fns := fun f => look f fns_vote_Clean, ctr := [(49, c_tally_Clamp), (50, c_ring_Mod), (43, c_conf_Right), (40, c_conf_Block)], lim := 30, big := [], lps := [] }
theorem xok_vote_Clean : XL Try.prog T X_vote_Clean where
 tys := tysOk
 eqs := eqsOk
 mixed := mixed
 ctr := ctrsOK_of ⟨⟨rfl, ctr_tally_Clamp⟩, ⟨rfl, ctr_ring_Mod⟩, ⟨rfl, ctr_conf_Right⟩, ⟨rfl, ctr_conf_Block⟩, trivial⟩
 fns := fnsOK_of fnsOk_vote_Clean
 big := bigsOK_of trivial
 lps := lps_nil rfl
theorem ctr_vote_Clean : CtrOK Try.prog T c_vote_Clean := ctr_of xok_vote_Clean widths (g := g_vote_Clean) (ls := [V 114, V 115, V 116, V 117, V 118, V 119, V 120, V 121, V 122, V 123, V 124, V 125, V 101]) (by kernel_rfl) (fun aq => by rw [show c_vote_Clean.f = 30 from rfl, T_30]; rfl) fun aq e h1 h2 h3 => by
 subst h1
 rw [show c_vote_Clean.f = 30 from rfl, T_30] at h2 ⊢
 obtain ⟨ho, hr⟩ := pure_vote_Clean e h3 _ rfl _ rfl h2
 obtain ⟨r0, r1, r2, r3, r4, r5, r6, r7, r8, r9, r10, r11, r12⟩ := hr
 refine ⟨⟨ho.1, ho.2.1, ho.2.2.1, ho.2.2.2.1, ho.2.2.2.2.1, ho.2.2.2.2.2.1, ho.2.2.2.2.2.2.1, ho.2.2.2.2.2.2.2.1, ho.2.2.2.2.2.2.2.2.1, ho.2.2.2.2.2.2.2.2.2.1, ho.2.2.2.2.2.2.2.2.2.2.1, ho.2.2.2.2.2.2.2.2.2.2.2.1, ho.2.2.2.2.2.2.2.2.2.2.2.2.1, ho.2.2.2.2.2.2.2.2.2.2.2.2.2.1, ho.2.2.2.2.2.2.2.2.2.2.2.2.2.2, trivial⟩, ?_⟩
 show semMany [.int .i64, .int .i64, .int .i64, .int .i64, .int .i64, .int .i64, .int .i64, .int .i64, .int .i64, .int .i64, .int .i64, .int .i64, .int .i64] (t_30 _).2 = semMany [.int .i64, .int .i64, .int .i64, .int .i64, .int .i64, .int .i64, .int .i64, .int .i64, .int .i64, .int .i64, .int .i64, .int .i64, .int .i64] [L.ev e (V 114), L.ev e (V 115), L.ev e (V 116), L.ev e (V 117), L.ev e (V 118), L.ev e (V 119), L.ev e (V 120), L.ev e (V 121), L.ev e (V 122), L.ev e (V 123), L.ev e (V 124), L.ev e (V 125), L.ev e (V 101)]
 exact (semI r0 (semI r1 (semI r2 (semI r3 (semI r4 (semI r5 (semI r6 (semI r7 (semI r8 (semI r9 (semI r10 (semI r11 (semI r12 rfl)))))))))))))
def c_vote_Right : Ctr := { f := 25, ps := [.c false [.int .i64], .c true [.int .i64, .int .i64, .int .i64, .int .i64, .int .i64, .int .i64, .int .i64, .int .i64, .int .i64, .int .i64, .int .i64, .int .i64]], rs := [(false, [.bool])], ok := fun _ => true }
noncomputable def fns_vote_Right : List (Nat × Func) := [(25, Try.f25), (30, Try.f30)]
theorem fnsOk_vote_Right : FnsAll Try.prog fns_vote_Right := ⟨fn25, fn30, trivial⟩
noncomputable def X_vote_Right : Ctx := { tys := tys, eqs := eqs, fns := fun f => look f fns_vote_Right, ctr := [(30, c_vote_Clean)], lim := 30, big := [], lps := [] }
theorem xok_vote_Right : XL Try.prog T X_vote_Right where
 tys := tysOk
 eqs := eqsOk
 mixed := mixed
 ctr := ctrsOK_of ⟨⟨rfl, ctr_vote_Clean⟩, trivial⟩
 fns := fnsOK_of fnsOk_vote_Right
 big := bigsOK_of trivial
 lps := lps_nil rfl
theorem ctr_vote_Right : CtrOK Try.prog T c_vote_Right := ctr_of xok_vote_Right widths (g := g_vote_Right) (ls := [V 51]) (by kernel_rfl) (fun aq => by rw [show c_vote_Right.f = 25 from rfl, T_25]; rfl) fun aq e h1 h2 h3 => by
 subst h1
 rw [show c_vote_Right.f = 25 from rfl, T_25] at h2 ⊢
 obtain ⟨ho, hr⟩ := pure_vote_Right e h3 _ rfl h2
 have r0 := hr
 refine ⟨⟨ho, trivial⟩, ?_⟩
 show semMany [.bool] (t_25 _).2 = semMany [.bool] [L.ev e (V 51)]
 exact (semB r0 rfl)
def c_vote_Tick : Ctr := { f := 21, ps := [.c false [.int .i64], .c true [.int .i64, .int .i64, .int .i64, .int .i64, .int .i64, .int .i64, .int .i64, .int .i64, .int .i64, .int .i64, .int .i64, .int .i64]], rs := [(true, [.int .i64, .int .i64, .int .i64, .int .i64, .int .i64, .int .i64, .int .i64, .int .i64, .int .i64, .int .i64, .int .i64, .int .i64]), (false, [.int .i64])], ok := fun _ => true }
noncomputable def fns_vote_Tick : List (Nat × Func) := [(21, Try.f21), (25, Try.f25), (33, Try.f33), (34, Try.f34), (40, Try.f40), (35, Try.f35), (36, Try.f36)]
theorem fnsOk_vote_Tick : FnsAll Try.prog fns_vote_Tick := ⟨fn21, fn25, fn33, fn34, fn40, fn35, fn36, trivial⟩
noncomputable def X_vote_Tick : Ctx := { tys := tys, eqs := eqs, fns := fun f => look f fns_vote_Tick, ctr := [(35, c_tally_Up), (33, c_tally_Down), (36, c_ring_Next), (40, c_conf_Block), (25, c_vote_Right)], lim := 30, big := [], lps := [] }
theorem xok_vote_Tick : XL Try.prog T X_vote_Tick where
 tys := tysOk
 eqs := eqsOk
 mixed := mixed
 ctr := ctrsOK_of ⟨⟨rfl, ctr_tally_Up⟩, ⟨rfl, ctr_tally_Down⟩, ⟨rfl, ctr_ring_Next⟩, ⟨rfl, ctr_conf_Block⟩, ⟨rfl, ctr_vote_Right⟩, trivial⟩
 fns := fnsOK_of fnsOk_vote_Tick
 big := bigsOK_of trivial
 lps := lps_nil rfl
theorem ctr_vote_Tick : CtrOK Try.prog T c_vote_Tick := ctr_of xok_vote_Tick widths (g := g_vote_Tick) (ls := [V 113, V 114, V 115, V 116, V 117, V 118, V 119, V 120, V 121, V 122, V 123, V 124, V 101]) (by kernel_rfl) (fun aq => by rw [show c_vote_Tick.f = 21 from rfl, T_21]; rfl) fun aq e h1 h2 h3 => by
 subst h1
 rw [show c_vote_Tick.f = 21 from rfl, T_21] at h2 ⊢
 obtain ⟨ho, hr⟩ := pure_vote_Tick e h3 _ rfl _ rfl h2
 obtain ⟨r0, r1, r2, r3, r4, r5, r6, r7, r8, r9, r10, r11, r12⟩ := hr
 refine ⟨⟨ho.1, ho.2.1, ho.2.2.1, ho.2.2.2.1, ho.2.2.2.2.1, ho.2.2.2.2.2.1, ho.2.2.2.2.2.2.1, ho.2.2.2.2.2.2.2.1, ho.2.2.2.2.2.2.2.2.1, ho.2.2.2.2.2.2.2.2.2.1, ho.2.2.2.2.2.2.2.2.2.2.1, ho.2.2.2.2.2.2.2.2.2.2.2.1, ho.2.2.2.2.2.2.2.2.2.2.2.2.1, ho.2.2.2.2.2.2.2.2.2.2.2.2.2.1, ho.2.2.2.2.2.2.2.2.2.2.2.2.2.2, trivial⟩, ?_⟩
 show semMany [.int .i64, .int .i64, .int .i64, .int .i64, .int .i64, .int .i64, .int .i64, .int .i64, .int .i64, .int .i64, .int .i64, .int .i64, .int .i64] (t_21 _).2 = semMany [.int .i64, .int .i64, .int .i64, .int .i64, .int .i64, .int .i64, .int .i64, .int .i64, .int .i64, .int .i64, .int .i64, .int .i64, .int .i64] [L.ev e (V 113), L.ev e (V 114), L.ev e (V 115), L.ev e (V 116), L.ev e (V 117), L.ev e (V 118), L.ev e (V 119), L.ev e (V 120), L.ev e (V 121), L.ev e (V 122), L.ev e (V 123), L.ev e (V 124), L.ev e (V 101)]
 exact (semI r0 (semI r1 (semI r2 (semI r3 (semI r4 (semI r5 (semI r6 (semI r7 (semI r8 (semI r9 (semI r10 (semI r11 (semI r12 rfl)))))))))))))
def c_vote_counts : Big := { f := 53, ps := [.c false [.int .i64], .c true [.int .i64, .int .i64, .int .i64, .int .i64, .int .i64, .int .i64, .int .i64, .int .i64, .int .i64, .int .i64, .int .i64, .int .i64]], rs := [.lst [.int .i64] 3], ok := fun _ => true, w := 3 }
noncomputable def fns_vote_counts : List (Nat × Func) := [(53, Try.f53), (66, Try.f66), (40, Try.f40)]
theorem fnsOk_vote_counts : FnsAll Try.prog fns_vote_counts := ⟨fn53, fn66, fn40, trivial⟩
noncomputable def X_vote_counts_0 : Ctx := { tys := tys, eqs := eqs, fns := fun f => look f fns_vote_counts, ctr := [(66, c_ring_At), (40, c_conf_Block)], lim := 30, big := [], lps := [] }
theorem xok_vote_counts_0 : XL Try.prog T X_vote_counts_0 where
 tys := tysOk
 eqs := eqsOk
 mixed := mixed
 ctr := ctrsOK_of ⟨⟨rfl, ctr_ring_At⟩, ⟨rfl, ctr_conf_Block⟩, trivial⟩
 fns := fnsOK_of fnsOk_vote_counts
 big := bigsOK_of trivial
 lps := lps_nil rfl
theorem lpok_1540 : ∀ fn body c, X_vote_counts_0.fns lp_1540.f = some fn → fn.body = some body → subAt lp_1540.p body = some (.loop c) → LoopOK Try.prog T lp_1540 c :=
 loop_of xok_vote_counts_0 widths (g := g_L1540) (back := some (V 73, [V 0, V 1, V 2, V 3, V 4, V 5, V 6, V 7, V 8, V 9, V 10, V 11, V 12, V 71, V 69])) (exs := [(V 74, [some (V 14)])]) (by kernel_rfl) (fun aq => by rw [show lp_1540.id = 1540 from rfl, T_1540]; rfl) m_1540 fun aq e h1 h2 h3 => by
  rw [show lp_1540.id = 1540 from rfl, T_1540] at h2 ⊢
  exact lpure_1540 aq e h1 h2 h3
noncomputable def X_vote_counts : Ctx := { tys := tys, eqs := eqs, fns := fun f => look f fns_vote_counts, ctr := [(66, c_ring_At), (40, c_conf_Block)], lim := 30, big := [], lps := [lp_1540] }
theorem xok_vote_counts : XL Try.prog T X_vote_counts where
 tys := tysOk
 eqs := eqsOk
 mixed := mixed
 ctr := ctrsOK_of ⟨⟨rfl, ctr_ring_At⟩, ⟨rfl, ctr_conf_Block⟩, trivial⟩
 fns := fnsOK_of fnsOk_vote_counts
 big := bigsOK_of trivial
 lps := lpsOK_of ⟨lpok_1540, trivial⟩
theorem ctr_vote_counts : BigOK Try.prog T c_vote_counts := big_of xok_vote_counts widths (g := g_vote_counts) (ls := [V 18, V 0]) (by kernel_rfl) fun aq e h1 h2 h3 => by
 subst h1
 rw [show c_vote_counts.f = 53 from rfl, T_53] at h2 ⊢
 obtain ⟨ho, hr⟩ := pure_vote_counts e h3 _ rfl h2
 obtain ⟨r0, r1⟩ := hr
 refine ⟨⟨ho.1, ho.2, trivial⟩, ?_⟩
 exact ⟨_, _, _, _, _, _, rfl, rfl, r0, r1, ⟨rfl, rfl⟩⟩
def c_vote_Votes : Ctr := { f := 38, ps := [.c false [.int .i64], .c true [.int .i64, .int .i64, .int .i64, .int .i64, .int .i64, .int .i64, .int .i64, .int .i64, .int .i64, .int .i64, .int .i64, .int .i64], .c false [.int .i64]], rs := [(false, [.int .i64])], ok := fun _ => true }
noncomputable def fns_vote_Votes : List (Nat × Func) := [(38, Try.f38), (25, Try.f25), (53, Try.f53)]
theorem fnsOk_vote_Votes : FnsAll Try.prog fns_vote_Votes := ⟨fn38, fn25, fn53, trivial⟩
noncomputable def X_vote_Votes : Ctx := { tys := tys, eqs := eqs, fns := fun f => look f fns_vote_Votes, ctr := [(25, c_vote_Right)], lim := 30, big := [(53, c_vote_counts)], lps := [] }
theorem xok_vote_Votes : XL Try.prog T X_vote_Votes where
 tys := tysOk
 eqs := eqsOk
 mixed := mixed
 ctr := ctrsOK_of ⟨⟨rfl, ctr_vote_Right⟩, trivial⟩
 fns := fnsOK_of fnsOk_vote_Votes
 big := bigsOK_of ⟨⟨rfl, ctr_vote_counts⟩, trivial⟩
 lps := lps_nil rfl
theorem ctr_vote_Votes : CtrOK Try.prog T c_vote_Votes := ctr_of xok_vote_Votes widths (g := g_vote_Votes) (ls := [V 34]) (by kernel_rfl) (fun aq => by rw [show c_vote_Votes.f = 38 from rfl, T_38]; rfl) fun aq e h1 h2 h3 => by
 subst h1
 rw [show c_vote_Votes.f = 38 from rfl, T_38] at h2 ⊢
 obtain ⟨ho, hr⟩ := pure_vote_Votes e h3 _ rfl h2
 have r0 := hr
 refine ⟨⟨ho.1, ho.2.1, ho.2.2, trivial⟩, ?_⟩
 show semMany [.int .i64] (t_38 _).2 = semMany [.int .i64] [L.ev e (V 34)]
 exact (semI r0 rfl)
def c_vote_Best : Ctr := { f := 39, ps := [.c false [.int .i64], .c true [.int .i64, .int .i64, .int .i64, .int .i64, .int .i64, .int .i64, .int .i64, .int .i64, .int .i64, .int .i64, .int .i64, .int .i64]], rs := [(false, [.int .i64]), (false, [.int .i64])], ok := fun _ => true }
noncomputable def fns_vote_Best : List (Nat × Func) := [(39, Try.f39), (25, Try.f25), (53, Try.f53), (54, Try.f54), (55, Try.f55)]
theorem fnsOk_vote_Best : FnsAll Try.prog fns_vote_Best := ⟨fn39, fn25, fn53, fn54, fn55, trivial⟩
noncomputable def X_vote_Best_0 : Ctx := { tys := tys, eqs := eqs, fns := fun f => look f fns_vote_Best, ctr := [(25, c_vote_Right)], lim := 30, big := [(53, c_vote_counts)], lps := [] }
theorem xok_vote_Best_0 : XL Try.prog T X_vote_Best_0 where
 tys := tysOk
 eqs := eqsOk
 mixed := mixed
 ctr := ctrsOK_of ⟨⟨rfl, ctr_vote_Right⟩, trivial⟩
 fns := fnsOK_of fnsOk_vote_Best
 big := bigsOK_of ⟨⟨rfl, ctr_vote_counts⟩, trivial⟩
 lps := lps_nil rfl
theorem lpok_1560 : ∀ fn body c, X_vote_Best_0.fns lp_1560.f = some fn → fn.body = some body → subAt lp_1560.p body = some (.loop c) → LoopOK Try.prog T lp_1560 c :=
 loop_of xok_vote_Best_0 widths (g := g_L1560) (back := some (V 18, [V 0, V 24, V 25, V 3, V 4, V 5, V 6, V 7, V 8, V 9, V 10, V 11, V 12, V 13, V 14, V 15, V 16, V 17])) (exs := [(V 19, [some (V 1)])]) (by kernel_rfl) (fun aq => by rw [show lp_1560.id = 1560 from rfl, T_1560]; rfl) m_1560 fun aq e h1 h2 h3 => by
  rw [show lp_1560.id = 1560 from rfl, T_1560] at h2 ⊢
  exact lpure_1560 aq e h1 h2 h3
noncomputable def X_vote_Best_1 : Ctx := { tys := tys, eqs := eqs, fns := fun f => look f fns_vote_Best, ctr := [(25, c_vote_Right)], lim := 30, big := [(53, c_vote_counts)], lps := [lp_1560] }
theorem xok_vote_Best_1 : XL Try.prog T X_vote_Best_1 where
 tys := tysOk
 eqs := eqsOk
 mixed := mixed
 ctr := ctrsOK_of ⟨⟨rfl, ctr_vote_Right⟩, trivial⟩
 fns := fnsOK_of fnsOk_vote_Best
 big := bigsOK_of ⟨⟨rfl, ctr_vote_counts⟩, trivial⟩
 lps := lpsOK_of ⟨lpok_1560, trivial⟩
theorem lpok_1561 : ∀ fn body c, X_vote_Best_1.fns lp_1561.f = some fn → fn.body = some body → subAt lp_1561.p body = some (.loop c) → LoopOK Try.prog T lp_1561 c :=
 loop_of xok_vote_Best_1 widths (g := g_L1561) (back := some (V 31, [V 0, V 1, V 28, V 3, V 4, V 5, V 6, V 7, V 8, V 9, V 10, V 11, V 12, V 13, V 14, V 15])) (exs := [(V 32, [some (V 2), some (B true), none]), (V 17, [none, none, some (B true)])]) (by kernel_rfl) (fun aq => by rw [show lp_1561.id = 1561 from rfl, T_1561]; rfl) m_1561 fun aq e h1 h2 h3 => by
  rw [show lp_1561.id = 1561 from rfl, T_1561] at h2 ⊢
  exact lpure_1561 aq e h1 h2 h3
noncomputable def X_vote_Best : Ctx := { tys := tys, eqs := eqs, fns := fun f => look f fns_vote_Best, ctr := [(25, c_vote_Right)], lim := 30, big := [(53, c_vote_counts)], lps := [lp_1560, lp_1561] }
theorem xok_vote_Best : XL Try.prog T X_vote_Best where
 tys := tysOk
 eqs := eqsOk
 mixed := mixed
 ctr := ctrsOK_of ⟨⟨rfl, ctr_vote_Right⟩, trivial⟩
 fns := fnsOK_of fnsOk_vote_Best
 big := bigsOK_of ⟨⟨rfl, ctr_vote_counts⟩, trivial⟩
 lps := lpsOK_of ⟨lpok_1560, lpok_1561, trivial⟩
theorem ctr_vote_Best : CtrOK Try.prog T c_vote_Best := ctr_of xok_vote_Best widths (g := g_vote_Best) (ls := [V 46, V 47]) (by kernel_rfl) (fun aq => by rw [show c_vote_Best.f = 39 from rfl, T_39]; rfl) fun aq e h1 h2 h3 => by
 subst h1
 rw [show c_vote_Best.f = 39 from rfl, T_39] at h2 ⊢
 obtain ⟨ho, hr⟩ := pure_vote_Best e h3 _ rfl h2
 obtain ⟨r0, r1⟩ := hr
 refine ⟨⟨ho.1, ho.2.1, ho.2.2.1, ho.2.2.2.1, ho.2.2.2.2.1, ho.2.2.2.2.2.1, ho.2.2.2.2.2.2, trivial⟩, ?_⟩
 show semMany [.int .i64, .int .i64] (t_39 _).2 = semMany [.int .i64, .int .i64] [L.ev e (V 46), L.ev e (V 47)]
 exact (semI r0 (semI r1 rfl))
end Rx.S
