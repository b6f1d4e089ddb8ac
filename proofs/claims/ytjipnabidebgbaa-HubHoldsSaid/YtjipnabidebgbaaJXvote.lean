import Derived.Test.YtjipnabidebgbaaJXe
import Derived.Test.YtjipnabidebgbaaJXconf
import Derived.Test.YtjipnabidebgbaaJXring
import Derived.Test.YtjipnabidebgbaaJXtally
import Derived.Test.YtjipnabidebgbaaJYvote
set_option linter.unusedVariables false
set_option linter.unusedSimpArgs false
namespace Rx.S
open Go Rx Go.Proofs
set_option maxRecDepth 100000
set_option maxHeartbeats 4000000
def c_vote_Clean : Ctr := { f := 89, ps := [.c false [.int .i64], .c true [.int .i64, .int .i64, .int .i64, .int .i64, .int .i64, .int .i64, .int .i64, .int .i64, .int .i64, .int .i64, .int .i64, .int .i64]], rs := [(true, [.int .i64, .int .i64, .int .i64, .int .i64, .int .i64, .int .i64, .int .i64, .int .i64, .int .i64, .int .i64, .int .i64, .int .i64]), (false, [.int .i64])], ok := fun _ => true }
noncomputable def fns_vote_Clean : List (Nat × Func) := [(89, Try.f89), (50, Try.f50), (141, Try.f141), (44, Try.f44), (133, Try.f133), (33, Try.f33)]
theorem fnsOk_vote_Clean : FnsAll Try.prog fns_vote_Clean := ⟨fn89, fn50, fn141, fn44, fn133, fn33, trivial⟩
noncomputable def X_vote_Clean : Ctx := { tys := tys, eqs := eqs, fns := fun f => look f fns_vote_Clean, ctr := [(133, c_tally_Clamp), (33, c_ring_Mod), (50, c_conf_Right), (44, c_conf_Block)], lim := 30, big := [], lps := [] }
theorem xok_vote_Clean : XL Try.prog T X_vote_Clean where
 tys := tysOk
 eqs := eqsOk
 mixed := mixed
 ctr := ctrsOK_of ⟨⟨rfl, ctr_tally_Clamp⟩, ⟨rfl, ctr_ring_Mod⟩, ⟨rfl, ctr_conf_Right⟩, ⟨rfl, ctr_conf_Block⟩, trivial⟩
 fns := fnsOK_of fnsOk_vote_Clean
 big := bigsOK_of trivial
 lps := lps_nil rfl
theorem ctr_vote_Clean : CtrOK Try.prog T c_vote_Clean := ctr_of xok_vote_Clean widths (g := g_vote_Clean) (ls := [V 114, V 115, V 116, V 117, V 118, V 119, V 120, V 121, V 122, V 123, V 124, V 125, V 101]) (by kernel_rfl) (fun aq => by rw [show c_vote_Clean.f = 89 from rfl, T_89]; rfl) fun aq e h1 h2 h3 => by
 subst h1
 rw [show c_vote_Clean.f = 89 from rfl, T_89] at h2 ⊢
 obtain ⟨ho, hr⟩ := pure_vote_Clean e h3 _ rfl _ rfl h2
 obtain ⟨r0, r1, r2, r3, r4, r5, r6, r7, r8, r9, r10, r11, r12⟩ := hr
 refine ⟨⟨ho.1, ho.2.1, ho.2.2.1, ho.2.2.2.1, ho.2.2.2.2.1, ho.2.2.2.2.2.1, ho.2.2.2.2.2.2.1, ho.2.2.2.2.2.2.2.1, ho.2.2.2.2.2.2.2.2.1, ho.2.2.2.2.2.2.2.2.2.1, ho.2.2.2.2.2.2.2.2.2.2.1, ho.2.2.2.2.2.2.2.2.2.2.2.1, ho.2.2.2.2.2.2.2.2.2.2.2.2.1, ho.2.2.2.2.2.2.2.2.2.2.2.2.2.1, ho.2.2.2.2.2.2.2.2.2.2.2.2.2.2, trivial⟩, ?_⟩
 show semMany [.int .i64, .int .i64, .int .i64, .int .i64, .int .i64, .int .i64, .int .i64, .int .i64, .int .i64, .int .i64, .int .i64, .int .i64, .int .i64] (t_89 _).2 = semMany [.int .i64, .int .i64, .int .i64, .int .i64, .int .i64, .int .i64, .int .i64, .int .i64, .int .i64, .int .i64, .int .i64, .int .i64, .int .i64] [L.ev e (V 114), L.ev e (V 115), L.ev e (V 116), L.ev e (V 117), L.ev e (V 118), L.ev e (V 119), L.ev e (V 120), L.ev e (V 121), L.ev e (V 122), L.ev e (V 123), L.ev e (V 124), L.ev e (V 125), L.ev e (V 101)]
 exact (semI r0 (semI r1 (semI r2 (semI r3 (semI r4 (semI r5 (semI r6 (semI r7 (semI r8 (semI r9 (semI r10 (semI r11 (semI r12 rfl)))))))))))))
def c_vote_Right : Ctr := { f := 96, ps := [.c false [.int .i64], .c true [.int .i64, .int .i64, .int .i64, .int .i64, .int .i64, .int .i64, .int .i64, .int .i64, .int .i64, .int .i64, .int .i64, .int .i64]], rs := [(false, [.bool])], ok := fun _ => true }
noncomputable def fns_vote_Right : List (Nat × Func) := [(96, Try.f96), (89, Try.f89)]
theorem fnsOk_vote_Right : FnsAll Try.prog fns_vote_Right := ⟨fn96, fn89, trivial⟩
noncomputable def X_vote_Right : Ctx := { tys := tys, eqs := eqs, fns := fun f => look f fns_vote_Right, ctr := [(89, c_vote_Clean)], lim := 30, big := [], lps := [] }
theorem xok_vote_Right : XL Try.prog T X_vote_Right where
 tys := tysOk
 eqs := eqsOk
 mixed := mixed
 ctr := ctrsOK_of ⟨⟨rfl, ctr_vote_Clean⟩, trivial⟩
 fns := fnsOK_of fnsOk_vote_Right
 big := bigsOK_of trivial
 lps := lps_nil rfl
theorem ctr_vote_Right : CtrOK Try.prog T c_vote_Right := ctr_of xok_vote_Right widths (g := g_vote_Right) (ls := [V 51]) (by kernel_rfl) (fun aq => by rw [show c_vote_Right.f = 96 from rfl, T_96]; rfl) fun aq e h1 h2 h3 => by
 subst h1
 rw [show c_vote_Right.f = 96 from rfl, T_96] at h2 ⊢
 obtain ⟨ho, hr⟩ := pure_vote_Right e h3 _ rfl h2
 have r0 := hr
 refine ⟨⟨ho, trivial⟩, ?_⟩
 show semMany [.bool] (t_96 _).2 = semMany [.bool] [L.ev e (V 51)]
 exact (semB r0 rfl)
def c_vote_Tick : Ctr := { f := 90, ps := [.c false [.int .i64], .c true [.int .i64, .int .i64, .int .i64, .int .i64, .int .i64, .int .i64, .int .i64, .int .i64, .int .i64, .int .i64, .int .i64, .int .i64]], rs := [(true, [.int .i64, .int .i64, .int .i64, .int .i64, .int .i64, .int .i64, .int .i64, .int .i64, .int .i64, .int .i64, .int .i64, .int .i64]), (false, [.int .i64])], ok := fun _ => true }
noncomputable def fns_vote_Tick : List (Nat × Func) := [(90, Try.f90), (96, Try.f96), (142, Try.f142), (141, Try.f141), (44, Try.f44), (143, Try.f143), (35, Try.f35)]
theorem fnsOk_vote_Tick : FnsAll Try.prog fns_vote_Tick := ⟨fn90, fn96, fn142, fn141, fn44, fn143, fn35, trivial⟩
noncomputable def X_vote_Tick : Ctx := { tys := tys, eqs := eqs, fns := fun f => look f fns_vote_Tick, ctr := [(143, c_tally_Up), (142, c_tally_Down), (35, c_ring_Next), (44, c_conf_Block), (96, c_vote_Right)], lim := 30, big := [], lps := [] }
theorem xok_vote_Tick : XL Try.prog T X_vote_Tick where
 tys := tysOk
 eqs := eqsOk
 mixed := mixed
 ctr := ctrsOK_of ⟨⟨rfl, ctr_tally_Up⟩, ⟨rfl, ctr_tally_Down⟩, ⟨rfl, ctr_ring_Next⟩, ⟨rfl, ctr_conf_Block⟩, ⟨rfl, ctr_vote_Right⟩, trivial⟩
 fns := fnsOK_of fnsOk_vote_Tick
 big := bigsOK_of trivial
 lps := lps_nil rfl
theorem ctr_vote_Tick : CtrOK Try.prog T c_vote_Tick := ctr_of xok_vote_Tick widths (g := g_vote_Tick) (ls := [V 113, V 114, V 115, V 116, V 117, V 118, V 119, V 120, V 121, V 122, V 123, V 124, V 101]) (by kernel_rfl) (fun aq => by rw [show c_vote_Tick.f = 90 from rfl, T_90]; rfl) fun aq e h1 h2 h3 => by
 subst h1
 rw [show c_vote_Tick.f = 90 from rfl, T_90] at h2 ⊢
 obtain ⟨ho, hr⟩ := pure_vote_Tick e h3 _ rfl _ rfl h2
 obtain ⟨r0, r1, r2, r3, r4, r5, r6, r7, r8, r9, r10, r11, r12⟩ := hr
 refine ⟨⟨ho.1, ho.2.1, ho.2.2.1, ho.2.2.2.1, ho.2.2.2.2.1, ho.2.2.2.2.2.1, ho.2.2.2.2.2.2.1, ho.2.2.2.2.2.2.2.1, ho.2.2.2.2.2.2.2.2.1, ho.2.2.2.2.2.2.2.2.2.1, ho.2.2.2.2.2.2.2.2.2.2.1, ho.2.2.2.2.2.2.2.2.2.2.2.1, ho.2.2.2.2.2.2.2.2.2.2.2.2.1, ho.2.2.2.2.2.2.2.2.2.2.2.2.2.1, ho.2.2.2.2.2.2.2.2.2.2.2.2.2.2, trivial⟩, ?_⟩
 show semMany [.int .i64, .int .i64, .int .i64, .int .i64, .int .i64, .int .i64, .int .i64, .int .i64, .int .i64, .int .i64, .int .i64, .int .i64, .int .i64] (t_90 _).2 = semMany [.int .i64, .int .i64, .int .i64, .int .i64, .int .i64, .int .i64, .int .i64, .int .i64, .int .i64, .int .i64, .int .i64, .int .i64, .int .i64] [L.ev e (V 113), L.ev e (V 114), L.ev e (V 115), L.ev e (V 116), L.ev e (V 117), L.ev e (V 118), L.ev e (V 119), L.ev e (V 120), L.ev e (V 121), L.ev e (V 122), L.ev e (V 123), L.ev e (V 124), L.ev e (V 101)]
 exact (semI r0 (semI r1 (semI r2 (semI r3 (semI r4 (semI r5 (semI r6 (semI r7 (semI r8 (semI r9 (semI r10 (semI r11 (semI r12 rfl)))))))))))))
def c_vote_counts : Big := { f := 144, ps := [.c false [.int .i64], .c true [.int .i64, .int .i64, .int .i64, .int .i64, .int .i64, .int .i64, .int .i64, .int .i64, .int .i64, .int .i64, .int .i64, .int .i64]], rs := [.lst [.int .i64] 3], ok := fun _ => true, w := 3 }
noncomputable def fns_vote_counts : List (Nat × Func) := [(144, Try.f144), (37, Try.f37), (44, Try.f44)]
theorem fnsOk_vote_counts : FnsAll Try.prog fns_vote_counts := ⟨fn144, fn37, fn44, trivial⟩
noncomputable def X_vote_counts_0 : Ctx := { tys := tys, eqs := eqs, fns := fun f => look f fns_vote_counts, ctr := [(37, c_ring_At), (44, c_conf_Block)], lim := 30, big := [], lps := [] }
theorem xok_vote_counts_0 : XL Try.prog T X_vote_counts_0 where
 tys := tysOk
 eqs := eqsOk
 mixed := mixed
 ctr := ctrsOK_of ⟨⟨rfl, ctr_ring_At⟩, ⟨rfl, ctr_conf_Block⟩, trivial⟩
 fns := fnsOK_of fnsOk_vote_counts
 big := bigsOK_of trivial
 lps := lps_nil rfl
theorem lpok_1540 : ∀ fn body c, X_vote_counts_0.fns lp_1540.f = some fn → fn.body = some body → subAt lp_1540.p body = some (.loop c) → LoopOK Try.prog T lp_1540 c :=
 loop_of xok_vote_counts_0 widths (g := g_L1540) (back := some (V 73, [V 0, V 1, V 2, V 3, V 4, V 5, V 6, V 7, V 8, V 9, V 10, V 11, V 12, V 71, V 69])) (exs := [(V 74, [some (V 14)])]) (by kernel_rfl) (fun aq => by rw [show lp_1540.id = 1540 from rfl, T_1540]; rfl) m_1540 fun aq e h1 h2 h3 => by
  rw [show lp_1540.id = 1540 from rfl, T_1540] at h2 ⊢
  exact lpure_1540 aq e h1 h2 h3
noncomputable def X_vote_counts : Ctx := { tys := tys, eqs := eqs, fns := fun f => look f fns_vote_counts, ctr := [(37, c_ring_At), (44, c_conf_Block)], lim := 30, big := [], lps := [lp_1540] }
theorem xok_vote_counts : XL Try.prog T X_vote_counts where
 tys := tysOk
 eqs := eqsOk
 mixed := mixed
 ctr := ctrsOK_of ⟨⟨rfl, ctr_ring_At⟩, ⟨rfl, ctr_conf_Block⟩, trivial⟩
 fns := fnsOK_of fnsOk_vote_counts
 big := bigsOK_of trivial
 lps := lpsOK_of ⟨lpok_1540, trivial⟩
theorem ctr_vote_counts : BigOK Try.prog T c_vote_counts := big_of xok_vote_counts widths (g := g_vote_counts) (ls := [V 18, V 0]) (by kernel_rfl) fun aq e h1 h2 h3 => by
 subst h1
 rw [show c_vote_counts.f = 144 from rfl, T_144] at h2 ⊢
 obtain ⟨ho, hr⟩ := pure_vote_counts e h3 _ rfl h2
 obtain ⟨r0, r1⟩ := hr
 refine ⟨⟨ho.1, ho.2, trivial⟩, ?_⟩
 exact ⟨_, _, _, _, _, _, rfl, rfl, r0, r1, ⟨rfl, rfl⟩⟩
def c_vote_Votes : Ctr := { f := 100, ps := [.c false [.int .i64], .c true [.int .i64, .int .i64, .int .i64, .int .i64, .int .i64, .int .i64, .int .i64, .int .i64, .int .i64, .int .i64, .int .i64, .int .i64], .c false [.int .i64]], rs := [(false, [.int .i64])], ok := fun _ => true }
noncomputable def fns_vote_Votes : List (Nat × Func) := [(100, Try.f100), (96, Try.f96), (144, Try.f144)]
theorem fnsOk_vote_Votes : FnsAll Try.prog fns_vote_Votes := ⟨fn100, fn96, fn144, trivial⟩
noncomputable def X_vote_Votes : Ctx := { tys := tys, eqs := eqs, fns := fun f => look f fns_vote_Votes, ctr := [(96, c_vote_Right)], lim := 30, big := [(144, c_vote_counts)], lps := [] }
theorem xok_vote_Votes : XL Try.prog T X_vote_Votes where
 tys := tysOk
 eqs := eqsOk
 mixed := mixed
 ctr := ctrsOK_of ⟨⟨rfl, ctr_vote_Right⟩, trivial⟩
 fns := fnsOK_of fnsOk_vote_Votes
 big := bigsOK_of ⟨⟨rfl, ctr_vote_counts⟩, trivial⟩
 lps := lps_nil rfl
theorem ctr_vote_Votes : CtrOK Try.prog T c_vote_Votes := ctr_of xok_vote_Votes widths (g := g_vote_Votes) (ls := [V 34]) (by kernel_rfl) (fun aq => by rw [show c_vote_Votes.f = 100 from rfl, T_100]; rfl) fun aq e h1 h2 h3 => by
 subst h1
 rw [show c_vote_Votes.f = 100 from rfl, T_100] at h2 ⊢
 obtain ⟨ho, hr⟩ := pure_vote_Votes e h3 _ rfl h2
 have r0 := hr
 refine ⟨⟨ho.1, ho.2.1, ho.2.2, trivial⟩, ?_⟩
 show semMany [.int .i64] (t_100 _).2 = semMany [.int .i64] [L.ev e (V 34)]
 exact (semI r0 rfl)
def c_vote_Best : Ctr := { f := 91, ps := [.c false [.int .i64], .c true [.int .i64, .int .i64, .int .i64, .int .i64, .int .i64, .int .i64, .int .i64, .int .i64, .int .i64, .int .i64, .int .i64, .int .i64]], rs := [(false, [.int .i64]), (false, [.int .i64])], ok := fun _ => true }
noncomputable def fns_vote_Best : List (Nat × Func) := [(91, Try.f91), (96, Try.f96), (144, Try.f144), (145, Try.f145), (146, Try.f146)]
theorem fnsOk_vote_Best : FnsAll Try.prog fns_vote_Best := ⟨fn91, fn96, fn144, fn145, fn146, trivial⟩
noncomputable def X_vote_Best_0 : Ctx := { tys := tys, eqs := eqs, fns := fun f => look f fns_vote_Best, ctr := [(96, c_vote_Right)], lim := 30, big := [(144, c_vote_counts)], lps := [] }
theorem xok_vote_Best_0 : XL Try.prog T X_vote_Best_0 where
 tys := tysOk
 eqs := eqsOk
 mixed := mixed
 ctr := ctrsOK_of ⟨⟨rfl, ctr_vote_Right⟩, trivial⟩
 fns := fnsOK_of fnsOk_vote_Best
 big := bigsOK_of ⟨⟨rfl, ctr_vote_counts⟩, trivial⟩
 lps := lps_nil rfl
theorem lpok_1560 : ∀ fn body c, X_vote_Best_0.fns lp_1560.f = some fn → fn.body = some body → subAt lp_1560.p body = some (.loop c) → LoopOK Try.prog T lp_1560 c :=
 loop_of xok_vote_Best_0 widths (g := g_L1560) (back := some (V 18, [V 0, V 24, V 25, V 3, V 4, V 5, V 6, V 7, V 8, V 9, V 10, V 11, V 12, V 13, V 14, V 15, V 16, V 17])) (exs := [(V 19, [some (V 1)])]) (by kernel_rfl) (fun aq => by rw [show lp_1560.id = 1560 from rfl, T_1560]; rfl) m_1560 fun aq e h1 h2 h3 => by
  rw [show lp_1560.id = 1560 from rfl, T_1560] at h2 ⊢
  exact lpure_1560 aq e h1 h2 h3
noncomputable def X_vote_Best_1 : Ctx := { tys := tys, eqs := eqs, fns := fun f => look f fns_vote_Best, ctr := [(96, c_vote_Right)], lim := 30, big := [(144, c_vote_counts)], lps := [lp_1560] }
theorem xok_vote_Best_1 : XL Try.prog T X_vote_Best_1 where
 tys := tysOk
 eqs := eqsOk
 mixed := mixed
 ctr := ctrsOK_of ⟨⟨rfl, ctr_vote_Right⟩, trivial⟩
 fns := fnsOK_of fnsOk_vote_Best
 big := bigsOK_of ⟨⟨rfl, ctr_vote_counts⟩, trivial⟩
 lps := lpsOK_of ⟨lpok_1560, trivial⟩
theorem lpok_1561 : ∀ fn body c, X_vote_Best_1.fns lp_1561.f = some fn → fn.body = some body → subAt lp_1561.p body = some (.loop c) → LoopOK Try.prog T lp_1561 c :=
 loop_of xok_vote_Best_1 widths (g := g_L1561) (back := some (V 31, [V 0, V 1, V 28, V 3, V 4, V 5, V 6, V 7, V 8, V 9, V 10, V 11, V 12, V 13, V 14, V 15])) (exs := [(V 32, [some (V 2), some (B true), none]), (V 17, [none, none, some (B true)])]) (by kernel_rfl) (fun aq => by rw [show lp_1561.id = 1561 from rfl, T_1561]; rfl) m_1561 fun aq e h1 h2 h3 => by
  rw [show lp_1561.id = 1561 from rfl, T_1561] at h2 ⊢
  exact lpure_1561 aq e h1 h2 h3
noncomputable def X_vote_Best : Ctx := { tys := tys, eqs := eqs, fns := fun f => look f fns_vote_Best, ctr := [(96, c_vote_Right)], lim := 30, big := [(144, c_vote_counts)], lps := [lp_1560, lp_1561] }
theorem xok_vote_Best : XL Try.prog T X_vote_Best where
 tys := tysOk
 eqs := eqsOk
 mixed := mixed
 ctr := ctrsOK_of ⟨⟨rfl, ctr_vote_Right⟩, trivial⟩
 fns := fnsOK_of fnsOk_vote_Best
 big := bigsOK_of ⟨⟨rfl, ctr_vote_counts⟩, trivial⟩
 lps := lpsOK_of ⟨lpok_1560, lpok_1561, trivial⟩
theorem ctr_vote_Best : CtrOK Try.prog T c_vote_Best := ctr_of xok_vote_Best widths (g := g_vote_Best) (ls := [V 46, V 47]) (by kernel_rfl) (fun aq => by rw [show c_vote_Best.f = 91 from rfl, T_91]; rfl) fun aq e h1 h2 h3 => by
 subst h1
 rw [show c_vote_Best.f = 91 from rfl, T_91] at h2 ⊢
 obtain ⟨ho, hr⟩ := pure_vote_Best e h3 _ rfl h2
 obtain ⟨r0, r1⟩ := hr
 refine ⟨⟨ho.1, ho.2.1, ho.2.2.1, ho.2.2.2.1, ho.2.2.2.2.1, ho.2.2.2.2.2.1, ho.2.2.2.2.2.2, trivial⟩, ?_⟩
 show semMany [.int .i64, .int .i64] (t_91 _).2 = semMany [.int .i64, .int .i64] [L.ev e (V 46), L.ev e (V 47)]
 exact (semI r0 (semI r1 rfl))
end Rx.S
