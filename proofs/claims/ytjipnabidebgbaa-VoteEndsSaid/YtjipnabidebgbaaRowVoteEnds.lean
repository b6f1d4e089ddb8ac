/- Block ticks later nobody votes, and Hold is 0; Pos goes round; without the document's answer. -/
import Derived.Test.YtjipnabidebgbaaXe
import Derived.Test.YtjipnabidebgbaaXf
import Derived.Test.YtjipnabidebgbaaXvote
import Derived.Test.YtjipnabidebgbaaXlaw11
import Derived.Test.YtjipnabidebgbaaYVoteEnds
import Derived.Test.YtjipnabidebgbaaRows
import Derived.Test.YtjipnabidebgbaaSeat
import Derived.WalkKit
import Derived.ProofKit
import Derived.OpenShut
import Derived.ShutString
import Derived.ChangeOld
import Derived.Below
import Derived.SizedLaws
set_option linter.unusedVariables false
set_option linter.unusedSimpArgs false
namespace Rx.S
open Go Rx Go.Proofs
set_option maxRecDepth 100000
set_option maxHeartbeats 4000000
set_option linter.unusedVariables false
def c_law11_VoteEnds : Ctr := { f := 14, ps := [.c false [.int .u8], .c true [.int .i64, .int .i64, .int .i64, .int .i64, .int .i64, .int .i64, .int .i64, .int .i64, .int .i64, .int .i64, .int .i64, .int .i64]], rs := [(false, [.bool])], ok := fun _ => true }
noncomputable def fns_law11_VoteEnds : List (Nat × Func) := [(14, Try.f14), (89, Try.f89), (90, Try.f90), (91, Try.f91), (92, Try.f92)]
theorem fnsOk_law11_VoteEnds : FnsAll Try.prog fns_law11_VoteEnds := ⟨fn14, fn89, fn90, fn91, fn92, trivial⟩
noncomputable def X_law11_VoteEnds_0 : Ctx := { tys := tys, eqs := eqs, fns := fun f => look f fns_law11_VoteEnds, ctr := [(89, c_vote_Clean), (90, c_vote_Tick), (91, c_vote_Best), (92, c_law11_awake)], lim := 30, big := [], lps := [] }
theorem xok_law11_VoteEnds_0 : XL Try.prog T X_law11_VoteEnds_0 where
  tys := tysOk
  eqs := eqsOk
  mixed := mixed
  ctr := ctrsOK_of ⟨⟨rfl, ctr_vote_Clean⟩, ⟨rfl, ctr_vote_Tick⟩, ⟨rfl, ctr_vote_Best⟩, ⟨rfl, ctr_law11_awake⟩, trivial⟩
  fns := fnsOK_of fnsOk_law11_VoteEnds
  big := bigsOK_of trivial
  lps := lps_nil rfl
theorem lpok_1590 : ∀ fn body c, X_law11_VoteEnds_0.fns lp_1590.f = some fn → fn.body = some body → subAt lp_1590.p body = some (.loop c) → LoopOK Try.prog T lp_1590 c :=
  loop_of xok_law11_VoteEnds_0 widths (g := g_L1590) (back := some (V 71, [V 0, V 1, V 2, V 3, V 4, V 5, V 6, V 7, V 8, V 9, V 10, V 11, V 12, V 13, V 60, V 15, V 68, V 17, V 18, V 19, V 20, V 21, V 22, V 23, V 24, V 25, V 26, V 27, V 28, V 29, V 30, V 31, V 48, V 49, V 50, V 51, V 52, V 53, V 54, V 55, V 56, V 57, V 58, V 59])) (exs := [(V 72, [some (V 60), some (V 48), some (V 49), some (V 50), some (V 51), some (V 52), some (V 53), some (V 54), some (V 55), some (V 56), some (V 57), some (V 58), some (V 59), some (B true), none, none, none, none, none, none, none, none, none, none, none, none, none, none]), (V 46, [none, none, none, none, none, none, none, none, none, none, none, none, none, none, some (V 14), some (V 32), some (V 33), some (V 34), some (V 35), some (V 36), some (V 37), some (V 38), some (V 39), some (V 40), some (V 41), some (V 42), some (V 43), some (B true)])]) (by kernel_rfl) (fun aq => by rw [show lp_1590.id = 1590 from rfl, T_1590]; rfl) m_1590 fun aq e h1 h2 h3 => by
    rw [show lp_1590.id = 1590 from rfl, T_1590] at h2 ⊢
    exact lpure_1590 aq e h1 h2 h3
noncomputable def X_law11_VoteEnds : Ctx := { tys := tys, eqs := eqs, fns := fun f => look f fns_law11_VoteEnds, ctr := [(89, c_vote_Clean), (90, c_vote_Tick), (91, c_vote_Best), (92, c_law11_awake)], lim := 30, big := [], lps := [lp_1590] }
theorem xok_law11_VoteEnds : XL Try.prog T X_law11_VoteEnds where
  tys := tysOk
  eqs := eqsOk
  mixed := mixed
  ctr := ctrsOK_of ⟨⟨rfl, ctr_vote_Clean⟩, ⟨rfl, ctr_vote_Tick⟩, ⟨rfl, ctr_vote_Best⟩, ⟨rfl, ctr_law11_awake⟩, trivial⟩
  fns := fnsOK_of fnsOk_law11_VoteEnds
  big := bigsOK_of trivial
  lps := lpsOK_of ⟨lpok_1590, trivial⟩
theorem ctr_law11_VoteEnds : CtrOK Try.prog T c_law11_VoteEnds := ctr_of xok_law11_VoteEnds widths (g := g_law11_VoteEnds) (ls := [V 100]) (by kernel_rfl) (fun aq => by rw [show c_law11_VoteEnds.f = 14 from rfl, T_14]; rfl) fun aq e h1 h2 h3 => by
  subst h1
  rw [show c_law11_VoteEnds.f = 14 from rfl, T_14] at h2 ⊢
  obtain ⟨ho, hr⟩ := pure_law11_VoteEnds e h3 h2
  have r0 := hr
  refine ⟨⟨ho.1, ho.2.1, ho.2.2.1, ho.2.2.2.1, ho.2.2.2.2, trivial⟩, ?_⟩
  show semMany [.bool] (t_14 _).2 = semMany [.bool] [L.ev e (V 100)]
  exact (semB r0 rfl)
end Rx.S
namespace Go.Proofs.Ytjipnabidebgbaa.voteEnds
open Go.ChangeShapes Go.WideShapes Go.ChangeAt Go.RowKit Rx
set_option linter.unusedVariables false
theorem own : ownKnob Try.prog.godebug = none := by kernel_rfl
set_option maxRecDepth 100000 in
theorem lifted (os : Os) (started : os.Started) (H : Type) (enc : TypeId × Value → H) :
    ReturnsInHanded {} Try.checked os 14 .any (Rows.voteEndsSpec.pre6 enc Try.prog Try.f14 Rows.voteEndsRow.domain false) (Rows.voteEndsSpec.post enc Try.prog Try.f14 false true false false) := by
  refine returnsInHanded_of_change_sized (C := Try.checked) own started (by kernel_rfl) Try.func14
    (ChangeSpec.witness6 (enc := enc) (C := Try.checked) false ⟨#[], #[.int .u8 0, .agg #[.int .i64 0, .int .i64 0, .int .i64 0, .int .i64 0, .int .i64 0, .int .i64 0, .int .i64 0, .int .i64 0, .int .i64 0, .int .i64 0, .int .i64 0, .int .i64 0]], []⟩ 8 (by kernel_rfl) (by kernel_rfl) (by kernel_rfl) (by kernel_rfl)) ?_
  intro W base args ds gs before hval0 hW hcnd hsz0 _
  have hval : ∀ (j : Nat) t v, Try.f14.params[j]? = some t → args[j]? = some v → Value.okWide Try.prog W .any base t v := hval0
  have hW' := hW
  obtain ⟨p, q, hA0, hV, rfl, hfz, hnd⟩ := hW
  have hA : DataW.TrodAll enc Try.prog W 0 (fun _ => true) true Try.f14.params.toList args.toList ds p := hA0
  rw [Try.params14] at hA hval
  obtain ⟨v0, vs0, d0, ds0, p0, q0, hargs, rfl, rfl, h0, r0⟩ := trodAll_cons hA
  obtain ⟨v1, vs1, d1, ds1, p1, q1, rfl, rfl, rfl, h1, r1⟩ := trodAll_cons r0
  obtain ⟨rfl, rfl, rfl⟩ := trodAll_nil r1
  obtain rfl : args = #[v0, v1] := by cases args; simp_all
  obtain ⟨rfl, rfl⟩ := trodVars_none hV
  obtain ⟨l0, e0, o0⟩ := open_arg S.tysOk (n := 10) (t := 5) rfl rfl (hval 0 5 v0 rfl rfl) h0
  obtain ⟨x0, _, rfl, k0, rfl⟩ := e0
  obtain ⟨l1, e1, o1⟩ := open_arg S.tysOk (n := 10) (t := 77) rfl rfl (hval 1 77 v1 rfl rfl) h1
  obtain ⟨x1, _, rfl, k1, x2, _, rfl, k2, x3, _, rfl, k3, x4, _, rfl, k4, x5, _, rfl, k5, x6, _, rfl, k6, x7, _, rfl, k7, x8, _, rfl, k8, x9, _, rfl, k9, x10, _, rfl, k10, x11, _, rfl, k11, x12, _, rfl, k12, rfl⟩ := e1
  have hargs : ArgsRel W S.c_law11_VoteEnds.ps [v0, v1] [x0, x1, x2, x3, x4, x5, x6, x7, x8, x9, x10, x11, x12] := ⟨v0, _, [x0], _, rfl, rfl, o0, ⟨v1, _, [x1, x2, x3, x4, x5, x6, x7, x8, x9, x10, x11, x12], _, rfl, rfl, o1, ⟨rfl, rfl⟩⟩⟩
  have f0 := leaf_u8 k0
  have f1 := leaf_i64 k1
  have f2 := leaf_i64 k2
  have f3 := leaf_i64 k3
  have f4 := leaf_i64 k4
  have f5 := leaf_i64 k5
  have f6 := leaf_i64 k6
  have f7 := leaf_i64 k7
  have f8 := leaf_i64 k8
  have f9 := leaf_i64 k9
  have f10 := leaf_i64 k10
  have f11 := leaf_i64 k11
  have f12 := leaf_i64 k12
  have hp : (S.t_14 [x0, x1, x2, x3, x4, x5, x6, x7, x8, x9, x10, x11, x12]).1 = true := by
    simp [S.t_14, gi, gb, gs, gv, Day.ND.i64, Day.HB.i64, Day.all8, Day.HB.a, f0, f1, f2, f3, f4, f5, f6, f7, f8, f9, f10, f11, f12]
  refine (law_calls S.ctr_law11_VoteEnds (fun _ => rfl) rfl hargs (by rw [show S.c_law11_VoteEnds.f = 14 from rfl, S.T_14]; exact hp) (by rw [show S.c_law11_VoteEnds.f = 14 from rfl, S.T_14]; rfl)).mono fun e W2 ⟨he, bel⟩ => ?_
  subst he
  have b0 := Below.trod Seat.laidOut (by kernel_rfl) (of_decide_eq_true (by kernel_rfl)) h0 bel (fun x hx => by simpa using hW'.lt x (by simp [hx]))
  have b1 := Below.trod Seat.laidOut (by kernel_rfl) (of_decide_eq_true (by kernel_rfl)) h1 bel (fun x hx => by simpa using hW'.lt x (by simp [hx]))
  exact ⟨_, rfl, _, _, _, [], _, [], hW', trodAll_mk1 (shut_bool Try.underlying4 _), (trodAll_cons_mk b0 (trodAll_cons_mk b1 trodAll_mk0)), rfl, bel.frame _, fun h => by cases h⟩
theorem facts : joinedFacts Try.prog 14 Try.f14 Rows.voteEndsSpec Rows.voteEndsRow = true :=
  Seat.facts Seat.enter Seat.lifts Seat.made Seat.laidOut Seat.rowed Seat.heard 14 Try.f14 Rows.voteEndsSpec Rows.voteEndsRow ((rfl : Rows.voteEndsRow.plainKeys = true).trans Seat.keys) (by kernel_rfl) (by kernel_rfl) (by kernel_rfl) (by kernel_rfl) (by kernel_rfl) (by kernel_rfl) (by kernel_rfl) (by kernel_rfl)
theorem named : Try.prog.funcNamed Rows.voteEndsRow.func = some 14 := by kernel_rfl
theorem inst : Try.f14.isInstance Try.prog Rows.voteEndsRow.origin Rows.voteEndsRow.targs := of_decide_eq_true (by kernel_rfl)
theorem wrapped : Try.f14.isWrapper Try.prog Rows.voteEndsRow.wrapper Rows.voteEndsRow.mainSum := by unfold Func.isWrapper; rw [if_neg (by decide +kernel)]; exact ⟨rfl, rfl⟩
theorem over : Rows.voteEndsRow.holds Try.pinned (OpenSpec.ofChange Rows.voteEndsSpec) :=
  OpenClaim.holds_of_wide 14 Try.f14 rfl rfl rfl rfl rfl rfl rfl ⟨rfl, rfl, rfl, rfl, rfl⟩ rfl rfl rfl rfl rfl named Try.func14 facts inst wrapped
    (fun os started H enc _ => lifted os started H enc)
theorem proved : Rows.VoteEndsSaid := over
end Go.Proofs.Ytjipnabidebgbaa.voteEnds
namespace Go.Proofs.Ytjipnabidebgbaa
/-- The row, under a short name, for the claim. -/
theorem voteEnds_holds : Rows.VoteEndsSaid := voteEnds.proved
end Go.Proofs.Ytjipnabidebgbaa
