/- Votes are one a port at most, but one more for the hub's Port; a tick later each vote that stays is for the next slot; what is made right may be; without the document's answer. -/
import Derived.Test.YtjipnabidebgbaaXe
import Derived.Test.YtjipnabidebgbaaXf
import Derived.Test.YtjipnabidebgbaaXvote
import Derived.Test.YtjipnabidebgbaaXlaw11
import Derived.Test.YtjipnabidebgbaaYVoteFew
import Derived.Test.YtjipnabidebgbaaRows
import Derived.Test.YtjipnabidebgbaaSeat
import Derived.WalkKit
import Derived.ProofKit
import Derived.OpenShut
import Derived.ShutString
import Derived.ChangeOld
import Derived.Below
import Derived.SizedLaws
set_option linter.unusedVariables false
set_option linter.unusedSimpArgs false
namespace Rx.S
open Go Rx Go.Proofs
set_option maxRecDepth 100000
set_option maxHeartbeats 4000000
set_option linter.unusedVariables false
def c_law11_VoteFew : Ctr := { f := 16, ps := [.c false [.int .u8], .c true [.int .i64, .int .i64, .int .i64, .int .i64, .int .i64, .int .i64, .int .i64, .int .i64, .int .i64, .int .i64, .int .i64, .int .i64]], rs := [(false, [.bool])], ok := fun _ => true }
noncomputable def fns_law11_VoteFew : List (Nat × Func) := [(16, Try.f16), (89, Try.f89), (90, Try.f90), (96, Try.f96), (100, Try.f100), (91, Try.f91), (92, Try.f92)]
theorem fnsOk_law11_VoteFew : FnsAll Try.prog fns_law11_VoteFew := ⟨fn16, fn89, fn90, fn96, fn100, fn91, fn92, trivial⟩
noncomputable def X_law11_VoteFew_0 : Ctx := { tys := tys, eqs := eqs, fns := fun f => look f fns_law11_VoteFew, ctr := [(89, c_vote_Clean), (96, c_vote_Right), (90, c_vote_Tick), (100, c_vote_Votes), (91, c_vote_Best), (92, c_law11_awake)], lim := 30, big := [], lps := [] }
theorem xok_law11_VoteFew_0 : XL Try.prog T X_law11_VoteFew_0 where
  tys := tysOk
  eqs := eqsOk
  mixed := mixed
  ctr := ctrsOK_of ⟨⟨rfl, ctr_vote_Clean⟩, ⟨rfl, ctr_vote_Right⟩, ⟨rfl, ctr_vote_Tick⟩, ⟨rfl, ctr_vote_Votes⟩, ⟨rfl, ctr_vote_Best⟩, ⟨rfl, ctr_law11_awake⟩, trivial⟩
  fns := fnsOK_of fnsOk_law11_VoteFew
  big := bigsOK_of trivial
  lps := lps_nil rfl
theorem lpok_1600 : ∀ fn body c, X_law11_VoteFew_0.fns lp_1600.f = some fn → fn.body = some body → subAt lp_1600.p body = some (.loop c) → LoopOK Try.prog T lp_1600 c :=
  loop_of xok_law11_VoteFew_0 widths (g := g_L1600) (back := some (V 69, [V 0, V 1, V 2, V 3, V 4, V 5, V 6, V 7, V 8, V 9, V 10, V 11, V 12, V 13, V 14, V 15, V 53, V 54, V 18, V 19, V 20, V 21, V 22, V 23, V 24, V 25, V 26, V 27, V 28, V 29, V 30, V 31, V 32, V 33, V 34, V 35, V 36, V 37, V 38, V 39, V 40, V 41, V 42, V 43, V 44, V 45, V 46, V 47])) (exs := [(V 70, [some (V 53), some (B true), none, none]), (V 49, [none, none, some (V 16), some (B true)])]) (by kernel_rfl) (fun aq => by rw [show lp_1600.id = 1600 from rfl, T_1600]; rfl) m_1600 fun aq e h1 h2 h3 => by
    rw [show lp_1600.id = 1600 from rfl, T_1600] at h2 ⊢
    exact lpure_1600 aq e h1 h2 h3
noncomputable def X_law11_VoteFew : Ctx := { tys := tys, eqs := eqs, fns := fun f => look f fns_law11_VoteFew, ctr := [(89, c_vote_Clean), (96, c_vote_Right), (90, c_vote_Tick), (100, c_vote_Votes), (91, c_vote_Best), (92, c_law11_awake)], lim := 30, big := [], lps := [lp_1600] }
theorem xok_law11_VoteFew : XL Try.prog T X_law11_VoteFew where
  tys := tysOk
  eqs := eqsOk
  mixed := mixed
  ctr := ctrsOK_of ⟨⟨rfl, ctr_vote_Clean⟩, ⟨rfl, ctr_vote_Right⟩, ⟨rfl, ctr_vote_Tick⟩, ⟨rfl, ctr_vote_Votes⟩, ⟨rfl, ctr_vote_Best⟩, ⟨rfl, ctr_law11_awake⟩, trivial⟩
  fns := fnsOK_of fnsOk_law11_VoteFew
  big := bigsOK_of trivial
  lps := lpsOK_of ⟨lpok_1600, trivial⟩
theorem ctr_law11_VoteFew : CtrOK Try.prog T c_law11_VoteFew := ctr_of xok_law11_VoteFew widths (g := g_law11_VoteFew) (ls := [V 94]) (by kernel_rfl) (fun aq => by rw [show c_law11_VoteFew.f = 16 from rfl, T_16]; rfl) fun aq e h1 h2 h3 => by
  subst h1
  rw [show c_law11_VoteFew.f = 16 from rfl, T_16] at h2 ⊢
  obtain ⟨ho, hr⟩ := pure_law11_VoteFew e h3 h2
  have r0 := hr
  refine ⟨⟨ho.1, ho.2.1, ho.2.2.1, ho.2.2.2.1, ho.2.2.2.2.1, ho.2.2.2.2.2.1, ho.2.2.2.2.2.2.1, ho.2.2.2.2.2.2.2, trivial⟩, ?_⟩
  show semMany [.bool] (t_16 _).2 = semMany [.bool] [L.ev e (V 94)]
  exact (semB r0 rfl)
end Rx.S
namespace Go.Proofs.Ytjipnabidebgbaa.voteFew
open Go.ChangeShapes Go.WideShapes Go.ChangeAt Go.RowKit Rx
set_option linter.unusedVariables false
theorem own : ownKnob Try.prog.godebug = none := by kernel_rfl
set_option maxRecDepth 100000 in
theorem lifted (os : Os) (started : os.Started) (H : Type) (enc : TypeId × Value → H) :
    ReturnsInHanded {} Try.checked os 16 .any (Rows.voteFewSpec.pre6 enc Try.prog Try.f16 Rows.voteFewRow.domain false) (Rows.voteFewSpec.post enc Try.prog Try.f16 false true false false) := by
  refine returnsInHanded_of_change_sized (C := Try.checked) own started (by kernel_rfl) Try.func16
    (ChangeSpec.witness6 (enc := enc) (C := Try.checked) false ⟨#[], #[.int .u8 0, .agg #[.int .i64 0, .int .i64 0, .int .i64 0, .int .i64 0, .int .i64 0, .int .i64 0, .int .i64 0, .int .i64 0, .int .i64 0, .int .i64 0, .int .i64 0, .int .i64 0]], []⟩ 8 (by kernel_rfl) (by kernel_rfl) (by kernel_rfl) (by kernel_rfl)) ?_
  intro W base args ds gs before hval0 hW hcnd hsz0 _
  have hval : ∀ (j : Nat) t v, Try.f16.params[j]? = some t → args[j]? = some v → Value.okWide Try.prog W .any base t v := hval0
  have hW' := hW
  obtain ⟨p, q, hA0, hV, rfl, hfz, hnd⟩ := hW
  have hA : DataW.TrodAll enc Try.prog W 0 (fun _ => true) true Try.f16.params.toList args.toList ds p := hA0
  rw [Try.params16] at hA hval
  obtain ⟨v0, vs0, d0, ds0, p0, q0, hargs, rfl, rfl, h0, r0⟩ := trodAll_cons hA
  obtain ⟨v1, vs1, d1, ds1, p1, q1, rfl, rfl, rfl, h1, r1⟩ := trodAll_cons r0
  obtain ⟨rfl, rfl, rfl⟩ := trodAll_nil r1
  obtain rfl : args = #[v0, v1] := by cases args; simp_all
  obtain ⟨rfl, rfl⟩ := trodVars_none hV
  obtain ⟨l0, e0, o0⟩ := open_arg S.tysOk (n := 10) (t := 5) rfl rfl (hval 0 5 v0 rfl rfl) h0
  obtain ⟨x0, _, rfl, k0, rfl⟩ := e0
  obtain ⟨l1, e1, o1⟩ := open_arg S.tysOk (n := 10) (t := 77) rfl rfl (hval 1 77 v1 rfl rfl) h1
  obtain ⟨x1, _, rfl, k1, x2, _, rfl, k2, x3, _, rfl, k3, x4, _, rfl, k4, x5, _, rfl, k5, x6, _, rfl, k6, x7, _, rfl, k7, x8, _, rfl, k8, x9, _, rfl, k9, x10, _, rfl, k10, x11, _, rfl, k11, x12, _, rfl, k12, rfl⟩ := e1
  have hargs : ArgsRel W S.c_law11_VoteFew.ps [v0, v1] [x0, x1, x2, x3, x4, x5, x6, x7, x8, x9, x10, x11, x12] := ⟨v0, _, [x0], _, rfl, rfl, o0, ⟨v1, _, [x1, x2, x3, x4, x5, x6, x7, x8, x9, x10, x11, x12], _, rfl, rfl, o1, ⟨rfl, rfl⟩⟩⟩
  have f0 := leaf_u8 k0
  have f1 := leaf_i64 k1
  have f2 := leaf_i64 k2
  have f3 := leaf_i64 k3
  have f4 := leaf_i64 k4
  have f5 := leaf_i64 k5
  have f6 := leaf_i64 k6
  have f7 := leaf_i64 k7
  have f8 := leaf_i64 k8
  have f9 := leaf_i64 k9
  have f10 := leaf_i64 k10
  have f11 := leaf_i64 k11
  have f12 := leaf_i64 k12
  have hp : (S.t_16 [x0, x1, x2, x3, x4, x5, x6, x7, x8, x9, x10, x11, x12]).1 = true := by
    simp [S.t_16, gi, gb, gs, gv, Day.ND.i64, Day.HB.i64, Day.all8, Day.HB.a, f0, f1, f2, f3, f4, f5, f6, f7, f8, f9, f10, f11, f12]
  refine (law_calls S.ctr_law11_VoteFew (fun _ => rfl) rfl hargs (by rw [show S.c_law11_VoteFew.f = 16 from rfl, S.T_16]; exact hp) (by rw [show S.c_law11_VoteFew.f = 16 from rfl, S.T_16]; rfl)).mono fun e W2 ⟨he, bel⟩ => ?_
  subst he
  have b0 := Below.trod Seat.laidOut (by kernel_rfl) (of_decide_eq_true (by kernel_rfl)) h0 bel (fun x hx => by simpa using hW'.lt x (by simp [hx]))
  have b1 := Below.trod Seat.laidOut (by kernel_rfl) (of_decide_eq_true (by kernel_rfl)) h1 bel (fun x hx => by simpa using hW'.lt x (by simp [hx]))
  exact ⟨_, rfl, _, _, _, [], _, [], hW', trodAll_mk1 (shut_bool Try.underlying4 _), (trodAll_cons_mk b0 (trodAll_cons_mk b1 trodAll_mk0)), rfl, bel.frame _, fun h => by cases h⟩
theorem facts : joinedFacts Try.prog 16 Try.f16 Rows.voteFewSpec Rows.voteFewRow = true :=
  Seat.facts Seat.enter Seat.lifts Seat.made Seat.laidOut Seat.rowed Seat.heard 16 Try.f16 Rows.voteFewSpec Rows.voteFewRow ((rfl : Rows.voteFewRow.plainKeys = true).trans Seat.keys) (by kernel_rfl) (by kernel_rfl) (by kernel_rfl) (by kernel_rfl) (by kernel_rfl) (by kernel_rfl) (by kernel_rfl) (by kernel_rfl)
theorem named : Try.prog.funcNamed Rows.voteFewRow.func = some 16 := by kernel_rfl
theorem inst : Try.f16.isInstance Try.prog Rows.voteFewRow.origin Rows.voteFewRow.targs := of_decide_eq_true (by kernel_rfl)
theorem wrapped : Try.f16.isWrapper Try.prog Rows.voteFewRow.wrapper Rows.voteFewRow.mainSum := by unfold Func.isWrapper; rw [if_neg (by decide +kernel)]; exact ⟨rfl, rfl⟩
theorem over : Rows.voteFewRow.holds Try.pinned (OpenSpec.ofChange Rows.voteFewSpec) :=
  OpenClaim.holds_of_wide 16 Try.f16 rfl rfl rfl rfl rfl rfl rfl ⟨rfl, rfl, rfl, rfl, rfl⟩ rfl rfl rfl rfl rfl named Try.func16 facts inst wrapped
    (fun os started H enc _ => lifted os started H enc)
theorem proved : Rows.VoteFewSaid := over
end Go.Proofs.Ytjipnabidebgbaa.voteFew
namespace Go.Proofs.Ytjipnabidebgbaa
/-- The row, under a short name, for the claim. -/
theorem voteFew_holds : Rows.VoteFewSaid := voteFew.proved
end Go.Proofs.Ytjipnabidebgbaa
