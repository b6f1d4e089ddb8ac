/- Whether any hub may be, a fresh one, any one made right, and a tick later, how many votes any slot has, and which one has most, are the document's. -/
import Derived.Test.YtjipnabidebgbaaXe
import Derived.Test.YtjipnabidebgbaaXf
import Derived.Test.YtjipnabidebgbaaXvote
import Derived.Test.YtjipnabidebgbaaXlaw11
import Derived.Test.YtjipnabidebgbaaYVoteTells
import Derived.Test.YtjipnabidebgbaaRows
import Derived.Test.YtjipnabidebgbaaSeat
import Derived.WalkKit
import Derived.ProofKit
import Derived.OpenShut
import Derived.ShutString
import Derived.ChangeOld
import Derived.Below
import Derived.SizedLaws
set_option linter.unusedVariables false
set_option linter.unusedSimpArgs false
namespace Rx.S
open Go Rx Go.Proofs
set_option maxRecDepth 100000
set_option maxHeartbeats 4000000
set_option linter.unusedVariables false
def c_law11_VoteTells : Ctr := { f := 15, ps := [.c false [.int .i64], .c false [.int .i64], .c true [.int .i64, .int .i64, .int .i64, .int .i64, .int .i64, .int .i64, .int .i64, .int .i64, .int .i64, .int .i64, .int .i64, .int .i64]], rs := [(false, [.bool])], ok := fun _ => true }
noncomputable def fns_law11_VoteTells : List (Nat × Func) := [(15, Try.f15), (93, Try.f93), (94, Try.f94), (89, Try.f89), (95, Try.f95), (96, Try.f96), (97, Try.f97), (90, Try.f90), (98, Try.f98), (91, Try.f91), (99, Try.f99), (92, Try.f92), (100, Try.f100), (101, Try.f101)]
theorem fnsOk_law11_VoteTells : FnsAll Try.prog fns_law11_VoteTells := ⟨fn15, fn93, fn94, fn89, fn95, fn96, fn97, fn90, fn98, fn91, fn99, fn92, fn100, fn101, trivial⟩
noncomputable def X_law11_VoteTells : Ctx := { tys := tys, eqs := eqs, fns := fun f => look f fns_law11_VoteTells, ctr := [(89, c_vote_Clean), (96, c_vote_Right), (93, c_vote_Fresh), (90, c_vote_Tick), (97, c_ref11_Right), (95, c_ref11_Clean), (94, c_ref11_Fresh), (98, c_ref11_Tick), (101, c_ref11_Votes), (99, c_ref11_Best), (100, c_vote_Votes), (91, c_vote_Best), (92, c_law11_awake)], lim := 30, big := [], lps := [] }
theorem xok_law11_VoteTells : XL Try.prog T X_law11_VoteTells where
  tys := tysOk
  eqs := eqsOk
  mixed := mixed
  ctr := ctrsOK_of ⟨⟨rfl, ctr_vote_Clean⟩, ⟨rfl, ctr_vote_Right⟩, ⟨rfl, ctr_vote_Fresh⟩, ⟨rfl, ctr_vote_Tick⟩, ⟨rfl, ctr_ref11_Right⟩, ⟨rfl, ctr_ref11_Clean⟩, ⟨rfl, ctr_ref11_Fresh⟩, ⟨rfl, ctr_ref11_Tick⟩, ⟨rfl, ctr_ref11_Votes⟩, ⟨rfl, ctr_ref11_Best⟩, ⟨rfl, ctr_vote_Votes⟩, ⟨rfl, ctr_vote_Best⟩, ⟨rfl, ctr_law11_awake⟩, trivial⟩
  fns := fnsOK_of fnsOk_law11_VoteTells
  big := bigsOK_of trivial
  lps := lps_nil rfl
theorem ctr_law11_VoteTells : CtrOK Try.prog T c_law11_VoteTells := ctr_of xok_law11_VoteTells widths (g := g_law11_VoteTells) (ls := [V 222]) (by kernel_rfl) (fun aq => by rw [show c_law11_VoteTells.f = 15 from rfl, T_15]; rfl) fun aq e h1 h2 h3 => by
  subst h1
  rw [show c_law11_VoteTells.f = 15 from rfl, T_15] at h2 ⊢
  obtain ⟨ho, hr⟩ := pure_law11_VoteTells e h3 h2
  have r0 := hr
  refine ⟨⟨ho.1, ho.2.1, ho.2.2.1, ho.2.2.2.1, ho.2.2.2.2.1, ho.2.2.2.2.2.1, ho.2.2.2.2.2.2.1, ho.2.2.2.2.2.2.2.1, ho.2.2.2.2.2.2.2.2.1, ho.2.2.2.2.2.2.2.2.2.1, ho.2.2.2.2.2.2.2.2.2.2.1, ho.2.2.2.2.2.2.2.2.2.2.2.1, ho.2.2.2.2.2.2.2.2.2.2.2.2, trivial⟩, ?_⟩
  show semMany [.bool] (t_15 _).2 = semMany [.bool] [L.ev e (V 222)]
  exact (semB r0 rfl)
end Rx.S
namespace Go.Proofs.Ytjipnabidebgbaa.voteTells
open Go.ChangeShapes Go.WideShapes Go.ChangeAt Go.RowKit Rx
set_option linter.unusedVariables false
theorem own : ownKnob Try.prog.godebug = none := by kernel_rfl
set_option maxRecDepth 100000 in
theorem lifted (os : Os) (started : os.Started) (H : Type) (enc : TypeId × Value → H) :
    ReturnsInHanded {} Try.checked os 15 .any (Rows.voteTellsSpec.pre6 enc Try.prog Try.f15 Rows.voteTellsRow.domain false) (Rows.voteTellsSpec.post enc Try.prog Try.f15 false true false false) := by
  refine returnsInHanded_of_change_sized (C := Try.checked) own started (by kernel_rfl) Try.func15
    (ChangeSpec.witness6 (enc := enc) (C := Try.checked) false ⟨#[], #[.int .i64 0, .int .i64 0, .agg #[.int .i64 0, .int .i64 0, .int .i64 0, .int .i64 0, .int .i64 0, .int .i64 0, .int .i64 0, .int .i64 0, .int .i64 0, .int .i64 0, .int .i64 0, .int .i64 0]], []⟩ 8 (by kernel_rfl) (by kernel_rfl) (by kernel_rfl) (by kernel_rfl)) ?_
  intro W base args ds gs before hval0 hW hcnd hsz0 _
  have hval : ∀ (j : Nat) t v, Try.f15.params[j]? = some t → args[j]? = some v → Value.okWide Try.prog W .any base t v := hval0
  have hW' := hW
  obtain ⟨p, q, hA0, hV, rfl, hfz, hnd⟩ := hW
  have hA : DataW.TrodAll enc Try.prog W 0 (fun _ => true) true Try.f15.params.toList args.toList ds p := hA0
  rw [Try.params15] at hA hval
  obtain ⟨v0, vs0, d0, ds0, p0, q0, hargs, rfl, rfl, h0, r0⟩ := trodAll_cons hA
  obtain ⟨v1, vs1, d1, ds1, p1, q1, rfl, rfl, rfl, h1, r1⟩ := trodAll_cons r0
  obtain ⟨v2, vs2, d2, ds2, p2, q2, rfl, rfl, rfl, h2, r2⟩ := trodAll_cons r1
  obtain ⟨rfl, rfl, rfl⟩ := trodAll_nil r2
  obtain rfl : args = #[v0, v1, v2] := by cases args; simp_all
  obtain ⟨rfl, rfl⟩ := trodVars_none hV
  obtain ⟨l0, e0, o0⟩ := open_arg S.tysOk (n := 10) (t := 3) rfl rfl (hval 0 3 v0 rfl rfl) h0
  obtain ⟨x0, _, rfl, k0, rfl⟩ := e0
  obtain ⟨l1, e1, o1⟩ := open_arg S.tysOk (n := 10) (t := 3) rfl rfl (hval 1 3 v1 rfl rfl) h1
  obtain ⟨x1, _, rfl, k1, rfl⟩ := e1
  obtain ⟨l2, e2, o2⟩ := open_arg S.tysOk (n := 10) (t := 77) rfl rfl (hval 2 77 v2 rfl rfl) h2
  obtain ⟨x2, _, rfl, k2, x3, _, rfl, k3, x4, _, rfl, k4, x5, _, rfl, k5, x6, _, rfl, k6, x7, _, rfl, k7, x8, _, rfl, k8, x9, _, rfl, k9, x10, _, rfl, k10, x11, _, rfl, k11, x12, _, rfl, k12, x13, _, rfl, k13, rfl⟩ := e2
  have hargs : ArgsRel W S.c_law11_VoteTells.ps [v0, v1, v2] [x0, x1, x2, x3, x4, x5, x6, x7, x8, x9, x10, x11, x12, x13] := ⟨v0, _, [x0], _, rfl, rfl, o0, ⟨v1, _, [x1], _, rfl, rfl, o1, ⟨v2, _, [x2, x3, x4, x5, x6, x7, x8, x9, x10, x11, x12, x13], _, rfl, rfl, o2, ⟨rfl, rfl⟩⟩⟩⟩
  have f0 := leaf_i64 k0
  have f1 := leaf_i64 k1
  have f2 := leaf_i64 k2
  have f3 := leaf_i64 k3
  have f4 := leaf_i64 k4
  have f5 := leaf_i64 k5
  have f6 := leaf_i64 k6
  have f7 := leaf_i64 k7
  have f8 := leaf_i64 k8
  have f9 := leaf_i64 k9
  have f10 := leaf_i64 k10
  have f11 := leaf_i64 k11
  have f12 := leaf_i64 k12
  have f13 := leaf_i64 k13
  have hp : (S.t_15 [x0, x1, x2, x3, x4, x5, x6, x7, x8, x9, x10, x11, x12, x13]).1 = true := by
    simp [S.t_15, gi, gb, gs, gv, Day.ND.i64, Day.HB.i64, Day.all8, Day.HB.a, f0, f1, f2, f3, f4, f5, f6, f7, f8, f9, f10, f11, f12, f13]
  refine (law_calls S.ctr_law11_VoteTells (fun _ => rfl) rfl hargs (by rw [show S.c_law11_VoteTells.f = 15 from rfl, S.T_15]; exact hp) (by rw [show S.c_law11_VoteTells.f = 15 from rfl, S.T_15]; rfl)).mono fun e W2 ⟨he, bel⟩ => ?_
  subst he
  have b0 := Below.trod Seat.laidOut (by kernel_rfl) (of_decide_eq_true (by kernel_rfl)) h0 bel (fun x hx => by simpa using hW'.lt x (by simp [hx]))
  have b1 := Below.trod Seat.laidOut (by kernel_rfl) (of_decide_eq_true (by kernel_rfl)) h1 bel (fun x hx => by simpa using hW'.lt x (by simp [hx]))
  have b2 := Below.trod Seat.laidOut (by kernel_rfl) (of_decide_eq_true (by kernel_rfl)) h2 bel (fun x hx => by simpa using hW'.lt x (by simp [hx]))
  exact ⟨_, rfl, _, _, _, [], _, [], hW', trodAll_mk1 (shut_bool Try.underlying4 _), (trodAll_cons_mk b0 (trodAll_cons_mk b1 (trodAll_cons_mk b2 trodAll_mk0))), rfl, bel.frame _, fun h => by cases h⟩
theorem facts : joinedFacts Try.prog 15 Try.f15 Rows.voteTellsSpec Rows.voteTellsRow = true :=
  Seat.facts Seat.enter Seat.lifts Seat.made Seat.laidOut Seat.rowed Seat.heard 15 Try.f15 Rows.voteTellsSpec Rows.voteTellsRow ((rfl : Rows.voteTellsRow.plainKeys = true).trans Seat.keys) (by kernel_rfl) (by kernel_rfl) (by kernel_rfl) (by kernel_rfl) (by kernel_rfl) (by kernel_rfl) (by kernel_rfl) (by kernel_rfl)
theorem named : Try.prog.funcNamed Rows.voteTellsRow.func = some 15 := by kernel_rfl
theorem inst : Try.f15.isInstance Try.prog Rows.voteTellsRow.origin Rows.voteTellsRow.targs := of_decide_eq_true (by kernel_rfl)
theorem wrapped : Try.f15.isWrapper Try.prog Rows.voteTellsRow.wrapper Rows.voteTellsRow.mainSum := by unfold Func.isWrapper; rw [if_neg (by decide +kernel)]; exact ⟨rfl, rfl⟩
theorem over : Rows.voteTellsRow.holds Try.pinned (OpenSpec.ofChange Rows.voteTellsSpec) :=
  OpenClaim.holds_of_wide 15 Try.f15 rfl rfl rfl rfl rfl rfl rfl ⟨rfl, rfl, rfl, rfl, rfl⟩ rfl rfl rfl rfl rfl named Try.func15 facts inst wrapped
    (fun os started H enc _ => lifted os started H enc)
theorem proved : Rows.VoteTellsSaid := over
end Go.Proofs.Ytjipnabidebgbaa.voteTells
namespace Go.Proofs.Ytjipnabidebgbaa
/-- The row, under a short name, for the claim. -/
theorem voteTells_holds : Rows.VoteTellsSaid := voteTells.proved
end Go.Proofs.Ytjipnabidebgbaa
