/- What any hub is behind any ticks (100 at most), and what it relays in each, or why there is none, are the document's. -/
import Derived.Test.YtjipnabidebgbaaHXc
import Derived.Test.YtjipnabidebgbaaHXe
import Derived.Test.YtjipnabidebgbaaHXf
import Derived.Test.YtjipnabidebgbaaHXhub
import Derived.Test.YtjipnabidebgbaaHXlaw13
import Derived.Test.YtjipnabidebgbaaHXport
import Derived.Test.YtjipnabidebgbaaHYHubTells
import Derived.Test.YtjipnabidebgbaaRows
import Derived.Test.YtjipnabidebgbaaSeat
import Derived.WalkKit
import Derived.ProofKit
import Derived.OpenShut
import Derived.ShutString
import Derived.ChangeOld
import Derived.Below
import Derived.SizedLaws
set_option linter.unusedVariables false
set_option linter.unusedSimpArgs false
namespace Rx.S
open Go Rx Go.Proofs
set_option maxRecDepth 100000
set_option maxHeartbeats 4000000
def c_law13_HubTells : Ctr := { f := 28, ps := [.c false [.int .i64], .c true [.int .i64, .int .i64, .int .i64, .int .i64, .int .i64, .int .i64, .int .i64, .int .i64, .int .i64, .int .i64, .int .i64, .int .i64], .lst [.sl [.int .i64, .int .i64]]], rs := [(false, [.bool])], ok := fun _ => true }
noncomputable def fns_law13_HubTells : List (Nat × Func) := [(28, Try.f28), (117, Try.f117), (118, Try.f118), (120, Try.f120), (121, Try.f121), (119, Try.f119), (122, Try.f122), (123, Try.f123)]
theorem fnsOk_law13_HubTells : FnsAll Try.prog fns_law13_HubTells := ⟨fn28, fn117, fn118, fn120, fn121, fn119, fn122, fn123, trivial⟩
noncomputable def X_law13_HubTells : Ctx := { tys := tys, eqs := eqs, fns := fun f => look f fns_law13_HubTells, ctr := [(119, c_hub_Step), (122, c_ref13_Step), (117, c_ref13_Few), (123, c_ref10_Same), (118, c_law13_awake)], lim := 30, big := [(120, c_hub_Run), (121, c_ref13_Run)], lps := [] }
theorem xok_law13_HubTells : XL Try.prog T X_law13_HubTells where
 tys := tysOk
 eqs := eqsOk
 mixed := mixed
 ctr := ctrsOK_of ⟨⟨rfl, ctr_hub_Step⟩, ⟨rfl, ctr_ref13_Step⟩, ⟨rfl, ctr_ref13_Few⟩, ⟨rfl, ctr_ref10_Same⟩, ⟨rfl, ctr_law13_awake⟩, trivial⟩
 fns := fnsOK_of fnsOk_law13_HubTells
 big := bigsOK_of ⟨⟨rfl, ctr_hub_Run⟩, ⟨rfl, ctr_ref13_Run⟩, trivial⟩
 lps := lps_nil rfl
theorem ctr_law13_HubTells : CtrOK Try.prog T c_law13_HubTells := ctr_of xok_law13_HubTells widths (g := g_law13_HubTells) (ls := [V 180]) (by kernel_rfl) (fun aq => by rw [show c_law13_HubTells.f = 28 from rfl, T_28]; rfl) fun aq e h1 h2 h3 => by
 subst h1
 rw [show c_law13_HubTells.f = 28 from rfl, T_28] at h2 ⊢
 obtain ⟨ho, hr⟩ := pure_law13_HubTells e h3 _ rfl h2
 have r0 := hr
 refine ⟨⟨ho.1, ho.2.1, ho.2.2.1, ho.2.2.2.1, ho.2.2.2.2.1, ho.2.2.2.2.2.1, ho.2.2.2.2.2.2.1, ho.2.2.2.2.2.2.2.1, ho.2.2.2.2.2.2.2.2.1, ho.2.2.2.2.2.2.2.2.2, trivial⟩, ?_⟩
 show semMany [.bool] (t_28 _).2 = semMany [.bool] [L.ev e (V 180)]
 exact (semB r0 rfl)
end Rx.S
namespace Go.Proofs.Ytjipnabidebgbaa.hubTells
open Go.ChangeShapes Go.WideShapes Go.ChangeAt Go.RowKit Rx
theorem own : ownKnob Try.prog.godebug = none := by kernel_rfl
set_option maxRecDepth 100000 in
theorem lifted (os : Os) (started : os.Started) (H : Type) (enc : TypeId × Value → H) :
    ReturnsInHanded {} Try.checked os 28 .any (Rows.hubTellsSpec.pre6 enc Try.prog Try.f28 Rows.hubTellsRow.domain false) (Rows.hubTellsSpec.post enc Try.prog Try.f28 false true false false) := by
  refine returnsInHanded_of_change_sized (C := Try.checked) own started (by kernel_rfl) Try.func28
    (ChangeSpec.witness6 (enc := enc) (C := Try.checked) false ⟨#[], #[.int .i64 0, .agg #[.int .i64 0, .int .i64 0, .int .i64 0, .int .i64 0, .int .i64 0, .int .i64 0, .int .i64 0, .int .i64 0, .int .i64 0, .int .i64 0, .int .i64 0, .int .i64 0], .slice none 0 0], []⟩ 8 (by kernel_rfl) (by kernel_rfl) (by kernel_rfl) (by kernel_rfl)) ?_
  intro W base args ds gs before hval0 hW hcnd hsz0 _
  have hval : ∀ (j : Nat) t v, Try.f28.params[j]? = some t → args[j]? = some v → Value.okWide Try.prog W .any base t v := hval0
  have hW' := hW
  obtain ⟨p, q, hA0, hV, rfl, hfz, hnd⟩ := hW
  have hA : DataW.TrodAll enc Try.prog W 0 (fun _ => true) true Try.f28.params.toList args.toList ds p := hA0
  rw [Try.params28] at hA hval
  obtain ⟨v0, vs0, d0, ds0, p0, q0, hargs, rfl, rfl, h0, r0⟩ := trodAll_cons hA
  obtain ⟨v1, vs1, d1, ds1, p1, q1, rfl, rfl, rfl, h1, r1⟩ := trodAll_cons r0
  obtain ⟨v2, vs2, d2, ds2, p2, q2, rfl, rfl, rfl, h2, r2⟩ := trodAll_cons r1
  obtain ⟨rfl, rfl, rfl⟩ := trodAll_nil r2
  obtain rfl : args = #[v0, v1, v2] := by cases args; simp_all
  obtain ⟨rfl, rfl⟩ := trodVars_none hV
  obtain ⟨l0, e0, o0⟩ := open_arg S.tysOk (n := 10) (t := 3) rfl rfl (hval 0 3 v0 rfl rfl) h0
  obtain ⟨x0, _, rfl, k0, rfl⟩ := e0
  obtain ⟨l1, e1, o1⟩ := open_arg S.tysOk (n := 10) (t := 77) rfl rfl (hval 1 77 v1 rfl rfl) h1
  obtain ⟨x1, _, rfl, k1, x2, _, rfl, k2, x3, _, rfl, k3, x4, _, rfl, k4, x5, _, rfl, k5, x6, _, rfl, k6, x7, _, rfl, k7, x8, _, rfl, k8, x9, _, rfl, k9, x10, _, rfl, k10, x11, _, rfl, k11, x12, _, rfl, k12, rfl⟩ := e1
  obtain ⟨as2, m2, k13, len2, le2, o2⟩ := open_lst S.tysOk (n := 10) (t := 108) (ss := [.sl [.int .i64, .int .i64]]) rfl rfl (by rfl) (by decide) (hval 2 108 v2 rfl rfl) h2
  have hargs : ArgsRel W.cell? S.c_law13_HubTells.ps [v0, v1, v2] [x0, x1, x2, x3, x4, x5, x6, x7, x8, x9, x10, x11, x12, .l as2, .i m2] := ⟨v0, _, [x0], _, rfl, rfl, o0, ⟨v1, _, [x1, x2, x3, x4, x5, x6, x7, x8, x9, x10, x11, x12], _, rfl, rfl, o1, ⟨v2, _, [.l as2, .i m2], _, rfl, rfl, o2, ⟨rfl, rfl⟩⟩⟩⟩
  have g2 : ((m2 : Nat) : Int) ≤ 9223372036854775807 := by
    have e : maxLen = 9223372036854775807 := by decide
    omega
  have f0 := leaf_i64 k0
  have f1 := leaf_i64 k1
  have f2 := leaf_i64 k2
  have f3 := leaf_i64 k3
  have f4 := leaf_i64 k4
  have f5 := leaf_i64 k5
  have f6 := leaf_i64 k6
  have f7 := leaf_i64 k7
  have f8 := leaf_i64 k8
  have f9 := leaf_i64 k9
  have f10 := leaf_i64 k10
  have f11 := leaf_i64 k11
  have f12 := leaf_i64 k12
  have hp : (S.t_28 [x0, x1, x2, x3, x4, x5, x6, x7, x8, x9, x10, x11, x12, .l as2, .i m2]).1 = true := by
    simp [S.t_28, gi, gb, gs, gv, ge, Day.ND.i64, Day.HB.i64, Day.all8, Day.HB.a, Day.Ls.ok, Day.Ts.ok, f0, f1, f2, f3, f4, f5, f6, f7, f8, f9, f10, f11, f12, g2]
  refine (law_calls S.ctr_law13_HubTells (fun _ => rfl) rfl hargs (by rw [show S.c_law13_HubTells.f = 28 from rfl, S.T_28]; exact hp) (by rw [show S.c_law13_HubTells.f = 28 from rfl, S.T_28]; rfl)).mono fun e W2 ⟨he, bel⟩ => ?_
  subst he
  have b0 := Below.trod Seat.laidOut (by kernel_rfl) (of_decide_eq_true (by kernel_rfl)) h0 bel (fun x hx => by simpa using hW'.lt x (by simp [hx]))
  have b1 := Below.trod Seat.laidOut (by kernel_rfl) (of_decide_eq_true (by kernel_rfl)) h1 bel (fun x hx => by simpa using hW'.lt x (by simp [hx]))
  have b2 := Below.trod Seat.laidOut (by kernel_rfl) (of_decide_eq_true (by kernel_rfl)) h2 bel (fun x hx => by simpa using hW'.lt x (by simp [hx]))
  exact ⟨_, rfl, _, _, _, [], _, [], hW', trodAll_mk1 (shut_bool Try.underlying4 _), (trodAll_cons_mk b0 (trodAll_cons_mk b1 (trodAll_cons_mk b2 trodAll_mk0))), rfl, bel.frame _, fun h => by cases h⟩
theorem facts : joinedFacts Try.prog 28 Try.f28 Rows.hubTellsSpec Rows.hubTellsRow = true :=
  Seat.facts Seat.enter Seat.lifts Seat.made Seat.laidOut Seat.rowed Seat.heard 28 Try.f28 Rows.hubTellsSpec Rows.hubTellsRow ((rfl : Rows.hubTellsRow.plainKeys = true).trans Seat.keys) (by kernel_rfl) (by kernel_rfl) (by kernel_rfl) (by kernel_rfl) (by kernel_rfl) (by kernel_rfl) (by kernel_rfl) (by kernel_rfl)
theorem named : Try.prog.funcNamed Rows.hubTellsRow.func = some 28 := by kernel_rfl
theorem inst : Try.f28.isInstance Try.prog Rows.hubTellsRow.origin Rows.hubTellsRow.targs := of_decide_eq_true (by kernel_rfl)
theorem wrapped : Try.f28.isWrapper Try.prog Rows.hubTellsRow.wrapper Rows.hubTellsRow.mainSum := by unfold Func.isWrapper; rw [if_neg (by decide +kernel)]; exact ⟨rfl, rfl⟩
theorem over : Rows.hubTellsRow.holds Try.pinned (OpenSpec.ofChange Rows.hubTellsSpec) :=
  OpenClaim.holds_of_wide 28 Try.f28 rfl rfl rfl rfl rfl rfl rfl ⟨rfl, rfl, rfl, rfl, rfl⟩ rfl rfl rfl rfl rfl named Try.func28 facts inst wrapped
    (fun os started H enc _ => lifted os started H enc)
theorem proved : Rows.HubTellsSaid := over
end Go.Proofs.Ytjipnabidebgbaa.hubTells
namespace Go.Proofs.Ytjipnabidebgbaa
/-- The row, under a short name, for the claim. -/
theorem hubTells_holds : Rows.HubTellsSaid := hubTells.proved
end Go.Proofs.Ytjipnabidebgbaa
