/- Four rounds and a tick in which nothing is taken in make any hub hold nothing, and relay the next Cs; without the document's answer. -/
import Derived.Test.YtjipnabidebgbaaXc
import Derived.Test.YtjipnabidebgbaaXe
import Derived.Test.YtjipnabidebgbaaXf
import Derived.Test.YtjipnabidebgbaaXhub
import Derived.Test.YtjipnabidebgbaaXvoteb
import Derived.Test.YtjipnabidebgbaaXlaw13
import Derived.Test.YtjipnabidebgbaaYHubForgets
import Derived.Test.YtjipnabidebgbaaRows
import Derived.Test.YtjipnabidebgbaaSeat
import Derived.WalkKit
import Derived.ProofKit
import Derived.OpenShut
import Derived.ShutString
import Derived.ChangeOld
import Derived.Below
import Derived.SizedLaws
set_option linter.unusedVariables false
set_option linter.unusedSimpArgs false
namespace Rx.S
open Go Rx Go.Proofs
set_option maxRecDepth 100000
set_option maxHeartbeats 4000000
set_option linter.unusedVariables false
def c_law13_HubForgets : Ctr := { f := 27, ps := [.c false [.int .u8], .c true [.int .i64, .int .i64, .int .i64, .int .i64, .int .i64, .int .i64, .int .i64, .int .i64, .int .i64, .int .i64, .int .i64, .int .i64], .c false [.int .u8]], rs := [(false, [.bool])], ok := fun _ => true }
noncomputable def fns_law13_HubForgets : List (Nat × Func) := [(27, Try.f27), (97, Try.f97), (118, Try.f118), (119, Try.f119)]
theorem fnsOk_law13_HubForgets : FnsAll Try.prog fns_law13_HubForgets := ⟨fn27, fn97, fn118, fn119, trivial⟩
noncomputable def X_law13_HubForgets_0 : Ctx := { tys := tys, eqs := eqs, fns := fun f => look f fns_law13_HubForgets, ctr := [(97, c_ref11_Right), (119, c_hub_Step), (118, c_law13_awake)], lim := 30, big := [], lps := [] }
theorem xok_law13_HubForgets_0 : XL Try.prog T X_law13_HubForgets_0 where
  tys := tysOk
  eqs := eqsOk
  mixed := mixed
  ctr := ctrsOK_of ⟨⟨rfl, ctr_ref11_Right⟩, ⟨rfl, ctr_hub_Step⟩, ⟨rfl, ctr_law13_awake⟩, trivial⟩
  fns := fnsOK_of fnsOk_law13_HubForgets
  big := bigsOK_of trivial
  lps := lps_nil rfl
theorem lpok_1860 : ∀ fn body c, X_law13_HubForgets_0.fns lp_1860.f = some fn → fn.body = some body → subAt lp_1860.p body = some (.loop c) → LoopOK Try.prog T lp_1860 c :=
  loop_of xok_law13_HubForgets_0 widths (g := g_L1860) (back := some (V 70, [V 0, V 1, V 2, V 3, V 4, V 5, V 6, V 7, V 8, V 9, V 10, V 11, V 12, V 13, V 14, V 68, V 16, V 17, V 18, V 19, V 37, V 38, V 39, V 40, V 41, V 42, V 43, V 44, V 45, V 46, V 47, V 48, V 32])) (exs := [(V 71, [some (V 20), some (V 21), some (V 22), some (V 23), some (V 24), some (V 25), some (V 26), some (V 27), some (V 28), some (V 29), some (V 30), some (V 31), some (B true), none, none, none, none, none, none, none, none, none, none, none, none, none]), (V 35, [none, none, none, none, none, none, none, none, none, none, none, none, none, some (V 20), some (V 21), some (V 22), some (V 23), some (V 24), some (V 25), some (V 26), some (V 27), some (V 28), some (V 29), some (V 30), some (V 31), some (B true)])]) (by kernel_rfl) (fun aq => by rw [show lp_1860.id = 1860 from rfl, T_1860]; rfl) m_1860 fun aq e h1 h2 h3 => by
    rw [show lp_1860.id = 1860 from rfl, T_1860] at h2 ⊢
    exact lpure_1860 aq e h1 h2 h3
noncomputable def X_law13_HubForgets : Ctx := { tys := tys, eqs := eqs, fns := fun f => look f fns_law13_HubForgets, ctr := [(97, c_ref11_Right), (119, c_hub_Step), (118, c_law13_awake)], lim := 30, big := [], lps := [lp_1860] }
theorem xok_law13_HubForgets : XL Try.prog T X_law13_HubForgets where
  tys := tysOk
  eqs := eqsOk
  mixed := mixed
  ctr := ctrsOK_of ⟨⟨rfl, ctr_ref11_Right⟩, ⟨rfl, ctr_hub_Step⟩, ⟨rfl, ctr_law13_awake⟩, trivial⟩
  fns := fnsOK_of fnsOk_law13_HubForgets
  big := bigsOK_of trivial
  lps := lpsOK_of ⟨lpok_1860, trivial⟩
theorem ctr_law13_HubForgets : CtrOK Try.prog T c_law13_HubForgets := ctr_of xok_law13_HubForgets widths (g := g_law13_HubForgets) (ls := [V 129]) (by kernel_rfl) (fun aq => by rw [show c_law13_HubForgets.f = 27 from rfl, T_27]; rfl) fun aq e h1 h2 h3 => by
  subst h1
  rw [show c_law13_HubForgets.f = 27 from rfl, T_27] at h2 ⊢
  obtain ⟨ho, hr⟩ := pure_law13_HubForgets e h3 h2
  have r0 := hr
  refine ⟨⟨ho.1, ho.2.1, ho.2.2.1, ho.2.2.2.1, ho.2.2.2.2.1, ho.2.2.2.2.2.1, ho.2.2.2.2.2.2.1, ho.2.2.2.2.2.2.2.1, ho.2.2.2.2.2.2.2.2.1, ho.2.2.2.2.2.2.2.2.2.1, ho.2.2.2.2.2.2.2.2.2.2, trivial⟩, ?_⟩
  show semMany [.bool] (t_27 _).2 = semMany [.bool] [L.ev e (V 129)]
  exact (semB r0 rfl)
end Rx.S
namespace Go.Proofs.Ytjipnabidebgbaa.hubForgets
open Go.ChangeShapes Go.WideShapes Go.ChangeAt Go.RowKit Rx
set_option linter.unusedVariables false
theorem own : ownKnob Try.prog.godebug = none := by kernel_rfl
set_option maxRecDepth 100000 in
theorem lifted (os : Os) (started : os.Started) (H : Type) (enc : TypeId × Value → H) :
    ReturnsInHanded {} Try.checked os 27 .any (Rows.hubForgetsSpec.pre6 enc Try.prog Try.f27 Rows.hubForgetsRow.domain false) (Rows.hubForgetsSpec.post enc Try.prog Try.f27 false true false false) := by
  refine returnsInHanded_of_change_sized (C := Try.checked) own started (by kernel_rfl) Try.func27
    (ChangeSpec.witness6 (enc := enc) (C := Try.checked) false ⟨#[], #[.int .u8 0, .agg #[.int .i64 0, .int .i64 0, .int .i64 0, .int .i64 0, .int .i64 0, .int .i64 0, .int .i64 0, .int .i64 0, .int .i64 0, .int .i64 0, .int .i64 0, .int .i64 0], .int .u8 0], []⟩ 8 (by kernel_rfl) (by kernel_rfl) (by kernel_rfl) (by kernel_rfl)) ?_
  intro W base args ds gs before hval0 hW hcnd hsz0 _
  have hval : ∀ (j : Nat) t v, Try.f27.params[j]? = some t → args[j]? = some v → Value.okWide Try.prog W .any base t v := hval0
  have hW' := hW
  obtain ⟨p, q, hA0, hV, rfl, hfz, hnd⟩ := hW
  have hA : DataW.TrodAll enc Try.prog W 0 (fun _ => true) true Try.f27.params.toList args.toList ds p := hA0
  rw [Try.params27] at hA hval
  obtain ⟨v0, vs0, d0, ds0, p0, q0, hargs, rfl, rfl, h0, r0⟩ := trodAll_cons hA
  obtain ⟨v1, vs1, d1, ds1, p1, q1, rfl, rfl, rfl, h1, r1⟩ := trodAll_cons r0
  obtain ⟨v2, vs2, d2, ds2, p2, q2, rfl, rfl, rfl, h2, r2⟩ := trodAll_cons r1
  obtain ⟨rfl, rfl, rfl⟩ := trodAll_nil r2
  obtain rfl : args = #[v0, v1, v2] := by cases args; simp_all
  obtain ⟨rfl, rfl⟩ := trodVars_none hV
  obtain ⟨l0, e0, o0⟩ := open_arg S.tysOk (n := 10) (t := 5) rfl rfl (hval 0 5 v0 rfl rfl) h0
  obtain ⟨x0, _, rfl, k0, rfl⟩ := e0
  obtain ⟨l1, e1, o1⟩ := open_arg S.tysOk (n := 10) (t := 77) rfl rfl (hval 1 77 v1 rfl rfl) h1
  obtain ⟨x1, _, rfl, k1, x2, _, rfl, k2, x3, _, rfl, k3, x4, _, rfl, k4, x5, _, rfl, k5, x6, _, rfl, k6, x7, _, rfl, k7, x8, _, rfl, k8, x9, _, rfl, k9, x10, _, rfl, k10, x11, _, rfl, k11, x12, _, rfl, k12, rfl⟩ := e1
  obtain ⟨l2, e2, o2⟩ := open_arg S.tysOk (n := 10) (t := 5) rfl rfl (hval 2 5 v2 rfl rfl) h2
  obtain ⟨x13, _, rfl, k13, rfl⟩ := e2
  have hargs : ArgsRel W.cell? S.c_law13_HubForgets.ps [v0, v1, v2] [x0, x1, x2, x3, x4, x5, x6, x7, x8, x9, x10, x11, x12, x13] := ⟨v0, _, [x0], _, rfl, rfl, o0, ⟨v1, _, [x1, x2, x3, x4, x5, x6, x7, x8, x9, x10, x11, x12], _, rfl, rfl, o1, ⟨v2, _, [x13], _, rfl, rfl, o2, ⟨rfl, rfl⟩⟩⟩⟩
  have f0 := leaf_u8 k0
  have f1 := leaf_i64 k1
  have f2 := leaf_i64 k2
  have f3 := leaf_i64 k3
  have f4 := leaf_i64 k4
  have f5 := leaf_i64 k5
  have f6 := leaf_i64 k6
  have f7 := leaf_i64 k7
  have f8 := leaf_i64 k8
  have f9 := leaf_i64 k9
  have f10 := leaf_i64 k10
  have f11 := leaf_i64 k11
  have f12 := leaf_i64 k12
  have f13 := leaf_u8 k13
  have hp : (S.t_27 [x0, x1, x2, x3, x4, x5, x6, x7, x8, x9, x10, x11, x12, x13]).1 = true := by
    simp [S.t_27, gi, gb, gs, gv, ge, Day.ND.i64, Day.HB.i64, Day.all8, Day.HB.a, Day.Ls.ok, Day.Ts.ok, f0, f1, f2, f3, f4, f5, f6, f7, f8, f9, f10, f11, f12, f13]
  refine (law_calls S.ctr_law13_HubForgets (fun _ => rfl) rfl hargs (by rw [show S.c_law13_HubForgets.f = 27 from rfl, S.T_27]; exact hp) (by rw [show S.c_law13_HubForgets.f = 27 from rfl, S.T_27]; rfl)).mono fun e W2 ⟨he, bel⟩ => ?_
  subst he
  have b0 := Below.trod Seat.laidOut (by kernel_rfl) (of_decide_eq_true (by kernel_rfl)) h0 bel (fun x hx => by simpa using hW'.lt x (by simp [hx]))
  have b1 := Below.trod Seat.laidOut (by kernel_rfl) (of_decide_eq_true (by kernel_rfl)) h1 bel (fun x hx => by simpa using hW'.lt x (by simp [hx]))
  have b2 := Below.trod Seat.laidOut (by kernel_rfl) (of_decide_eq_true (by kernel_rfl)) h2 bel (fun x hx => by simpa using hW'.lt x (by simp [hx]))
  exact ⟨_, rfl, _, _, _, [], _, [], hW', trodAll_mk1 (shut_bool Try.underlying4 _), (trodAll_cons_mk b0 (trodAll_cons_mk b1 (trodAll_cons_mk b2 trodAll_mk0))), rfl, bel.frame _, fun h => by cases h⟩
theorem facts : joinedFacts Try.prog 27 Try.f27 Rows.hubForgetsSpec Rows.hubForgetsRow = true :=
  Seat.facts Seat.enter Seat.lifts Seat.made Seat.laidOut Seat.rowed Seat.heard 27 Try.f27 Rows.hubForgetsSpec Rows.hubForgetsRow ((rfl : Rows.hubForgetsRow.plainKeys = true).trans Seat.keys) (by kernel_rfl) (by kernel_rfl) (by kernel_rfl) (by kernel_rfl) (by kernel_rfl) (by kernel_rfl) (by kernel_rfl) (by kernel_rfl)
theorem named : Try.prog.funcNamed Rows.hubForgetsRow.func = some 27 := by kernel_rfl
theorem inst : Try.f27.isInstance Try.prog Rows.hubForgetsRow.origin Rows.hubForgetsRow.targs := of_decide_eq_true (by kernel_rfl)
theorem wrapped : Try.f27.isWrapper Try.prog Rows.hubForgetsRow.wrapper Rows.hubForgetsRow.mainSum := by unfold Func.isWrapper; rw [if_neg (by decide +kernel)]; exact ⟨rfl, rfl⟩
theorem over : Rows.hubForgetsRow.holds Try.pinned (OpenSpec.ofChange Rows.hubForgetsSpec) :=
  OpenClaim.holds_of_wide 27 Try.f27 rfl rfl rfl rfl rfl rfl rfl ⟨rfl, rfl, rfl, rfl, rfl⟩ rfl rfl rfl rfl rfl named Try.func27 facts inst wrapped
    (fun os started H enc _ => lifted os started H enc)
theorem proved : Rows.HubForgetsSaid := over
end Go.Proofs.Ytjipnabidebgbaa.hubForgets
namespace Go.Proofs.Ytjipnabidebgbaa
/-- The row, under a short name, for the claim. -/
theorem hubForgets_holds : Rows.HubForgetsSaid := hubForgets.proved
end Go.Proofs.Ytjipnabidebgbaa
