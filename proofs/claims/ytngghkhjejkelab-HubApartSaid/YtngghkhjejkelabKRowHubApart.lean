/- Between two Cs that are relayed there are more ticks than Block; a Cs is of the least port that says one; nothing is relayed but what a port took in; without the document's answer. -/
import Derived.Test.YtngghkhjejkelabKXc
import Derived.Test.YtngghkhjejkelabKXe
import Derived.Test.YtngghkhjejkelabKXf
import Derived.Test.YtngghkhjejkelabKXg
import Derived.Test.YtngghkhjejkelabKXgate
import Derived.Test.YtngghkhjejkelabKXhub
import Derived.Test.YtngghkhjejkelabKXvoteb
import Derived.Test.YtngghkhjejkelabKXlaw13
import Derived.Test.YtngghkhjejkelabKYHubApart
import Derived.Test.YtngghkhjejkelabRows
import Derived.Test.YtngghkhjejkelabSeat
import Derived.WalkKit
import Derived.ProofKit
import Derived.OpenShut
import Derived.ShutString
import Derived.ChangeOld
import Derived.Below
import Derived.SizedLaws
set_option linter.unusedVariables false
set_option linter.unusedSimpArgs false
namespace Rx.S
open Go Rx Go.Proofs
set_option maxRecDepth 100000
set_option maxHeartbeats 4000000
def c_law13_HubApart : Ctr := { f := 3, ps := [.c false [.int .u8], .c true [.int .i64, .int .i64, .int .i64, .int .i64, .int .i64, .int .i64, .int .i64, .int .i64, .int .i64, .int .i64, .int .i64, .int .i64], .lst [.sl [.int .i64, .int .i64]]], rs := [(false, [.bool])], ok := fun _ => true }
noncomputable def fns_law13_HubApart : List (Nat × Func) := [(3, Try.f3), (7, Try.f7), (8, Try.f8), (9, Try.f9), (10, Try.f10), (11, Try.f11)]
theorem fnsOk_law13_HubApart : FnsAll Try.prog fns_law13_HubApart := ⟨fn3, fn7, fn8, fn9, fn10, fn11, trivial⟩
noncomputable def X_law13_HubApart_0 : Ctx := { tys := tys, eqs := eqs, fns := fun f => look f fns_law13_HubApart, ctr := [(8, c_ref11_Right), (10, c_ref12_Fits), (11, c_hub_Step), (7, c_ref13_Few), (9, c_law13_awake)], lim := 30, big := [], lps := [] }
theorem xok_law13_HubApart_0 : XL Try.prog T X_law13_HubApart_0 where
 tys := tysOk
 eqs := eqsOk
 mixed := mixed
 ctr := ctrsOK_of ⟨⟨rfl, ctr_ref11_Right⟩, ⟨rfl, ctr_ref12_Fits⟩, ⟨rfl, ctr_hub_Step⟩, ⟨rfl, ctr_ref13_Few⟩, ⟨rfl, ctr_law13_awake⟩, trivial⟩
 fns := fnsOK_of fnsOk_law13_HubApart
 big := bigsOK_of trivial
 lps := lps_nil rfl
theorem lpok_2000 : ∀ fn body c, X_law13_HubApart_0.fns lp_2000.f = some fn → fn.body = some body → subAt lp_2000.p body = some (.loop c) → LoopOK Try.prog T lp_2000 c :=
 loop_of xok_law13_HubApart_0 widths (g := g_L2000) (back := some (V 84, [V 0, V 1, V 2, V 3, V 4, V 5, V 6, V 7, V 8, V 9, V 10, V 11, V 12, V 13, V 14, V 15, V 16, V 17, V 81, V 19, V 20, V 21, V 22, V 23, V 24, V 25, V 26, V 27, V 28, V 29, V 30, V 31, V 32, V 33, V 34, V 35, V 36, V 37, V 38, V 39, V 40, V 41, V 42, V 43, V 44, V 45, V 46, V 47, V 48, V 49, V 50, V 51, V 52, V 53, V 54, V 55, V 56, V 57, V 58, V 59, V 60, V 61])) (exs := [(V 85, [some (B true), none]), (V 63, [none, some (B true)])]) (by kernel_rfl) (fun aq => by rw [show lp_2000.id = 2000 from rfl, T_2000]; rfl) m_2000 fun aq e h1 h2 h3 => by
  rw [show lp_2000.id = 2000 from rfl, T_2000] at h2 ⊢
  exact lpure_2000 aq e h1 h2 h3
noncomputable def X_law13_HubApart_1 : Ctx := { tys := tys, eqs := eqs, fns := fun f => look f fns_law13_HubApart, ctr := [(8, c_ref11_Right), (10, c_ref12_Fits), (11, c_hub_Step), (7, c_ref13_Few), (9, c_law13_awake)], lim := 30, big := [], lps := [lp_2000] }
theorem xok_law13_HubApart_1 : XL Try.prog T X_law13_HubApart_1 where
 tys := tysOk
 eqs := eqsOk
 mixed := mixed
 ctr := ctrsOK_of ⟨⟨rfl, ctr_ref11_Right⟩, ⟨rfl, ctr_ref12_Fits⟩, ⟨rfl, ctr_hub_Step⟩, ⟨rfl, ctr_ref13_Few⟩, ⟨rfl, ctr_law13_awake⟩, trivial⟩
 fns := fnsOK_of fnsOk_law13_HubApart
 big := bigsOK_of trivial
 lps := lpsOK_of ⟨lpok_2000, trivial⟩
theorem lpok_2001 : ∀ fn body c, X_law13_HubApart_1.fns lp_2001.f = some fn → fn.body = some body → subAt lp_2001.p body = some (.loop c) → LoopOK Try.prog T lp_2001 c :=
 loop_of xok_law13_HubApart_1 widths (g := g_L2001) (back := some (V 172, [V 0, V 1, V 2, V 3, V 4, V 5, V 6, V 7, V 8, V 9, V 10, V 11, V 12, V 13, V 14, V 156, V 168, V 17, V 18, V 19, V 20, V 21, V 22, V 56, V 57, V 58, V 59, V 60, V 61, V 62, V 63, V 64, V 65, V 66, V 67])) (exs := [(V 173, [some (V 166), some (V 23), some (V 24), some (V 25), some (V 26), some (V 27), some (V 28), some (V 29), some (V 30), some (V 31), some (V 32), some (V 33), some (V 34), some (B true), none, none, none, none, none, none, none, none, none, none, none, none, none]), (V 174, [none, none, none, none, none, none, none, none, none, none, none, none, none, none, some (V 23), some (V 24), some (V 25), some (V 26), some (V 27), some (V 28), some (V 29), some (V 30), some (V 31), some (V 32), some (V 33), some (V 34), some (B true)])]) (by kernel_rfl) (fun aq => by rw [show lp_2001.id = 2001 from rfl, T_2001]; rfl) m_2001 fun aq e h1 h2 h3 => by
  rw [show lp_2001.id = 2001 from rfl, T_2001] at h2 ⊢
  exact lpure_2001 aq e h1 h2 h3
noncomputable def X_law13_HubApart : Ctx := { tys := tys, eqs := eqs, fns := fun f => look f fns_law13_HubApart, ctr := [(8, c_ref11_Right), (10, c_ref12_Fits), (11, c_hub_Step), (7, c_ref13_Few), (9, c_law13_awake)], lim := 30, big := [], lps := [lp_2000, lp_2001] }
theorem xok_law13_HubApart : XL Try.prog T X_law13_HubApart where
 tys := tysOk
 eqs := eqsOk
 mixed := mixed
 ctr := ctrsOK_of ⟨⟨rfl, ctr_ref11_Right⟩, ⟨rfl, ctr_ref12_Fits⟩, ⟨rfl, ctr_hub_Step⟩, ⟨rfl, ctr_ref13_Few⟩, ⟨rfl, ctr_law13_awake⟩, trivial⟩
 fns := fnsOK_of fnsOk_law13_HubApart
 big := bigsOK_of trivial
 lps := lpsOK_of ⟨lpok_2000, lpok_2001, trivial⟩
theorem ctr_law13_HubApart : CtrOK Try.prog T c_law13_HubApart := ctr_of xok_law13_HubApart widths (g := g_law13_HubApart) (ls := [V 84]) (by kernel_rfl) (fun aq => by rw [show c_law13_HubApart.f = 3 from rfl, T_3]; rfl) fun aq e h1 h2 h3 => by
 subst h1
 rw [show c_law13_HubApart.f = 3 from rfl, T_3] at h2 ⊢
 obtain ⟨ho, hr⟩ := pure_law13_HubApart e h3 _ rfl h2
 have r0 := hr
 refine ⟨⟨ho.1, ho.2.1, ho.2.2.1, ho.2.2.2.1, ho.2.2.2.2.1, ho.2.2.2.2.2, trivial⟩, ?_⟩
 show semMany [.bool] (t_3 _).2 = semMany [.bool] [L.ev e (V 84)]
 exact (semB r0 rfl)
end Rx.S
namespace Go.Proofs.Ytngghkhjejkelab.hubApart
open Go.ChangeShapes Go.WideShapes Go.ChangeAt Go.RowKit Rx
theorem own : ownKnob Try.prog.godebug = none := by kernel_rfl
set_option maxRecDepth 100000 in
theorem lifted (os : Os) (started : os.Started) (H : Type) (enc : TypeId × Value → H) :
    ReturnsInHanded {} Try.checked os 3 .any (Rows.hubApartSpec.pre6 enc Try.prog Try.f3 Rows.hubApartRow.domain false) (Rows.hubApartSpec.post enc Try.prog Try.f3 false true false false) := by
  refine returnsInHanded_of_change_sized (C := Try.checked) own started (by kernel_rfl) Try.func3
    (ChangeSpec.witness6 (enc := enc) (C := Try.checked) false ⟨#[], #[.int .u8 0, .agg #[.int .i64 0, .int .i64 0, .int .i64 0, .int .i64 0, .int .i64 0, .int .i64 0, .int .i64 0, .int .i64 0, .int .i64 0, .int .i64 0, .int .i64 0, .int .i64 0], .slice none 0 0], []⟩ 8 (by kernel_rfl) (by kernel_rfl) (by kernel_rfl) (by kernel_rfl)) ?_
  intro W base args ds gs before hval0 hW hcnd hsz0 _
  have hval : ∀ (j : Nat) t v, Try.f3.params[j]? = some t → args[j]? = some v → Value.okWide Try.prog W .any base t v := hval0
  have hW' := hW
  obtain ⟨p, q, hA0, hV, rfl, hfz, hnd⟩ := hW
  have hA : DataW.TrodAll enc Try.prog W 0 (fun _ => true) true Try.f3.params.toList args.toList ds p := hA0
  rw [Try.params3] at hA hval
  obtain ⟨v0, vs0, d0, ds0, p0, q0, hargs, rfl, rfl, h0, r0⟩ := trodAll_cons hA
  obtain ⟨v1, vs1, d1, ds1, p1, q1, rfl, rfl, rfl, h1, r1⟩ := trodAll_cons r0
  obtain ⟨v2, vs2, d2, ds2, p2, q2, rfl, rfl, rfl, h2, r2⟩ := trodAll_cons r1
  obtain ⟨rfl, rfl, rfl⟩ := trodAll_nil r2
  obtain rfl : args = #[v0, v1, v2] := by cases args; simp_all
  obtain ⟨rfl, rfl⟩ := trodVars_none hV
  obtain ⟨l0, e0, o0⟩ := open_arg S.tysOk (n := 10) (t := 5) rfl rfl (hval 0 5 v0 rfl rfl) h0
  obtain ⟨x0, _, rfl, k0, rfl⟩ := e0
  obtain ⟨l1, e1, o1⟩ := open_arg S.tysOk (n := 10) (t := 24) rfl rfl (hval 1 24 v1 rfl rfl) h1
  obtain ⟨x1, _, rfl, k1, x2, _, rfl, k2, x3, _, rfl, k3, x4, _, rfl, k4, x5, _, rfl, k5, x6, _, rfl, k6, x7, _, rfl, k7, x8, _, rfl, k8, x9, _, rfl, k9, x10, _, rfl, k10, x11, _, rfl, k11, x12, _, rfl, k12, rfl⟩ := e1
  obtain ⟨as2, m2, k13, len2, le2, o2⟩ := open_lst S.tysOk (n := 10) (t := 25) (ss := [.sl [.int .i64, .int .i64]]) rfl rfl (by rfl) (by decide) (hval 2 25 v2 rfl rfl) h2
  have hargs : ArgsRel W.cell? S.c_law13_HubApart.ps [v0, v1, v2] [x0, x1, x2, x3, x4, x5, x6, x7, x8, x9, x10, x11, x12, .l as2, .i m2] := ⟨v0, _, [x0], _, rfl, rfl, o0, ⟨v1, _, [x1, x2, x3, x4, x5, x6, x7, x8, x9, x10, x11, x12], _, rfl, rfl, o1, ⟨v2, _, [.l as2, .i m2], _, rfl, rfl, o2, ⟨rfl, rfl⟩⟩⟩⟩
  have g2 : ((m2 : Nat) : Int) ≤ 9223372036854775807 := by
    have e : maxLen = 9223372036854775807 := by decide
    omega
  have f0 := leaf_u8 k0
  have f1 := leaf_i64 k1
  have f2 := leaf_i64 k2
  have f3 := leaf_i64 k3
  have f4 := leaf_i64 k4
  have f5 := leaf_i64 k5
  have f6 := leaf_i64 k6
  have f7 := leaf_i64 k7
  have f8 := leaf_i64 k8
  have f9 := leaf_i64 k9
  have f10 := leaf_i64 k10
  have f11 := leaf_i64 k11
  have f12 := leaf_i64 k12
  have hp : (S.t_3 [x0, x1, x2, x3, x4, x5, x6, x7, x8, x9, x10, x11, x12, .l as2, .i m2]).1 = true := by
    simp [S.t_3, gi, gb, gs, gv, ge, Day.ND.i64, Day.HB.i64, Day.all8, Day.HB.a, Day.Ls.ok, Day.Ts.ok, f0, f1, f2, f3, f4, f5, f6, f7, f8, f9, f10, f11, f12, g2]
  refine (law_calls S.ctr_law13_HubApart (fun _ => rfl) rfl hargs (by rw [show S.c_law13_HubApart.f = 3 from rfl, S.T_3]; exact hp) (by rw [show S.c_law13_HubApart.f = 3 from rfl, S.T_3]; rfl)).mono fun e W2 ⟨he, bel⟩ => ?_
  subst he
  have b0 := Below.trod Seat.laidOut (by kernel_rfl) (of_decide_eq_true (by kernel_rfl)) h0 bel (fun x hx => by simpa using hW'.lt x (by simp [hx]))
  have b1 := Below.trod Seat.laidOut (by kernel_rfl) (of_decide_eq_true (by kernel_rfl)) h1 bel (fun x hx => by simpa using hW'.lt x (by simp [hx]))
  have b2 := Below.trod Seat.laidOut (by kernel_rfl) (of_decide_eq_true (by kernel_rfl)) h2 bel (fun x hx => by simpa using hW'.lt x (by simp [hx]))
  exact ⟨_, rfl, _, _, _, [], _, [], hW', trodAll_mk1 (shut_bool Try.underlying4 _), (trodAll_cons_mk b0 (trodAll_cons_mk b1 (trodAll_cons_mk b2 trodAll_mk0))), rfl, bel.frame _, fun h => by cases h⟩
theorem facts : joinedFacts Try.prog 3 Try.f3 Rows.hubApartSpec Rows.hubApartRow = true :=
  Seat.facts Seat.enter Seat.lifts Seat.made Seat.laidOut Seat.rowed Seat.heard 3 Try.f3 Rows.hubApartSpec Rows.hubApartRow ((rfl : Rows.hubApartRow.plainKeys = true).trans Seat.keys) (by kernel_rfl) (by kernel_rfl) (by kernel_rfl) (by kernel_rfl) (by kernel_rfl) (by kernel_rfl) (by kernel_rfl) (by kernel_rfl)
theorem named : Try.prog.funcNamed Rows.hubApartRow.func = some 3 := by kernel_rfl
theorem inst : Try.f3.isInstance Try.prog Rows.hubApartRow.origin Rows.hubApartRow.targs := of_decide_eq_true (by kernel_rfl)
theorem wrapped : Try.f3.isWrapper Try.prog Rows.hubApartRow.wrapper Rows.hubApartRow.mainSum := by unfold Func.isWrapper; rw [if_neg (by decide +kernel)]; exact ⟨rfl, rfl⟩
theorem over : Rows.hubApartRow.holds Try.pinned (OpenSpec.ofChange Rows.hubApartSpec) :=
  OpenClaim.holds_of_wide 3 Try.f3 rfl rfl rfl rfl rfl rfl rfl ⟨rfl, rfl, rfl, rfl, rfl⟩ rfl rfl rfl rfl rfl named Try.func3 facts inst wrapped
    (fun os started H enc _ => lifted os started H enc)
theorem proved : Rows.HubApartSaid := over
end Go.Proofs.Ytngghkhjejkelab.hubApart
namespace Go.Proofs.Ytngghkhjejkelab
/-- The row, under a short name, for the claim. -/
theorem hubApart_holds : Rows.HubApartSaid := hubApart.proved
end Go.Proofs.Ytngghkhjejkelab
