/- A hub that holds a slot, of which each owner but one speaks each round, goes on holding it, a slot further each tick, and relays all of these, whatever the one says; without the document's answer. -/
import Derived.Test.YtjipnabidebgbaaHXc
import Derived.Test.YtjipnabidebgbaaJXe
import Derived.Test.YtjipnabidebgbaaJXf
import Derived.Test.YtjipnabidebgbaaJXg
import Derived.Test.YtjipnabidebgbaaJXhub
import Derived.Test.YtjipnabidebgbaaJXvoteb
import Derived.Test.YtjipnabidebgbaaJXlaw13
import Derived.Test.YtjipnabidebgbaaJYHubHolds
import Derived.Test.YtjipnabidebgbaaRows
import Derived.Test.YtjipnabidebgbaaSeat
import Derived.WalkKit
import Derived.ProofKit
import Derived.OpenShut
import Derived.ShutString
import Derived.ChangeOld
import Derived.Below
import Derived.SizedLaws
set_option linter.unusedVariables false
set_option linter.unusedSimpArgs false
namespace Rx.S
open Go Rx Go.Proofs
set_option maxRecDepth 100000
set_option maxHeartbeats 4000000
def c_law13_HubHolds : Ctr := { f := 26, ps := [.d true [.int .u8, .int .i64, .int .i64, .int .i64, .int .i64, .int .i64, .int .i64, .int .i64, .int .i64, .int .i64, .int .i64, .int .i64, .int .i64, .int .u8, .sl [.int .u8]]], rs := [(false, [.bool])], ok := fun _ => true }
noncomputable def fns_law13_HubHolds : List (Nat × Func) := [(26, Try.f26), (97, Try.f97), (118, Try.f118), (119, Try.f119)]
theorem fnsOk_law13_HubHolds : FnsAll Try.prog fns_law13_HubHolds := ⟨fn26, fn97, fn118, fn119, trivial⟩
noncomputable def X_law13_HubHolds_0 : Ctx := { tys := tys, eqs := eqs, fns := fun f => look f fns_law13_HubHolds, ctr := [(97, c_ref11_Right), (119, c_hub_Step), (118, c_law13_awake)], lim := 30, big := [], lps := [] }
theorem xok_law13_HubHolds_0 : XL Try.prog T X_law13_HubHolds_0 where
 tys := tysOk
 eqs := eqsOk
 mixed := mixed
 ctr := ctrsOK_of ⟨⟨rfl, ctr_ref11_Right⟩, ⟨rfl, ctr_hub_Step⟩, ⟨rfl, ctr_law13_awake⟩, trivial⟩
 fns := fnsOK_of fnsOk_law13_HubHolds
 big := bigsOK_of trivial
 lps := lps_nil rfl
theorem lpok_1870 : ∀ fn body c, X_law13_HubHolds_0.fns lp_1870.f = some fn → fn.body = some body → subAt lp_1870.p body = some (.loop c) → LoopOK Try.prog T lp_1870 c :=
 loop_of xok_law13_HubHolds_0 widths (g := g_L1870) (back := some (V 134, [V 0, V 1, V 2, V 3, V 4, V 5, V 6, V 7, V 8, V 9, V 10, V 11, V 12, V 13, V 14, V 15, V 16, V 131, V 18, V 19, V 20, V 21, V 22, V 23, V 24, V 25, V 26, V 78, V 79, V 80, V 81, V 82, V 83, V 84, V 85, V 86, V 87, V 88, V 89])) (exs := [(V 135, [some (V 27), some (V 28), some (V 29), some (V 30), some (V 31), some (V 32), some (V 33), some (V 34), some (V 35), some (V 36), some (V 37), some (V 38), some (B true), none, none, none, none, none, none, none, none, none, none, none, none, none]), (V 136, [none, none, none, none, none, none, none, none, none, none, none, none, none, some (V 27), some (V 28), some (V 29), some (V 30), some (V 31), some (V 32), some (V 33), some (V 34), some (V 35), some (V 36), some (V 37), some (V 38), some (B true)])]) (by kernel_rfl) (fun aq => by rw [show lp_1870.id = 1870 from rfl, T_1870]; rfl) m_1870 fun aq e h1 h2 h3 => by
  rw [show lp_1870.id = 1870 from rfl, T_1870] at h2 ⊢
  exact lpure_1870 aq e h1 h2 h3
noncomputable def X_law13_HubHolds : Ctx := { tys := tys, eqs := eqs, fns := fun f => look f fns_law13_HubHolds, ctr := [(97, c_ref11_Right), (119, c_hub_Step), (118, c_law13_awake)], lim := 30, big := [], lps := [lp_1870] }
theorem xok_law13_HubHolds : XL Try.prog T X_law13_HubHolds where
 tys := tysOk
 eqs := eqsOk
 mixed := mixed
 ctr := ctrsOK_of ⟨⟨rfl, ctr_ref11_Right⟩, ⟨rfl, ctr_hub_Step⟩, ⟨rfl, ctr_law13_awake⟩, trivial⟩
 fns := fnsOK_of fnsOk_law13_HubHolds
 big := bigsOK_of trivial
 lps := lpsOK_of ⟨lpok_1870, trivial⟩
theorem ctr_law13_HubHolds : CtrOK Try.prog T c_law13_HubHolds := ctr_of xok_law13_HubHolds widths (g := g_law13_HubHolds) (ls := [V 89]) (by kernel_rfl) (fun aq => by rw [show c_law13_HubHolds.f = 26 from rfl, T_26]; rfl) fun aq e h1 h2 h3 => by
 subst h1
 rw [show c_law13_HubHolds.f = 26 from rfl, T_26] at h2 ⊢
 obtain ⟨ho, hr⟩ := pure_law13_HubHolds e h3 _ rfl h2
 have r0 := hr
 refine ⟨⟨ho.1, ho.2.1, ho.2.2.1, ho.2.2.2.1, ho.2.2.2.2.1, ho.2.2.2.2.2, trivial⟩, ?_⟩
 show semMany [.bool] (t_26 _).2 = semMany [.bool] [L.ev e (V 89)]
 exact (semB r0 rfl)
end Rx.S
namespace Go.Proofs.Ytjipnabidebgbaa.hubHolds
open Go.ChangeShapes Go.WideShapes Go.ChangeAt Go.RowKit Rx
theorem own : ownKnob Try.prog.godebug = none := by kernel_rfl
set_option maxRecDepth 100000 in
theorem lifted (os : Os) (started : os.Started) (H : Type) (enc : TypeId × Value → H) :
    ReturnsInHanded {} Try.checked os 26 .any (Rows.hubHoldsSpec.pre6 enc Try.prog Try.f26 Rows.hubHoldsRow.domain false) (Rows.hubHoldsSpec.post enc Try.prog Try.f26 false true false false) := by
  refine returnsInHanded_of_change_sized (C := Try.checked) own started (by kernel_rfl) Try.func26
    (ChangeSpec.witness6 (enc := enc) (C := Try.checked) false ⟨#[], #[.agg #[.int .u8 0, .int .i64 0, .int .i64 0, .int .i64 0, .int .i64 0, .int .i64 0, .int .i64 0, .int .i64 0, .int .i64 0, .int .i64 0, .int .i64 0, .int .i64 0, .int .i64 0, .int .u8 0, .slice none 0 0]], []⟩ 8 (by kernel_rfl) (by kernel_rfl) (by kernel_rfl) (by kernel_rfl)) ?_
  intro W base args ds gs before hval0 hW hcnd hsz0 _
  have hval : ∀ (j : Nat) t v, Try.f26.params[j]? = some t → args[j]? = some v → Value.okWide Try.prog W .any base t v := hval0
  have hW' := hW
  obtain ⟨p, q, hA0, hV, rfl, hfz, hnd⟩ := hW
  have hA : DataW.TrodAll enc Try.prog W 0 (fun _ => true) true Try.f26.params.toList args.toList ds p := hA0
  rw [Try.params26] at hA hval
  obtain ⟨v0, vs0, d0, ds0, p0, q0, hargs, rfl, rfl, h0, r0⟩ := trodAll_cons hA
  obtain ⟨rfl, rfl, rfl⟩ := trodAll_nil r0
  obtain rfl : args = #[v0] := by cases args; simp_all
  obtain ⟨rfl, rfl⟩ := trodVars_none hV
  obtain ⟨dl0, e0, o0⟩ := open_deep S.tysOk (n := 10) (t := 113) (ss := [.int .u8, .int .i64, .int .i64, .int .i64, .int .i64, .int .i64, .int .i64, .int .i64, .int .i64, .int .i64, .int .i64, .int .i64, .int .i64, .int .u8, .sl [.int .u8]]) rfl rfl (by rfl) (by rfl) (hval 0 113 v0 rfl rfl) h0
  obtain ⟨x0, _, rfl, k0, x1, _, rfl, k1, x2, _, rfl, k2, x3, _, rfl, k3, x4, _, rfl, k4, x5, _, rfl, k5, x6, _, rfl, k6, x7, _, rfl, k7, x8, _, rfl, k8, x9, _, rfl, k9, x10, _, rfl, k10, x11, _, rfl, k11, x12, _, rfl, k12, x13, _, rfl, k13, as14, m14, _, rfl, ⟨len14, le14⟩, rfl⟩ := e0
  have hargs : ArgsRel W.cell? S.c_law13_HubHolds.ps [v0] [x0, x1, x2, x3, x4, x5, x6, x7, x8, x9, x10, x11, x12, x13, .l as14, .i m14] := ⟨v0, _, [x0, x1, x2, x3, x4, x5, x6, x7, x8, x9, x10, x11, x12, x13, .l as14, .i m14], _, rfl, rfl, o0, ⟨rfl, rfl⟩⟩
  have g14 : ((m14 : Nat) : Int) ≤ 9223372036854775807 := by
    have e : maxLen = 9223372036854775807 := by decide
    omega
  have f0 := okA_u8 k0
  have f1 := okA_i64 k1
  have f2 := okA_i64 k2
  have f3 := okA_i64 k3
  have f4 := okA_i64 k4
  have f5 := okA_i64 k5
  have f6 := okA_i64 k6
  have f7 := okA_i64 k7
  have f8 := okA_i64 k8
  have f9 := okA_i64 k9
  have f10 := okA_i64 k10
  have f11 := okA_i64 k11
  have f12 := okA_i64 k12
  have f13 := okA_u8 k13
  have hp : (S.t_26 [x0, x1, x2, x3, x4, x5, x6, x7, x8, x9, x10, x11, x12, x13, .l as14, .i m14]).1 = true := by
    simp [S.t_26, gi, gb, gs, gv, ge, Day.ND.i64, Day.HB.i64, Day.all8, Day.HB.a, Day.Ls.ok, Day.Ts.ok, f0, f1, f2, f3, f4, f5, f6, f7, f8, f9, f10, f11, f12, f13, g14]
  refine (law_calls S.ctr_law13_HubHolds (fun _ => rfl) rfl hargs (by rw [show S.c_law13_HubHolds.f = 26 from rfl, S.T_26]; exact hp) (by rw [show S.c_law13_HubHolds.f = 26 from rfl, S.T_26]; rfl)).mono fun e W2 ⟨he, bel⟩ => ?_
  subst he
  have b0 := Below.trod Seat.laidOut (by kernel_rfl) (of_decide_eq_true (by kernel_rfl)) h0 bel (fun x hx => by simpa using hW'.lt x (by simp [hx]))
  exact ⟨_, rfl, _, _, _, [], _, [], hW', trodAll_mk1 (shut_bool Try.underlying4 _), (trodAll_cons_mk b0 trodAll_mk0), rfl, bel.frame _, fun h => by cases h⟩
theorem facts : joinedFacts Try.prog 26 Try.f26 Rows.hubHoldsSpec Rows.hubHoldsRow = true :=
  Seat.facts Seat.enter Seat.lifts Seat.made Seat.laidOut Seat.rowed Seat.heard 26 Try.f26 Rows.hubHoldsSpec Rows.hubHoldsRow ((rfl : Rows.hubHoldsRow.plainKeys = true).trans Seat.keys) (by kernel_rfl) (by kernel_rfl) (by kernel_rfl) (by kernel_rfl) (by kernel_rfl) (by kernel_rfl) (by kernel_rfl) (by kernel_rfl)
theorem named : Try.prog.funcNamed Rows.hubHoldsRow.func = some 26 := by kernel_rfl
theorem inst : Try.f26.isInstance Try.prog Rows.hubHoldsRow.origin Rows.hubHoldsRow.targs := of_decide_eq_true (by kernel_rfl)
theorem wrapped : Try.f26.isWrapper Try.prog Rows.hubHoldsRow.wrapper Rows.hubHoldsRow.mainSum := by unfold Func.isWrapper; rw [if_neg (by decide +kernel)]; exact ⟨rfl, rfl⟩
theorem over : Rows.hubHoldsRow.holds Try.pinned (OpenSpec.ofChange Rows.hubHoldsSpec) :=
  OpenClaim.holds_of_wide 26 Try.f26 rfl rfl rfl rfl rfl rfl rfl ⟨rfl, rfl, rfl, rfl, rfl⟩ rfl rfl rfl rfl rfl named Try.func26 facts inst wrapped
    (fun os started H enc _ => lifted os started H enc)
theorem proved : Rows.HubHoldsSaid := over
end Go.Proofs.Ytjipnabidebgbaa.hubHolds
namespace Go.Proofs.Ytjipnabidebgbaa
/-- The row, under a short name, for the claim. -/
theorem hubHolds_holds : Rows.HubHoldsSaid := hubHolds.proved
end Go.Proofs.Ytjipnabidebgbaa
