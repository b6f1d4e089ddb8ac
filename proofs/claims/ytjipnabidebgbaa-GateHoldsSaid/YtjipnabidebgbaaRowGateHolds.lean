/- What holds a slot relays nothing but its owner's Info; what relays a Cs holds none, and none was relayed for Block; what is behind it may be; under no condition. -/
import Derived.Test.YtjipnabidebgbaaXc
import Derived.Test.YtjipnabidebgbaaXe
import Derived.Test.YtjipnabidebgbaaXf
import Derived.Test.YtjipnabidebgbaaXvoteb
import Derived.Test.YtjipnabidebgbaaXgate
import Derived.Test.YtjipnabidebgbaaXlaw12
import Derived.Test.YtjipnabidebgbaaYGateHolds
import Derived.Test.YtjipnabidebgbaaRows
import Derived.Test.YtjipnabidebgbaaSeat
import Derived.WalkKit
import Derived.ProofKit
import Derived.OpenShut
import Derived.ShutString
import Derived.ChangeOld
import Derived.Below
import Derived.SizedLaws
set_option linter.unusedVariables false
set_option linter.unusedSimpArgs false
namespace Rx.S
open Go Rx Go.Proofs
set_option maxRecDepth 100000
set_option maxHeartbeats 4000000
set_option linter.unusedVariables false
def c_law12_GateHolds : Ctr := { f := 17, ps := [.c false [.int .u8], .c true [.int .i64, .int .i64, .int .i64, .int .i64, .int .i64, .int .i64, .int .i64, .int .i64, .int .i64, .int .i64, .int .i64, .int .i64], .lst [.int .i64, .int .i64]], rs := [(false, [.bool])], ok := fun _ => true }
noncomputable def fns_law12_GateHolds : List (Nat × Func) := [(17, Try.f17), (97, Try.f97), (102, Try.f102), (103, Try.f103), (104, Try.f104)]
theorem fnsOk_law12_GateHolds : FnsAll Try.prog fns_law12_GateHolds := ⟨fn17, fn97, fn102, fn103, fn104, trivial⟩
noncomputable def X_law12_GateHolds : Ctx := { tys := tys, eqs := eqs, fns := fun f => look f fns_law12_GateHolds, ctr := [(97, c_ref11_Right), (102, c_ref12_Fits), (104, c_gate_Relay), (103, c_law12_awake)], lim := 30, big := [], lps := [] }
theorem xok_law12_GateHolds : XL Try.prog T X_law12_GateHolds where
  tys := tysOk
  eqs := eqsOk
  mixed := mixed
  ctr := ctrsOK_of ⟨⟨rfl, ctr_ref11_Right⟩, ⟨rfl, ctr_ref12_Fits⟩, ⟨rfl, ctr_gate_Relay⟩, ⟨rfl, ctr_law12_awake⟩, trivial⟩
  fns := fnsOK_of fnsOk_law12_GateHolds
  big := bigsOK_of trivial
  lps := lps_nil rfl
theorem ctr_law12_GateHolds : CtrOK Try.prog T c_law12_GateHolds := ctr_of xok_law12_GateHolds widths (g := g_law12_GateHolds) (ls := [V 172]) (by kernel_rfl) (fun aq => by rw [show c_law12_GateHolds.f = 17 from rfl, T_17]; rfl) fun aq e h1 h2 h3 => by
  subst h1
  rw [show c_law12_GateHolds.f = 17 from rfl, T_17] at h2 ⊢
  obtain ⟨ho, hr⟩ := pure_law12_GateHolds e h3 h2
  have r0 := hr
  refine ⟨⟨ho.1, ho.2.1, ho.2.2.1, ho.2.2.2.1, ho.2.2.2.2.1, ho.2.2.2.2.2.1, ho.2.2.2.2.2.2.1, ho.2.2.2.2.2.2.2.1, ho.2.2.2.2.2.2.2.2.1, ho.2.2.2.2.2.2.2.2.2, trivial⟩, ?_⟩
  show semMany [.bool] (t_17 _).2 = semMany [.bool] [L.ev e (V 172)]
  exact (semB r0 rfl)
end Rx.S
namespace Go.Proofs.Ytjipnabidebgbaa.gateHolds
open Go.ChangeShapes Go.WideShapes Go.ChangeAt Go.RowKit Rx
set_option linter.unusedVariables false
theorem own : ownKnob Try.prog.godebug = none := by kernel_rfl
set_option maxRecDepth 100000 in
theorem lifted (os : Os) (started : os.Started) (H : Type) (enc : TypeId × Value → H) :
    ReturnsInHanded {} Try.checked os 17 .any (Rows.gateHoldsSpec.pre6 enc Try.prog Try.f17 Rows.gateHoldsRow.domain false) (Rows.gateHoldsSpec.post enc Try.prog Try.f17 false true false false) := by
  refine returnsInHanded_of_change_sized (C := Try.checked) own started (by kernel_rfl) Try.func17
    (ChangeSpec.witness6 (enc := enc) (C := Try.checked) false ⟨#[], #[.int .u8 0, .agg #[.int .i64 0, .int .i64 0, .int .i64 0, .int .i64 0, .int .i64 0, .int .i64 0, .int .i64 0, .int .i64 0, .int .i64 0, .int .i64 0, .int .i64 0, .int .i64 0], .slice none 0 0], []⟩ 8 (by kernel_rfl) (by kernel_rfl) (by kernel_rfl) (by kernel_rfl)) ?_
  intro W base args ds gs before hval0 hW hcnd hsz0 _
  have hval : ∀ (j : Nat) t v, Try.f17.params[j]? = some t → args[j]? = some v → Value.okWide Try.prog W .any base t v := hval0
  have hW' := hW
  obtain ⟨p, q, hA0, hV, rfl, hfz, hnd⟩ := hW
  have hA : DataW.TrodAll enc Try.prog W 0 (fun _ => true) true Try.f17.params.toList args.toList ds p := hA0
  rw [Try.params17] at hA hval
  obtain ⟨v0, vs0, d0, ds0, p0, q0, hargs, rfl, rfl, h0, r0⟩ := trodAll_cons hA
  obtain ⟨v1, vs1, d1, ds1, p1, q1, rfl, rfl, rfl, h1, r1⟩ := trodAll_cons r0
  obtain ⟨v2, vs2, d2, ds2, p2, q2, rfl, rfl, rfl, h2, r2⟩ := trodAll_cons r1
  obtain ⟨rfl, rfl, rfl⟩ := trodAll_nil r2
  obtain rfl : args = #[v0, v1, v2] := by cases args; simp_all
  obtain ⟨rfl, rfl⟩ := trodVars_none hV
  obtain ⟨l0, e0, o0⟩ := open_arg S.tysOk (n := 10) (t := 5) rfl rfl (hval 0 5 v0 rfl rfl) h0
  obtain ⟨x0, _, rfl, k0, rfl⟩ := e0
  obtain ⟨l1, e1, o1⟩ := open_arg S.tysOk (n := 10) (t := 77) rfl rfl (hval 1 77 v1 rfl rfl) h1
  obtain ⟨x1, _, rfl, k1, x2, _, rfl, k2, x3, _, rfl, k3, x4, _, rfl, k4, x5, _, rfl, k5, x6, _, rfl, k6, x7, _, rfl, k7, x8, _, rfl, k8, x9, _, rfl, k9, x10, _, rfl, k10, x11, _, rfl, k11, x12, _, rfl, k12, rfl⟩ := e1
  obtain ⟨as2, m2, k13, len2, le2, o2⟩ := open_lst S.tysOk (n := 10) (t := 87) (ss := [.int .i64, .int .i64]) rfl rfl (by rfl) (by decide) (hval 2 87 v2 rfl rfl) h2
  have hargs : ArgsRel W.cell? S.c_law12_GateHolds.ps [v0, v1, v2] [x0, x1, x2, x3, x4, x5, x6, x7, x8, x9, x10, x11, x12, .l as2, .i m2] := ⟨v0, _, [x0], _, rfl, rfl, o0, ⟨v1, _, [x1, x2, x3, x4, x5, x6, x7, x8, x9, x10, x11, x12], _, rfl, rfl, o1, ⟨v2, _, [.l as2, .i m2], _, rfl, rfl, o2, ⟨rfl, rfl⟩⟩⟩⟩
  have g2 : ((m2 : Nat) : Int) ≤ 9223372036854775807 := by
    have e : maxLen = 9223372036854775807 := by decide
    omega
  have f0 := leaf_u8 k0
  have f1 := leaf_i64 k1
  have f2 := leaf_i64 k2
  have f3 := leaf_i64 k3
  have f4 := leaf_i64 k4
  have f5 := leaf_i64 k5
  have f6 := leaf_i64 k6
  have f7 := leaf_i64 k7
  have f8 := leaf_i64 k8
  have f9 := leaf_i64 k9
  have f10 := leaf_i64 k10
  have f11 := leaf_i64 k11
  have f12 := leaf_i64 k12
  have hp : (S.t_17 [x0, x1, x2, x3, x4, x5, x6, x7, x8, x9, x10, x11, x12, .l as2, .i m2]).1 = true := by
    simp [S.t_17, gi, gb, gs, gv, ge, Day.ND.i64, Day.HB.i64, Day.all8, Day.HB.a, Day.Ls.ok, f0, f1, f2, f3, f4, f5, f6, f7, f8, f9, f10, f11, f12, g2]
  refine (law_calls S.ctr_law12_GateHolds (fun _ => rfl) rfl hargs (by rw [show S.c_law12_GateHolds.f = 17 from rfl, S.T_17]; exact hp) (by rw [show S.c_law12_GateHolds.f = 17 from rfl, S.T_17]; rfl)).mono fun e W2 ⟨he, bel⟩ => ?_
  subst he
  have b0 := Below.trod Seat.laidOut (by kernel_rfl) (of_decide_eq_true (by kernel_rfl)) h0 bel (fun x hx => by simpa using hW'.lt x (by simp [hx]))
  have b1 := Below.trod Seat.laidOut (by kernel_rfl) (of_decide_eq_true (by kernel_rfl)) h1 bel (fun x hx => by simpa using hW'.lt x (by simp [hx]))
  have b2 := Below.trod Seat.laidOut (by kernel_rfl) (of_decide_eq_true (by kernel_rfl)) h2 bel (fun x hx => by simpa using hW'.lt x (by simp [hx]))
  exact ⟨_, rfl, _, _, _, [], _, [], hW', trodAll_mk1 (shut_bool Try.underlying4 _), (trodAll_cons_mk b0 (trodAll_cons_mk b1 (trodAll_cons_mk b2 trodAll_mk0))), rfl, bel.frame _, fun h => by cases h⟩
theorem facts : joinedFacts Try.prog 17 Try.f17 Rows.gateHoldsSpec Rows.gateHoldsRow = true :=
  Seat.facts Seat.enter Seat.lifts Seat.made Seat.laidOut Seat.rowed Seat.heard 17 Try.f17 Rows.gateHoldsSpec Rows.gateHoldsRow ((rfl : Rows.gateHoldsRow.plainKeys = true).trans Seat.keys) (by kernel_rfl) (by kernel_rfl) (by kernel_rfl) (by kernel_rfl) (by kernel_rfl) (by kernel_rfl) (by kernel_rfl) (by kernel_rfl)
theorem named : Try.prog.funcNamed Rows.gateHoldsRow.func = some 17 := by kernel_rfl
theorem inst : Try.f17.isInstance Try.prog Rows.gateHoldsRow.origin Rows.gateHoldsRow.targs := of_decide_eq_true (by kernel_rfl)
theorem wrapped : Try.f17.isWrapper Try.prog Rows.gateHoldsRow.wrapper Rows.gateHoldsRow.mainSum := by unfold Func.isWrapper; rw [if_neg (by decide +kernel)]; exact ⟨rfl, rfl⟩
theorem over : Rows.gateHoldsRow.holds Try.pinned (OpenSpec.ofChange Rows.gateHoldsSpec) :=
  OpenClaim.holds_of_wide 17 Try.f17 rfl rfl rfl rfl rfl rfl rfl ⟨rfl, rfl, rfl, rfl, rfl⟩ rfl rfl rfl rfl rfl named Try.func17 facts inst wrapped
    (fun os started H enc _ => lifted os started H enc)
theorem proved : Rows.GateHoldsSaid := over
end Go.Proofs.Ytjipnabidebgbaa.gateHolds
namespace Go.Proofs.Ytjipnabidebgbaa
/-- The row, under a short name, for the claim. -/
theorem gateHolds_holds : Rows.GateHoldsSaid := gateHolds.proved
end Go.Proofs.Ytjipnabidebgbaa
