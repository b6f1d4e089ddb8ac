/- Whether any frames (20 at most) fit, and what any hub is behind them, settled, and what it relays, are the document's; under no condition. -/
import Derived.Test.YtjipnabidebgbaaXc
import Derived.Test.YtjipnabidebgbaaXe
import Derived.Test.YtjipnabidebgbaaXf
import Derived.Test.YtjipnabidebgbaaXgate
import Derived.Test.YtjipnabidebgbaaXlaw12
import Derived.Test.YtjipnabidebgbaaYGateTells
import Derived.Test.YtjipnabidebgbaaRows
import Derived.Test.YtjipnabidebgbaaSeat
import Derived.WalkKit
import Derived.ProofKit
import Derived.OpenShut
import Derived.ShutString
import Derived.ChangeOld
import Derived.Below
import Derived.SizedLaws
set_option linter.unusedVariables false
set_option linter.unusedSimpArgs false
namespace Rx.S
open Go Rx Go.Proofs
set_option maxRecDepth 100000
set_option maxHeartbeats 4000000
set_option linter.unusedVariables false
def c_law12_GateTells : Ctr := { f := 19, ps := [.c false [.int .i64], .c true [.int .i64, .int .i64, .int .i64, .int .i64, .int .i64, .int .i64, .int .i64, .int .i64, .int .i64, .int .i64, .int .i64, .int .i64], .lst [.int .i64, .int .i64]], rs := [(false, [.bool])], ok := fun _ => true }
noncomputable def fns_law12_GateTells : List (Nat × Func) := [(19, Try.f19), (103, Try.f103), (106, Try.f106), (107, Try.f107), (105, Try.f105), (108, Try.f108), (104, Try.f104), (109, Try.f109), (110, Try.f110), (102, Try.f102)]
theorem fnsOk_law12_GateTells : FnsAll Try.prog fns_law12_GateTells := ⟨fn19, fn103, fn106, fn107, fn105, fn108, fn104, fn109, fn110, fn102, trivial⟩
noncomputable def X_law12_GateTells : Ctx := { tys := tys, eqs := eqs, fns := fun f => look f fns_law12_GateTells, ctr := [(105, c_gate_Settle), (108, c_ref12_Settle), (110, c_gate_Fits), (102, c_ref12_Fits), (106, c_gate_Note), (107, c_ref12_Note), (104, c_gate_Relay), (109, c_ref12_Relay), (103, c_law12_awake)], lim := 30, big := [], lps := [] }
theorem xok_law12_GateTells : XL Try.prog T X_law12_GateTells where
  tys := tysOk
  eqs := eqsOk
  mixed := mixed
  ctr := ctrsOK_of ⟨⟨rfl, ctr_gate_Settle⟩, ⟨rfl, ctr_ref12_Settle⟩, ⟨rfl, ctr_gate_Fits⟩, ⟨rfl, ctr_ref12_Fits⟩, ⟨rfl, ctr_gate_Note⟩, ⟨rfl, ctr_ref12_Note⟩, ⟨rfl, ctr_gate_Relay⟩, ⟨rfl, ctr_ref12_Relay⟩, ⟨rfl, ctr_law12_awake⟩, trivial⟩
  fns := fnsOK_of fnsOk_law12_GateTells
  big := bigsOK_of trivial
  lps := lps_nil rfl
theorem ctr_law12_GateTells : CtrOK Try.prog T c_law12_GateTells := ctr_of xok_law12_GateTells widths (g := g_law12_GateTells) (ls := [V 216]) (by kernel_rfl) (fun aq => by rw [show c_law12_GateTells.f = 19 from rfl, T_19]; rfl) fun aq e h1 h2 h3 => by
  subst h1
  rw [show c_law12_GateTells.f = 19 from rfl, T_19] at h2 ⊢
  obtain ⟨ho, hr⟩ := pure_law12_GateTells e h3 h2
  have r0 := hr
  refine ⟨⟨ho.1, ho.2.1, ho.2.2.1, ho.2.2.2.1, ho.2.2.2.2.1, ho.2.2.2.2.2.1, ho.2.2.2.2.2.2.1, ho.2.2.2.2.2.2.2.1, ho.2.2.2.2.2.2.2.2.1, ho.2.2.2.2.2.2.2.2.2, trivial⟩, ?_⟩
  show semMany [.bool] (t_19 _).2 = semMany [.bool] [L.ev e (V 216)]
  exact (semB r0 rfl)
end Rx.S
namespace Go.Proofs.Ytjipnabidebgbaa.gateTells
open Go.ChangeShapes Go.WideShapes Go.ChangeAt Go.RowKit Rx
set_option linter.unusedVariables false
theorem own : ownKnob Try.prog.godebug = none := by kernel_rfl
set_option maxRecDepth 100000 in
theorem lifted (os : Os) (started : os.Started) (H : Type) (enc : TypeId × Value → H) :
    ReturnsInHanded {} Try.checked os 19 .any (Rows.gateTellsSpec.pre6 enc Try.prog Try.f19 Rows.gateTellsRow.domain false) (Rows.gateTellsSpec.post enc Try.prog Try.f19 false true false false) := by
  refine returnsInHanded_of_change_sized (C := Try.checked) own started (by kernel_rfl) Try.func19
    (ChangeSpec.witness6 (enc := enc) (C := Try.checked) false ⟨#[], #[.int .i64 0, .agg #[.int .i64 0, .int .i64 0, .int .i64 0, .int .i64 0, .int .i64 0, .int .i64 0, .int .i64 0, .int .i64 0, .int .i64 0, .int .i64 0, .int .i64 0, .int .i64 0], .slice none 0 0], []⟩ 8 (by kernel_rfl) (by kernel_rfl) (by kernel_rfl) (by kernel_rfl)) ?_
  intro W base args ds gs before hval0 hW hcnd hsz0 _
  have hval : ∀ (j : Nat) t v, Try.f19.params[j]? = some t → args[j]? = some v → Value.okWide Try.prog W .any base t v := hval0
  have hW' := hW
  obtain ⟨p, q, hA0, hV, rfl, hfz, hnd⟩ := hW
  have hA : DataW.TrodAll enc Try.prog W 0 (fun _ => true) true Try.f19.params.toList args.toList ds p := hA0
  rw [Try.params19] at hA hval
  obtain ⟨v0, vs0, d0, ds0, p0, q0, hargs, rfl, rfl, h0, r0⟩ := trodAll_cons hA
  obtain ⟨v1, vs1, d1, ds1, p1, q1, rfl, rfl, rfl, h1, r1⟩ := trodAll_cons r0
  obtain ⟨v2, vs2, d2, ds2, p2, q2, rfl, rfl, rfl, h2, r2⟩ := trodAll_cons r1
  obtain ⟨rfl, rfl, rfl⟩ := trodAll_nil r2
  obtain rfl : args = #[v0, v1, v2] := by cases args; simp_all
  obtain ⟨rfl, rfl⟩ := trodVars_none hV
  obtain ⟨l0, e0, o0⟩ := open_arg S.tysOk (n := 10) (t := 3) rfl rfl (hval 0 3 v0 rfl rfl) h0
  obtain ⟨x0, _, rfl, k0, rfl⟩ := e0
  obtain ⟨l1, e1, o1⟩ := open_arg S.tysOk (n := 10) (t := 77) rfl rfl (hval 1 77 v1 rfl rfl) h1
  obtain ⟨x1, _, rfl, k1, x2, _, rfl, k2, x3, _, rfl, k3, x4, _, rfl, k4, x5, _, rfl, k5, x6, _, rfl, k6, x7, _, rfl, k7, x8, _, rfl, k8, x9, _, rfl, k9, x10, _, rfl, k10, x11, _, rfl, k11, x12, _, rfl, k12, rfl⟩ := e1
  obtain ⟨as2, m2, k13, len2, le2, o2⟩ := open_lst S.tysOk (n := 10) (t := 87) (ss := [.int .i64, .int .i64]) rfl rfl (by rfl) (by decide) (hval 2 87 v2 rfl rfl) h2
  have hargs : ArgsRel W.cell? S.c_law12_GateTells.ps [v0, v1, v2] [x0, x1, x2, x3, x4, x5, x6, x7, x8, x9, x10, x11, x12, .l as2, .i m2] := ⟨v0, _, [x0], _, rfl, rfl, o0, ⟨v1, _, [x1, x2, x3, x4, x5, x6, x7, x8, x9, x10, x11, x12], _, rfl, rfl, o1, ⟨v2, _, [.l as2, .i m2], _, rfl, rfl, o2, ⟨rfl, rfl⟩⟩⟩⟩
  have g2 : ((m2 : Nat) : Int) ≤ 9223372036854775807 := by
    have e : maxLen = 9223372036854775807 := by decide
    omega
  have f0 := leaf_i64 k0
  have f1 := leaf_i64 k1
  have f2 := leaf_i64 k2
  have f3 := leaf_i64 k3
  have f4 := leaf_i64 k4
  have f5 := leaf_i64 k5
  have f6 := leaf_i64 k6
  have f7 := leaf_i64 k7
  have f8 := leaf_i64 k8
  have f9 := leaf_i64 k9
  have f10 := leaf_i64 k10
  have f11 := leaf_i64 k11
  have f12 := leaf_i64 k12
  have hp : (S.t_19 [x0, x1, x2, x3, x4, x5, x6, x7, x8, x9, x10, x11, x12, .l as2, .i m2]).1 = true := by
    simp [S.t_19, gi, gb, gs, gv, ge, Day.ND.i64, Day.HB.i64, Day.all8, Day.HB.a, Day.Ls.ok, f0, f1, f2, f3, f4, f5, f6, f7, f8, f9, f10, f11, f12, g2]
  refine (law_calls S.ctr_law12_GateTells (fun _ => rfl) rfl hargs (by rw [show S.c_law12_GateTells.f = 19 from rfl, S.T_19]; exact hp) (by rw [show S.c_law12_GateTells.f = 19 from rfl, S.T_19]; rfl)).mono fun e W2 ⟨he, bel⟩ => ?_
  subst he
  have b0 := Below.trod Seat.laidOut (by kernel_rfl) (of_decide_eq_true (by kernel_rfl)) h0 bel (fun x hx => by simpa using hW'.lt x (by simp [hx]))
  have b1 := Below.trod Seat.laidOut (by kernel_rfl) (of_decide_eq_true (by kernel_rfl)) h1 bel (fun x hx => by simpa using hW'.lt x (by simp [hx]))
  have b2 := Below.trod Seat.laidOut (by kernel_rfl) (of_decide_eq_true (by kernel_rfl)) h2 bel (fun x hx => by simpa using hW'.lt x (by simp [hx]))
  exact ⟨_, rfl, _, _, _, [], _, [], hW', trodAll_mk1 (shut_bool Try.underlying4 _), (trodAll_cons_mk b0 (trodAll_cons_mk b1 (trodAll_cons_mk b2 trodAll_mk0))), rfl, bel.frame _, fun h => by cases h⟩
theorem facts : joinedFacts Try.prog 19 Try.f19 Rows.gateTellsSpec Rows.gateTellsRow = true :=
  Seat.facts Seat.enter Seat.lifts Seat.made Seat.laidOut Seat.rowed Seat.heard 19 Try.f19 Rows.gateTellsSpec Rows.gateTellsRow ((rfl : Rows.gateTellsRow.plainKeys = true).trans Seat.keys) (by kernel_rfl) (by kernel_rfl) (by kernel_rfl) (by kernel_rfl) (by kernel_rfl) (by kernel_rfl) (by kernel_rfl) (by kernel_rfl)
theorem named : Try.prog.funcNamed Rows.gateTellsRow.func = some 19 := by kernel_rfl
theorem inst : Try.f19.isInstance Try.prog Rows.gateTellsRow.origin Rows.gateTellsRow.targs := of_decide_eq_true (by kernel_rfl)
theorem wrapped : Try.f19.isWrapper Try.prog Rows.gateTellsRow.wrapper Rows.gateTellsRow.mainSum := by unfold Func.isWrapper; rw [if_neg (by decide +kernel)]; exact ⟨rfl, rfl⟩
theorem over : Rows.gateTellsRow.holds Try.pinned (OpenSpec.ofChange Rows.gateTellsSpec) :=
  OpenClaim.holds_of_wide 19 Try.f19 rfl rfl rfl rfl rfl rfl rfl ⟨rfl, rfl, rfl, rfl, rfl⟩ rfl rfl rfl rfl rfl named Try.func19 facts inst wrapped
    (fun os started H enc _ => lifted os started H enc)
theorem proved : Rows.GateTellsSaid := over
end Go.Proofs.Ytjipnabidebgbaa.gateTells
namespace Go.Proofs.Ytjipnabidebgbaa
/-- The row, under a short name, for the claim. -/
theorem gateTells_holds : Rows.GateTellsSaid := gateTells.proved
end Go.Proofs.Ytjipnabidebgbaa
