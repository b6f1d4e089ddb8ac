/- Who said an Info votes for its own slot, and all other ports' ages stay; under no condition. -/
import Derived.Test.YtjipnabidebgbaaXc
import Derived.Test.YtjipnabidebgbaaXe
import Derived.Test.YtjipnabidebgbaaXf
import Derived.Test.YtjipnabidebgbaaXvoteb
import Derived.Test.YtjipnabidebgbaaXgate
import Derived.Test.YtjipnabidebgbaaXlaw12
import Derived.Test.YtjipnabidebgbaaYGateNotes
import Derived.Test.YtjipnabidebgbaaRows
import Derived.Test.YtjipnabidebgbaaSeat
import Derived.WalkKit
import Derived.ProofKit
import Derived.OpenShut
import Derived.ShutString
import Derived.ChangeOld
import Derived.Below
import Derived.SizedLaws
set_option linter.unusedVariables false
set_option linter.unusedSimpArgs false
namespace Rx.S
open Go Rx Go.Proofs
set_option maxRecDepth 100000
set_option maxHeartbeats 4000000
set_option linter.unusedVariables false
def c_law12_GateNotes : Ctr := { f := 20, ps := [.c false [.int .u8], .c true [.int .i64, .int .i64, .int .i64, .int .i64, .int .i64, .int .i64, .int .i64, .int .i64, .int .i64, .int .i64, .int .i64, .int .i64], .lst [.int .i64, .int .i64]], rs := [(false, [.bool])], ok := fun _ => true }
noncomputable def fns_law12_GateNotes : List (Nat × Func) := [(20, Try.f20), (97, Try.f97), (102, Try.f102), (103, Try.f103), (106, Try.f106), (101, Try.f101)]
theorem fnsOk_law12_GateNotes : FnsAll Try.prog fns_law12_GateNotes := ⟨fn20, fn97, fn102, fn103, fn106, fn101, trivial⟩
noncomputable def X_law12_GateNotes_0 : Ctx := { tys := tys, eqs := eqs, fns := fun f => look f fns_law12_GateNotes, ctr := [(97, c_ref11_Right), (101, c_ref11_Votes), (102, c_ref12_Fits), (106, c_gate_Note), (103, c_law12_awake)], lim := 30, big := [], lps := [] }
theorem xok_law12_GateNotes_0 : XL Try.prog T X_law12_GateNotes_0 where
  tys := tysOk
  eqs := eqsOk
  mixed := mixed
  ctr := ctrsOK_of ⟨⟨rfl, ctr_ref11_Right⟩, ⟨rfl, ctr_ref11_Votes⟩, ⟨rfl, ctr_ref12_Fits⟩, ⟨rfl, ctr_gate_Note⟩, ⟨rfl, ctr_law12_awake⟩, trivial⟩
  fns := fnsOK_of fnsOk_law12_GateNotes
  big := bigsOK_of trivial
  lps := lps_nil rfl
theorem lpok_1770 : ∀ fn body c, X_law12_GateNotes_0.fns lp_1770.f = some fn → fn.body = some body → subAt lp_1770.p body = some (.loop c) → LoopOK Try.prog T lp_1770 c :=
  loop_of xok_law12_GateNotes_0 widths (g := g_L1770) (back := some (V 78, [V 0, V 1, V 2, V 3, V 4, V 5, V 6, V 7, V 8, V 9, V 10, V 11, V 12, V 13, V 14, V 15, V 75, V 17, V 18, V 19, V 20, V 21, V 22, V 23, V 24, V 25, V 26, V 27, V 28, V 29, V 30, V 31, V 32, V 33, V 34, V 35])) (exs := [(V 79, [some (B true), none]), (V 37, [none, some (B true)])]) (by kernel_rfl) (fun aq => by rw [show lp_1770.id = 1770 from rfl, T_1770]; rfl) m_1770 fun aq e h1 h2 h3 => by
    rw [show lp_1770.id = 1770 from rfl, T_1770] at h2 ⊢
    exact lpure_1770 aq e h1 h2 h3
noncomputable def X_law12_GateNotes : Ctx := { tys := tys, eqs := eqs, fns := fun f => look f fns_law12_GateNotes, ctr := [(97, c_ref11_Right), (101, c_ref11_Votes), (102, c_ref12_Fits), (106, c_gate_Note), (103, c_law12_awake)], lim := 30, big := [], lps := [lp_1770] }
theorem xok_law12_GateNotes : XL Try.prog T X_law12_GateNotes where
  tys := tysOk
  eqs := eqsOk
  mixed := mixed
  ctr := ctrsOK_of ⟨⟨rfl, ctr_ref11_Right⟩, ⟨rfl, ctr_ref11_Votes⟩, ⟨rfl, ctr_ref12_Fits⟩, ⟨rfl, ctr_gate_Note⟩, ⟨rfl, ctr_law12_awake⟩, trivial⟩
  fns := fnsOK_of fnsOk_law12_GateNotes
  big := bigsOK_of trivial
  lps := lpsOK_of ⟨lpok_1770, trivial⟩
theorem ctr_law12_GateNotes : CtrOK Try.prog T c_law12_GateNotes := ctr_of xok_law12_GateNotes widths (g := g_law12_GateNotes) (ls := [V 116]) (by kernel_rfl) (fun aq => by rw [show c_law12_GateNotes.f = 20 from rfl, T_20]; rfl) fun aq e h1 h2 h3 => by
  subst h1
  rw [show c_law12_GateNotes.f = 20 from rfl, T_20] at h2 ⊢
  obtain ⟨ho, hr⟩ := pure_law12_GateNotes e h3 h2
  have r0 := hr
  refine ⟨⟨ho.1, ho.2.1, ho.2.2.1, ho.2.2.2.1, ho.2.2.2.2.1, ho.2.2.2.2.2.1, ho.2.2.2.2.2.2, trivial⟩, ?_⟩
  show semMany [.bool] (t_20 _).2 = semMany [.bool] [L.ev e (V 116)]
  exact (semB r0 rfl)
end Rx.S
namespace Go.Proofs.Ytjipnabidebgbaa.gateNotes
open Go.ChangeShapes Go.WideShapes Go.ChangeAt Go.RowKit Rx
set_option linter.unusedVariables false
theorem own : ownKnob Try.prog.godebug = none := by kernel_rfl
set_option maxRecDepth 100000 in
theorem lifted (os : Os) (started : os.Started) (H : Type) (enc : TypeId × Value → H) :
    ReturnsInHanded {} Try.checked os 20 .any (Rows.gateNotesSpec.pre6 enc Try.prog Try.f20 Rows.gateNotesRow.domain false) (Rows.gateNotesSpec.post enc Try.prog Try.f20 false true false false) := by
  refine returnsInHanded_of_change_sized (C := Try.checked) own started (by kernel_rfl) Try.func20
    (ChangeSpec.witness6 (enc := enc) (C := Try.checked) false ⟨#[], #[.int .u8 0, .agg #[.int .i64 0, .int .i64 0, .int .i64 0, .int .i64 0, .int .i64 0, .int .i64 0, .int .i64 0, .int .i64 0, .int .i64 0, .int .i64 0, .int .i64 0, .int .i64 0], .slice none 0 0], []⟩ 8 (by kernel_rfl) (by kernel_rfl) (by kernel_rfl) (by kernel_rfl)) ?_
  intro W base args ds gs before hval0 hW hcnd hsz0 _
  have hval : ∀ (j : Nat) t v, Try.f20.params[j]? = some t → args[j]? = some v → Value.okWide Try.prog W .any base t v := hval0
  have hW' := hW
  obtain ⟨p, q, hA0, hV, rfl, hfz, hnd⟩ := hW
  have hA : DataW.TrodAll enc Try.prog W 0 (fun _ => true) true Try.f20.params.toList args.toList ds p := hA0
  rw [Try.params20] at hA hval
  obtain ⟨v0, vs0, d0, ds0, p0, q0, hargs, rfl, rfl, h0, r0⟩ := trodAll_cons hA
  obtain ⟨v1, vs1, d1, ds1, p1, q1, rfl, rfl, rfl, h1, r1⟩ := trodAll_cons r0
  obtain ⟨v2, vs2, d2, ds2, p2, q2, rfl, rfl, rfl, h2, r2⟩ := trodAll_cons r1
  obtain ⟨rfl, rfl, rfl⟩ := trodAll_nil r2
  obtain rfl : args = #[v0, v1, v2] := by cases args; simp_all
  obtain ⟨rfl, rfl⟩ := trodVars_none hV
  obtain ⟨l0, e0, o0⟩ := open_arg S.tysOk (n := 10) (t := 5) rfl rfl (hval 0 5 v0 rfl rfl) h0
  obtain ⟨x0, _, rfl, k0, rfl⟩ := e0
  obtain ⟨l1, e1, o1⟩ := open_arg S.tysOk (n := 10) (t := 77) rfl rfl (hval 1 77 v1 rfl rfl) h1
  obtain ⟨x1, _, rfl, k1, x2, _, rfl, k2, x3, _, rfl, k3, x4, _, rfl, k4, x5, _, rfl, k5, x6, _, rfl, k6, x7, _, rfl, k7, x8, _, rfl, k8, x9, _, rfl, k9, x10, _, rfl, k10, x11, _, rfl, k11, x12, _, rfl, k12, rfl⟩ := e1
  obtain ⟨as2, m2, k13, len2, le2, o2⟩ := open_lst S.tysOk (n := 10) (t := 87) (ss := [.int .i64, .int .i64]) rfl rfl (by rfl) (by decide) (hval 2 87 v2 rfl rfl) h2
  have hargs : ArgsRel W.cell? S.c_law12_GateNotes.ps [v0, v1, v2] [x0, x1, x2, x3, x4, x5, x6, x7, x8, x9, x10, x11, x12, .l as2, .i m2] := ⟨v0, _, [x0], _, rfl, rfl, o0, ⟨v1, _, [x1, x2, x3, x4, x5, x6, x7, x8, x9, x10, x11, x12], _, rfl, rfl, o1, ⟨v2, _, [.l as2, .i m2], _, rfl, rfl, o2, ⟨rfl, rfl⟩⟩⟩⟩
  have g2 : ((m2 : Nat) : Int) ≤ 9223372036854775807 := by
    have e : maxLen = 9223372036854775807 := by decide
    omega
  have f0 := leaf_u8 k0
  have f1 := leaf_i64 k1
  have f2 := leaf_i64 k2
  have f3 := leaf_i64 k3
  have f4 := leaf_i64 k4
  have f5 := leaf_i64 k5
  have f6 := leaf_i64 k6
  have f7 := leaf_i64 k7
  have f8 := leaf_i64 k8
  have f9 := leaf_i64 k9
  have f10 := leaf_i64 k10
  have f11 := leaf_i64 k11
  have f12 := leaf_i64 k12
  have hp : (S.t_20 [x0, x1, x2, x3, x4, x5, x6, x7, x8, x9, x10, x11, x12, .l as2, .i m2]).1 = true := by
    simp [S.t_20, gi, gb, gs, gv, ge, Day.ND.i64, Day.HB.i64, Day.all8, Day.HB.a, Day.Ls.ok, f0, f1, f2, f3, f4, f5, f6, f7, f8, f9, f10, f11, f12, g2]
  refine (law_calls S.ctr_law12_GateNotes (fun _ => rfl) rfl hargs (by rw [show S.c_law12_GateNotes.f = 20 from rfl, S.T_20]; exact hp) (by rw [show S.c_law12_GateNotes.f = 20 from rfl, S.T_20]; rfl)).mono fun e W2 ⟨he, bel⟩ => ?_
  subst he
  have b0 := Below.trod Seat.laidOut (by kernel_rfl) (of_decide_eq_true (by kernel_rfl)) h0 bel (fun x hx => by simpa using hW'.lt x (by simp [hx]))
  have b1 := Below.trod Seat.laidOut (by kernel_rfl) (of_decide_eq_true (by kernel_rfl)) h1 bel (fun x hx => by simpa using hW'.lt x (by simp [hx]))
  have b2 := Below.trod Seat.laidOut (by kernel_rfl) (of_decide_eq_true (by kernel_rfl)) h2 bel (fun x hx => by simpa using hW'.lt x (by simp [hx]))
  exact ⟨_, rfl, _, _, _, [], _, [], hW', trodAll_mk1 (shut_bool Try.underlying4 _), (trodAll_cons_mk b0 (trodAll_cons_mk b1 (trodAll_cons_mk b2 trodAll_mk0))), rfl, bel.frame _, fun h => by cases h⟩
theorem facts : joinedFacts Try.prog 20 Try.f20 Rows.gateNotesSpec Rows.gateNotesRow = true :=
  Seat.facts Seat.enter Seat.lifts Seat.made Seat.laidOut Seat.rowed Seat.heard 20 Try.f20 Rows.gateNotesSpec Rows.gateNotesRow ((rfl : Rows.gateNotesRow.plainKeys = true).trans Seat.keys) (by kernel_rfl) (by kernel_rfl) (by kernel_rfl) (by kernel_rfl) (by kernel_rfl) (by kernel_rfl) (by kernel_rfl) (by kernel_rfl)
theorem named : Try.prog.funcNamed Rows.gateNotesRow.func = some 20 := by kernel_rfl
theorem inst : Try.f20.isInstance Try.prog Rows.gateNotesRow.origin Rows.gateNotesRow.targs := of_decide_eq_true (by kernel_rfl)
theorem wrapped : Try.f20.isWrapper Try.prog Rows.gateNotesRow.wrapper Rows.gateNotesRow.mainSum := by unfold Func.isWrapper; rw [if_neg (by decide +kernel)]; exact ⟨rfl, rfl⟩
theorem over : Rows.gateNotesRow.holds Try.pinned (OpenSpec.ofChange Rows.gateNotesSpec) :=
  OpenClaim.holds_of_wide 20 Try.f20 rfl rfl rfl rfl rfl rfl rfl ⟨rfl, rfl, rfl, rfl, rfl⟩ rfl rfl rfl rfl rfl named Try.func20 facts inst wrapped
    (fun os started H enc _ => lifted os started H enc)
theorem proved : Rows.GateNotesSaid := over
end Go.Proofs.Ytjipnabidebgbaa.gateNotes
namespace Go.Proofs.Ytjipnabidebgbaa
/-- The row, under a short name, for the claim. -/
theorem gateNotes_holds : Rows.GateNotesSaid := gateNotes.proved
end Go.Proofs.Ytjipnabidebgbaa
