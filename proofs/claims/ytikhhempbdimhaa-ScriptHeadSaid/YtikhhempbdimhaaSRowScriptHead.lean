/- The first three bytes of a script, of 3000 bytes at most, tell how many nodes there are, the fault, and whether states are loaded, and as many things follow. -/
import Derived.Test.YtikhhempbdimhaaSXc
import Derived.Test.YtikhhempbdimhaaSXe
import Derived.Test.YtikhhempbdimhaaSXf
import Derived.Test.YtikhhempbdimhaaSXg
import Derived.Test.YtikhhempbdimhaaSXlaw18
import Derived.Test.YtikhhempbdimhaaSXscript
import Derived.Test.YtikhhempbdimhaaSYScriptHead
import Derived.Test.YtikhhempbdimhaaRows
import Derived.Test.YtikhhempbdimhaaSeat
import Derived.WalkKit
import Derived.ProofKit
import Derived.OpenShut
import Derived.ShutString
import Derived.ChangeOld
import Derived.Below
import Derived.SizedLaws
set_option linter.unusedVariables false
set_option linter.unusedSimpArgs false
namespace Rx.S
open Go Rx Go.Proofs
set_option maxRecDepth 100000
set_option maxHeartbeats 4000000
def Bt : J7 := { f := 4, ps := [.c false [.str]], rs := [(false, [.bool])], ok := fun _ => true }
noncomputable def Es : List (Nat × Func) := [(4, Try.f4), (7, Try.f7), (9, Try.f9)]
theorem Hy : BR Try.prog Es := ⟨fn4, fn7, fn9, trivial⟩
noncomputable def K5 : Ctx := { Ay := Ay, eqs := eqs, fns := fun f => look f Es, ctr := [(7, Da)], lim := 30, big := [(9, Ed)], lps := [] }
theorem Jo : XL Try.prog T K5 where
 Ay := AZ
 eqs := A4
 mixed := mixed
 ctr := Am ⟨⟨rfl, HW⟩, trivial⟩
 fns := Ar Hy
 big := An ⟨⟨rfl, HU⟩, trivial⟩
 lps := Bw rfl
theorem Jp : CJ Try.prog T Bt := Cr Jo AI (g := Dl) (ls := [V 211]) (by kernel_rfl) (fun aq => by rw [show Bt.f = 4 from rfl, T_4]; rfl) fun aq e h1 h2 h3 => by
 subst h1
 rw [show Bt.f = 4 from rfl, T_4] at h2 ⊢
 obtain ⟨ho, hr⟩ := H5 e h3 h2
 have r0 := hr
 refine ⟨⟨ho.1, ho.2.1, ho.2.2.1, ho.2.2.2.1, ho.2.2.2.2.1, ho.2.2.2.2.2.1, ho.2.2.2.2.2.2, trivial⟩, ?_⟩
 show Ag [.bool] (t_4 _).2 = Ag [.bool] [L.ev e (V 211)]
 exact (SZ r0 rfl)
end Rx.S
namespace Go.Proofs.Ytikhhempbdimhaa.scriptHead
open Go.ChangeShapes Go.WideShapes Go.ChangeAt Go.RowKit Rx
theorem own : ownKnob Try.prog.godebug = none := by kernel_rfl
set_option maxRecDepth 100000 in
theorem lifted (os : Os) (started : os.Started) (H : Type) (enc : TypeId × Value → H) :
    ReturnsInHanded {} Try.checked os 4 .any (Rows.scriptHeadSpec.pre6 enc Try.prog Try.f4 Rows.scriptHeadRow.domain false) (Rows.scriptHeadSpec.post enc Try.prog Try.f4 false true false false) := by
  refine returnsInHanded_of_change_sized (C := Try.checked) own started (by kernel_rfl) Try.func4
    (ChangeSpec.witness6 (enc := enc) (C := Try.checked) false ⟨#[], #[.string ⟨#[]⟩], []⟩ 8 (by kernel_rfl) (by kernel_rfl) (by kernel_rfl) (by kernel_rfl)) ?_
  intro W base args ds gs before hval0 hW hcnd hsz0 _
  have hval : ∀ (j : Nat) t v, Try.f4.params[j]? = some t → args[j]? = some v → Value.okWide Try.prog W .any base t v := hval0
  have hW' := hW
  obtain ⟨p, q, hA0, hV, rfl, hfz, hnd⟩ := hW
  have hA : DataW.TrodAll enc Try.prog W 0 (fun _ => true) true Try.f4.params.toList args.toList ds p := hA0
  rw [Try.params4] at hA hval
  obtain ⟨v0, vs0, d0, ds0, p0, q0, hargs, rfl, rfl, h0, r0⟩ := trodAll_cons hA
  obtain ⟨rfl, rfl, rfl⟩ := trodAll_nil r0
  obtain rfl : args = #[v0] := by cases args; simp_all
  obtain ⟨rfl, rfl⟩ := trodVars_none hV
  obtain ⟨l0, e0, o0⟩ := Ua S.AZ (n := 10) (t := 9) rfl rfl (hval 0 9 v0 rfl rfl) h0
  obtain ⟨x0, _, rfl, k0, rfl⟩ := e0
  have hargs : Cb W.cell? S.Bt.ps [v0] [x0] := ⟨v0, _, [x0], _, rfl, rfl, o0, ⟨rfl, rfl⟩⟩
  have hp : (S.t_4 [x0]).1 = true := by
    simp [S.t_4, gi, gb, gs, gv, ge, Day.ND.i64, Day.HB.i64, Day.Aca, Day.HB.a]
  have hTab : O1 Try.prog W := fun h => absurd h (by rw [show Try.prog.globalNamed Ov = none by kernel_rfl]; simp)
  refine (R0 S.Jp (fun _ => rfl) rfl hTab hargs (by rw [show S.Bt.f = 4 from rfl, S.T_4]; exact hp) (by rw [show S.Bt.f = 4 from rfl, S.T_4]; rfl)).mono fun e W2 ⟨he, bel⟩ => ?_
  subst he
  have b0 := Below.trod Seat.laidOut (by kernel_rfl) (of_decide_eq_true (by kernel_rfl)) h0 bel (fun x hx => by simpa using hW'.lt x (by simp [hx]))
  exact ⟨_, rfl, _, _, _, [], _, [], hW', trodAll_mk1 (shut_bool Try.underlying4 _), (trodAll_cons_mk b0 trodAll_mk0), rfl, bel.frame _, fun h => by cases h⟩
theorem facts : joinedFacts Try.prog 4 Try.f4 Rows.scriptHeadSpec Rows.scriptHeadRow = true :=
  Seat.facts Seat.enter Seat.lifts Seat.made Seat.laidOut Seat.rowed Seat.heard 4 Try.f4 Rows.scriptHeadSpec Rows.scriptHeadRow ((rfl : Rows.scriptHeadRow.plainKeys = true).trans Seat.keys) (by kernel_rfl) (by kernel_rfl) (by kernel_rfl) (by kernel_rfl) (by kernel_rfl) (by kernel_rfl) (by kernel_rfl) (by kernel_rfl)
theorem named : Try.prog.funcNamed Rows.scriptHeadRow.func = some 4 := by kernel_rfl
theorem inst : Try.f4.isInstance Try.prog Rows.scriptHeadRow.origin Rows.scriptHeadRow.targs := of_decide_eq_true (by kernel_rfl)
theorem wrapped : Try.f4.isWrapper Try.prog Rows.scriptHeadRow.wrapper Rows.scriptHeadRow.mainSum := by unfold Func.isWrapper; rw [if_neg (by decide +kernel)]; exact ⟨rfl, rfl⟩
theorem Acn : Rows.scriptHeadRow.holds Try.pinned (OpenSpec.ofChange Rows.scriptHeadSpec) :=
  OpenClaim.holds_of_wide 4 Try.f4 rfl rfl rfl rfl rfl rfl rfl ⟨rfl, rfl, rfl, rfl, rfl⟩ rfl rfl rfl rfl rfl named Try.func4 facts inst wrapped
    (fun os started H enc _ => lifted os started H enc)
theorem proved : Rows.ScriptHeadSaid := Acn
end Go.Proofs.Ytikhhempbdimhaa.scriptHead
namespace Go.Proofs.Ytikhhempbdimhaa
/-- The row, under a short name, for the claim. -/
theorem scriptHead_holds : Rows.ScriptHeadSaid := scriptHead.proved
end Go.Proofs.Ytikhhempbdimhaa
