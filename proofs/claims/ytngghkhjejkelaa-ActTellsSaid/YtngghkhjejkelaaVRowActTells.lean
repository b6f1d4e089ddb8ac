/- What becomes of any node, by any frames that are heard, and in any ticks in which nothing is, is the document's. -/
import Derived.Test.YtngghkhjejkelaaVXc
import Derived.Test.YtngghkhjejkelaaVXe
import Derived.Test.YtngghkhjejkelaaVXact
import Derived.Test.YtngghkhjejkelaaVXf
import Derived.Test.YtngghkhjejkelaaVXg
import Derived.Test.YtngghkhjejkelaaVXlaw09
import Derived.Test.YtngghkhjejkelaaVYActTells
import Derived.Test.YtngghkhjejkelaaRows
import Derived.Test.YtngghkhjejkelaaSeat
import Derived.WalkKit
import Derived.ProofKit
import Derived.OpenShut
import Derived.ShutString
import Derived.ChangeOld
import Derived.Below
import Derived.SizedLaws
set_option linter.unusedVariables false
set_option linter.unusedSimpArgs false
namespace Rx.S
open Go Rx Go.Proofs
set_option maxRecDepth 100000
set_option maxHeartbeats 4000000
def BK : DD := { f := 7, ps := [.c true [.int .i64, .int .i64, .int .i64, .int .i64, .int .i64, .int .i64, .int .i64, .int .i64, .int .i64, .int .i64]], rs := [(false, [.bool])], ok := fun _ => true }
noncomputable def Fo : List (Nat × Func) := [(7, Try.f7), (26, Try.f26), (27, Try.f27), (28, Try.f28), (30, Try.f30), (31, Try.f31), (32, Try.f32)]
theorem I2 : AD Try.prog Fo := ⟨fn7, ZQ, Yy, SK, ZR, Aao, Aap, trivial⟩
noncomputable def Ng : Ctx := { As := As, eqs := eqs, fns := fun f => look f Fo, ctr := [(30, CU), (28, CO), (31, FQ), (32, DY), (26, C3), (27, Cy)], lim := 30, big := [], lps := [] }
theorem KT : XL Try.prog T Ng where
 As := AM
 eqs := AY
 mixed := mixed
 ctr := Ak ⟨⟨rfl, Fm⟩, ⟨rfl, CT⟩, ⟨rfl, Rh⟩, ⟨rfl, Ox⟩, ⟨rfl, HO⟩, ⟨rfl, Em⟩, trivial⟩
 fns := An I2
 big := Al trivial
 lps := Av rfl
theorem KU : AW Try.prog T BK := AJ KT AH (g := DM) (ls := [V 73]) (by kernel_rfl) (fun aq => by rw [show BK.f = 7 from rfl, T_7]; rfl) fun aq e h1 h2 h3 => by
 subst h1
 rw [show BK.f = 7 from rfl, T_7] at h2 ⊢
 obtain ⟨ho, hr⟩ := JB e h3 h2
 have r0 := hr
 refine ⟨⟨ho.1, ho.2.1, ho.2.2.1, ho.2.2.2.1, ho.2.2.2.2.1, ho.2.2.2.2.2.1, ho.2.2.2.2.2.2, trivial⟩, ?_⟩
 show Aa [.bool] (t_7 _).2 = Aa [.bool] [L.ev e (V 73)]
 exact (Iu r0 rfl)
end Rx.S
namespace Go.Proofs.Ytngghkhjejkelaa.actTells
open Go.ChangeShapes Go.WideShapes Go.ChangeAt Go.RowKit Rx
theorem own : ownKnob Try.prog.godebug = none := by kernel_rfl
set_option maxRecDepth 100000 in
theorem lifted (os : Os) (started : os.Started) (H : Type) (enc : TypeId × Value → H) :
    ReturnsInHanded {} Try.checked os 7 .any (Rows.actTellsSpec.pre6 enc Try.prog Try.f7 Rows.actTellsRow.domain false) (Rows.actTellsSpec.post enc Try.prog Try.f7 false true false false) := by
  refine returnsInHanded_of_change_sized (C := Try.checked) own started (by kernel_rfl) Try.func7
    (ChangeSpec.witness6 (enc := enc) (C := Try.checked) false ⟨#[], #[.agg #[.int .i64 0, .int .i64 0, .int .i64 0, .int .i64 0, .int .i64 0, .int .i64 0, .int .i64 0, .int .i64 0, .int .i64 0, .int .i64 0]], []⟩ 8 (by kernel_rfl) (by kernel_rfl) (by kernel_rfl) (by kernel_rfl)) ?_
  intro W base args ds gs before hval0 hW hcnd hsz0 _
  have hval : ∀ (j : Nat) t v, Try.f7.params[j]? = some t → args[j]? = some v → Value.okWide Try.prog W .any base t v := hval0
  have hW' := hW
  obtain ⟨p, q, hA0, hV, rfl, hfz, hnd⟩ := hW
  have hA : DataW.TrodAll enc Try.prog W 0 (fun _ => true) true Try.f7.params.toList args.toList ds p := hA0
  rw [Try.params7] at hA hval
  obtain ⟨v0, vs0, d0, ds0, p0, q0, hargs, rfl, rfl, h0, r0⟩ := trodAll_cons hA
  obtain ⟨rfl, rfl, rfl⟩ := trodAll_nil r0
  obtain rfl : args = #[v0] := by cases args; simp_all
  obtain ⟨rfl, rfl⟩ := trodVars_none hV
  obtain ⟨l0, e0, o0⟩ := It S.AM (n := 10) (t := 57) rfl rfl (hval 0 57 v0 rfl rfl) h0
  obtain ⟨x0, _, rfl, k0, x1, _, rfl, k1, x2, _, rfl, k2, x3, _, rfl, k3, x4, _, rfl, k4, x5, _, rfl, k5, x6, _, rfl, k6, x7, _, rfl, k7, x8, _, rfl, k8, x9, _, rfl, k9, rfl⟩ := e0
  have hargs : Cb W.cell? S.BK.ps [v0] [x0, x1, x2, x3, x4, x5, x6, x7, x8, x9] := ⟨v0, _, [x0, x1, x2, x3, x4, x5, x6, x7, x8, x9], _, rfl, rfl, o0, ⟨rfl, rfl⟩⟩
  have f0 := AQ k0
  have f1 := AQ k1
  have f2 := AQ k2
  have f3 := AQ k3
  have f4 := AQ k4
  have f5 := AQ k5
  have f6 := AQ k6
  have f7 := AQ k7
  have f8 := AQ k8
  have f9 := AQ k9
  have hp : (S.t_7 [x0, x1, x2, x3, x4, x5, x6, x7, x8, x9]).1 = true := by
    simp [S.t_7, gi, gb, gs, gv, ge, Day.ND.i64, Day.HB.i64, Day.YE, Day.HB.a, f0, f1, f2, f3, f4, f5, f6, f7, f8, f9]
  refine (MW S.KU (fun _ => rfl) rfl hargs (by rw [show S.BK.f = 7 from rfl, S.T_7]; exact hp) (by rw [show S.BK.f = 7 from rfl, S.T_7]; rfl)).mono fun e W2 ⟨he, Ui⟩ => ?_
  subst he
  have b0 := Below.trod Seat.laidOut (by kernel_rfl) (of_decide_eq_true (by kernel_rfl)) h0 Ui (fun x hx => by simpa using hW'.lt x (by simp [hx]))
  exact ⟨_, rfl, _, _, _, [], _, [], hW', trodAll_mk1 (shut_bool Try.underlying4 _), (trodAll_cons_mk b0 trodAll_mk0), rfl, Ui.frame _, fun h => by cases h⟩
theorem facts : joinedFacts Try.prog 7 Try.f7 Rows.actTellsSpec Rows.actTellsRow = true :=
  Seat.facts Seat.enter Seat.lifts Seat.made Seat.laidOut Seat.rowed Seat.heard 7 Try.f7 Rows.actTellsSpec Rows.actTellsRow ((rfl : Rows.actTellsRow.plainKeys = true).trans Seat.keys) (by kernel_rfl) (by kernel_rfl) (by kernel_rfl) (by kernel_rfl) (by kernel_rfl) (by kernel_rfl) (by kernel_rfl) (by kernel_rfl)
theorem named : Try.prog.funcNamed Rows.actTellsRow.func = some 7 := by kernel_rfl
theorem inst : Try.f7.isInstance Try.prog Rows.actTellsRow.origin Rows.actTellsRow.targs := of_decide_eq_true (by kernel_rfl)
theorem wrapped : Try.f7.isWrapper Try.prog Rows.actTellsRow.wrapper Rows.actTellsRow.mainSum := by unfold Func.isWrapper; rw [if_neg (by decide +kernel)]; exact ⟨rfl, rfl⟩
theorem Yc : Rows.actTellsRow.holds Try.pinned (OpenSpec.ofChange Rows.actTellsSpec) :=
  OpenClaim.holds_of_wide 7 Try.f7 rfl rfl rfl rfl rfl rfl rfl ⟨rfl, rfl, rfl, rfl, rfl⟩ rfl rfl rfl rfl rfl named Try.func7 facts inst wrapped
    (fun os started H enc _ => lifted os started H enc)
theorem proved : Rows.ActTellsSaid := Yc
end Go.Proofs.Ytngghkhjejkelaa.actTells
namespace Go.Proofs.Ytngghkhjejkelaa
/-- The row, under a short name, for the claim. -/
theorem actTells_holds : Rows.ActTellsSaid := actTells.proved
end Go.Proofs.Ytngghkhjejkelaa
