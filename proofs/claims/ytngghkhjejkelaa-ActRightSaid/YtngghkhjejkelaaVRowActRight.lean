/- What becomes of a node may be, and has its Id; whoever hears an Info, and nothing else, is Active in the slot behind it, or listens; without the document's answer. -/
import Derived.Test.YtngghkhjejkelaaVXc
import Derived.Test.YtngghkhjejkelaaVXe
import Derived.Test.YtngghkhjejkelaaVXnode
import Derived.Test.YtngghkhjejkelaaVXact
import Derived.Test.YtngghkhjejkelaaVXf
import Derived.Test.YtngghkhjejkelaaVXg
import Derived.Test.YtngghkhjejkelaaVXlaw09
import Derived.Test.YtngghkhjejkelaaVYActRight
import Derived.Test.YtngghkhjejkelaaRows
import Derived.Test.YtngghkhjejkelaaSeat
import Derived.WalkKit
import Derived.ProofKit
import Derived.OpenShut
import Derived.ShutString
import Derived.ChangeOld
import Derived.Below
import Derived.SizedLaws
set_option linter.unusedVariables false
set_option linter.unusedSimpArgs false
namespace Rx.S
open Go Rx Go.Proofs
set_option maxRecDepth 100000
set_option maxHeartbeats 4000000
def BI : DD := { f := 5, ps := [.c false [.int .u8], .c true [.int .i64, .int .i64, .int .i64, .int .i64], .c true [.int .i64, .int .i64, .int .i64, .int .i64]], rs := [(false, [.bool])], ok := fun _ => true }
noncomputable def Fg : List (Nat × Func) := [(5, Try.f5), (26, Try.f26), (27, Try.f27), (28, Try.f28), (29, Try.f29)]
theorem IS : AD Try.prog Fg := ⟨fn5, ZQ, Yy, SK, V5, trivial⟩
noncomputable def MV : Ctx := { As := As, eqs := eqs, fns := fun f => look f Fg, ctr := [(29, BF), (28, CO), (26, C3), (27, Cy)], lim := 30, big := [], lps := [] }
theorem KK : XL Try.prog T MV where
 As := AM
 eqs := AY
 mixed := mixed
 ctr := Ak ⟨⟨rfl, Cr⟩, ⟨rfl, CT⟩, ⟨rfl, HO⟩, ⟨rfl, Em⟩, trivial⟩
 fns := An IS
 big := Al trivial
 lps := Av rfl
theorem KL : AW Try.prog T BI := AJ KK AH (g := DJ) (ls := [V 148]) (by kernel_rfl) (fun aq => by rw [show BI.f = 5 from rfl, T_5]; rfl) fun aq e h1 h2 h3 => by
 subst h1
 rw [show BI.f = 5 from rfl, T_5] at h2 ⊢
 obtain ⟨ho, hr⟩ := Jr e h3 h2
 have r0 := hr
 refine ⟨⟨ho.1, ho.2.1, ho.2.2.1, ho.2.2.2.1, ho.2.2.2.2.1, ho.2.2.2.2.2.1, ho.2.2.2.2.2.2.1, ho.2.2.2.2.2.2.2.1, ho.2.2.2.2.2.2.2.2, trivial⟩, ?_⟩
 show Aa [.bool] (t_5 _).2 = Aa [.bool] [L.ev e (V 148)]
 exact (Iu r0 rfl)
end Rx.S
namespace Go.Proofs.Ytngghkhjejkelaa.actRight
open Go.ChangeShapes Go.WideShapes Go.ChangeAt Go.RowKit Rx
theorem own : ownKnob Try.prog.godebug = none := by kernel_rfl
set_option maxRecDepth 100000 in
theorem lifted (os : Os) (started : os.Started) (H : Type) (enc : TypeId × Value → H) :
    ReturnsInHanded {} Try.checked os 5 .any (Rows.actRightSpec.pre6 enc Try.prog Try.f5 Rows.actRightRow.domain false) (Rows.actRightSpec.post enc Try.prog Try.f5 false true false false) := by
  refine returnsInHanded_of_change_sized (C := Try.checked) own started (by kernel_rfl) Try.func5
    (ChangeSpec.witness6 (enc := enc) (C := Try.checked) false ⟨#[], #[.int .u8 0, .agg #[.int .i64 0, .int .i64 0, .int .i64 0, .int .i64 0], .agg #[.int .i64 0, .int .i64 0, .int .i64 0, .int .i64 0]], []⟩ 8 (by kernel_rfl) (by kernel_rfl) (by kernel_rfl) (by kernel_rfl)) ?_
  intro W base args ds gs before hval0 hW hcnd hsz0 _
  have hval : ∀ (j : Nat) t v, Try.f5.params[j]? = some t → args[j]? = some v → Value.okWide Try.prog W .any base t v := hval0
  have hW' := hW
  obtain ⟨p, q, hA0, hV, rfl, hfz, hnd⟩ := hW
  have hA : DataW.TrodAll enc Try.prog W 0 (fun _ => true) true Try.f5.params.toList args.toList ds p := hA0
  rw [Try.params5] at hA hval
  obtain ⟨v0, vs0, d0, ds0, p0, q0, hargs, rfl, rfl, h0, r0⟩ := trodAll_cons hA
  obtain ⟨v1, vs1, d1, ds1, p1, q1, rfl, rfl, rfl, h1, r1⟩ := trodAll_cons r0
  obtain ⟨v2, vs2, d2, ds2, p2, q2, rfl, rfl, rfl, h2, r2⟩ := trodAll_cons r1
  obtain ⟨rfl, rfl, rfl⟩ := trodAll_nil r2
  obtain rfl : args = #[v0, v1, v2] := by cases args; simp_all
  obtain ⟨rfl, rfl⟩ := trodVars_none hV
  obtain ⟨l0, e0, o0⟩ := It S.AM (n := 10) (t := 5) rfl rfl (hval 0 5 v0 rfl rfl) h0
  obtain ⟨x0, _, rfl, k0, rfl⟩ := e0
  obtain ⟨l1, e1, o1⟩ := It S.AM (n := 10) (t := 46) rfl rfl (hval 1 46 v1 rfl rfl) h1
  obtain ⟨x1, _, rfl, k1, x2, _, rfl, k2, x3, _, rfl, k3, x4, _, rfl, k4, rfl⟩ := e1
  obtain ⟨l2, e2, o2⟩ := It S.AM (n := 10) (t := 47) rfl rfl (hval 2 47 v2 rfl rfl) h2
  obtain ⟨x5, _, rfl, k5, x6, _, rfl, k6, x7, _, rfl, k7, x8, _, rfl, k8, rfl⟩ := e2
  have hargs : Cb W.cell? S.BI.ps [v0, v1, v2] [x0, x1, x2, x3, x4, x5, x6, x7, x8] := ⟨v0, _, [x0], _, rfl, rfl, o0, ⟨v1, _, [x1, x2, x3, x4], _, rfl, rfl, o1, ⟨v2, _, [x5, x6, x7, x8], _, rfl, rfl, o2, ⟨rfl, rfl⟩⟩⟩⟩
  have f0 := S6 k0
  have f1 := AQ k1
  have f2 := AQ k2
  have f3 := AQ k3
  have f4 := AQ k4
  have f5 := AQ k5
  have f6 := AQ k6
  have f7 := AQ k7
  have f8 := AQ k8
  have hp : (S.t_5 [x0, x1, x2, x3, x4, x5, x6, x7, x8]).1 = true := by
    simp [S.t_5, gi, gb, gs, gv, ge, Day.ND.i64, Day.HB.i64, Day.YE, Day.HB.a, f0, f1, f2, f3, f4, f5, f6, f7, f8]
  refine (MW S.KL (fun _ => rfl) rfl hargs (by rw [show S.BI.f = 5 from rfl, S.T_5]; exact hp) (by rw [show S.BI.f = 5 from rfl, S.T_5]; rfl)).mono fun e W2 ⟨he, Ui⟩ => ?_
  subst he
  have b0 := Below.trod Seat.laidOut (by kernel_rfl) (of_decide_eq_true (by kernel_rfl)) h0 Ui (fun x hx => by simpa using hW'.lt x (by simp [hx]))
  have b1 := Below.trod Seat.laidOut (by kernel_rfl) (of_decide_eq_true (by kernel_rfl)) h1 Ui (fun x hx => by simpa using hW'.lt x (by simp [hx]))
  have b2 := Below.trod Seat.laidOut (by kernel_rfl) (of_decide_eq_true (by kernel_rfl)) h2 Ui (fun x hx => by simpa using hW'.lt x (by simp [hx]))
  exact ⟨_, rfl, _, _, _, [], _, [], hW', trodAll_mk1 (shut_bool Try.underlying4 _), (trodAll_cons_mk b0 (trodAll_cons_mk b1 (trodAll_cons_mk b2 trodAll_mk0))), rfl, Ui.frame _, fun h => by cases h⟩
theorem facts : joinedFacts Try.prog 5 Try.f5 Rows.actRightSpec Rows.actRightRow = true :=
  Seat.facts Seat.enter Seat.lifts Seat.made Seat.laidOut Seat.rowed Seat.heard 5 Try.f5 Rows.actRightSpec Rows.actRightRow ((rfl : Rows.actRightRow.plainKeys = true).trans Seat.keys) (by kernel_rfl) (by kernel_rfl) (by kernel_rfl) (by kernel_rfl) (by kernel_rfl) (by kernel_rfl) (by kernel_rfl) (by kernel_rfl)
theorem named : Try.prog.funcNamed Rows.actRightRow.func = some 5 := by kernel_rfl
theorem inst : Try.f5.isInstance Try.prog Rows.actRightRow.origin Rows.actRightRow.targs := of_decide_eq_true (by kernel_rfl)
theorem wrapped : Try.f5.isWrapper Try.prog Rows.actRightRow.wrapper Rows.actRightRow.mainSum := by unfold Func.isWrapper; rw [if_neg (by decide +kernel)]; exact ⟨rfl, rfl⟩
theorem Yc : Rows.actRightRow.holds Try.pinned (OpenSpec.ofChange Rows.actRightSpec) :=
  OpenClaim.holds_of_wide 5 Try.f5 rfl rfl rfl rfl rfl rfl rfl ⟨rfl, rfl, rfl, rfl, rfl⟩ rfl rfl rfl rfl rfl named Try.func5 facts inst wrapped
    (fun os started H enc _ => lifted os started H enc)
theorem proved : Rows.ActRightSaid := Yc
end Go.Proofs.Ytngghkhjejkelaa.actRight
namespace Go.Proofs.Ytngghkhjejkelaa
/-- The row, under a short name, for the claim. -/
theorem actRight_holds : Rows.ActRightSaid := actRight.proved
end Go.Proofs.Ytngghkhjejkelaa
