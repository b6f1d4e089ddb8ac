/- Who isn't the faulty one does what it would, whatever is chosen; a faulty hub sends what it relays, nothing, or noise, and nothing else; without the document's answer. -/
import Derived.Test.YtngghkhjejkelaaFXc
import Derived.Test.YtngghkhjejkelaaFXe
import Derived.Test.YtngghkhjejkelaaFXf
import Derived.Test.YtngghkhjejkelaaFXwire
import Derived.Test.YtngghkhjejkelaaFXfault
import Derived.Test.YtngghkhjejkelaaFXg
import Derived.Test.YtngghkhjejkelaaFXlaw15
import Derived.Test.YtngghkhjejkelaaFYFaultNone
import Derived.Test.YtngghkhjejkelaaRows
import Derived.Test.YtngghkhjejkelaaSeat
import Derived.WalkKit
import Derived.ProofKit
import Derived.OpenShut
import Derived.ShutString
import Derived.ChangeOld
import Derived.Below
import Derived.SizedLaws
set_option linter.unusedVariables false
set_option linter.unusedSimpArgs false
namespace Rx.S
open Go Rx Go.Proofs
set_option maxRecDepth 100000
set_option maxHeartbeats 4000000
def A9 : EB := { f := 3, ps := [.d true [.int .i64, .int .i64, .int .i64, .str, .str, .sl [.int .i64], .int .i64, .int .i64, .int .i64, .int .i64, .int .i64]], rs := [(false, [.bool])], ok := fun _ => true }
noncomputable def DR : List (Nat × Func) := [(3, Try.f3), (9, Try.f9), (10, Try.f10), (11, Try.f11), (12, Try.f12), (13, Try.f13), (14, Try.f14), (15, Try.f15), (16, Try.f16)]
theorem GV : AM Try.prog DR := ⟨YH, Yu, Xg, VY, VZ, V0, Xh, UW, V1, trivial⟩
noncomputable def Kd : Ctx := { Aw := Aw, eqs := eqs, fns := fun f => look f DR, ctr := [(11, CY), (13, Cm), (15, Cg), (14, Cy), (12, CW), (16, Bk), (9, CB), (10, CC)], lim := 30, big := [], lps := [] }
theorem Ie : XL Try.prog T Kd where
 Aw := A3
 eqs := A8
 mixed := mixed
 ctr := Am ⟨⟨rfl, Fj⟩, ⟨rfl, Eu⟩, ⟨rfl, Dt⟩, ⟨rfl, GA⟩, ⟨rfl, E9⟩, ⟨rfl, CL⟩, ⟨rfl, GM⟩, ⟨rfl, GO⟩, trivial⟩
 fns := Au GV
 big := An trivial
 lps := AF rfl
theorem Ig : A6 Try.prog T A9 := AR Ie AK (g := Da) (ls := [V 98]) (by kernel_rfl) (fun aq => by rw [show A9.f = 3 from rfl, X9]; rfl) fun aq e h1 h2 h3 => by
 subst h1
 rw [show A9.f = 3 from rfl, X9] at h2 ⊢
 obtain ⟨ho, hr⟩ := HN e h3 h2
 have r0 := hr
 refine ⟨⟨ho.1, ho.2.1, ho.2.2.1, ho.2.2.2.1, ho.2.2.2.2.1, ho.2.2.2.2.2.1, ho.2.2.2.2.2.2.1, ho.2.2.2.2.2.2.2.1, ho.2.2.2.2.2.2.2.2, trivial⟩, ?_⟩
 show Aa [.bool] (X6 _).2 = Aa [.bool] [L.ev e (V 98)]
 exact (GR r0 rfl)
end Rx.S
namespace Go.Proofs.Ytngghkhjejkelaa.faultNone
open Go.ChangeShapes Go.WideShapes Go.ChangeAt Go.RowKit Rx
theorem own : ownKnob Try.prog.godebug = none := by kernel_rfl
set_option maxRecDepth 100000 in
theorem lifted (os : Os) (started : os.Started) (H : Type) (enc : TypeId × Value → H) :
    ReturnsInHanded {} Try.checked os 3 .any (Rows.faultNoneSpec.pre6 enc Try.prog Try.f3 Rows.faultNoneRow.domain false) (Rows.faultNoneSpec.post enc Try.prog Try.f3 false true false false) := by
  refine returnsInHanded_of_change_sized (C := Try.checked) own started (by kernel_rfl) Try.func3
    (ChangeSpec.witness6 (enc := enc) (C := Try.checked) false ⟨#[], #[.agg #[.int .i64 0, .int .i64 0, .int .i64 0, .string ⟨#[]⟩, .string ⟨#[]⟩, .slice none 0 0, .int .i64 0, .int .i64 0, .int .i64 0, .int .i64 0, .int .i64 0]], []⟩ 8 (by kernel_rfl) (by kernel_rfl) (by kernel_rfl) (by kernel_rfl)) ?_
  intro W base args ds gs before hval0 hW hcnd hsz0 _
  have hval : ∀ (j : Nat) t v, Try.f3.params[j]? = some t → args[j]? = some v → Value.okWide Try.prog W .any base t v := hval0
  have hW' := hW
  obtain ⟨p, q, hA0, hV, rfl, hfz, hnd⟩ := hW
  have hA : DataW.TrodAll enc Try.prog W 0 (fun _ => true) true Try.f3.params.toList args.toList ds p := hA0
  rw [Try.params3] at hA hval
  obtain ⟨v0, vs0, d0, ds0, p0, q0, hargs, rfl, rfl, h0, r0⟩ := trodAll_cons hA
  obtain ⟨rfl, rfl, rfl⟩ := trodAll_nil r0
  obtain rfl : args = #[v0] := by cases args; simp_all
  obtain ⟨rfl, rfl⟩ := trodVars_none hV
  obtain ⟨dl0, e0, o0⟩ := Pt S.A3 (n := 10) (t := 31) (ss := [.int .i64, .int .i64, .int .i64, .str, .str, .sl [.int .i64], .int .i64, .int .i64, .int .i64, .int .i64, .int .i64]) rfl rfl (by rfl) (by rfl) (hval 0 31 v0 rfl rfl) h0
  obtain ⟨x0, _, rfl, k0, x1, _, rfl, k1, x2, _, rfl, k2, x3, _, rfl, k3, x4, _, rfl, k4, as5, m5, _, rfl, ⟨len5, le5⟩, x6, _, rfl, k6, x7, _, rfl, k7, x8, _, rfl, k8, x9, _, rfl, k9, x10, _, rfl, k10, rfl⟩ := e0
  have hargs : BM W.cell? S.A9.ps [v0] [x0, x1, x2, x3, x4, .l as5, .i m5, x6, x7, x8, x9, x10] := ⟨v0, _, [x0, x1, x2, x3, x4, .l as5, .i m5, x6, x7, x8, x9, x10], _, rfl, rfl, o0, ⟨rfl, rfl⟩⟩
  have g5 : ((m5 : Nat) : Int) ≤ 9223372036854775807 := by
    have e : maxLen = 9223372036854775807 := by decide
    omega
  have f0 := BG k0
  have f1 := BG k1
  have f2 := BG k2
  have f3 := BG k6
  have f4 := BG k7
  have f5 := BG k8
  have f6 := BG k9
  have f7 := BG k10
  have hp : (S.X6 [x0, x1, x2, x3, x4, .l as5, .i m5, x6, x7, x8, x9, x10]).1 = true := by
    simp [S.X6, gi, gb, gs, gv, ge, Day.ND.i64, Day.HB.i64, Day.Xq, Day.HB.a, f0, f1, f2, f3, f4, f5, f6, f7, g5]
  refine (Pr S.Ig (fun _ => rfl) rfl hargs (by rw [show S.A9.f = 3 from rfl, S.X9]; exact hp) (by rw [show S.A9.f = 3 from rfl, S.X9]; rfl)).mono fun e W2 ⟨he, VL⟩ => ?_
  subst he
  have b0 := Below.trod Seat.laidOut (by kernel_rfl) (of_decide_eq_true (by kernel_rfl)) h0 VL (fun x hx => by simpa using hW'.lt x (by simp [hx]))
  exact ⟨_, rfl, _, _, _, [], _, [], hW', trodAll_mk1 (shut_bool Try.underlying4 _), (trodAll_cons_mk b0 trodAll_mk0), rfl, VL.frame _, fun h => by cases h⟩
theorem facts : joinedFacts Try.prog 3 Try.f3 Rows.faultNoneSpec Rows.faultNoneRow = true :=
  Seat.facts Seat.enter Seat.lifts Seat.made Seat.laidOut Seat.rowed Seat.heard 3 Try.f3 Rows.faultNoneSpec Rows.faultNoneRow ((rfl : Rows.faultNoneRow.plainKeys = true).trans Seat.keys) (by kernel_rfl) (by kernel_rfl) (by kernel_rfl) (by kernel_rfl) (by kernel_rfl) (by kernel_rfl) (by kernel_rfl) (by kernel_rfl)
theorem named : Try.prog.funcNamed Rows.faultNoneRow.func = some 3 := by kernel_rfl
theorem inst : Try.f3.isInstance Try.prog Rows.faultNoneRow.origin Rows.faultNoneRow.targs := of_decide_eq_true (by kernel_rfl)
theorem wrapped : Try.f3.isWrapper Try.prog Rows.faultNoneRow.wrapper Rows.faultNoneRow.mainSum := by unfold Func.isWrapper; rw [if_neg (by decide +kernel)]; exact ⟨rfl, rfl⟩
theorem Xr : Rows.faultNoneRow.holds Try.pinned (OpenSpec.ofChange Rows.faultNoneSpec) :=
  OpenClaim.holds_of_wide 3 Try.f3 rfl rfl rfl rfl rfl rfl rfl ⟨rfl, rfl, rfl, rfl, rfl⟩ rfl rfl rfl rfl rfl named Try.func3 facts inst wrapped
    (fun os started H enc _ => lifted os started H enc)
theorem proved : Rows.FaultNoneSaid := Xr
end Go.Proofs.Ytngghkhjejkelaa.faultNone
namespace Go.Proofs.Ytngghkhjejkelaa
/-- The row, under a short name, for the claim. -/
theorem faultNone_holds : Rows.FaultNoneSaid := faultNone.proved
end Go.Proofs.Ytngghkhjejkelaa
