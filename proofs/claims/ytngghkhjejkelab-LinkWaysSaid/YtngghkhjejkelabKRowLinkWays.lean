/- What the link delivers from a hub changes nothing of that hub; what isn't delivered changes nothing of the other one; without the document's answer. -/
import Derived.Test.YtngghkhjejkelabKXc
import Derived.Test.YtngghkhjejkelabKXe
import Derived.Test.YtngghkhjejkelabKXf
import Derived.Test.YtngghkhjejkelabKXg
import Derived.Test.YtngghkhjejkelabKXgate
import Derived.Test.YtngghkhjejkelabKXvoteb
import Derived.Test.YtngghkhjejkelabKXlink
import Derived.Test.YtngghkhjejkelabKXlaw14
import Derived.Test.YtngghkhjejkelabKYLinkWays
import Derived.Test.YtngghkhjejkelabRows
import Derived.Test.YtngghkhjejkelabSeat
import Derived.WalkKit
import Derived.ProofKit
import Derived.OpenShut
import Derived.ShutString
import Derived.ChangeOld
import Derived.Below
import Derived.SizedLaws
set_option linter.unusedVariables false
set_option linter.unusedSimpArgs false
namespace Rx.S
open Go Rx Go.Proofs
set_option maxRecDepth 100000
set_option maxHeartbeats 4000000
def c_law14_LinkWays : Ctr := { f := 5, ps := [.d true [.int .i64, .int .i64, .int .i64, .int .i64, .int .i64, .int .i64, .int .i64, .int .i64, .int .i64, .int .i64, .int .i64, .int .i64, .int .i64, .int .i64, .int .i64, .int .i64, .int .i64, .int .i64, .int .i64, .int .i64, .int .i64, .int .i64, .int .i64, .int .i64, .int .i64, .sl [.int .i64, .int .i64], .sl [.int .i64, .int .i64], .bool, .bool]], rs := [(false, [.bool])], ok := fun _ => true }
noncomputable def fns_law14_LinkWays : List (Nat × Func) := [(5, Try.f5), (8, Try.f8), (10, Try.f10), (12, Try.f12), (13, Try.f13), (14, Try.f14)]
theorem fnsOk_law14_LinkWays : FnsAll Try.prog fns_law14_LinkWays := ⟨fn5, fn8, fn10, fn12, fn13, fn14, trivial⟩
noncomputable def X_law14_LinkWays : Ctx := { tys := tys, eqs := eqs, fns := fun f => look f fns_law14_LinkWays, ctr := [(8, c_ref11_Right), (14, c_ref11_Fresh), (10, c_ref12_Fits), (13, c_link_Step), (12, c_law14_awake)], lim := 30, big := [], lps := [] }
theorem xok_law14_LinkWays : XL Try.prog T X_law14_LinkWays where
 tys := tysOk
 eqs := eqsOk
 mixed := mixed
 ctr := ctrsOK_of ⟨⟨rfl, ctr_ref11_Right⟩, ⟨rfl, ctr_ref11_Fresh⟩, ⟨rfl, ctr_ref12_Fits⟩, ⟨rfl, ctr_link_Step⟩, ⟨rfl, ctr_law14_awake⟩, trivial⟩
 fns := fnsOK_of fnsOk_law14_LinkWays
 big := bigsOK_of trivial
 lps := lps_nil rfl
theorem ctr_law14_LinkWays : CtrOK Try.prog T c_law14_LinkWays := ctr_of xok_law14_LinkWays widths (g := g_law14_LinkWays) (ls := [V 242]) (by kernel_rfl) (fun aq => by rw [show c_law14_LinkWays.f = 5 from rfl, T_5]; rfl) fun aq e h1 h2 h3 => by
 subst h1
 rw [show c_law14_LinkWays.f = 5 from rfl, T_5] at h2 ⊢
 obtain ⟨ho, hr⟩ := pure_law14_LinkWays e h3 _ rfl _ rfl h2
 have r0 := hr
 refine ⟨⟨ho.1, ho.2.1, ho.2.2.1, ho.2.2.2.1, ho.2.2.2.2.1, ho.2.2.2.2.2.1, ho.2.2.2.2.2.2.1, ho.2.2.2.2.2.2.2.1, ho.2.2.2.2.2.2.2.2.1, ho.2.2.2.2.2.2.2.2.2.1, ho.2.2.2.2.2.2.2.2.2.2, trivial⟩, ?_⟩
 show semMany [.bool] (t_5 _).2 = semMany [.bool] [L.ev e (V 242)]
 exact (semB r0 rfl)
end Rx.S
namespace Go.Proofs.Ytngghkhjejkelab.linkWays
open Go.ChangeShapes Go.WideShapes Go.ChangeAt Go.RowKit Rx
theorem own : ownKnob Try.prog.godebug = none := by kernel_rfl
set_option maxRecDepth 100000 in
theorem lifted (os : Os) (started : os.Started) (H : Type) (enc : TypeId × Value → H) :
    ReturnsInHanded {} Try.checked os 5 .any (Rows.linkWaysSpec.pre6 enc Try.prog Try.f5 Rows.linkWaysRow.domain false) (Rows.linkWaysSpec.post enc Try.prog Try.f5 false true false false) := by
  refine returnsInHanded_of_change_sized (C := Try.checked) own started (by kernel_rfl) Try.func5
    (ChangeSpec.witness6 (enc := enc) (C := Try.checked) false ⟨#[], #[.agg #[.int .i64 0, .int .i64 0, .int .i64 0, .int .i64 0, .int .i64 0, .int .i64 0, .int .i64 0, .int .i64 0, .int .i64 0, .int .i64 0, .int .i64 0, .int .i64 0, .int .i64 0, .int .i64 0, .int .i64 0, .int .i64 0, .int .i64 0, .int .i64 0, .int .i64 0, .int .i64 0, .int .i64 0, .int .i64 0, .int .i64 0, .int .i64 0, .int .i64 0, .slice none 0 0, .slice none 0 0, .bool false, .bool false]], []⟩ 8 (by kernel_rfl) (by kernel_rfl) (by kernel_rfl) (by kernel_rfl)) ?_
  intro W base args ds gs before hval0 hW hcnd hsz0 _
  have hval : ∀ (j : Nat) t v, Try.f5.params[j]? = some t → args[j]? = some v → Value.okWide Try.prog W .any base t v := hval0
  have hW' := hW
  obtain ⟨p, q, hA0, hV, rfl, hfz, hnd⟩ := hW
  have hA : DataW.TrodAll enc Try.prog W 0 (fun _ => true) true Try.f5.params.toList args.toList ds p := hA0
  rw [Try.params5] at hA hval
  obtain ⟨v0, vs0, d0, ds0, p0, q0, hargs, rfl, rfl, h0, r0⟩ := trodAll_cons hA
  obtain ⟨rfl, rfl, rfl⟩ := trodAll_nil r0
  obtain rfl : args = #[v0] := by cases args; simp_all
  obtain ⟨rfl, rfl⟩ := trodVars_none hV
  obtain ⟨dl0, e0, o0⟩ := open_deep S.tysOk (n := 10) (t := 41) (ss := [.int .i64, .int .i64, .int .i64, .int .i64, .int .i64, .int .i64, .int .i64, .int .i64, .int .i64, .int .i64, .int .i64, .int .i64, .int .i64, .int .i64, .int .i64, .int .i64, .int .i64, .int .i64, .int .i64, .int .i64, .int .i64, .int .i64, .int .i64, .int .i64, .int .i64, .sl [.int .i64, .int .i64], .sl [.int .i64, .int .i64], .bool, .bool]) rfl rfl (by rfl) (by rfl) (hval 0 41 v0 rfl rfl) h0
  obtain ⟨x0, _, rfl, k0, x1, _, rfl, k1, x2, _, rfl, k2, x3, _, rfl, k3, x4, _, rfl, k4, x5, _, rfl, k5, x6, _, rfl, k6, x7, _, rfl, k7, x8, _, rfl, k8, x9, _, rfl, k9, x10, _, rfl, k10, x11, _, rfl, k11, x12, _, rfl, k12, x13, _, rfl, k13, x14, _, rfl, k14, x15, _, rfl, k15, x16, _, rfl, k16, x17, _, rfl, k17, x18, _, rfl, k18, x19, _, rfl, k19, x20, _, rfl, k20, x21, _, rfl, k21, x22, _, rfl, k22, x23, _, rfl, k23, x24, _, rfl, k24, as25, m25, _, rfl, ⟨len25, le25⟩, as26, m26, _, rfl, ⟨len26, le26⟩, x27, _, rfl, k27, x28, _, rfl, k28, rfl⟩ := e0
  have hargs : ArgsRel W.cell? S.c_law14_LinkWays.ps [v0] [x0, x1, x2, x3, x4, x5, x6, x7, x8, x9, x10, x11, x12, x13, x14, x15, x16, x17, x18, x19, x20, x21, x22, x23, x24, .l as25, .i m25, .l as26, .i m26, x27, x28] := ⟨v0, _, [x0, x1, x2, x3, x4, x5, x6, x7, x8, x9, x10, x11, x12, x13, x14, x15, x16, x17, x18, x19, x20, x21, x22, x23, x24, .l as25, .i m25, .l as26, .i m26, x27, x28], _, rfl, rfl, o0, ⟨rfl, rfl⟩⟩
  have l25 : (as25.length : Int) = 2 * (m25 : Int) := by rw [len25]; simp; omega
  have l26 : (as26.length : Int) = 2 * (m26 : Int) := by rw [len26]; simp; omega
  have g25 : ((m25 : Nat) : Int) ≤ 9223372036854775807 := by
    have e : maxLen = 9223372036854775807 := by decide
    omega
  have g26 : ((m26 : Nat) : Int) ≤ 9223372036854775807 := by
    have e : maxLen = 9223372036854775807 := by decide
    omega
  have f0 := okA_i64 k0
  have f1 := okA_i64 k1
  have f2 := okA_i64 k2
  have f3 := okA_i64 k3
  have f4 := okA_i64 k4
  have f5 := okA_i64 k5
  have f6 := okA_i64 k6
  have f7 := okA_i64 k7
  have f8 := okA_i64 k8
  have f9 := okA_i64 k9
  have f10 := okA_i64 k10
  have f11 := okA_i64 k11
  have f12 := okA_i64 k12
  have f13 := okA_i64 k13
  have f14 := okA_i64 k14
  have f15 := okA_i64 k15
  have f16 := okA_i64 k16
  have f17 := okA_i64 k17
  have f18 := okA_i64 k18
  have f19 := okA_i64 k19
  have f20 := okA_i64 k20
  have f21 := okA_i64 k21
  have f22 := okA_i64 k22
  have f23 := okA_i64 k23
  have f24 := okA_i64 k24
  have hp : (S.t_5 [x0, x1, x2, x3, x4, x5, x6, x7, x8, x9, x10, x11, x12, x13, x14, x15, x16, x17, x18, x19, x20, x21, x22, x23, x24, .l as25, .i m25, .l as26, .i m26, x27, x28]).1 = true := by
    simp [S.t_5, gi, gb, gs, gv, ge, Day.ND.i64, Day.HB.i64, Day.all8, Day.HB.a, Day.Ls.ok, Day.Ts.ok, l25, l26, Day.Ls.fok, Day.lenIs, f0, f1, f2, f3, f4, f5, f6, f7, f8, f9, f10, f11, f12, f13, f14, f15, f16, f17, f18, f19, f20, f21, f22, f23, f24, g25, g26]
  refine (law_calls S.ctr_law14_LinkWays (fun _ => rfl) rfl hargs (by rw [show S.c_law14_LinkWays.f = 5 from rfl, S.T_5]; exact hp) (by rw [show S.c_law14_LinkWays.f = 5 from rfl, S.T_5]; rfl)).mono fun e W2 ⟨he, bel⟩ => ?_
  subst he
  have b0 := Below.trod Seat.laidOut (by kernel_rfl) (of_decide_eq_true (by kernel_rfl)) h0 bel (fun x hx => by simpa using hW'.lt x (by simp [hx]))
  exact ⟨_, rfl, _, _, _, [], _, [], hW', trodAll_mk1 (shut_bool Try.underlying4 _), (trodAll_cons_mk b0 trodAll_mk0), rfl, bel.frame _, fun h => by cases h⟩
theorem facts : joinedFacts Try.prog 5 Try.f5 Rows.linkWaysSpec Rows.linkWaysRow = true :=
  Seat.facts Seat.enter Seat.lifts Seat.made Seat.laidOut Seat.rowed Seat.heard 5 Try.f5 Rows.linkWaysSpec Rows.linkWaysRow ((rfl : Rows.linkWaysRow.plainKeys = true).trans Seat.keys) (by kernel_rfl) (by kernel_rfl) (by kernel_rfl) (by kernel_rfl) (by kernel_rfl) (by kernel_rfl) (by kernel_rfl) (by kernel_rfl)
theorem named : Try.prog.funcNamed Rows.linkWaysRow.func = some 5 := by kernel_rfl
theorem inst : Try.f5.isInstance Try.prog Rows.linkWaysRow.origin Rows.linkWaysRow.targs := of_decide_eq_true (by kernel_rfl)
theorem wrapped : Try.f5.isWrapper Try.prog Rows.linkWaysRow.wrapper Rows.linkWaysRow.mainSum := by unfold Func.isWrapper; rw [if_neg (by decide +kernel)]; exact ⟨rfl, rfl⟩
theorem over : Rows.linkWaysRow.holds Try.pinned (OpenSpec.ofChange Rows.linkWaysSpec) :=
  OpenClaim.holds_of_wide 5 Try.f5 rfl rfl rfl rfl rfl rfl rfl ⟨rfl, rfl, rfl, rfl, rfl⟩ rfl rfl rfl rfl rfl named Try.func5 facts inst wrapped
    (fun os started H enc _ => lifted os started H enc)
theorem proved : Rows.LinkWaysSaid := over
end Go.Proofs.Ytngghkhjejkelab.linkWays
namespace Go.Proofs.Ytngghkhjejkelab
/-- The row, under a short name, for the claim. -/
theorem linkWays_holds : Rows.LinkWaysSaid := linkWays.proved
end Go.Proofs.Ytngghkhjejkelab
