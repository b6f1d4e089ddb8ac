/- What any two hubs are behind a tick, by whatever both took in (20 at most each), what they relay, and both made right, are the document's. -/
import Derived.Test.YtngghkhjejkelabMXc
import Derived.Test.YtngghkhjejkelabMXe
import Derived.Test.YtngghkhjejkelabMXf
import Derived.Test.YtngghkhjejkelabMXg
import Derived.Test.YtngghkhjejkelabMXlink
import Derived.Test.YtngghkhjejkelabMXlaw14
import Derived.Test.YtngghkhjejkelabMYLinkTells
import Derived.Test.YtngghkhjejkelabRows
import Derived.Test.YtngghkhjejkelabSeat
import Derived.WalkKit
import Derived.ProofKit
import Derived.OpenShut
import Derived.ShutString
import Derived.ChangeOld
import Derived.Below
import Derived.SizedLaws
set_option linter.unusedVariables false
set_option linter.unusedSimpArgs false
namespace Rx.S
open Go Rx Go.Proofs
set_option maxRecDepth 100000
set_option maxHeartbeats 4000000
def B6 : DR := { f := 6, ps := [.d true [.int .i64, .int .i64, .int .i64, .int .i64, .int .i64, .int .i64, .int .i64, .int .i64, .int .i64, .int .i64, .int .i64, .int .i64, .int .i64, .int .i64, .int .i64, .int .i64, .int .i64, .int .i64, .int .i64, .int .i64, .int .i64, .int .i64, .int .i64, .int .i64, .int .i64, .sl [.int .i64, .int .i64], .sl [.int .i64, .int .i64], .bool, .bool]], rs := [(false, [.bool])], ok := fun _ => true }
noncomputable def Fx : List (Nat × Func) := [(6, Try.f6), (12, Try.f12), (13, Try.f13), (15, Try.f15), (16, Try.f16), (17, Try.f17)]
theorem J3 : AG Try.prog Fx := ⟨fn6, AgU, Agl, AgV, AgW, AgX, trivial⟩
noncomputable def On : Ctx := { At := At, eqs := eqs, fns := fun f => look f Fx, ctr := [(13, Fg), (15, FW), (16, FX), (17, EZ), (12, E0)], lim := 30, big := [], lps := [] }
theorem LR : XL Try.prog T On where
 At := AL
 eqs := AP
 mixed := mixed
 ctr := Af ⟨⟨rfl, Mp⟩, ⟨rfl, Ua⟩, ⟨rfl, Uc⟩, ⟨rfl, Rd⟩, ⟨rfl, Rf⟩, trivial⟩
 fns := Am J3
 big := Ag trivial
 lps := Ax rfl
theorem LU : A2 Try.prog T B6 := AR LR Aw (g := Ew) (ls := [V 272]) (by kernel_rfl) (fun aq => by rw [show B6.f = 6 from rfl, T_6]; rfl) fun aq e h1 h2 h3 => by
 subst h1
 rw [show B6.f = 6 from rfl, T_6] at h2 ⊢
 obtain ⟨ho, hr⟩ := KN e h3 _ rfl _ rfl h2
 have r0 := hr
 refine ⟨⟨ho.1, ho.2.1, ho.2.2.1, ho.2.2.2.1, ho.2.2.2.2.1, ho.2.2.2.2.2, trivial⟩, ?_⟩
 show Aa [.bool] (t_6 _).2 = Aa [.bool] [L.ev e (V 272)]
 exact (Uz r0 rfl)
end Rx.S
namespace Go.Proofs.Ytngghkhjejkelab.linkTells
open Go.ChangeShapes Go.WideShapes Go.ChangeAt Go.RowKit Rx
theorem own : ownKnob Try.prog.godebug = none := by kernel_rfl
set_option maxRecDepth 100000 in
theorem lifted (os : Os) (started : os.Started) (H : Type) (enc : TypeId × Value → H) :
    ReturnsInHanded {} Try.checked os 6 .any (Rows.linkTellsSpec.pre6 enc Try.prog Try.f6 Rows.linkTellsRow.domain false) (Rows.linkTellsSpec.post enc Try.prog Try.f6 false true false false) := by
  refine returnsInHanded_of_change_sized (C := Try.checked) own started (by kernel_rfl) Try.func6
    (ChangeSpec.witness6 (enc := enc) (C := Try.checked) false ⟨#[], #[.agg #[.int .i64 0, .int .i64 0, .int .i64 0, .int .i64 0, .int .i64 0, .int .i64 0, .int .i64 0, .int .i64 0, .int .i64 0, .int .i64 0, .int .i64 0, .int .i64 0, .int .i64 0, .int .i64 0, .int .i64 0, .int .i64 0, .int .i64 0, .int .i64 0, .int .i64 0, .int .i64 0, .int .i64 0, .int .i64 0, .int .i64 0, .int .i64 0, .int .i64 0, .slice none 0 0, .slice none 0 0, .bool false, .bool false]], []⟩ 8 (by kernel_rfl) (by kernel_rfl) (by kernel_rfl) (by kernel_rfl)) ?_
  intro W base args ds gs before hval0 hW hcnd hsz0 _
  have hval : ∀ (j : Nat) t v, Try.f6.params[j]? = some t → args[j]? = some v → Value.okWide Try.prog W .any base t v := hval0
  have hW' := hW
  obtain ⟨p, q, hA0, hV, rfl, hfz, hnd⟩ := hW
  have hA : DataW.TrodAll enc Try.prog W 0 (fun _ => true) true Try.f6.params.toList args.toList ds p := hA0
  rw [Try.params6] at hA hval
  obtain ⟨v0, vs0, d0, ds0, p0, q0, hargs, rfl, rfl, h0, r0⟩ := trodAll_cons hA
  obtain ⟨rfl, rfl, rfl⟩ := trodAll_nil r0
  obtain rfl : args = #[v0] := by cases args; simp_all
  obtain ⟨rfl, rfl⟩ := trodVars_none hV
  obtain ⟨dl0, e0, o0⟩ := AcE S.AL (n := 10) (t := 41) (ss := [.int .i64, .int .i64, .int .i64, .int .i64, .int .i64, .int .i64, .int .i64, .int .i64, .int .i64, .int .i64, .int .i64, .int .i64, .int .i64, .int .i64, .int .i64, .int .i64, .int .i64, .int .i64, .int .i64, .int .i64, .int .i64, .int .i64, .int .i64, .int .i64, .int .i64, .sl [.int .i64, .int .i64], .sl [.int .i64, .int .i64], .bool, .bool]) rfl rfl (by rfl) (by rfl) (hval 0 41 v0 rfl rfl) h0
  obtain ⟨x0, _, rfl, k0, x1, _, rfl, k1, x2, _, rfl, k2, x3, _, rfl, k3, x4, _, rfl, k4, x5, _, rfl, k5, x6, _, rfl, k6, x7, _, rfl, k7, x8, _, rfl, k8, x9, _, rfl, k9, x10, _, rfl, k10, x11, _, rfl, k11, x12, _, rfl, k12, x13, _, rfl, k13, x14, _, rfl, k14, x15, _, rfl, k15, x16, _, rfl, k16, x17, _, rfl, k17, x18, _, rfl, k18, x19, _, rfl, k19, x20, _, rfl, k20, x21, _, rfl, k21, x22, _, rfl, k22, x23, _, rfl, k23, x24, _, rfl, k24, as25, m25, _, rfl, ⟨len25, le25⟩, as26, m26, _, rfl, ⟨len26, le26⟩, x27, _, rfl, k27, x28, _, rfl, k28, rfl⟩ := e0
  have hargs : CV W.cell? S.B6.ps [v0] [x0, x1, x2, x3, x4, x5, x6, x7, x8, x9, x10, x11, x12, x13, x14, x15, x16, x17, x18, x19, x20, x21, x22, x23, x24, .l as25, .i m25, .l as26, .i m26, x27, x28] := ⟨v0, _, [x0, x1, x2, x3, x4, x5, x6, x7, x8, x9, x10, x11, x12, x13, x14, x15, x16, x17, x18, x19, x20, x21, x22, x23, x24, .l as25, .i m25, .l as26, .i m26, x27, x28], _, rfl, rfl, o0, ⟨rfl, rfl⟩⟩
  have l25 : (as25.length : Int) = 2 * (m25 : Int) := by rw [len25]; simp; omega
  have l26 : (as26.length : Int) = 2 * (m26 : Int) := by rw [len26]; simp; omega
  have g25 : ((m25 : Nat) : Int) ≤ 9223372036854775807 := by
    have e : maxLen = 9223372036854775807 := by decide
    omega
  have g26 : ((m26 : Nat) : Int) ≤ 9223372036854775807 := by
    have e : maxLen = 9223372036854775807 := by decide
    omega
  have f0 := BA k0
  have f1 := BA k1
  have f2 := BA k2
  have f3 := BA k3
  have f4 := BA k4
  have f5 := BA k5
  have f6 := BA k6
  have f7 := BA k7
  have f8 := BA k8
  have f9 := BA k9
  have f10 := BA k10
  have f11 := BA k11
  have f12 := BA k12
  have f13 := BA k13
  have f14 := BA k14
  have f15 := BA k15
  have f16 := BA k16
  have f17 := BA k17
  have f18 := BA k18
  have f19 := BA k19
  have f20 := BA k20
  have f21 := BA k21
  have f22 := BA k22
  have f23 := BA k23
  have f24 := BA k24
  have hp : (S.t_6 [x0, x1, x2, x3, x4, x5, x6, x7, x8, x9, x10, x11, x12, x13, x14, x15, x16, x17, x18, x19, x20, x21, x22, x23, x24, .l as25, .i m25, .l as26, .i m26, x27, x28]).1 = true := by
    simp [S.t_6, gi, gb, gs, gv, ge, Day.ND.i64, Day.HB.i64, Day.CM, Day.HB.a, Day.Ls.ok, Day.Ts.ok, l25, l26, Day.Ls.FL, Day.GV, f0, f1, f2, f3, f4, f5, f6, f7, f8, f9, f10, f11, f12, f13, f14, f15, f16, f17, f18, f19, f20, f21, f22, f23, f24, g25, g26]
  refine (AcB S.LU (fun _ => rfl) rfl hargs (by rw [show S.B6.f = 6 from rfl, S.T_6]; exact hp) (by rw [show S.B6.f = 6 from rfl, S.T_6]; rfl)).mono fun e W2 ⟨he, bel⟩ => ?_
  subst he
  have b0 := Below.trod Seat.laidOut (by kernel_rfl) (of_decide_eq_true (by kernel_rfl)) h0 bel (fun x hx => by simpa using hW'.lt x (by simp [hx]))
  exact ⟨_, rfl, _, _, _, [], _, [], hW', trodAll_mk1 (shut_bool Try.underlying4 _), (trodAll_cons_mk b0 trodAll_mk0), rfl, bel.frame _, fun h => by cases h⟩
theorem facts : joinedFacts Try.prog 6 Try.f6 Rows.linkTellsSpec Rows.linkTellsRow = true :=
  Seat.facts Seat.enter Seat.lifts Seat.made Seat.laidOut Seat.rowed Seat.heard 6 Try.f6 Rows.linkTellsSpec Rows.linkTellsRow ((rfl : Rows.linkTellsRow.plainKeys = true).trans Seat.keys) (by kernel_rfl) (by kernel_rfl) (by kernel_rfl) (by kernel_rfl) (by kernel_rfl) (by kernel_rfl) (by kernel_rfl) (by kernel_rfl)
theorem named : Try.prog.funcNamed Rows.linkTellsRow.func = some 6 := by kernel_rfl
theorem inst : Try.f6.isInstance Try.prog Rows.linkTellsRow.origin Rows.linkTellsRow.targs := of_decide_eq_true (by kernel_rfl)
theorem wrapped : Try.f6.isWrapper Try.prog Rows.linkTellsRow.wrapper Rows.linkTellsRow.mainSum := by unfold Func.isWrapper; rw [if_neg (by decide +kernel)]; exact ⟨rfl, rfl⟩
theorem Ah2 : Rows.linkTellsRow.holds Try.pinned (OpenSpec.ofChange Rows.linkTellsSpec) :=
  OpenClaim.holds_of_wide 6 Try.f6 rfl rfl rfl rfl rfl rfl rfl ⟨rfl, rfl, rfl, rfl, rfl⟩ rfl rfl rfl rfl rfl named Try.func6 facts inst wrapped
    (fun os started H enc _ => lifted os started H enc)
theorem proved : Rows.LinkTellsSaid := Ah2
end Go.Proofs.Ytngghkhjejkelab.linkTells
namespace Go.Proofs.Ytngghkhjejkelab
/-- The row, under a short name, for the claim. -/
theorem linkTells_holds : Rows.LinkTellsSaid := linkTells.proved
end Go.Proofs.Ytngghkhjejkelab
