/- Whether any list (20 at most) is one of ticks, made right, whether any node is powered, since when, and when two are, are the document's. -/
import Derived.Test.YtkdhdjcngafocaaPXc
import Derived.Test.YtkdhdjcngafocaaPXe
import Derived.Test.YtkdhdjcngafocaaPXf
import Derived.Test.YtkdhdjcngafocaaPXg
import Derived.Test.YtkdhdjcngafocaaPXpower
import Derived.Test.YtkdhdjcngafocaaPXlaw16
import Derived.Test.YtkdhdjcngafocaaPXref16
import Derived.Test.YtkdhdjcngafocaaPYPowerTells
import Derived.Test.YtkdhdjcngafocaaRows
import Derived.Test.YtkdhdjcngafocaaSeat
import Derived.WalkKit
import Derived.ProofKit
import Derived.OpenShut
import Derived.ShutString
import Derived.ChangeOld
import Derived.Below
import Derived.SizedLaws
set_option linter.unusedVariables false
set_option linter.unusedSimpArgs false
namespace Rx.S
open Go Rx Go.Proofs
set_option maxRecDepth 100000
set_option maxHeartbeats 4000000
def A0 : Iy := { f := 5, ps := [.d true [.int .i64, .sl [.int .i64], .int .i64, .int .i64, .int .i64, .int .i64]], rs := [(false, [.bool])], ok := fun _ => true }
noncomputable def DJ : List (Nat × Func) := [(5, Try.f5), (6, Try.f6), (10, Try.f10), (11, Try.f11), (12, Try.f12), (13, Try.f13), (14, Try.f14), (8, Try.f8), (15, Try.f15), (16, Try.f16), (9, Try.f9), (17, Try.f17), (7, Try.f7), (18, Try.f18)]
theorem GQ : Bb Try.prog DJ := ⟨Y8, Y1, Xv, X4, Xw, X5, X6, Ys, Wx, X7, Y2, X8, YS, X9, trivial⟩
noncomputable def Jp : Ctx := { Aw := Aw, eqs := eqs, fns := fun f => look f DJ, ctr := [(8, Di), (9, Dq), (15, Ch), (17, Dr), (13, Ds), (14, Dt), (16, Db), (7, DI), (18, E7), (12, Dd), (6, Dw)], lim := 30, big := [(10, Du), (11, Fy)], lps := [] }
theorem H7 : XL Try.prog T Jp where
 Aw := Be
 eqs := Bo
 mixed := mixed
 ctr := Ap ⟨⟨rfl, GA⟩, ⟨rfl, LM⟩, ⟨rfl, C9⟩, ⟨rfl, LO⟩, ⟨rfl, LU⟩, ⟨rfl, LY⟩, ⟨rfl, K5⟩, ⟨rfl, IU⟩, ⟨rfl, OA⟩, ⟨rfl, H6⟩, ⟨rfl, Md⟩, trivial⟩
 fns := Az GQ
 big := Aq ⟨⟨rfl, G5⟩, ⟨rfl, L4⟩, trivial⟩
 lps := AX rfl
theorem H8 : BV Try.prog T A0 := BF H7 AS (g := CD) (ls := [V 101]) (by kernel_rfl) (fun aq => by rw [show A0.f = 5 from rfl, Yq]; rfl) fun aq e h1 h2 h3 => by
 subst h1
 rw [show A0.f = 5 from rfl, Yq] at h2 ⊢
 obtain ⟨ho, hr⟩ := Hf e h3 h2
 have r0 := hr
 refine ⟨⟨ho.1, ho.2.1, ho.2.2.1, ho.2.2.2.1, ho.2.2.2.2.1, ho.2.2.2.2.2.1, ho.2.2.2.2.2.2.1, ho.2.2.2.2.2.2.2.1, ho.2.2.2.2.2.2.2.2.1, ho.2.2.2.2.2.2.2.2.2.1, ho.2.2.2.2.2.2.2.2.2.2.1, ho.2.2.2.2.2.2.2.2.2.2.2.1, ho.2.2.2.2.2.2.2.2.2.2.2.2.1, ho.2.2.2.2.2.2.2.2.2.2.2.2.2.1, ho.2.2.2.2.2.2.2.2.2.2.2.2.2.2, trivial⟩, ?_⟩
 show Af [.bool] (Yl _).2 = Af [.bool] [L.ev e (V 101)]
 exact (JQ r0 rfl)
end Rx.S
namespace Go.Proofs.Ytkdhdjcngafocaa.powerTells
open Go.ChangeShapes Go.WideShapes Go.ChangeAt Go.RowKit Rx
theorem own : ownKnob Try.prog.godebug = none := by kernel_rfl
set_option maxRecDepth 100000 in
theorem lifted (os : Os) (started : os.Started) (H : Type) (enc : TypeId × Value → H) :
    ReturnsInHanded {} Try.checked os 5 .any (Rows.powerTellsSpec.pre6 enc Try.prog Try.f5 Rows.powerTellsRow.domain false) (Rows.powerTellsSpec.post enc Try.prog Try.f5 false true false false) := by
  refine returnsInHanded_of_change_sized (C := Try.checked) own started (by kernel_rfl) Try.func5
    (ChangeSpec.witness6 (enc := enc) (C := Try.checked) false ⟨#[], #[.agg #[.int .i64 0, .slice none 0 0, .int .i64 0, .int .i64 0, .int .i64 0, .int .i64 0]], []⟩ 8 (by kernel_rfl) (by kernel_rfl) (by kernel_rfl) (by kernel_rfl)) ?_
  intro W base args ds gs before hval0 hW hcnd hsz0 _
  have hval : ∀ (j : Nat) t v, Try.f5.params[j]? = some t → args[j]? = some v → Value.okWide Try.prog W .any base t v := hval0
  have hW' := hW
  obtain ⟨p, q, hA0, hV, rfl, hfz, hnd⟩ := hW
  have hA : DataW.TrodAll enc Try.prog W 0 (fun _ => true) true Try.f5.params.toList args.toList ds p := hA0
  rw [Try.params5] at hA hval
  obtain ⟨v0, vs0, d0, ds0, p0, q0, hargs, rfl, rfl, h0, r0⟩ := trodAll_cons hA
  obtain ⟨rfl, rfl, rfl⟩ := trodAll_nil r0
  obtain rfl : args = #[v0] := by cases args; simp_all
  obtain ⟨rfl, rfl⟩ := trodVars_none hV
  obtain ⟨dl0, e0, o0⟩ := Ux S.Be (n := 10) (t := 34) (ss := [.int .i64, .sl [.int .i64], .int .i64, .int .i64, .int .i64, .int .i64]) rfl rfl (by rfl) (by rfl) (hval 0 34 v0 rfl rfl) h0
  obtain ⟨x0, _, rfl, k0, as1, m1, _, rfl, ⟨He, le1⟩, x2, _, rfl, k2, x3, _, rfl, k3, x4, _, rfl, k4, x5, _, rfl, k5, rfl⟩ := e0
  have hargs : BM W.cell? S.A0.ps [v0] [x0, .l as1, .i m1, x2, x3, x4, x5] := ⟨v0, _, [x0, .l as1, .i m1, x2, x3, x4, x5], _, rfl, rfl, o0, ⟨rfl, rfl⟩⟩
  have l1 : ((as1.length : Nat) : Int) = ((m1 : Nat) : Int) := by rw [He]; simp
  have g1 : ((m1 : Nat) : Int) ≤ 9223372036854775807 := by
    have e : maxLen = 9223372036854775807 := by decide
    omega
  have f0 := Kh k0
  have f1 := Kh k2
  have f2 := Kh k3
  have f3 := Kh k4
  have f4 := Kh k5
  have hp : (S.Yl [x0, .l as1, .i m1, x2, x3, x4, x5]).1 = true := by
    simp [S.Yl, gi, gb, gs, gv, ge, Day.ND.i64, Day.HB.i64, Day.Yg, Day.HB.a, l1, Day.L1.len, f0, f1, f2, f3, f4, g1]
  refine (Uw S.H8 (fun _ => rfl) rfl hargs (by rw [show S.A0.f = 5 from rfl, S.Yq]; exact hp) (by rw [show S.A0.f = 5 from rfl, S.Yq]; rfl)).mono fun e W2 ⟨he, XH⟩ => ?_
  subst he
  have b0 := Below.trod Seat.laidOut (by kernel_rfl) (of_decide_eq_true (by kernel_rfl)) h0 XH (fun x hx => by simpa using hW'.lt x (by simp [hx]))
  exact ⟨_, rfl, _, _, _, [], _, [], hW', trodAll_mk1 (shut_bool Try.underlying4 _), (trodAll_cons_mk b0 trodAll_mk0), rfl, XH.frame _, fun h => by cases h⟩
theorem facts : joinedFacts Try.prog 5 Try.f5 Rows.powerTellsSpec Rows.powerTellsRow = true :=
  Seat.facts Seat.enter Seat.lifts Seat.made Seat.laidOut Seat.rowed Seat.heard 5 Try.f5 Rows.powerTellsSpec Rows.powerTellsRow ((rfl : Rows.powerTellsRow.plainKeys = true).trans Seat.keys) (by kernel_rfl) (by kernel_rfl) (by kernel_rfl) (by kernel_rfl) (by kernel_rfl) (by kernel_rfl) (by kernel_rfl) (by kernel_rfl)
theorem named : Try.prog.funcNamed Rows.powerTellsRow.func = some 5 := by kernel_rfl
theorem inst : Try.f5.isInstance Try.prog Rows.powerTellsRow.origin Rows.powerTellsRow.targs := of_decide_eq_true (by kernel_rfl)
theorem wrapped : Try.f5.isWrapper Try.prog Rows.powerTellsRow.wrapper Rows.powerTellsRow.mainSum := by unfold Func.isWrapper; rw [if_neg (by decide +kernel)]; exact ⟨rfl, rfl⟩
theorem YY : Rows.powerTellsRow.holds Try.pinned (OpenSpec.ofChange Rows.powerTellsSpec) :=
  OpenClaim.holds_of_wide 5 Try.f5 rfl rfl rfl rfl rfl rfl rfl ⟨rfl, rfl, rfl, rfl, rfl⟩ rfl rfl rfl rfl rfl named Try.func5 facts inst wrapped
    (fun os started H enc _ => lifted os started H enc)
theorem proved : Rows.PowerTellsSaid := YY
end Go.Proofs.Ytkdhdjcngafocaa.powerTells
namespace Go.Proofs.Ytkdhdjcngafocaa
/-- The row, under a short name, for the claim. -/
theorem powerTells_holds : Rows.PowerTellsSaid := powerTells.proved
end Go.Proofs.Ytkdhdjcngafocaa
