/- In a round in which nothing is heard an Active node is in the same slot again, and its Count is so much greater; a watched one listens in the end; without the document's answer. -/
import Derived.Test.YtngghkhjejkelaaWXc
import Derived.Test.YtngghkhjejkelaaWXe
import Derived.Test.YtngghkhjejkelaaWXact
import Derived.Test.YtngghkhjejkelaaWXf
import Derived.Test.YtngghkhjejkelaaWXg
import Derived.Test.YtngghkhjejkelaaWXlaw09
import Derived.Test.YtngghkhjejkelaaWYActQuiet
import Derived.Test.YtngghkhjejkelaaRows
import Derived.Test.YtngghkhjejkelaaSeat
import Derived.WalkKit
import Derived.ProofKit
import Derived.OpenShut
import Derived.ShutString
import Derived.ChangeOld
import Derived.Below
import Derived.SizedLaws
set_option linter.unusedVariables false
set_option linter.unusedSimpArgs false
namespace Rx.S
open Go Rx Go.Proofs
set_option maxRecDepth 100000
set_option maxHeartbeats 4000000
def Bb : GF := { f := 8, ps := [.c true [.int .u8, .int .u8, .int .u8, .int .u16]], rs := [(false, [.bool])], ok := fun _ => true }
noncomputable def El : List (Nat × Func) := [(8, Try.f8), (31, Try.f31), (27, Try.f27)]
theorem Hk : A1 Try.prog El := ⟨W9, VW, VV, trivial⟩
noncomputable def KG : Ctx := { Aw := Aw, eqs := eqs, fns := fun f => look f El, ctr := [(31, EO), (27, Dh)], lim := 30, big := [], lps := [] }
theorem I8 : XL Try.prog T KG where
 Aw := BC
 eqs := BM
 mixed := mixed
 ctr := Au ⟨⟨rfl, NQ⟩, ⟨rfl, Lu⟩, trivial⟩
 fns := AB Hk
 big := Av trivial
 lps := AR rfl
theorem I9 : Bz Try.prog T Bb := BA I8 Bj (g := C9) (ls := [V 74]) (by kernel_rfl) (fun aq => by rw [show Bb.f = 8 from rfl, We]; rfl) fun aq e h1 h2 h3 => by
 subst h1
 rw [show Bb.f = 8 from rfl, We] at h2 ⊢
 obtain ⟨ho, hr⟩ := HL e h3 h2
 have r0 := hr
 refine ⟨⟨ho.1, ho.2.1, ho.2.2.1, ho.2.2.2.1, ho.2.2.2.2.1, ho.2.2.2.2.2, trivial⟩, ?_⟩
 show Ab [.bool] (Wd _).2 = Ab [.bool] [L.ev e (V 74)]
 exact (Qk r0 rfl)
end Rx.S
namespace Go.Proofs.Ytngghkhjejkelaa.actQuiet
open Go.ChangeShapes Go.WideShapes Go.ChangeAt Go.RowKit Rx
theorem own : ownKnob Try.prog.godebug = none := by kernel_rfl
set_option maxRecDepth 100000 in
theorem lifted (os : Os) (started : os.Started) (H : Type) (enc : TypeId × Value → H) :
    ReturnsInHanded {} Try.checked os 8 .any (Rows.actQuietSpec.pre6 enc Try.prog Try.f8 Rows.actQuietRow.domain false) (Rows.actQuietSpec.post enc Try.prog Try.f8 false true false false) := by
  refine returnsInHanded_of_change_sized (C := Try.checked) own started (by kernel_rfl) Try.func8
    (ChangeSpec.witness6 (enc := enc) (C := Try.checked) false ⟨#[], #[.agg #[.int .u8 0, .int .u8 0, .int .u8 0, .int .u16 0]], []⟩ 8 (by kernel_rfl) (by kernel_rfl) (by kernel_rfl) (by kernel_rfl)) ?_
  intro W base args ds gs before hval0 hW hcnd hsz0 _
  have hval : ∀ (j : Nat) t v, Try.f8.params[j]? = some t → args[j]? = some v → Value.okWide Try.prog W .any base t v := hval0
  have hW' := hW
  obtain ⟨p, q, hA0, hV, rfl, hfz, hnd⟩ := hW
  have hA : DataW.TrodAll enc Try.prog W 0 (fun _ => true) true Try.f8.params.toList args.toList ds p := hA0
  rw [Try.params8] at hA hval
  obtain ⟨v0, vs0, d0, ds0, p0, q0, hargs, rfl, rfl, h0, r0⟩ := trodAll_cons hA
  obtain ⟨rfl, rfl, rfl⟩ := trodAll_nil r0
  obtain rfl : args = #[v0] := by cases args; simp_all
  obtain ⟨rfl, rfl⟩ := trodVars_none hV
  obtain ⟨l0, e0, o0⟩ := TD S.BC (n := 10) (t := 62) rfl rfl (hval 0 62 v0 rfl rfl) h0
  obtain ⟨x0, _, rfl, k0, x1, _, rfl, k1, x2, _, rfl, k2, x3, _, rfl, k3, rfl⟩ := e0
  have hargs : B0 W.cell? S.Bb.ps [v0] [x0, x1, x2, x3] := ⟨v0, _, [x0, x1, x2, x3], _, rfl, rfl, o0, ⟨rfl, rfl⟩⟩
  have f0 := PF k0
  have f1 := PF k1
  have f2 := PF k2
  have f3 := Ua k3
  have hp : (S.Wd [x0, x1, x2, x3]).1 = true := by
    simp [S.Wd, gi, gb, gs, gv, ge, Day.ND.i64, Day.HB.i64, Day.V8, Day.HB.a, f0, f1, f2, f3]
  refine (SC S.I9 (fun _ => rfl) rfl hargs (by rw [show S.Bb.f = 8 from rfl, S.We]; exact hp) (by rw [show S.Bb.f = 8 from rfl, S.We]; rfl)).mono fun e W2 ⟨he, Vh⟩ => ?_
  subst he
  have b0 := Below.trod Seat.laidOut (by kernel_rfl) (of_decide_eq_true (by kernel_rfl)) h0 Vh (fun x hx => by simpa using hW'.lt x (by simp [hx]))
  exact ⟨_, rfl, _, _, _, [], _, [], hW', trodAll_mk1 (shut_bool Try.underlying4 _), (trodAll_cons_mk b0 trodAll_mk0), rfl, Vh.frame _, fun h => by cases h⟩
theorem facts : joinedFacts Try.prog 8 Try.f8 Rows.actQuietSpec Rows.actQuietRow = true :=
  Seat.facts Seat.enter Seat.lifts Seat.made Seat.laidOut Seat.rowed Seat.heard 8 Try.f8 Rows.actQuietSpec Rows.actQuietRow ((rfl : Rows.actQuietRow.plainKeys = true).trans Seat.keys) (by kernel_rfl) (by kernel_rfl) (by kernel_rfl) (by kernel_rfl) (by kernel_rfl) (by kernel_rfl) (by kernel_rfl) (by kernel_rfl)
theorem named : Try.prog.funcNamed Rows.actQuietRow.func = some 8 := by kernel_rfl
theorem inst : Try.f8.isInstance Try.prog Rows.actQuietRow.origin Rows.actQuietRow.targs := of_decide_eq_true (by kernel_rfl)
theorem wrapped : Try.f8.isWrapper Try.prog Rows.actQuietRow.wrapper Rows.actQuietRow.mainSum := by unfold Func.isWrapper; rw [if_neg (by decide +kernel)]; exact ⟨rfl, rfl⟩
theorem WY : Rows.actQuietRow.holds Try.pinned (OpenSpec.ofChange Rows.actQuietSpec) :=
  OpenClaim.holds_of_wide 8 Try.f8 rfl rfl rfl rfl rfl rfl rfl ⟨rfl, rfl, rfl, rfl, rfl⟩ rfl rfl rfl rfl rfl named Try.func8 facts inst wrapped
    (fun os started H enc _ => lifted os started H enc)
theorem proved : Rows.ActQuietSaid := WY
end Go.Proofs.Ytngghkhjejkelaa.actQuiet
namespace Go.Proofs.Ytngghkhjejkelaa
/-- The row, under a short name, for the claim. -/
theorem actQuiet_holds : Rows.ActQuietSaid := actQuiet.proved
end Go.Proofs.Ytngghkhjejkelaa
