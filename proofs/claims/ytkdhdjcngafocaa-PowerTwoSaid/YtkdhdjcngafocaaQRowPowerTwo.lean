/- At the tick that Two tells two correct nodes, or more, are powered, and a tick ahead of that less than two. -/
import Derived.Test.YtkdhdjcngafocaaQXc
import Derived.Test.YtkdhdjcngafocaaQXe
import Derived.Test.YtkdhdjcngafocaaQXf
import Derived.Test.YtkdhdjcngafocaaQXg
import Derived.Test.YtkdhdjcngafocaaQXpower
import Derived.Test.YtkdhdjcngafocaaQXlaw16
import Derived.Test.YtkdhdjcngafocaaQYPowerTwo
import Derived.Test.YtkdhdjcngafocaaRows
import Derived.Test.YtkdhdjcngafocaaSeat
import Derived.WalkKit
import Derived.ProofKit
import Derived.OpenShut
import Derived.ShutString
import Derived.ChangeOld
import Derived.Below
import Derived.SizedLaws
set_option linter.unusedVariables false
set_option linter.unusedSimpArgs false
namespace Rx.S
open Go Rx Go.Proofs
set_option maxRecDepth 100000
set_option maxHeartbeats 4000000
def A5 : KB := { f := 3, ps := [.lst [.int .u16], .c true [.int .i64, .int .i64]], rs := [(false, [.bool])], ok := fun _ => true }
noncomputable def BG : List (Nat × Func) := [(3, Try.f3), (6, Try.f6), (7, Try.f7), (8, Try.f8)]
theorem B9 : C5 Try.prog BG := ⟨V8, VR, VS, Ve, trivial⟩
noncomputable def Eg : Ctx := { Av := Av, eqs := eqs, fns := fun f => look f BG, ctr := [(8, Bp), (7, B7), (6, A2)], lim := 30, big := [], lps := [] }
theorem GZ : XL Try.prog T Eg where
 Av := Cd
 eqs := Dp
 mixed := mixed
 ctr := AH ⟨⟨rfl, BF⟩, ⟨rfl, Db⟩, ⟨rfl, BL⟩, trivial⟩
 fns := AV B9
 big := AI trivial
 lps := CU rfl
theorem Nh : ∀ fn body c, Eg.fns EB.f = some fn → fn.body = some body → Dm EB.p body = some (.loop c) → Ce Try.prog T EB c :=
 Hn GZ B6 (g := I3) (back := some (V 8, [V 0, V 1, V 2, V 18, V 23, V 5, V 6, V 17])) (exs := [(V 9, [some (V 3), some (V 7)])]) (by kernel_rfl) (fun aq => by rw [show EB.id = 1240 from rfl, LJ]; rfl) Qn fun aq e h1 h2 h3 => by
  rw [show EB.id = 1240 from rfl, LJ] at h2 ⊢
  exact Qo aq e h1 h2 h3
noncomputable def Eh : Ctx := { Av := Av, eqs := eqs, fns := fun f => look f BG, ctr := [(8, Bp), (7, B7), (6, A2)], lim := 30, big := [], lps := [EB] }
theorem G0 : XL Try.prog T Eh where
 Av := Cd
 eqs := Dp
 mixed := mixed
 ctr := AH ⟨⟨rfl, BF⟩, ⟨rfl, Db⟩, ⟨rfl, BL⟩, trivial⟩
 fns := AV B9
 big := AI trivial
 lps := Fi ⟨Nh, trivial⟩
theorem R5 : ∀ fn body c, Eh.fns FY.f = some fn → fn.body = some body → Dm FY.p body = some (.loop c) → Ce Try.prog T FY c :=
 Hn G0 B6 (g := I4) (back := some (V 48, [V 0, V 1, V 2, V 3, V 4, V 43, V 44, V 45, V 47, V 9, V 10, V 11])) (exs := [(V 13, [some (V 5), some (V 6), some (V 7)])]) (by kernel_rfl) (fun aq => by rw [show FY.id = 1241 from rfl, LK]; rfl) Qp fun aq e h1 h2 h3 => by
  rw [show FY.id = 1241 from rfl, LK] at h2 ⊢
  exact Qq aq e h1 h2 h3
noncomputable def JP : Ctx := { Av := Av, eqs := eqs, fns := fun f => look f BG, ctr := [(8, Bp), (7, B7), (6, A2)], lim := 30, big := [], lps := [EB, FY] }
theorem Ik : XL Try.prog T JP where
 Av := Cd
 eqs := Dp
 mixed := mixed
 ctr := AH ⟨⟨rfl, BF⟩, ⟨rfl, Db⟩, ⟨rfl, BL⟩, trivial⟩
 fns := AV B9
 big := AI trivial
 lps := Fi ⟨Nh, R5, trivial⟩
theorem Il : D7 Try.prog T A5 := EN Ik B6 (g := C6) (ls := [V 52]) (by kernel_rfl) (fun aq => by rw [show A5.f = 3 from rfl, Vt]; rfl) fun aq e h1 h2 h3 => by
 subst h1
 rw [show A5.f = 3 from rfl, Vt] at h2 ⊢
 obtain ⟨ho, hr⟩ := Hu e h3 h2
 have r0 := hr
 refine ⟨⟨ho.1, ho.2.1, ho.2.2.1, ho.2.2.2.1, ho.2.2.2.2, trivial⟩, ?_⟩
 show Ah [.bool] (Vn _).2 = Ah [.bool] [L.ev e (V 52)]
 exact (P8 r0 rfl)
end Rx.S
namespace Go.Proofs.Ytkdhdjcngafocaa.powerTwo
open Go.ChangeShapes Go.WideShapes Go.ChangeAt Go.RowKit Rx
theorem own : ownKnob Try.prog.godebug = none := by kernel_rfl
theorem Of {ys : List A} {m : Int} (h : Ts (.sl [.int .u16]) (.l ys)) : Day.Oa ⟨.l ys, m⟩ = true := by
  cases h with
  | sl q1 q2 q3 =>
    refine List.all_eq_true.2 fun a ha => ?_
    obtain ⟨j, hj, rfl⟩ := List.getElem_of_mem ha
    have hj : j < ys.length := hj
    have h5 := q3 j (.int .u16) ys[j] (by rw [show j % [Aj.int IntKind.u16].length = 0 from Nat.mod_one j]; rfl) (List.getElem?_eq_getElem hj)
    show (decide (0 ≤ ys[j].int) && decide (ys[j].int ≤ 65535)) = true
    generalize ys[j] = b at h5
    cases h5 with
    | int a1 a2 =>
      simp only [Bool.and_eq_true, decide_eq_true_eq]
      exact ⟨a1, a2⟩
set_option maxRecDepth 100000 in
theorem lifted (os : Os) (started : os.Started) (H : Type) (enc : TypeId × Value → H) :
    ReturnsInHanded {} Try.checked os 3 .any (Rows.powerTwoSpec.pre6 enc Try.prog Try.f3 Rows.powerTwoRow.domain false) (Rows.powerTwoSpec.post enc Try.prog Try.f3 false true false false) := by
  refine returnsInHanded_of_change_sized (C := Try.checked) own started (by kernel_rfl) Try.func3
    (ChangeSpec.witness6 (enc := enc) (C := Try.checked) false ⟨#[], #[.slice none 0 0, .agg #[.int .i64 0, .int .i64 0]], []⟩ 8 (by kernel_rfl) (by kernel_rfl) (by kernel_rfl) (by kernel_rfl)) ?_
  intro W base args ds gs before hval0 hW hcnd hsz0 _
  have hval : ∀ (j : Nat) t v, Try.f3.params[j]? = some t → args[j]? = some v → Value.okWide Try.prog W .any base t v := hval0
  have hW' := hW
  obtain ⟨p, q, hA0, hV, rfl, hfz, hnd⟩ := hW
  have hA : DataW.TrodAll enc Try.prog W 0 (fun _ => true) true Try.f3.params.toList args.toList ds p := hA0
  rw [Try.params3] at hA hval
  obtain ⟨v0, vs0, d0, ds0, p0, q0, hargs, rfl, rfl, h0, r0⟩ := trodAll_cons hA
  obtain ⟨v1, vs1, d1, ds1, p1, q1, rfl, rfl, rfl, h1, r1⟩ := trodAll_cons r0
  obtain ⟨rfl, rfl, rfl⟩ := trodAll_nil r1
  obtain rfl : args = #[v0, v1] := by cases args; simp_all
  obtain ⟨rfl, rfl⟩ := trodVars_none hV
  obtain ⟨as0, m0, k0, len0, le0, o0⟩ := Pn S.Cd (n := 10) (t := 22) (ss := [.int .u16]) rfl rfl (by rfl) (by decide) (hval 0 22 v0 rfl rfl) h0
  obtain ⟨l1, e1, o1⟩ := Lx S.Cd (n := 10) (t := 24) rfl rfl (hval 1 24 v1 rfl rfl) h1
  obtain ⟨x1, _, rfl, k1, x2, _, rfl, k2, rfl⟩ := e1
  have hargs : Br W.cell? S.A5.ps [v0, v1] [.l as0, .i m0, x1, x2] := ⟨v0, _, [.l as0, .i m0], _, rfl, rfl, o0, ⟨v1, _, [x1, x2], _, rfl, rfl, o1, ⟨rfl, rfl⟩⟩⟩
  have l0 : ((as0.length : Nat) : Int) = ((m0 : Nat) : Int) := by rw [len0]; simp
  have g0 : ((m0 : Nat) : Int) ≤ 9223372036854775807 := by
    have e : maxLen = 9223372036854775807 := by decide
    omega
  have z0 : Day.Oa ⟨.l as0, ((m0 : Nat) : Int)⟩ = true := Of k0
  have f0 := Po k1
  have f1 := Po k2
  have hp : (S.Vn [.l as0, .i m0, x1, x2]).1 = true := by
    simp [S.Vn, gi, gb, gs, gv, ge, Day.ND.i64, Day.HB.i64, Day.UK, Day.HB.a, l0, Day.L1.len, f0, f1, g0, z0]
  refine (Ng S.Il (fun _ => rfl) rfl hargs (by rw [show S.A5.f = 3 from rfl, S.Vt]; exact hp) (by rw [show S.A5.f = 3 from rfl, S.Vt]; rfl)).mono fun e W2 ⟨he, R6⟩ => ?_
  subst he
  have b0 := Below.trod Seat.laidOut (by kernel_rfl) (of_decide_eq_true (by kernel_rfl)) h0 R6 (fun x hx => by simpa using hW'.lt x (by simp [hx]))
  have b1 := Below.trod Seat.laidOut (by kernel_rfl) (of_decide_eq_true (by kernel_rfl)) h1 R6 (fun x hx => by simpa using hW'.lt x (by simp [hx]))
  exact ⟨_, rfl, _, _, _, [], _, [], hW', trodAll_mk1 (shut_bool Try.underlying4 _), (trodAll_cons_mk b0 (trodAll_cons_mk b1 trodAll_mk0)), rfl, R6.frame _, fun h => by cases h⟩
theorem facts : joinedFacts Try.prog 3 Try.f3 Rows.powerTwoSpec Rows.powerTwoRow = true :=
  Seat.facts Seat.enter Seat.lifts Seat.made Seat.laidOut Seat.rowed Seat.heard 3 Try.f3 Rows.powerTwoSpec Rows.powerTwoRow ((rfl : Rows.powerTwoRow.plainKeys = true).trans Seat.keys) (by kernel_rfl) (by kernel_rfl) (by kernel_rfl) (by kernel_rfl) (by kernel_rfl) (by kernel_rfl) (by kernel_rfl) (by kernel_rfl)
theorem named : Try.prog.funcNamed Rows.powerTwoRow.func = some 3 := by kernel_rfl
theorem inst : Try.f3.isInstance Try.prog Rows.powerTwoRow.origin Rows.powerTwoRow.targs := of_decide_eq_true (by kernel_rfl)
theorem wrapped : Try.f3.isWrapper Try.prog Rows.powerTwoRow.wrapper Rows.powerTwoRow.mainSum := by unfold Func.isWrapper; rw [if_neg (by decide +kernel)]; exact ⟨rfl, rfl⟩
theorem UR : Rows.powerTwoRow.holds Try.pinned (OpenSpec.ofChange Rows.powerTwoSpec) :=
  OpenClaim.holds_of_wide 3 Try.f3 rfl rfl rfl rfl rfl rfl rfl ⟨rfl, rfl, rfl, rfl, rfl⟩ rfl rfl rfl rfl rfl named Try.func3 facts inst wrapped
    (fun os started H enc _ => lifted os started H enc)
theorem proved : Rows.PowerTwoSaid := UR
end Go.Proofs.Ytkdhdjcngafocaa.powerTwo
namespace Go.Proofs.Ytkdhdjcngafocaa
/-- The row, under a short name, for the claim. -/
theorem powerTwo_holds : Rows.PowerTwoSaid := powerTwo.proved
end Go.Proofs.Ytkdhdjcngafocaa
