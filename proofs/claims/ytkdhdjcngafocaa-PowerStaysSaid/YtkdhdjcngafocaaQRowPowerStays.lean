/- Who is powered stays so, and was so ever longer ago. -/
import Derived.Test.YtkdhdjcngafocaaQXc
import Derived.Test.YtkdhdjcngafocaaQXe
import Derived.Test.YtkdhdjcngafocaaQXf
import Derived.Test.YtkdhdjcngafocaaQXg
import Derived.Test.YtkdhdjcngafocaaQXpower
import Derived.Test.YtkdhdjcngafocaaQXlaw16
import Derived.Test.YtkdhdjcngafocaaQYPowerStays
import Derived.Test.YtkdhdjcngafocaaRows
import Derived.Test.YtkdhdjcngafocaaSeat
import Derived.WalkKit
import Derived.ProofKit
import Derived.OpenShut
import Derived.ShutString
import Derived.ChangeOld
import Derived.Below
import Derived.SizedLaws
set_option linter.unusedVariables false
set_option linter.unusedSimpArgs false
namespace Rx.S
open Go Rx Go.Proofs
set_option maxRecDepth 100000
set_option maxHeartbeats 4000000
def AS : KB := { f := 4, ps := [.lst [.int .u16], .c false [.int .u8], .c false [.int .u16]], rs := [(false, [.bool])], ok := fun _ => true }
noncomputable def B8 : List (Nat × Func) := [(4, Try.f4), (6, Try.f6), (9, Try.f9), (8, Try.f8)]
theorem CZ : C5 Try.prog B8 := ⟨V9, VR, VY, Ve, trivial⟩
noncomputable def Dr : Ctx := { Av := Av, eqs := eqs, fns := fun f => look f B8, ctr := [(8, Bp), (9, Cm), (6, A2)], lim := 30, big := [], lps := [] }
theorem FX : XL Try.prog T Dr where
 Av := Cd
 eqs := Dp
 mixed := mixed
 ctr := AH ⟨⟨rfl, BF⟩, ⟨rfl, F6⟩, ⟨rfl, BL⟩, trivial⟩
 fns := AV CZ
 big := AI trivial
 lps := CU rfl
theorem R4 : ∀ fn body c, Dr.fns FO.f = some fn → fn.body = some body → Dm FO.p body = some (.loop c) → Ce Try.prog T FO c :=
 Hn FX B6 (g := IT) (back := some (V 8, [V 0, V 1, V 2, V 18, V 23, V 5, V 6, V 17])) (exs := [(V 9, [some (V 3), some (V 7)])]) (by kernel_rfl) (fun aq => by rw [show FO.id = 1230 from rfl, LI]; rfl) Qc fun aq e h1 h2 h3 => by
  rw [show FO.id = 1230 from rfl, LI] at h2 ⊢
  exact Qd aq e h1 h2 h3
noncomputable def Ij : Ctx := { Av := Av, eqs := eqs, fns := fun f => look f B8, ctr := [(8, Bp), (9, Cm), (6, A2)], lim := 30, big := [], lps := [FO] }
theorem GX : XL Try.prog T Ij where
 Av := Cd
 eqs := Dp
 mixed := mixed
 ctr := AH ⟨⟨rfl, BF⟩, ⟨rfl, F6⟩, ⟨rfl, BL⟩, trivial⟩
 fns := AV CZ
 big := AI trivial
 lps := Fi ⟨R4, trivial⟩
theorem GY : D7 Try.prog T AS := EN GX B6 (g := Cu) (ls := [V 60]) (by kernel_rfl) (fun aq => by rw [show AS.f = 4 from rfl, Vs]; rfl) fun aq e h1 h2 h3 => by
 subst h1
 rw [show AS.f = 4 from rfl, Vs] at h2 ⊢
 obtain ⟨ho, hr⟩ := Gf e h3 h2
 have r0 := hr
 refine ⟨⟨ho.1, ho.2.1, ho.2.2.1, ho.2.2.2.1, ho.2.2.2.2.1, ho.2.2.2.2.2, trivial⟩, ?_⟩
 show Ah [.bool] (Vm _).2 = Ah [.bool] [L.ev e (V 60)]
 exact (P8 r0 rfl)
end Rx.S
namespace Go.Proofs.Ytkdhdjcngafocaa.powerStays
open Go.ChangeShapes Go.WideShapes Go.ChangeAt Go.RowKit Rx
theorem own : ownKnob Try.prog.godebug = none := by kernel_rfl
theorem Of {ys : List A} {m : Int} (h : Ts (.sl [.int .u16]) (.l ys)) : Day.Oa ⟨.l ys, m⟩ = true := by
  cases h with
  | sl q1 q2 q3 =>
    refine List.all_eq_true.2 fun a ha => ?_
    obtain ⟨j, hj, rfl⟩ := List.getElem_of_mem ha
    have hj : j < ys.length := hj
    have h5 := q3 j (.int .u16) ys[j] (by rw [show j % [Aj.int IntKind.u16].length = 0 from Nat.mod_one j]; rfl) (List.getElem?_eq_getElem hj)
    show (decide (0 ≤ ys[j].int) && decide (ys[j].int ≤ 65535)) = true
    generalize ys[j] = b at h5
    cases h5 with
    | int a1 a2 =>
      simp only [Bool.and_eq_true, decide_eq_true_eq]
      exact ⟨a1, a2⟩
set_option maxRecDepth 100000 in
theorem lifted (os : Os) (started : os.Started) (H : Type) (enc : TypeId × Value → H) :
    ReturnsInHanded {} Try.checked os 4 .any (Rows.powerStaysSpec.pre6 enc Try.prog Try.f4 Rows.powerStaysRow.domain false) (Rows.powerStaysSpec.post enc Try.prog Try.f4 false true false false) := by
  refine returnsInHanded_of_change_sized (C := Try.checked) own started (by kernel_rfl) Try.func4
    (ChangeSpec.witness6 (enc := enc) (C := Try.checked) false ⟨#[], #[.slice none 0 0, .int .u8 0, .int .u16 0], []⟩ 8 (by kernel_rfl) (by kernel_rfl) (by kernel_rfl) (by kernel_rfl)) ?_
  intro W base args ds gs before hval0 hW hcnd hsz0 _
  have hval : ∀ (j : Nat) t v, Try.f4.params[j]? = some t → args[j]? = some v → Value.okWide Try.prog W .any base t v := hval0
  have hW' := hW
  obtain ⟨p, q, hA0, hV, rfl, hfz, hnd⟩ := hW
  have hA : DataW.TrodAll enc Try.prog W 0 (fun _ => true) true Try.f4.params.toList args.toList ds p := hA0
  rw [Try.params4] at hA hval
  obtain ⟨v0, vs0, d0, ds0, p0, q0, hargs, rfl, rfl, h0, r0⟩ := trodAll_cons hA
  obtain ⟨v1, vs1, d1, ds1, p1, q1, rfl, rfl, rfl, h1, r1⟩ := trodAll_cons r0
  obtain ⟨v2, vs2, d2, ds2, p2, q2, rfl, rfl, rfl, h2, r2⟩ := trodAll_cons r1
  obtain ⟨rfl, rfl, rfl⟩ := trodAll_nil r2
  obtain rfl : args = #[v0, v1, v2] := by cases args; simp_all
  obtain ⟨rfl, rfl⟩ := trodVars_none hV
  obtain ⟨as0, m0, k0, len0, le0, o0⟩ := Pn S.Cd (n := 10) (t := 22) (ss := [.int .u16]) rfl rfl (by rfl) (by decide) (hval 0 22 v0 rfl rfl) h0
  obtain ⟨l1, e1, o1⟩ := Lx S.Cd (n := 10) (t := 5) rfl rfl (hval 1 5 v1 rfl rfl) h1
  obtain ⟨x1, _, rfl, k1, rfl⟩ := e1
  obtain ⟨l2, e2, o2⟩ := Lx S.Cd (n := 10) (t := 27) rfl rfl (hval 2 27 v2 rfl rfl) h2
  obtain ⟨x2, _, rfl, k2, rfl⟩ := e2
  have hargs : Br W.cell? S.AS.ps [v0, v1, v2] [.l as0, .i m0, x1, x2] := ⟨v0, _, [.l as0, .i m0], _, rfl, rfl, o0, ⟨v1, _, [x1], _, rfl, rfl, o1, ⟨v2, _, [x2], _, rfl, rfl, o2, ⟨rfl, rfl⟩⟩⟩⟩
  have l0 : ((as0.length : Nat) : Int) = ((m0 : Nat) : Int) := by rw [len0]; simp
  have g0 : ((m0 : Nat) : Int) ≤ 9223372036854775807 := by
    have e : maxLen = 9223372036854775807 := by decide
    omega
  have z0 : Day.Oa ⟨.l as0, ((m0 : Nat) : Int)⟩ = true := Of k0
  have f0 := T7 k1
  have f1 := Tq k2
  have hp : (S.Vm [.l as0, .i m0, x1, x2]).1 = true := by
    simp [S.Vm, gi, gb, gs, gv, ge, Day.ND.i64, Day.HB.i64, Day.UK, Day.HB.a, l0, Day.L1.len, f0, f1, g0, z0]
  refine (Ng S.GY (fun _ => rfl) rfl hargs (by rw [show S.AS.f = 4 from rfl, S.Vs]; exact hp) (by rw [show S.AS.f = 4 from rfl, S.Vs]; rfl)).mono fun e W2 ⟨he, R6⟩ => ?_
  subst he
  have b0 := Below.trod Seat.laidOut (by kernel_rfl) (of_decide_eq_true (by kernel_rfl)) h0 R6 (fun x hx => by simpa using hW'.lt x (by simp [hx]))
  have b1 := Below.trod Seat.laidOut (by kernel_rfl) (of_decide_eq_true (by kernel_rfl)) h1 R6 (fun x hx => by simpa using hW'.lt x (by simp [hx]))
  have b2 := Below.trod Seat.laidOut (by kernel_rfl) (of_decide_eq_true (by kernel_rfl)) h2 R6 (fun x hx => by simpa using hW'.lt x (by simp [hx]))
  exact ⟨_, rfl, _, _, _, [], _, [], hW', trodAll_mk1 (shut_bool Try.underlying4 _), (trodAll_cons_mk b0 (trodAll_cons_mk b1 (trodAll_cons_mk b2 trodAll_mk0))), rfl, R6.frame _, fun h => by cases h⟩
theorem facts : joinedFacts Try.prog 4 Try.f4 Rows.powerStaysSpec Rows.powerStaysRow = true :=
  Seat.facts Seat.enter Seat.lifts Seat.made Seat.laidOut Seat.rowed Seat.heard 4 Try.f4 Rows.powerStaysSpec Rows.powerStaysRow ((rfl : Rows.powerStaysRow.plainKeys = true).trans Seat.keys) (by kernel_rfl) (by kernel_rfl) (by kernel_rfl) (by kernel_rfl) (by kernel_rfl) (by kernel_rfl) (by kernel_rfl) (by kernel_rfl)
theorem named : Try.prog.funcNamed Rows.powerStaysRow.func = some 4 := by kernel_rfl
theorem inst : Try.f4.isInstance Try.prog Rows.powerStaysRow.origin Rows.powerStaysRow.targs := of_decide_eq_true (by kernel_rfl)
theorem wrapped : Try.f4.isWrapper Try.prog Rows.powerStaysRow.wrapper Rows.powerStaysRow.mainSum := by unfold Func.isWrapper; rw [if_neg (by decide +kernel)]; exact ⟨rfl, rfl⟩
theorem UR : Rows.powerStaysRow.holds Try.pinned (OpenSpec.ofChange Rows.powerStaysSpec) :=
  OpenClaim.holds_of_wide 4 Try.f4 rfl rfl rfl rfl rfl rfl rfl ⟨rfl, rfl, rfl, rfl, rfl⟩ rfl rfl rfl rfl rfl named Try.func4 facts inst wrapped
    (fun os started H enc _ => lifted os started H enc)
theorem proved : Rows.PowerStaysSaid := UR
end Go.Proofs.Ytkdhdjcngafocaa.powerStays
namespace Go.Proofs.Ytkdhdjcngafocaa
/-- The row, under a short name, for the claim. -/
theorem powerStays_holds : Rows.PowerStaysSaid := powerStays.proved
end Go.Proofs.Ytkdhdjcngafocaa
