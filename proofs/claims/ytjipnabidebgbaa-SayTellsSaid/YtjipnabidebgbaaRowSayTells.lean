/- For all numbers of nodes and all nodes: what it says and in how many ticks are those of the document. -/
import Derived.Test.YtjipnabidebgbaaXb
import Derived.Test.YtjipnabidebgbaaXc
import Derived.Test.YtjipnabidebgbaaXsay
import Derived.Test.YtjipnabidebgbaaXlaw08
import Derived.Test.YtjipnabidebgbaaRows
import Derived.Test.YtjipnabidebgbaaSeat
import Derived.WalkKit
import Derived.ProofKit
import Derived.OpenShut
import Derived.ShutString
import Derived.ChangeOld
import Derived.Below
import Derived.SizedLaws
set_option linter.unusedVariables false
set_option linter.unusedSimpArgs false
namespace Rx.S
open Go Rx Go.Proofs
set_option maxRecDepth 100000
set_option linter.unusedVariables false
def c_law08_SayTells : Ctr := { f := 11, ps := [.c false [.int .i64], .c true [.int .i64, .int .i64, .int .i64, .int .i64]], rs := [(false, [.bool])], ok := fun _ => true }
noncomputable def fns_law08_SayTells : List (Nat × Func) := [(11, Try.f11), (84, Try.f84), (85, Try.f85), (86, Try.f86), (87, Try.f87), (88, Try.f88)]
theorem fnsOk_law08_SayTells : FnsAll Try.prog fns_law08_SayTells := ⟨fn11, fn84, fn85, fn86, fn87, fn88, trivial⟩
noncomputable def X_law08_SayTells : Ctx := { tys := tys, eqs := eqs, fns := fun f => look f fns_law08_SayTells, ctr := [(87, c_say_Due), (84, c_say_Of), (88, c_ref08_Due), (85, c_ref08_Of), (86, c_law08_awake)], lim := 30 }
theorem xok_law08_SayTells : XOK Try.prog T X_law08_SayTells where
  tys := tysOk
  eqs := eqsOk
  mixed := mixed
  ctr := ctrsOK_of ⟨⟨rfl, ctr_say_Due⟩, ⟨rfl, ctr_say_Of⟩, ⟨rfl, ctr_ref08_Due⟩, ⟨rfl, ctr_ref08_Of⟩, ⟨rfl, ctr_law08_awake⟩, trivial⟩
  fns := fnsOK_of fnsOk_law08_SayTells
def g_law08_SayTells : G := { next := 29, defs := [⟨28, .iteB, [.var 20, .var 27, .t false]⟩, ⟨27, (.cmp .eql), [.var 22, .var 25]⟩, ⟨26, .imp, [.var 20, .var 24]⟩, ⟨24, (.call 88), [.var 0, .var 1, .var 2, .var 3, .var 4]⟩, ⟨23, .imp, [.var 20, .var 21]⟩, ⟨21, (.call 87), [.var 0, .var 1, .var 2, .var 3, .var 4]⟩, ⟨20, .iteB, [.var 18, .var 19, .t false]⟩, ⟨19, (.cmp .eql), [.var 8, .var 12]⟩, ⟨18, .iteB, [.var 14, .var 17, .t false]⟩, ⟨17, .and, [.var 16, .var 15]⟩, ⟨16, (.cmp .eql), [.var 6, .var 10]⟩, ⟨15, (.cmp .eql), [.var 7, .var 11]⟩, ⟨13, (.call 86), []⟩, ⟨9, (.call 85), [.var 0, .var 1, .var 2, .var 3, .var 4]⟩, ⟨5, (.call 84), [.var 0, .var 1, .var 2, .var 3, .var 4]⟩], obs := [.var 26, .var 23, .var 13, .var 9, .var 5], known := [] }
theorem run_law08_SayTells : run X_law08_SayTells 2000 11 ([.one (.k (.int .i64 (.var 0))), .agg [.k (.int .i64 (.var 1)), .k (.int .i64 (.var 2)), .k (.int .i64 (.var 3)), .k (.int .i64 (.var 4))]]) ([]) 5 [] = some (.pv (.one (.k (.bool (.var 28)))), [{ own := true, ty := 42, es := 4, cells := [.k (.int .i64 (.var 1)), .k (.int .i64 (.var 2)), .k (.int .i64 (.var 3)), .k (.int .i64 (.var 4))] }, { own := true, ty := 57, es := 2, cells := [.k (.int .i64 (.var 6)), .k (.int .i64 (.var 7))] }, { own := true, ty := 57, es := 2, cells := [.k (.int .i64 (.var 10)), .k (.int .i64 (.var 11))] }], g_law08_SayTells) := by kernel_rfl
theorem pure_law08_SayTells (x0 : Int) (x1 : Int) (x2 : Int) (x3 : Int) (x4 : Int) (v5 : Bool) (v6 : Int) (v7 : Int) (v8 : Int) (v9 : Bool) (v10 : Int) (v11 : Int) (v12 : Int) (v13 : Bool) (v14 : Bool) (v15 : Bool) (v16 : Bool) (v17 : Bool) (v18 : Bool) (v19 : Bool) (v20 : Bool) (v21 : Bool) (v22 : Int) (v23 : Bool) (v24 : Bool) (v25 : Int) (v26 : Bool) (v27 : Bool) (v28 : Bool)
    (q5 : v5 = (Day.ND.i64 (Day.ND.mk x1 x2 x3 x4)))
    (q6 : v6 = (((Day.ofR x0 (Day.ND.mk x1 x2 x3 x4))).kind))
    (q7 : v7 = (((Day.ofR x0 (Day.ND.mk x1 x2 x3 x4))).id))
    (q8 : v8 = (Day.ofE x0 (Day.ND.mk x1 x2 x3 x4)))
    (q9 : v9 = (Day.ND.i64 (Day.ND.mk x1 x2 x3 x4)))
    (q10 : v10 = (((Day.ofR x0 (Day.ND.mk x1 x2 x3 x4))).kind))
    (q11 : v11 = (((Day.ofR x0 (Day.ND.mk x1 x2 x3 x4))).id))
    (q12 : v12 = (Day.ofE x0 (Day.ND.mk x1 x2 x3 x4)))
    (q13 : v13 = (true))
    (q14 : v14 = (true))
    (q15 : v15 = ((v7 == v11)))
    (q16 : v16 = ((v6 == v10)))
    (q17 : v17 = ((v16 && v15)))
    (q18 : v18 = ((if v14 then v17 else false)))
    (q19 : v19 = ((v8 == v12)))
    (q20 : v20 = ((if v18 then v19 else false)))
    (q21 : v21 = (Day.ND.i64 (Day.ND.mk x1 x2 x3 x4)))
    (q22 : v22 = (Day.dueR x0 (Day.ND.mk x1 x2 x3 x4)))
    (q23 : v23 = ((!v20 || v21)))
    (q24 : v24 = (Day.ND.i64 (Day.ND.mk x1 x2 x3 x4)))
    (q25 : v25 = (Day.dueR x0 (Day.ND.mk x1 x2 x3 x4)))
    (q26 : v26 = ((!v20 || v24)))
    (q27 : v27 = ((v22 == v25)))
    (q28 : v28 = ((if v20 then v27 else false)))
    (hp : (Day.i64 x0 && Day.ND.i64 (Day.ND.mk x1 x2 x3 x4)) = true)  :
    (v26 = true ∧ v23 = true ∧ v13 = true ∧ v9 = true ∧ v5 = true) ∧ (true = v28) := by
  grind [Day.clampR, Day.upR, Day.downR, Day.sm, Day.i64, Day.u8, Day.u16, Day.u32, Day.right, Day.times, Day.ownE, Day.ownR, Day.idE, Day.freshN, Day.noND, Day.cleanN, Day.wakeN, Day.rightN, Day.ND.i64, Day.waitR, Day.dueR, Day.ofR, Day.ofE, Day.noFr, wrap64, Day.modP, Day.modR, Day.slotP, Day.nextR, Day.atP, Day.atR, Day.aheadP, Day.aheadR]
theorem bridge_law08_SayTells {e : Nat → A} {al more : List A} (hlen : al.length = 5) (he : ∀ j a, (al ++ more)[j]? = some a → e j = a) (hd : ∀ d ∈ g_law08_SayTells.defs, d.holds T e) (hp : (t_11 al).1 = true) :
    (∀ x ∈ g_law08_SayTells.known, x.holds T e) ∧ (∀ o ∈ g_law08_SayTells.obs, (o.ev e).bool = true) ∧ semMany (c_law08_SayTells.rs.flatMap (·.2)) (t_11 al).2 = semMany (c_law08_SayTells.rs.flatMap (·.2)) ([.var 28].map (L.ev e)) := by
  have y0 : gi al 0 = (e 0).int := gi_e he (by omega)
  have y1 : gi al 1 = (e 1).int := gi_e he (by omega)
  have y2 : gi al 2 = (e 2).int := gi_e he (by omega)
  have y3 : gi al 3 = (e 3).int := gi_e he (by omega)
  have y4 : gi al 4 = (e 4).int := gi_e he (by omega)
  obtain ⟨d28, d27, d26, d24, d23, d21, d20, d19, d18, d17, d16, d15, d13, d9, d5, -⟩ : AllHold T e g_law08_SayTells.defs := allHold_of hd
  have hpE : (t_11 al).1 = (Day.i64 (e 0).int && Day.ND.i64 (Day.ND.mk (e 1).int (e 2).int (e 3).int (e 4).int)) := by simp only [t_11, y0, y1, y2, y3, y4]
  have hp := hpE.symm.trans hp
  have hoE : (t_11 al).2 = [.b (true)] := by simp only [t_11, y0, y1, y2, y3, y4]
  obtain ⟨ho, hr⟩ := pure_law08_SayTells (e 0).int (e 1).int (e 2).int (e 3).int (e 4).int (e 5).bool (e 6).int (e 7).int (e 8).int (e 9).bool (e 10).int (e 11).int (e 12).int (e 13).bool (e 14).bool (e 15).bool (e 16).bool (e 17).bool (e 18).bool (e 19).bool (e 20).bool (e 21).bool (e 22).int (e 23).bool (e 24).bool (e 25).int (e 26).bool (e 27).bool (e 28).bool
    (q_pre T_84 d5)
    (q_outI T_84 0 d5 rfl)
    (q_outI T_84 1 d5 rfl)
    (q_outI T_84 2 d5 rfl)
    (q_pre T_85 d9)
    (q_outI T_85 0 d9 rfl)
    (q_outI T_85 1 d9 rfl)
    (q_outI T_85 2 d9 rfl)
    (q_pre T_86 d13)
    (q_outB T_86 0 d13 rfl)
    (q_cmp d15)
    (q_cmp d16)
    (q_and d17)
    (q_iteB d18)
    (q_cmp d19)
    (q_iteB d20)
    (q_pre T_87 d21)
    (q_outI T_87 0 d21 rfl)
    (q_imp d23)
    (q_pre T_88 d24)
    (q_outI T_88 0 d24 rfl)
    (q_imp d26)
    (q_cmp d27)
    (q_iteB d28)
    hp
  obtain ⟨o0, o1, o2, o3, o4⟩ := ho
  have r0 := hr
  refine ⟨(fun x hx => by cases hx), obs_of (e := e) (l := g_law08_SayTells.obs) ⟨o0, o1, o2, o3, o4, trivial⟩, ?_⟩
  rw [hoE]
  show semMany [.bool] [.b (true)] = semMany [.bool] [L.ev e (.var 28)]
  exact (semB r0 rfl)
theorem ctr_law08_SayTells : CtrOK Try.prog T c_law08_SayTells := by
  intro lits al vs w hok hag hargs hpre
  have hpre : (t_11 al).1 = true := by rw [← T_11]; exact hpre
  obtain ⟨hl, hlen⟩ := args_flat hargs rfl
  have hlen : al.length = 5 := hlen
  exact calls_of_run xok_law08_SayTells widths (lits := []) (ns := []) (more := []) rfl run_law08_SayTells (by kernel_rfl) (by kernel_rfl) rfl hargs hl (lit_none) (by rw [show c_law08_SayTells.f = 11 from rfl, T_11]; rfl)
    fun e he hd => by rw [show c_law08_SayTells.f = 11 from rfl, T_11]; exact bridge_law08_SayTells hlen he hd hpre
end Rx.S
namespace Go.Proofs.Ytjipnabidebgbaa.sayTells
open Go.ChangeShapes Go.WideShapes Go.ChangeAt Go.RowKit Rx
set_option linter.unusedVariables false
theorem own : ownKnob Try.prog.godebug = none := by kernel_rfl
set_option maxRecDepth 100000 in
theorem lifted (os : Os) (started : os.Started) (H : Type) (enc : TypeId × Value → H) :
    ReturnsInHanded {} Try.checked os 11 .any (Rows.sayTellsSpec.pre6 enc Try.prog Try.f11 Rows.sayTellsRow.domain false) (Rows.sayTellsSpec.post enc Try.prog Try.f11 false true false false) := by
  refine returnsInHanded_of_change_sized (C := Try.checked) own started (by kernel_rfl) Try.func11
    (ChangeSpec.witness6 (enc := enc) (C := Try.checked) false ⟨#[], #[.int .i64 0, .agg #[.int .i64 0, .int .i64 0, .int .i64 0, .int .i64 0]], []⟩ 8 (by kernel_rfl) (by kernel_rfl) (by kernel_rfl) (by kernel_rfl)) ?_
  intro W base args ds gs before hval0 hW hcnd hsz0 _
  have hval : ∀ (j : Nat) t v, Try.f11.params[j]? = some t → args[j]? = some v → Value.okWide Try.prog W .any base t v := hval0
  have hW' := hW
  obtain ⟨p, q, hA0, hV, rfl, hfz, hnd⟩ := hW
  have hA : DataW.TrodAll enc Try.prog W 0 (fun _ => true) true Try.f11.params.toList args.toList ds p := hA0
  rw [Try.params11] at hA hval
  obtain ⟨v0, vs0, d0, ds0, p0, q0, hargs, rfl, rfl, h0, r0⟩ := trodAll_cons hA
  obtain ⟨v1, vs1, d1, ds1, p1, q1, rfl, rfl, rfl, h1, r1⟩ := trodAll_cons r0
  obtain ⟨rfl, rfl, rfl⟩ := trodAll_nil r1
  obtain rfl : args = #[v0, v1] := by cases args; simp_all
  obtain ⟨rfl, rfl⟩ := trodVars_none hV
  obtain ⟨l0, e0, o0⟩ := open_arg S.tysOk (n := 10) (t := 3) rfl rfl (hval 0 3 v0 rfl rfl) h0
  obtain ⟨x0, _, rfl, k0, rfl⟩ := e0
  obtain ⟨l1, e1, o1⟩ := open_arg S.tysOk (n := 10) (t := 42) rfl rfl (hval 1 42 v1 rfl rfl) h1
  obtain ⟨x1, _, rfl, k1, x2, _, rfl, k2, x3, _, rfl, k3, x4, _, rfl, k4, rfl⟩ := e1
  have hargs : ArgsRel W S.c_law08_SayTells.ps [v0, v1] [x0, x1, x2, x3, x4] := ⟨v0, _, [x0], _, rfl, rfl, o0, ⟨v1, _, [x1, x2, x3, x4], _, rfl, rfl, o1, ⟨rfl, rfl⟩⟩⟩
  have f0 := leaf_i64 k0
  have f1 := leaf_i64 k1
  have f2 := leaf_i64 k2
  have f3 := leaf_i64 k3
  have f4 := leaf_i64 k4
  have hp : (S.t_11 [x0, x1, x2, x3, x4]).1 = true := by
    simp [S.t_11, gi, gb, gs, gv, Day.ND.i64, f0, f1, f2, f3, f4]
  refine (law_calls S.ctr_law08_SayTells (fun _ => rfl) rfl hargs (by rw [show S.c_law08_SayTells.f = 11 from rfl, S.T_11]; exact hp) (by rw [show S.c_law08_SayTells.f = 11 from rfl, S.T_11]; rfl)).mono fun e W2 ⟨he, bel⟩ => ?_
  subst he
  have b0 := Below.trod Seat.laidOut (by kernel_rfl) (of_decide_eq_true (by kernel_rfl)) h0 bel (fun x hx => by simpa using hW'.lt x (by simp [hx]))
  have b1 := Below.trod Seat.laidOut (by kernel_rfl) (of_decide_eq_true (by kernel_rfl)) h1 bel (fun x hx => by simpa using hW'.lt x (by simp [hx]))
  exact ⟨_, rfl, _, _, _, [], _, [], hW', trodAll_mk1 (shut_bool Try.underlying4 _), (trodAll_cons_mk b0 (trodAll_cons_mk b1 trodAll_mk0)), rfl, bel.frame _, fun h => by cases h⟩
theorem facts : joinedFacts Try.prog 11 Try.f11 Rows.sayTellsSpec Rows.sayTellsRow = true :=
  Seat.facts Seat.enter Seat.lifts Seat.made Seat.laidOut Seat.rowed Seat.heard 11 Try.f11 Rows.sayTellsSpec Rows.sayTellsRow ((rfl : Rows.sayTellsRow.plainKeys = true).trans Seat.keys) (by kernel_rfl) (by kernel_rfl) (by kernel_rfl) (by kernel_rfl) (by kernel_rfl) (by kernel_rfl) (by kernel_rfl) (by kernel_rfl)
theorem named : Try.prog.funcNamed Rows.sayTellsRow.func = some 11 := by kernel_rfl
theorem inst : Try.f11.isInstance Try.prog Rows.sayTellsRow.origin Rows.sayTellsRow.targs := of_decide_eq_true (by kernel_rfl)
theorem wrapped : Try.f11.isWrapper Try.prog Rows.sayTellsRow.wrapper Rows.sayTellsRow.mainSum := by unfold Func.isWrapper; rw [if_neg (by decide +kernel)]; exact ⟨rfl, rfl⟩
theorem over : Rows.sayTellsRow.holds Try.pinned (OpenSpec.ofChange Rows.sayTellsSpec) :=
  OpenClaim.holds_of_wide 11 Try.f11 rfl rfl rfl rfl rfl rfl rfl ⟨rfl, rfl, rfl, rfl, rfl⟩ rfl rfl rfl rfl rfl named Try.func11 facts inst wrapped
    (fun os started H enc _ => lifted os started H enc)
theorem proved : Rows.SayTellsSaid := over
end Go.Proofs.Ytjipnabidebgbaa.sayTells
namespace Go.Proofs.Ytjipnabidebgbaa
/-- The row, under a short name, for the claim. -/
theorem sayTells_holds : Rows.SayTellsSaid := sayTells.proved
end Go.Proofs.Ytjipnabidebgbaa
