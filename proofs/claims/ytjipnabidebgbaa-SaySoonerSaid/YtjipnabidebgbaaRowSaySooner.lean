/- For all clusters and nodes: a tick later with nothing heard it is due a tick sooner. -/
import Derived.Test.YtjipnabidebgbaaXb
import Derived.Test.YtjipnabidebgbaaXc
import Derived.Test.YtjipnabidebgbaaXnode
import Derived.Test.YtjipnabidebgbaaXsay
import Derived.Test.YtjipnabidebgbaaXlaw08
import Derived.Test.YtjipnabidebgbaaRows
import Derived.Test.YtjipnabidebgbaaSeat
import Derived.WalkKit
import Derived.ProofKit
import Derived.OpenShut
import Derived.ShutString
import Derived.ChangeOld
import Derived.Below
import Derived.SizedLaws
set_option linter.unusedVariables false
set_option linter.unusedSimpArgs false
namespace Rx.S
open Go Rx Go.Proofs
set_option maxRecDepth 100000
set_option linter.unusedVariables false
def c_law08_SaySooner : Ctr := { f := 13, ps := [.c false [.int .u8], .c true [.int .i64, .int .i64, .int .i64, .int .i64]], rs := [(false, [.bool])], ok := fun _ => true }
noncomputable def fns_law08_SaySooner : List (Nat × Func) := [(13, Try.f13), (64, Try.f64), (86, Try.f86), (87, Try.f87)]
theorem fnsOk_law08_SaySooner : FnsAll Try.prog fns_law08_SaySooner := ⟨fn13, fn64, fn86, fn87, trivial⟩
noncomputable def X_law08_SaySooner : Ctx := { tys := tys, eqs := eqs, fns := fun f => look f fns_law08_SaySooner, ctr := [(64, c_ref06_Right), (87, c_say_Due), (86, c_law08_awake)], lim := 30 }
theorem xok_law08_SaySooner : XOK Try.prog T X_law08_SaySooner where
  tys := tysOk
  eqs := eqsOk
  mixed := mixed
  ctr := ctrsOK_of ⟨⟨rfl, ctr_ref06_Right⟩, ⟨rfl, ctr_say_Due⟩, ⟨rfl, ctr_law08_awake⟩, trivial⟩
  fns := fnsOK_of fnsOk_law08_SaySooner
def g_law08_SaySooner : G := { next := 60, defs := [⟨59, .iteB, [.var 25, .var 25, .var 24]⟩, ⟨58, .iteI, [.var 25, .var 39, .var 4]⟩, ⟨57, .iteI, [.var 25, .var 38, .var 3]⟩, ⟨56, .iteB, [.var 25, .var 54, .var 27]⟩, ⟨55, .not, [.var 25]⟩, ⟨54, .iteB, [.var 41, .var 53, .t false]⟩, ⟨53, (.cmp .eql), [.var 47, .var 51]⟩, ⟨52, .and, [.var 25, .var 41]⟩, ⟨51, (.ar .sub .i64), [.var 9, .n 1]⟩, ⟨50, .and, [.var 25, .var 41]⟩, ⟨49, .and, [.var 25, .var 41]⟩, ⟨48, .imp, [.var 45, .var 46]⟩, ⟨46, (.call 87), [.var 7, .var 1, .var 2, .var 38, .var 39]⟩, ⟨45, .and, [.var 25, .var 41]⟩, ⟨44, .and, [.var 25, .var 41]⟩, ⟨43, .and, [.var 25, .var 41]⟩, ⟨42, .imp, [.var 25, .var 40]⟩, ⟨40, (.call 86), []⟩, ⟨39, .iteI, [.var 29, .var 36, .var 4]⟩, ⟨38, .iteI, [.var 29, .var 3, .var 37]⟩, ⟨37, (.ar .add .i64), [.var 3, .n 1]⟩, ⟨36, (.dv .rem .i64), [.var 33, .var 7]⟩, ⟨35, .imp, [.var 31, .var 34]⟩, ⟨34, (.cmp .neq), [.var 7, .n 0]⟩, ⟨33, (.ar .add .i64), [.var 4, .n 1]⟩, ⟨32, .and, [.var 25, .var 30]⟩, ⟨31, .and, [.var 25, .var 29]⟩, ⟨30, .not, [.var 29]⟩, ⟨29, (.cmp .eql), [.var 2, .n 3]⟩, ⟨28, .imp, [.var 24, .var 26]⟩, ⟨26, (.call 86), []⟩, ⟨25, .not, [.var 24]⟩, ⟨24, .iteB, [.var 19, .t true, .var 23]⟩, ⟨23, (.cmp .gtr), [.var 3, .n 1000]⟩, ⟨22, .not, [.var 19]⟩, ⟨21, .not, [.var 19]⟩, ⟨20, .not, [.var 19]⟩, ⟨19, .iteB, [.var 10, .t true, .var 18]⟩, ⟨18, .not, [.var 15]⟩, ⟨17, .not, [.var 10]⟩, ⟨16, .imp, [.var 13, .var 14]⟩, ⟨14, (.call 64), [.var 7, .var 1, .var 2, .var 3, .var 4]⟩, ⟨13, .not, [.var 10]⟩, ⟨12, .not, [.var 10]⟩, ⟨11, .not, [.var 10]⟩, ⟨10, (.cmp .lss), [.var 9, .n 1]⟩, ⟨8, (.call 87), [.var 7, .var 1, .var 2, .var 3, .var 4]⟩, ⟨7, (.ar .add .i64), [.n 3, .var 6]⟩, ⟨6, (.conv .i64), [.var 5]⟩, ⟨5, (.dv .rem .u8), [.var 0, .n 6]⟩], obs := [.var 48, .var 42, .var 35, .var 28, .var 16, .var 8], known := [] }
theorem run_law08_SaySooner : run X_law08_SaySooner 2000 13 ([.one (.k (.int .u8 (.var 0))), .agg [.k (.int .i64 (.var 1)), .k (.int .i64 (.var 2)), .k (.int .i64 (.var 3)), .k (.int .i64 (.var 4))]]) ([]) 5 [] = some (.pv (.one (.k (.bool (.var 56)))), [{ own := true, ty := 42, es := 4, cells := [.k (.int .i64 (.var 1)), .k (.int .i64 (.var 2)), .k (.int .i64 (.var 57)), .k (.int .i64 (.var 58))] }], g_law08_SaySooner) := by kernel_rfl
theorem pure_law08_SaySooner (x0 : Int) (x1 : Int) (x2 : Int) (x3 : Int) (x4 : Int) (v5 : Int) (v6 : Int) (v7 : Int) (v8 : Bool) (v9 : Int) (v10 : Bool) (v11 : Bool) (v12 : Bool) (v13 : Bool) (v14 : Bool) (v15 : Bool) (v16 : Bool) (v17 : Bool) (v18 : Bool) (v19 : Bool) (v20 : Bool) (v21 : Bool) (v22 : Bool) (v23 : Bool) (v24 : Bool) (v25 : Bool) (v26 : Bool) (v27 : Bool) (v28 : Bool) (v29 : Bool) (v30 : Bool) (v31 : Bool) (v32 : Bool) (v33 : Int) (v34 : Bool) (v35 : Bool) (v36 : Int) (v37 : Int) (v38 : Int) (v39 : Int) (v40 : Bool) (v41 : Bool) (v42 : Bool) (v43 : Bool) (v44 : Bool) (v45 : Bool) (v46 : Bool) (v47 : Int) (v48 : Bool) (v49 : Bool) (v50 : Bool) (v51 : Int) (v52 : Bool) (v53 : Bool) (v54 : Bool) (v55 : Bool) (v56 : Bool) (v57 : Int) (v58 : Int) (v59 : Bool)
    (q5 : v5 = (Int.tmod x0 (6 : Int)))
    (q6 : v6 = (IntKind.wrap .i64 v5))
    (q7 : v7 = (IntKind.wrap .i64 ((3 : Int) + v6)))
    (q8 : v8 = (Day.ND.i64 (Day.ND.mk x1 x2 x3 x4)))
    (q9 : v9 = (Day.dueR v7 (Day.ND.mk x1 x2 x3 x4)))
    (q10 : v10 = (decide (v9 < (1 : Int))))
    (q11 : v11 = ((!v10)))
    (q12 : v12 = ((!v10)))
    (q13 : v13 = ((!v10)))
    (q14 : v14 = (Day.ND.i64 (Day.ND.mk x1 x2 x3 x4)))
    (q15 : v15 = (Day.rightN v7 (Day.ND.mk x1 x2 x3 x4)))
    (q16 : v16 = ((!v13 || v14)))
    (q17 : v17 = ((!v10)))
    (q18 : v18 = ((!v15)))
    (q19 : v19 = ((if v10 then true else v18)))
    (q20 : v20 = ((!v19)))
    (q21 : v21 = ((!v19)))
    (q22 : v22 = ((!v19)))
    (q23 : v23 = (decide (x3 > (1000 : Int))))
    (q24 : v24 = ((if v19 then true else v23)))
    (q25 : v25 = ((!v24)))
    (q26 : v26 = (true))
    (q27 : v27 = (true))
    (q28 : v28 = ((!v24 || v26)))
    (q29 : v29 = ((x2 == (3 : Int))))
    (q30 : v30 = ((!v29)))
    (q31 : v31 = ((v25 && v29)))
    (q32 : v32 = ((v25 && v30)))
    (q33 : v33 = (IntKind.wrap .i64 (x4 + (1 : Int))))
    (q34 : v34 = ((v7 != (0 : Int))))
    (q35 : v35 = ((!v31 || v34)))
    (q36 : v36 = (Int.tmod v33 v7))
    (q37 : v37 = (IntKind.wrap .i64 (x3 + (1 : Int))))
    (q38 : v38 = ((if v29 then x3 else v37)))
    (q39 : v39 = ((if v29 then v36 else x4)))
    (q40 : v40 = (true))
    (q41 : v41 = (true))
    (q42 : v42 = ((!v25 || v40)))
    (q43 : v43 = ((v25 && v41)))
    (q44 : v44 = ((v25 && v41)))
    (q45 : v45 = ((v25 && v41)))
    (q46 : v46 = (Day.ND.i64 (Day.ND.mk x1 x2 v38 v39)))
    (q47 : v47 = (Day.dueR v7 (Day.ND.mk x1 x2 v38 v39)))
    (q48 : v48 = ((!v45 || v46)))
    (q49 : v49 = ((v25 && v41)))
    (q50 : v50 = ((v25 && v41)))
    (q51 : v51 = (IntKind.wrap .i64 (v9 - (1 : Int))))
    (q52 : v52 = ((v25 && v41)))
    (q53 : v53 = ((v47 == v51)))
    (q54 : v54 = ((if v41 then v53 else false)))
    (q55 : v55 = ((!v25)))
    (q56 : v56 = ((if v25 then v54 else v27)))
    (q57 : v57 = ((if v25 then v38 else x3)))
    (q58 : v58 = ((if v25 then v39 else x4)))
    (q59 : v59 = ((if v25 then v25 else v24)))
    (hp : (Day.u8 x0 && Day.ND.i64 (Day.ND.mk x1 x2 x3 x4)) = true)  :
    (v48 = true ∧ v42 = true ∧ v35 = true ∧ v28 = true ∧ v16 = true ∧ v8 = true) ∧ (true = v56) := by
  have hn : 3 ≤ v7 ∧ v7 ≤ 8 := by grind [Day.clampR, Day.upR, Day.downR, Day.sm, Day.i64, Day.u8, Day.u16, Day.u32, Day.right, Day.times, Day.ownE, Day.ownR, Day.idE, Day.freshN, Day.noND, Day.cleanN, Day.wakeN, Day.rightN, Day.ND.i64, Day.waitR, Day.dueR, Day.ofR, Day.ofE, Day.noFr, wrap64, Day.modP, Day.modR, Day.slotP, Day.nextR, Day.atP, Day.atR, Day.aheadP, Day.aheadR]
  have hn2 : v7 = 3 ∨ v7 = 4 ∨ v7 = 5 ∨ v7 = 6 ∨ v7 = 7 ∨ v7 = 8 := by omega
  clear hn
  rcases hn2 with rfl | rfl | rfl | rfl | rfl | rfl <;> grind (splits := 30) [Day.clampR, Day.upR, Day.downR, Day.sm, Day.i64, Day.u8, Day.u16, Day.u32, Day.right, Day.times, Day.ownE, Day.ownR, Day.idE, Day.freshN, Day.noND, Day.cleanN, Day.wakeN, Day.rightN, Day.ND.i64, Day.waitR, Day.dueR, Day.ofR, Day.ofE, Day.noFr, wrap64, Day.modP, Day.modR, Day.slotP, Day.nextR, Day.atP, Day.atR, Day.aheadP, Day.aheadR]
theorem bridge_law08_SaySooner {e : Nat → A} {al more : List A} (hlen : al.length = 5) (he : ∀ j a, (al ++ more)[j]? = some a → e j = a) (hd : ∀ d ∈ g_law08_SaySooner.defs, d.holds T e) (hp : (t_13 al).1 = true) :
    (∀ x ∈ g_law08_SaySooner.known, x.holds T e) ∧ (∀ o ∈ g_law08_SaySooner.obs, (o.ev e).bool = true) ∧ semMany (c_law08_SaySooner.rs.flatMap (·.2)) (t_13 al).2 = semMany (c_law08_SaySooner.rs.flatMap (·.2)) ([.var 56].map (L.ev e)) := by
  have y0 : gi al 0 = (e 0).int := gi_e he (by omega)
  have y1 : gi al 1 = (e 1).int := gi_e he (by omega)
  have y2 : gi al 2 = (e 2).int := gi_e he (by omega)
  have y3 : gi al 3 = (e 3).int := gi_e he (by omega)
  have y4 : gi al 4 = (e 4).int := gi_e he (by omega)
  obtain ⟨d59, d58, d57, d56, d55, d54, d53, d52, d51, d50, d49, d48, d46, d45, d44, d43, d42, d40, d39, d38, d37, d36, d35, d34, d33, d32, d31, d30, d29, d28, d26, d25, d24, d23, d22, d21, d20, d19, d18, d17, d16, d14, d13, d12, d11, d10, d8, d7, d6, d5, -⟩ : AllHold T e g_law08_SaySooner.defs := allHold_of hd
  have hpE : (t_13 al).1 = (Day.u8 (e 0).int && Day.ND.i64 (Day.ND.mk (e 1).int (e 2).int (e 3).int (e 4).int)) := by simp only [t_13, y0, y1, y2, y3, y4]
  have hp := hpE.symm.trans hp
  have hoE : (t_13 al).2 = [.b (true)] := by simp only [t_13, y0, y1, y2, y3, y4]
  obtain ⟨ho, hr⟩ := pure_law08_SaySooner (e 0).int (e 1).int (e 2).int (e 3).int (e 4).int (e 5).int (e 6).int (e 7).int (e 8).bool (e 9).int (e 10).bool (e 11).bool (e 12).bool (e 13).bool (e 14).bool (e 15).bool (e 16).bool (e 17).bool (e 18).bool (e 19).bool (e 20).bool (e 21).bool (e 22).bool (e 23).bool (e 24).bool (e 25).bool (e 26).bool (e 27).bool (e 28).bool (e 29).bool (e 30).bool (e 31).bool (e 32).bool (e 33).int (e 34).bool (e 35).bool (e 36).int (e 37).int (e 38).int (e 39).int (e 40).bool (e 41).bool (e 42).bool (e 43).bool (e 44).bool (e 45).bool (e 46).bool (e 47).int (e 48).bool (e 49).bool (e 50).bool (e 51).int (e 52).bool (e 53).bool (e 54).bool (e 55).bool (e 56).bool (e 57).int (e 58).int (e 59).bool
    (q_dv d5)
    (q_conv d6)
    (q_ar d7)
    (q_pre T_87 d8)
    (q_outI T_87 0 d8 rfl)
    (q_cmp d10)
    (q_not d11)
    (q_not d12)
    (q_not d13)
    (q_pre T_64 d14)
    (q_outB T_64 0 d14 rfl)
    (q_imp d16)
    (q_not d17)
    (q_not d18)
    (q_iteB d19)
    (q_not d20)
    (q_not d21)
    (q_not d22)
    (q_cmp d23)
    (q_iteB d24)
    (q_not d25)
    (q_pre T_86 d26)
    (q_outB T_86 0 d26 rfl)
    (q_imp d28)
    (q_cmp d29)
    (q_not d30)
    (q_and d31)
    (q_and d32)
    (q_ar d33)
    (q_cmp d34)
    (q_imp d35)
    (q_dv d36)
    (q_ar d37)
    (q_iteI d38)
    (q_iteI d39)
    (q_pre T_86 d40)
    (q_outB T_86 0 d40 rfl)
    (q_imp d42)
    (q_and d43)
    (q_and d44)
    (q_and d45)
    (q_pre T_87 d46)
    (q_outI T_87 0 d46 rfl)
    (q_imp d48)
    (q_and d49)
    (q_and d50)
    (q_ar d51)
    (q_and d52)
    (q_cmp d53)
    (q_iteB d54)
    (q_not d55)
    (q_iteB d56)
    (q_iteI d57)
    (q_iteI d58)
    (q_iteB d59)
    hp
  obtain ⟨o0, o1, o2, o3, o4, o5⟩ := ho
  have r0 := hr
  refine ⟨(fun x hx => by cases hx), obs_of (e := e) (l := g_law08_SaySooner.obs) ⟨o0, o1, o2, o3, o4, o5, trivial⟩, ?_⟩
  rw [hoE]
  show semMany [.bool] [.b (true)] = semMany [.bool] [L.ev e (.var 56)]
  exact (semB r0 rfl)
theorem ctr_law08_SaySooner : CtrOK Try.prog T c_law08_SaySooner := by
  intro lits al vs w hok hag hargs hpre
  have hpre : (t_13 al).1 = true := by rw [← T_13]; exact hpre
  obtain ⟨hl, hlen⟩ := args_flat hargs rfl
  have hlen : al.length = 5 := hlen
  exact calls_of_run xok_law08_SaySooner widths (lits := []) (ns := []) (more := []) rfl run_law08_SaySooner (by kernel_rfl) (by kernel_rfl) rfl hargs hl (lit_none) (by rw [show c_law08_SaySooner.f = 13 from rfl, T_13]; rfl)
    fun e he hd => by rw [show c_law08_SaySooner.f = 13 from rfl, T_13]; exact bridge_law08_SaySooner hlen he hd hpre
end Rx.S
namespace Go.Proofs.Ytjipnabidebgbaa.saySooner
open Go.ChangeShapes Go.WideShapes Go.ChangeAt Go.RowKit Rx
set_option linter.unusedVariables false
theorem own : ownKnob Try.prog.godebug = none := by kernel_rfl
set_option maxRecDepth 100000 in
theorem lifted (os : Os) (started : os.Started) (H : Type) (enc : TypeId × Value → H) :
    ReturnsInHanded {} Try.checked os 13 .any (Rows.saySoonerSpec.pre6 enc Try.prog Try.f13 Rows.saySoonerRow.domain false) (Rows.saySoonerSpec.post enc Try.prog Try.f13 false true false false) := by
  refine returnsInHanded_of_change_sized (C := Try.checked) own started (by kernel_rfl) Try.func13
    (ChangeSpec.witness6 (enc := enc) (C := Try.checked) false ⟨#[], #[.int .u8 0, .agg #[.int .i64 0, .int .i64 0, .int .i64 0, .int .i64 0]], []⟩ 8 (by kernel_rfl) (by kernel_rfl) (by kernel_rfl) (by kernel_rfl)) ?_
  intro W base args ds gs before hval0 hW hcnd hsz0 _
  have hval : ∀ (j : Nat) t v, Try.f13.params[j]? = some t → args[j]? = some v → Value.okWide Try.prog W .any base t v := hval0
  have hW' := hW
  obtain ⟨p, q, hA0, hV, rfl, hfz, hnd⟩ := hW
  have hA : DataW.TrodAll enc Try.prog W 0 (fun _ => true) true Try.f13.params.toList args.toList ds p := hA0
  rw [Try.params13] at hA hval
  obtain ⟨v0, vs0, d0, ds0, p0, q0, hargs, rfl, rfl, h0, r0⟩ := trodAll_cons hA
  obtain ⟨v1, vs1, d1, ds1, p1, q1, rfl, rfl, rfl, h1, r1⟩ := trodAll_cons r0
  obtain ⟨rfl, rfl, rfl⟩ := trodAll_nil r1
  obtain rfl : args = #[v0, v1] := by cases args; simp_all
  obtain ⟨rfl, rfl⟩ := trodVars_none hV
  obtain ⟨l0, e0, o0⟩ := open_arg S.tysOk (n := 10) (t := 5) rfl rfl (hval 0 5 v0 rfl rfl) h0
  obtain ⟨x0, _, rfl, k0, rfl⟩ := e0
  obtain ⟨l1, e1, o1⟩ := open_arg S.tysOk (n := 10) (t := 42) rfl rfl (hval 1 42 v1 rfl rfl) h1
  obtain ⟨x1, _, rfl, k1, x2, _, rfl, k2, x3, _, rfl, k3, x4, _, rfl, k4, rfl⟩ := e1
  have hargs : ArgsRel W S.c_law08_SaySooner.ps [v0, v1] [x0, x1, x2, x3, x4] := ⟨v0, _, [x0], _, rfl, rfl, o0, ⟨v1, _, [x1, x2, x3, x4], _, rfl, rfl, o1, ⟨rfl, rfl⟩⟩⟩
  have f0 := leaf_u8 k0
  have f1 := leaf_i64 k1
  have f2 := leaf_i64 k2
  have f3 := leaf_i64 k3
  have f4 := leaf_i64 k4
  have hp : (S.t_13 [x0, x1, x2, x3, x4]).1 = true := by
    simp [S.t_13, gi, gb, gs, gv, Day.ND.i64, f0, f1, f2, f3, f4]
  refine (law_calls S.ctr_law08_SaySooner (fun _ => rfl) rfl hargs (by rw [show S.c_law08_SaySooner.f = 13 from rfl, S.T_13]; exact hp) (by rw [show S.c_law08_SaySooner.f = 13 from rfl, S.T_13]; rfl)).mono fun e W2 ⟨he, bel⟩ => ?_
  subst he
  have b0 := Below.trod Seat.laidOut (by kernel_rfl) (of_decide_eq_true (by kernel_rfl)) h0 bel (fun x hx => by simpa using hW'.lt x (by simp [hx]))
  have b1 := Below.trod Seat.laidOut (by kernel_rfl) (of_decide_eq_true (by kernel_rfl)) h1 bel (fun x hx => by simpa using hW'.lt x (by simp [hx]))
  exact ⟨_, rfl, _, _, _, [], _, [], hW', trodAll_mk1 (shut_bool Try.underlying4 _), (trodAll_cons_mk b0 (trodAll_cons_mk b1 trodAll_mk0)), rfl, bel.frame _, fun h => by cases h⟩
theorem facts : joinedFacts Try.prog 13 Try.f13 Rows.saySoonerSpec Rows.saySoonerRow = true :=
  Seat.facts Seat.enter Seat.lifts Seat.made Seat.laidOut Seat.rowed Seat.heard 13 Try.f13 Rows.saySoonerSpec Rows.saySoonerRow ((rfl : Rows.saySoonerRow.plainKeys = true).trans Seat.keys) (by kernel_rfl) (by kernel_rfl) (by kernel_rfl) (by kernel_rfl) (by kernel_rfl) (by kernel_rfl) (by kernel_rfl) (by kernel_rfl)
theorem named : Try.prog.funcNamed Rows.saySoonerRow.func = some 13 := by kernel_rfl
theorem inst : Try.f13.isInstance Try.prog Rows.saySoonerRow.origin Rows.saySoonerRow.targs := of_decide_eq_true (by kernel_rfl)
theorem wrapped : Try.f13.isWrapper Try.prog Rows.saySoonerRow.wrapper Rows.saySoonerRow.mainSum := by unfold Func.isWrapper; rw [if_neg (by decide +kernel)]; exact ⟨rfl, rfl⟩
theorem over : Rows.saySoonerRow.holds Try.pinned (OpenSpec.ofChange Rows.saySoonerSpec) :=
  OpenClaim.holds_of_wide 13 Try.f13 rfl rfl rfl rfl rfl rfl rfl ⟨rfl, rfl, rfl, rfl, rfl⟩ rfl rfl rfl rfl rfl named Try.func13 facts inst wrapped
    (fun os started H enc _ => lifted os started H enc)
theorem proved : Rows.SaySoonerSaid := over
end Go.Proofs.Ytjipnabidebgbaa.saySooner
namespace Go.Proofs.Ytjipnabidebgbaa
/-- The row, under a short name, for the claim. -/
theorem saySooner_holds : Rows.SaySoonerSaid := saySooner.proved
end Go.Proofs.Ytjipnabidebgbaa
