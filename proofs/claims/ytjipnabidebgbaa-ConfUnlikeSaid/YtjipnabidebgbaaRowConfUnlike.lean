/- For all clusters no two nodes have one time of Listen or of Cold, and the times stand in the order that the law says. -/
import Derived.Test.YtjipnabidebgbaaXb
import Derived.Test.YtjipnabidebgbaaXc
import Derived.Test.YtjipnabidebgbaaXconf
import Derived.Test.YtjipnabidebgbaaXlaw03
import Derived.Test.YtjipnabidebgbaaRows
import Derived.Test.YtjipnabidebgbaaSeat
import Derived.WalkKit
import Derived.ProofKit
import Derived.OpenShut
import Derived.ShutString
import Derived.ChangeOld
import Derived.Below
import Derived.SizedLaws
set_option linter.unusedVariables false
set_option linter.unusedSimpArgs false
namespace Rx.S
open Go Rx Go.Proofs
set_option maxRecDepth 100000
set_option linter.unusedVariables false
def c_law03_ConfUnlike : Ctr := { f := 5, ps := [.c false [.int .u8], .c false [.int .u8], .c false [.int .u8]], rs := [(false, [.bool])], ok := fun _ => true }
noncomputable def fns_law03_ConfUnlike : List (Nat × Func) := [(5, Try.f5), (41, Try.f41), (42, Try.f42), (43, Try.f43), (44, Try.f44), (45, Try.f45), (46, Try.f46), (47, Try.f47)]
theorem fnsOk_law03_ConfUnlike : FnsAll Try.prog fns_law03_ConfUnlike := ⟨fn5, fn41, fn42, fn43, fn44, fn45, fn46, fn47, trivial⟩
noncomputable def X_law03_ConfUnlike : Ctx := { tys := tys, eqs := eqs, fns := fun f => look f fns_law03_ConfUnlike, ctr := [(44, c_conf_Block), (45, c_conf_Watch), (46, c_conf_Start), (47, c_conf_Stable), (41, c_conf_Listen), (42, c_conf_Cold), (43, c_law03_awake)], lim := 30 }
theorem xok_law03_ConfUnlike : XOK Try.prog T X_law03_ConfUnlike where
  tys := tysOk
  eqs := eqsOk
  mixed := mixed
  ctr := ctrsOK_of ⟨⟨rfl, ctr_conf_Block⟩, ⟨rfl, ctr_conf_Watch⟩, ⟨rfl, ctr_conf_Start⟩, ⟨rfl, ctr_conf_Stable⟩, ⟨rfl, ctr_conf_Listen⟩, ⟨rfl, ctr_conf_Cold⟩, ⟨rfl, ctr_law03_awake⟩, trivial⟩
  fns := fnsOK_of fnsOk_law03_ConfUnlike
def g_law03_ConfUnlike : G := { next := 62, defs := [⟨61, .iteB, [.var 53, .var 60, .t false]⟩, ⟨60, (.cmp .gtr), [.var 55, .var 58]⟩, ⟨59, .imp, [.var 53, .var 57]⟩, ⟨57, (.call 46), [.var 5]⟩, ⟨56, .imp, [.var 53, .var 54]⟩, ⟨54, (.call 47), [.var 5]⟩, ⟨53, .iteB, [.var 45, .var 52, .t false]⟩, ⟨52, (.cmp .gtr), [.var 47, .var 50]⟩, ⟨51, .imp, [.var 45, .var 49]⟩, ⟨49, (.call 45), [.var 5]⟩, ⟨48, .imp, [.var 45, .var 46]⟩, ⟨46, (.call 46), [.var 5]⟩, ⟨45, .iteB, [.var 40, .var 44, .t false]⟩, ⟨44, (.cmp .gtr), [.var 42, .var 16]⟩, ⟨43, .imp, [.var 40, .var 41]⟩, ⟨41, (.call 45), [.var 5]⟩, ⟨40, .iteB, [.var 38, .var 39, .t false]⟩, ⟨39, (.cmp .gtr), [.var 13, .var 22]⟩, ⟨38, .iteB, [.var 33, .var 37, .t false]⟩, ⟨37, (.cmp .gtr), [.var 19, .var 35]⟩, ⟨36, .imp, [.var 33, .var 34]⟩, ⟨34, (.call 44), [.var 5]⟩, ⟨33, .iteB, [.var 29, .var 32, .t false]⟩, ⟨32, .eqB, [.var 30, .var 31]⟩, ⟨31, (.cmp .eql), [.var 8, .var 11]⟩, ⟨30, (.cmp .eql), [.var 19, .var 22]⟩, ⟨29, .iteB, [.var 25, .var 28, .t false]⟩, ⟨28, .eqB, [.var 26, .var 27]⟩, ⟨27, (.cmp .eql), [.var 8, .var 11]⟩, ⟨26, (.cmp .eql), [.var 13, .var 16]⟩, ⟨24, (.call 43), []⟩, ⟨21, (.call 42), [.var 5, .var 11]⟩, ⟨18, (.call 42), [.var 5, .var 8]⟩, ⟨15, (.call 41), [.var 5, .var 11]⟩, ⟨12, (.call 41), [.var 5, .var 8]⟩, ⟨11, (.dv .rem .i64), [.var 9, .var 5]⟩, ⟨10, (.cmp .neq), [.var 5, .n 0]⟩, ⟨9, (.conv .i64), [.var 2]⟩, ⟨8, (.dv .rem .i64), [.var 6, .var 5]⟩, ⟨7, (.cmp .neq), [.var 5, .n 0]⟩, ⟨6, (.conv .i64), [.var 1]⟩, ⟨5, (.ar .add .i64), [.n 3, .var 4]⟩, ⟨4, (.conv .i64), [.var 3]⟩, ⟨3, (.dv .rem .u8), [.var 0, .n 6]⟩], obs := [.var 59, .var 56, .var 51, .var 48, .var 43, .var 36, .var 24, .var 21, .var 18, .var 15, .var 12, .var 10, .var 7], known := [] }
theorem run_law03_ConfUnlike : run X_law03_ConfUnlike 2000 5 ([.one (.k (.int .u8 (.var 0))), .one (.k (.int .u8 (.var 1))), .one (.k (.int .u8 (.var 2)))]) ([]) 3 [] = some (.pv (.one (.k (.bool (.var 61)))), [], g_law03_ConfUnlike) := by kernel_rfl
theorem pure_law03_ConfUnlike (x0 : Int) (x1 : Int) (x2 : Int) (v3 : Int) (v4 : Int) (v5 : Int) (v6 : Int) (v7 : Bool) (v8 : Int) (v9 : Int) (v10 : Bool) (v11 : Int) (v12 : Bool) (v13 : Int) (v14 : Int) (v15 : Bool) (v16 : Int) (v17 : Int) (v18 : Bool) (v19 : Int) (v20 : Int) (v21 : Bool) (v22 : Int) (v23 : Int) (v24 : Bool) (v25 : Bool) (v26 : Bool) (v27 : Bool) (v28 : Bool) (v29 : Bool) (v30 : Bool) (v31 : Bool) (v32 : Bool) (v33 : Bool) (v34 : Bool) (v35 : Int) (v36 : Bool) (v37 : Bool) (v38 : Bool) (v39 : Bool) (v40 : Bool) (v41 : Bool) (v42 : Int) (v43 : Bool) (v44 : Bool) (v45 : Bool) (v46 : Bool) (v47 : Int) (v48 : Bool) (v49 : Bool) (v50 : Int) (v51 : Bool) (v52 : Bool) (v53 : Bool) (v54 : Bool) (v55 : Int) (v56 : Bool) (v57 : Bool) (v58 : Int) (v59 : Bool) (v60 : Bool) (v61 : Bool)
    (q3 : v3 = (Int.tmod x0 (6 : Int)))
    (q4 : v4 = (IntKind.wrap .i64 v3))
    (q5 : v5 = (IntKind.wrap .i64 ((3 : Int) + v4)))
    (q6 : v6 = (IntKind.wrap .i64 x1))
    (q7 : v7 = ((v5 != (0 : Int))))
    (q8 : v8 = (Int.tmod v6 v5))
    (q9 : v9 = (IntKind.wrap .i64 x2))
    (q10 : v10 = ((v5 != (0 : Int))))
    (q11 : v11 = (Int.tmod v9 v5))
    (q12 : v12 = (true))
    (q13 : v13 = (Day.ownR 4 v5 v8))
    (q14 : v14 = (Day.ownE v5 v8))
    (q15 : v15 = (true))
    (q16 : v16 = (Day.ownR 4 v5 v11))
    (q17 : v17 = (Day.ownE v5 v11))
    (q18 : v18 = (true))
    (q19 : v19 = (Day.ownR 2 v5 v8))
    (q20 : v20 = (Day.ownE v5 v8))
    (q21 : v21 = (true))
    (q22 : v22 = (Day.ownR 2 v5 v11))
    (q23 : v23 = (Day.ownE v5 v11))
    (q24 : v24 = (true))
    (q25 : v25 = (true))
    (q26 : v26 = ((v13 == v16)))
    (q27 : v27 = ((v8 == v11)))
    (q28 : v28 = ((v26 == v27)))
    (q29 : v29 = ((if v25 then v28 else false)))
    (q30 : v30 = ((v19 == v22)))
    (q31 : v31 = ((v8 == v11)))
    (q32 : v32 = ((v30 == v31)))
    (q33 : v33 = ((if v29 then v32 else false)))
    (q34 : v34 = (true))
    (q35 : v35 = (Day.times 2 v5))
    (q36 : v36 = ((!v33 || v34)))
    (q37 : v37 = (decide (v19 > v35)))
    (q38 : v38 = ((if v33 then v37 else false)))
    (q39 : v39 = (decide (v13 > v22)))
    (q40 : v40 = ((if v38 then v39 else false)))
    (q41 : v41 = (true))
    (q42 : v42 = (Day.times 8 v5))
    (q43 : v43 = ((!v40 || v41)))
    (q44 : v44 = (decide (v42 > v16)))
    (q45 : v45 = ((if v40 then v44 else false)))
    (q46 : v46 = (true))
    (q47 : v47 = (Day.times 40 v5))
    (q48 : v48 = ((!v45 || v46)))
    (q49 : v49 = (true))
    (q50 : v50 = (Day.times 8 v5))
    (q51 : v51 = ((!v45 || v49)))
    (q52 : v52 = (decide (v47 > v50)))
    (q53 : v53 = ((if v45 then v52 else false)))
    (q54 : v54 = (true))
    (q55 : v55 = (Day.times 96 v5))
    (q56 : v56 = ((!v53 || v54)))
    (q57 : v57 = (true))
    (q58 : v58 = (Day.times 40 v5))
    (q59 : v59 = ((!v53 || v57)))
    (q60 : v60 = (decide (v55 > v58)))
    (q61 : v61 = ((if v53 then v60 else false)))
    (hp : (Day.u8 x0 && Day.u8 x1 && Day.u8 x2) = true)  :
    (v59 = true ∧ v56 = true ∧ v51 = true ∧ v48 = true ∧ v43 = true ∧ v36 = true ∧ v24 = true ∧ v21 = true ∧ v18 = true ∧ v15 = true ∧ v12 = true ∧ v10 = true ∧ v7 = true) ∧ (true = v61) := by
  have hn : 3 ≤ v5 ∧ v5 ≤ 8 := by grind [Day.clampR, Day.upR, Day.downR, Day.sm, Day.i64, Day.u8, Day.u16, Day.u32, Day.right, Day.times, Day.ownE, Day.ownR, Day.idE, Day.freshN, Day.noND, Day.cleanN, Day.wakeN, Day.rightN, Day.ND.i64, Day.waitR, Day.dueR, Day.ofR, Day.ofE, Day.noFr, wrap64, Day.modP, Day.modR, Day.slotP, Day.nextR, Day.atP, Day.atR, Day.aheadP, Day.aheadR]
  have hn2 : v5 = 3 ∨ v5 = 4 ∨ v5 = 5 ∨ v5 = 6 ∨ v5 = 7 ∨ v5 = 8 := by omega
  clear hn
  rcases hn2 with rfl | rfl | rfl | rfl | rfl | rfl <;> grind (splits := 30) [Day.clampR, Day.upR, Day.downR, Day.sm, Day.i64, Day.u8, Day.u16, Day.u32, Day.right, Day.times, Day.ownE, Day.ownR, Day.idE, Day.freshN, Day.noND, Day.cleanN, Day.wakeN, Day.rightN, Day.ND.i64, Day.waitR, Day.dueR, Day.ofR, Day.ofE, Day.noFr, wrap64, Day.modP, Day.modR, Day.slotP, Day.nextR, Day.atP, Day.atR, Day.aheadP, Day.aheadR]
theorem bridge_law03_ConfUnlike {e : Nat → A} {al more : List A} (hlen : al.length = 3) (he : ∀ j a, (al ++ more)[j]? = some a → e j = a) (hd : ∀ d ∈ g_law03_ConfUnlike.defs, d.holds T e) (hp : (t_5 al).1 = true) :
    (∀ x ∈ g_law03_ConfUnlike.known, x.holds T e) ∧ (∀ o ∈ g_law03_ConfUnlike.obs, (o.ev e).bool = true) ∧ semMany (c_law03_ConfUnlike.rs.flatMap (·.2)) (t_5 al).2 = semMany (c_law03_ConfUnlike.rs.flatMap (·.2)) ([.var 61].map (L.ev e)) := by
  have y0 : gi al 0 = (e 0).int := gi_e he (by omega)
  have y1 : gi al 1 = (e 1).int := gi_e he (by omega)
  have y2 : gi al 2 = (e 2).int := gi_e he (by omega)
  obtain ⟨d61, d60, d59, d57, d56, d54, d53, d52, d51, d49, d48, d46, d45, d44, d43, d41, d40, d39, d38, d37, d36, d34, d33, d32, d31, d30, d29, d28, d27, d26, d24, d21, d18, d15, d12, d11, d10, d9, d8, d7, d6, d5, d4, d3, -⟩ : AllHold T e g_law03_ConfUnlike.defs := allHold_of hd
  have hpE : (t_5 al).1 = (Day.u8 (e 0).int && Day.u8 (e 1).int && Day.u8 (e 2).int) := by simp only [t_5, y0, y1, y2]
  have hp := hpE.symm.trans hp
  have hoE : (t_5 al).2 = [.b (true)] := by simp only [t_5, y0, y1, y2]
  obtain ⟨ho, hr⟩ := pure_law03_ConfUnlike (e 0).int (e 1).int (e 2).int (e 3).int (e 4).int (e 5).int (e 6).int (e 7).bool (e 8).int (e 9).int (e 10).bool (e 11).int (e 12).bool (e 13).int (e 14).int (e 15).bool (e 16).int (e 17).int (e 18).bool (e 19).int (e 20).int (e 21).bool (e 22).int (e 23).int (e 24).bool (e 25).bool (e 26).bool (e 27).bool (e 28).bool (e 29).bool (e 30).bool (e 31).bool (e 32).bool (e 33).bool (e 34).bool (e 35).int (e 36).bool (e 37).bool (e 38).bool (e 39).bool (e 40).bool (e 41).bool (e 42).int (e 43).bool (e 44).bool (e 45).bool (e 46).bool (e 47).int (e 48).bool (e 49).bool (e 50).int (e 51).bool (e 52).bool (e 53).bool (e 54).bool (e 55).int (e 56).bool (e 57).bool (e 58).int (e 59).bool (e 60).bool (e 61).bool
    (q_dv d3)
    (q_conv d4)
    (q_ar d5)
    (q_conv d6)
    (q_cmp d7)
    (q_dv d8)
    (q_conv d9)
    (q_cmp d10)
    (q_dv d11)
    (q_pre T_41 d12)
    (q_outI T_41 0 d12 rfl)
    (q_outI T_41 1 d12 rfl)
    (q_pre T_41 d15)
    (q_outI T_41 0 d15 rfl)
    (q_outI T_41 1 d15 rfl)
    (q_pre T_42 d18)
    (q_outI T_42 0 d18 rfl)
    (q_outI T_42 1 d18 rfl)
    (q_pre T_42 d21)
    (q_outI T_42 0 d21 rfl)
    (q_outI T_42 1 d21 rfl)
    (q_pre T_43 d24)
    (q_outB T_43 0 d24 rfl)
    (q_cmp d26)
    (q_cmp d27)
    (q_eqB d28)
    (q_iteB d29)
    (q_cmp d30)
    (q_cmp d31)
    (q_eqB d32)
    (q_iteB d33)
    (q_pre T_44 d34)
    (q_outI T_44 0 d34 rfl)
    (q_imp d36)
    (q_cmp d37)
    (q_iteB d38)
    (q_cmp d39)
    (q_iteB d40)
    (q_pre T_45 d41)
    (q_outI T_45 0 d41 rfl)
    (q_imp d43)
    (q_cmp d44)
    (q_iteB d45)
    (q_pre T_46 d46)
    (q_outI T_46 0 d46 rfl)
    (q_imp d48)
    (q_pre T_45 d49)
    (q_outI T_45 0 d49 rfl)
    (q_imp d51)
    (q_cmp d52)
    (q_iteB d53)
    (q_pre T_47 d54)
    (q_outI T_47 0 d54 rfl)
    (q_imp d56)
    (q_pre T_46 d57)
    (q_outI T_46 0 d57 rfl)
    (q_imp d59)
    (q_cmp d60)
    (q_iteB d61)
    hp
  obtain ⟨o0, o1, o2, o3, o4, o5, o6, o7, o8, o9, o10, o11, o12⟩ := ho
  have r0 := hr
  refine ⟨(fun x hx => by cases hx), obs_of (e := e) (l := g_law03_ConfUnlike.obs) ⟨o0, o1, o2, o3, o4, o5, o6, o7, o8, o9, o10, o11, o12, trivial⟩, ?_⟩
  rw [hoE]
  show semMany [.bool] [.b (true)] = semMany [.bool] [L.ev e (.var 61)]
  exact (semB r0 rfl)
theorem ctr_law03_ConfUnlike : CtrOK Try.prog T c_law03_ConfUnlike := by
  intro lits al vs w hok hag hargs hpre
  have hpre : (t_5 al).1 = true := by rw [← T_5]; exact hpre
  obtain ⟨hl, hlen⟩ := args_flat hargs rfl
  have hlen : al.length = 3 := hlen
  exact calls_of_run xok_law03_ConfUnlike widths (lits := []) (ns := []) (more := []) rfl run_law03_ConfUnlike (by kernel_rfl) (by kernel_rfl) rfl hargs hl (lit_none) (by rw [show c_law03_ConfUnlike.f = 5 from rfl, T_5]; rfl)
    fun e he hd => by rw [show c_law03_ConfUnlike.f = 5 from rfl, T_5]; exact bridge_law03_ConfUnlike hlen he hd hpre
end Rx.S
namespace Go.Proofs.Ytjipnabidebgbaa.confUnlike
open Go.ChangeShapes Go.WideShapes Go.ChangeAt Go.RowKit Rx
set_option linter.unusedVariables false
theorem own : ownKnob Try.prog.godebug = none := by kernel_rfl
set_option maxRecDepth 100000 in
theorem lifted (os : Os) (started : os.Started) (H : Type) (enc : TypeId × Value → H) :
    ReturnsInHanded {} Try.checked os 5 .any (Rows.confUnlikeSpec.pre6 enc Try.prog Try.f5 Rows.confUnlikeRow.domain false) (Rows.confUnlikeSpec.post enc Try.prog Try.f5 false true false false) := by
  refine returnsInHanded_of_change_sized (C := Try.checked) own started (by kernel_rfl) Try.func5
    (ChangeSpec.witness6 (enc := enc) (C := Try.checked) false ⟨#[], #[.int .u8 0, .int .u8 0, .int .u8 0], []⟩ 8 (by kernel_rfl) (by kernel_rfl) (by kernel_rfl) (by kernel_rfl)) ?_
  intro W base args ds gs before hval0 hW hcnd hsz0 _
  have hval : ∀ (j : Nat) t v, Try.f5.params[j]? = some t → args[j]? = some v → Value.okWide Try.prog W .any base t v := hval0
  have hW' := hW
  obtain ⟨p, q, hA0, hV, rfl, hfz, hnd⟩ := hW
  have hA : DataW.TrodAll enc Try.prog W 0 (fun _ => true) true Try.f5.params.toList args.toList ds p := hA0
  rw [Try.params5] at hA hval
  obtain ⟨v0, vs0, d0, ds0, p0, q0, hargs, rfl, rfl, h0, r0⟩ := trodAll_cons hA
  obtain ⟨v1, vs1, d1, ds1, p1, q1, rfl, rfl, rfl, h1, r1⟩ := trodAll_cons r0
  obtain ⟨v2, vs2, d2, ds2, p2, q2, rfl, rfl, rfl, h2, r2⟩ := trodAll_cons r1
  obtain ⟨rfl, rfl, rfl⟩ := trodAll_nil r2
  obtain rfl : args = #[v0, v1, v2] := by cases args; simp_all
  obtain ⟨rfl, rfl⟩ := trodVars_none hV
  obtain ⟨l0, e0, o0⟩ := open_arg S.tysOk (n := 10) (t := 5) rfl rfl (hval 0 5 v0 rfl rfl) h0
  obtain ⟨x0, _, rfl, k0, rfl⟩ := e0
  obtain ⟨l1, e1, o1⟩ := open_arg S.tysOk (n := 10) (t := 5) rfl rfl (hval 1 5 v1 rfl rfl) h1
  obtain ⟨x1, _, rfl, k1, rfl⟩ := e1
  obtain ⟨l2, e2, o2⟩ := open_arg S.tysOk (n := 10) (t := 5) rfl rfl (hval 2 5 v2 rfl rfl) h2
  obtain ⟨x2, _, rfl, k2, rfl⟩ := e2
  have hargs : ArgsRel W S.c_law03_ConfUnlike.ps [v0, v1, v2] [x0, x1, x2] := ⟨v0, _, [x0], _, rfl, rfl, o0, ⟨v1, _, [x1], _, rfl, rfl, o1, ⟨v2, _, [x2], _, rfl, rfl, o2, ⟨rfl, rfl⟩⟩⟩⟩
  have f0 := leaf_u8 k0
  have f1 := leaf_u8 k1
  have f2 := leaf_u8 k2
  have hp : (S.t_5 [x0, x1, x2]).1 = true := by
    simp [S.t_5, gi, gb, gs, gv, Day.ND.i64, f0, f1, f2]
  refine (law_calls S.ctr_law03_ConfUnlike (fun _ => rfl) rfl hargs (by rw [show S.c_law03_ConfUnlike.f = 5 from rfl, S.T_5]; exact hp) (by rw [show S.c_law03_ConfUnlike.f = 5 from rfl, S.T_5]; rfl)).mono fun e W2 ⟨he, bel⟩ => ?_
  subst he
  have b0 := Below.trod Seat.laidOut (by kernel_rfl) (of_decide_eq_true (by kernel_rfl)) h0 bel (fun x hx => by simpa using hW'.lt x (by simp [hx]))
  have b1 := Below.trod Seat.laidOut (by kernel_rfl) (of_decide_eq_true (by kernel_rfl)) h1 bel (fun x hx => by simpa using hW'.lt x (by simp [hx]))
  have b2 := Below.trod Seat.laidOut (by kernel_rfl) (of_decide_eq_true (by kernel_rfl)) h2 bel (fun x hx => by simpa using hW'.lt x (by simp [hx]))
  exact ⟨_, rfl, _, _, _, [], _, [], hW', trodAll_mk1 (shut_bool Try.underlying4 _), (trodAll_cons_mk b0 (trodAll_cons_mk b1 (trodAll_cons_mk b2 trodAll_mk0))), rfl, bel.frame _, fun h => by cases h⟩
theorem facts : joinedFacts Try.prog 5 Try.f5 Rows.confUnlikeSpec Rows.confUnlikeRow = true :=
  Seat.facts Seat.enter Seat.lifts Seat.made Seat.laidOut Seat.rowed Seat.heard 5 Try.f5 Rows.confUnlikeSpec Rows.confUnlikeRow ((rfl : Rows.confUnlikeRow.plainKeys = true).trans Seat.keys) (by kernel_rfl) (by kernel_rfl) (by kernel_rfl) (by kernel_rfl) (by kernel_rfl) (by kernel_rfl) (by kernel_rfl) (by kernel_rfl)
theorem named : Try.prog.funcNamed Rows.confUnlikeRow.func = some 5 := by kernel_rfl
theorem inst : Try.f5.isInstance Try.prog Rows.confUnlikeRow.origin Rows.confUnlikeRow.targs := of_decide_eq_true (by kernel_rfl)
theorem wrapped : Try.f5.isWrapper Try.prog Rows.confUnlikeRow.wrapper Rows.confUnlikeRow.mainSum := by unfold Func.isWrapper; rw [if_neg (by decide +kernel)]; exact ⟨rfl, rfl⟩
theorem over : Rows.confUnlikeRow.holds Try.pinned (OpenSpec.ofChange Rows.confUnlikeSpec) :=
  OpenClaim.holds_of_wide 5 Try.f5 rfl rfl rfl rfl rfl rfl rfl ⟨rfl, rfl, rfl, rfl, rfl⟩ rfl rfl rfl rfl rfl named Try.func5 facts inst wrapped
    (fun os started H enc _ => lifted os started H enc)
theorem proved : Rows.ConfUnlikeSaid := over
end Go.Proofs.Ytjipnabidebgbaa.confUnlike
namespace Go.Proofs.Ytjipnabidebgbaa
/-- The row, under a short name, for the claim. -/
theorem confUnlike_holds : Rows.ConfUnlikeSaid := confUnlike.proved
end Go.Proofs.Ytjipnabidebgbaa
