/- For all numbers of nodes and all nodes (numbers of 64 bits) all times are those of the document. -/
import Derived.Test.YtjipnabidebgbaaXb
import Derived.Test.YtjipnabidebgbaaXc
import Derived.Test.YtjipnabidebgbaaXconf
import Derived.Test.YtjipnabidebgbaaXlaw03
import Derived.Test.YtjipnabidebgbaaRows
import Derived.Test.YtjipnabidebgbaaSeat
import Derived.WalkKit
import Derived.ProofKit
import Derived.OpenShut
import Derived.ShutString
import Derived.ChangeOld
import Derived.Below
import Derived.SizedLaws
set_option linter.unusedVariables false
set_option linter.unusedSimpArgs false
namespace Rx.S
open Go Rx Go.Proofs
set_option maxRecDepth 100000
set_option linter.unusedVariables false
def c_law03_ConfTells : Ctr := { f := 6, ps := [.c false [.int .i64], .c false [.int .i64]], rs := [(false, [.bool])], ok := fun _ => true }
noncomputable def fns_law03_ConfTells : List (Nat × Func) := [(6, Try.f6), (41, Try.f41), (42, Try.f42), (43, Try.f43), (44, Try.f44), (45, Try.f45), (46, Try.f46), (47, Try.f47), (48, Try.f48), (49, Try.f49), (50, Try.f50), (51, Try.f51), (52, Try.f52), (53, Try.f53), (54, Try.f54), (55, Try.f55), (56, Try.f56), (57, Try.f57)]
theorem fnsOk_law03_ConfTells : FnsAll Try.prog fns_law03_ConfTells := ⟨fn6, fn41, fn42, fn43, fn44, fn45, fn46, fn47, fn48, fn49, fn50, fn51, fn52, fn53, fn54, fn55, fn56, fn57, trivial⟩
noncomputable def X_law03_ConfTells : Ctx := { tys := tys, eqs := eqs, fns := fun f => look f fns_law03_ConfTells, ctr := [(50, c_conf_Right), (51, c_ref03_Right), (44, c_conf_Block), (52, c_ref03_Block), (45, c_conf_Watch), (53, c_ref03_Watch), (54, c_conf_Later), (55, c_ref03_Later), (46, c_conf_Start), (56, c_ref03_Start), (47, c_conf_Stable), (57, c_ref03_Stable), (41, c_conf_Listen), (48, c_ref03_Listen), (42, c_conf_Cold), (49, c_ref03_Cold), (43, c_law03_awake)], lim := 30 }
theorem xok_law03_ConfTells : XOK Try.prog T X_law03_ConfTells where
  tys := tysOk
  eqs := eqsOk
  mixed := mixed
  ctr := ctrsOK_of ⟨⟨rfl, ctr_conf_Right⟩, ⟨rfl, ctr_ref03_Right⟩, ⟨rfl, ctr_conf_Block⟩, ⟨rfl, ctr_ref03_Block⟩, ⟨rfl, ctr_conf_Watch⟩, ⟨rfl, ctr_ref03_Watch⟩, ⟨rfl, ctr_conf_Later⟩, ⟨rfl, ctr_ref03_Later⟩, ⟨rfl, ctr_conf_Start⟩, ⟨rfl, ctr_ref03_Start⟩, ⟨rfl, ctr_conf_Stable⟩, ⟨rfl, ctr_ref03_Stable⟩, ⟨rfl, ctr_conf_Listen⟩, ⟨rfl, ctr_ref03_Listen⟩, ⟨rfl, ctr_conf_Cold⟩, ⟨rfl, ctr_ref03_Cold⟩, ⟨rfl, ctr_law03_awake⟩, trivial⟩
  fns := fnsOK_of fnsOk_law03_ConfTells
def g_law03_ConfTells : G := { next := 72, defs := [⟨71, .iteB, [.var 69, .var 70, .t false]⟩, ⟨70, (.cmp .eql), [.var 10, .var 13]⟩, ⟨69, .iteB, [.var 67, .var 68, .t false]⟩, ⟨68, (.cmp .eql), [.var 9, .var 12]⟩, ⟨67, .iteB, [.var 65, .var 66, .t false]⟩, ⟨66, (.cmp .eql), [.var 4, .var 7]⟩, ⟨65, .iteB, [.var 63, .var 64, .t false]⟩, ⟨64, (.cmp .eql), [.var 3, .var 6]⟩, ⟨63, .iteB, [.var 55, .var 62, .t false]⟩, ⟨62, (.cmp .eql), [.var 57, .var 60]⟩, ⟨61, .imp, [.var 55, .var 59]⟩, ⟨59, (.call 57), [.var 0]⟩, ⟨58, .imp, [.var 55, .var 56]⟩, ⟨56, (.call 47), [.var 0]⟩, ⟨55, .iteB, [.var 47, .var 54, .t false]⟩, ⟨54, (.cmp .eql), [.var 49, .var 52]⟩, ⟨53, .imp, [.var 47, .var 51]⟩, ⟨51, (.call 56), [.var 0]⟩, ⟨50, .imp, [.var 47, .var 48]⟩, ⟨48, (.call 46), [.var 0]⟩, ⟨47, .iteB, [.var 39, .var 46, .t false]⟩, ⟨46, (.cmp .eql), [.var 41, .var 44]⟩, ⟨45, .imp, [.var 39, .var 43]⟩, ⟨43, (.call 55), [.var 0]⟩, ⟨42, .imp, [.var 39, .var 40]⟩, ⟨40, (.call 54), [.var 0]⟩, ⟨39, .iteB, [.var 31, .var 38, .t false]⟩, ⟨38, (.cmp .eql), [.var 33, .var 36]⟩, ⟨37, .imp, [.var 31, .var 35]⟩, ⟨35, (.call 53), [.var 0]⟩, ⟨34, .imp, [.var 31, .var 32]⟩, ⟨32, (.call 45), [.var 0]⟩, ⟨31, .iteB, [.var 23, .var 30, .t false]⟩, ⟨30, (.cmp .eql), [.var 25, .var 28]⟩, ⟨29, .imp, [.var 23, .var 27]⟩, ⟨27, (.call 52), [.var 0]⟩, ⟨26, .imp, [.var 23, .var 24]⟩, ⟨24, (.call 44), [.var 0]⟩, ⟨23, .iteB, [.var 15, .var 22, .t false]⟩, ⟨22, .eqB, [.var 17, .var 20]⟩, ⟨21, .imp, [.var 15, .var 19]⟩, ⟨19, (.call 51), [.var 0]⟩, ⟨18, .imp, [.var 15, .var 16]⟩, ⟨16, (.call 50), [.var 0]⟩, ⟨14, (.call 43), []⟩, ⟨11, (.call 49), [.var 0, .var 1]⟩, ⟨8, (.call 42), [.var 0, .var 1]⟩, ⟨5, (.call 48), [.var 0, .var 1]⟩, ⟨2, (.call 41), [.var 0, .var 1]⟩], obs := [.var 61, .var 58, .var 53, .var 50, .var 45, .var 42, .var 37, .var 34, .var 29, .var 26, .var 21, .var 18, .var 14, .var 11, .var 8, .var 5, .var 2], known := [] }
theorem run_law03_ConfTells : run X_law03_ConfTells 2000 6 ([.one (.k (.int .i64 (.var 0))), .one (.k (.int .i64 (.var 1)))]) ([]) 2 [] = some (.pv (.one (.k (.bool (.var 71)))), [], g_law03_ConfTells) := by kernel_rfl
theorem pure_law03_ConfTells (x0 : Int) (x1 : Int) (v2 : Bool) (v3 : Int) (v4 : Int) (v5 : Bool) (v6 : Int) (v7 : Int) (v8 : Bool) (v9 : Int) (v10 : Int) (v11 : Bool) (v12 : Int) (v13 : Int) (v14 : Bool) (v15 : Bool) (v16 : Bool) (v17 : Bool) (v18 : Bool) (v19 : Bool) (v20 : Bool) (v21 : Bool) (v22 : Bool) (v23 : Bool) (v24 : Bool) (v25 : Int) (v26 : Bool) (v27 : Bool) (v28 : Int) (v29 : Bool) (v30 : Bool) (v31 : Bool) (v32 : Bool) (v33 : Int) (v34 : Bool) (v35 : Bool) (v36 : Int) (v37 : Bool) (v38 : Bool) (v39 : Bool) (v40 : Bool) (v41 : Int) (v42 : Bool) (v43 : Bool) (v44 : Int) (v45 : Bool) (v46 : Bool) (v47 : Bool) (v48 : Bool) (v49 : Int) (v50 : Bool) (v51 : Bool) (v52 : Int) (v53 : Bool) (v54 : Bool) (v55 : Bool) (v56 : Bool) (v57 : Int) (v58 : Bool) (v59 : Bool) (v60 : Int) (v61 : Bool) (v62 : Bool) (v63 : Bool) (v64 : Bool) (v65 : Bool) (v66 : Bool) (v67 : Bool) (v68 : Bool) (v69 : Bool) (v70 : Bool) (v71 : Bool)
    (q2 : v2 = (true))
    (q3 : v3 = (Day.ownR 4 x0 x1))
    (q4 : v4 = (Day.ownE x0 x1))
    (q5 : v5 = (true))
    (q6 : v6 = (Day.ownR 4 x0 x1))
    (q7 : v7 = (Day.ownE x0 x1))
    (q8 : v8 = (true))
    (q9 : v9 = (Day.ownR 2 x0 x1))
    (q10 : v10 = (Day.ownE x0 x1))
    (q11 : v11 = (true))
    (q12 : v12 = (Day.ownR 2 x0 x1))
    (q13 : v13 = (Day.ownE x0 x1))
    (q14 : v14 = (true))
    (q15 : v15 = (true))
    (q16 : v16 = (true))
    (q17 : v17 = (Day.right x0))
    (q18 : v18 = ((!v15 || v16)))
    (q19 : v19 = (true))
    (q20 : v20 = (Day.right x0))
    (q21 : v21 = ((!v15 || v19)))
    (q22 : v22 = ((v17 == v20)))
    (q23 : v23 = ((if v15 then v22 else false)))
    (q24 : v24 = (true))
    (q25 : v25 = (Day.times 2 x0))
    (q26 : v26 = ((!v23 || v24)))
    (q27 : v27 = (true))
    (q28 : v28 = (Day.times 2 x0))
    (q29 : v29 = ((!v23 || v27)))
    (q30 : v30 = ((v25 == v28)))
    (q31 : v31 = ((if v23 then v30 else false)))
    (q32 : v32 = (true))
    (q33 : v33 = (Day.times 8 x0))
    (q34 : v34 = ((!v31 || v32)))
    (q35 : v35 = (true))
    (q36 : v36 = (Day.times 8 x0))
    (q37 : v37 = ((!v31 || v35)))
    (q38 : v38 = ((v33 == v36)))
    (q39 : v39 = ((if v31 then v38 else false)))
    (q40 : v40 = (true))
    (q41 : v41 = (Day.times 3 x0))
    (q42 : v42 = ((!v39 || v40)))
    (q43 : v43 = (true))
    (q44 : v44 = (Day.times 3 x0))
    (q45 : v45 = ((!v39 || v43)))
    (q46 : v46 = ((v41 == v44)))
    (q47 : v47 = ((if v39 then v46 else false)))
    (q48 : v48 = (true))
    (q49 : v49 = (Day.times 40 x0))
    (q50 : v50 = ((!v47 || v48)))
    (q51 : v51 = (true))
    (q52 : v52 = (Day.times 40 x0))
    (q53 : v53 = ((!v47 || v51)))
    (q54 : v54 = ((v49 == v52)))
    (q55 : v55 = ((if v47 then v54 else false)))
    (q56 : v56 = (true))
    (q57 : v57 = (Day.times 96 x0))
    (q58 : v58 = ((!v55 || v56)))
    (q59 : v59 = (true))
    (q60 : v60 = (Day.times 96 x0))
    (q61 : v61 = ((!v55 || v59)))
    (q62 : v62 = ((v57 == v60)))
    (q63 : v63 = ((if v55 then v62 else false)))
    (q64 : v64 = ((v3 == v6)))
    (q65 : v65 = ((if v63 then v64 else false)))
    (q66 : v66 = ((v4 == v7)))
    (q67 : v67 = ((if v65 then v66 else false)))
    (q68 : v68 = ((v9 == v12)))
    (q69 : v69 = ((if v67 then v68 else false)))
    (q70 : v70 = ((v10 == v13)))
    (q71 : v71 = ((if v69 then v70 else false)))
    (hp : (Day.i64 x0 && Day.i64 x1) = true)  :
    (v61 = true ∧ v58 = true ∧ v53 = true ∧ v50 = true ∧ v45 = true ∧ v42 = true ∧ v37 = true ∧ v34 = true ∧ v29 = true ∧ v26 = true ∧ v21 = true ∧ v18 = true ∧ v14 = true ∧ v11 = true ∧ v8 = true ∧ v5 = true ∧ v2 = true) ∧ (true = v71) := by
  grind [Day.clampR, Day.upR, Day.downR, Day.sm, Day.i64, Day.u8, Day.u16, Day.u32, Day.right, Day.times, Day.ownE, Day.ownR, Day.idE, Day.freshN, Day.noND, Day.cleanN, Day.wakeN, Day.rightN, Day.ND.i64, Day.waitR, Day.dueR, Day.ofR, Day.ofE, Day.noFr, wrap64, Day.modP, Day.modR, Day.slotP, Day.nextR, Day.atP, Day.atR, Day.aheadP, Day.aheadR]
theorem bridge_law03_ConfTells {e : Nat → A} {al more : List A} (hlen : al.length = 2) (he : ∀ j a, (al ++ more)[j]? = some a → e j = a) (hd : ∀ d ∈ g_law03_ConfTells.defs, d.holds T e) (hp : (t_6 al).1 = true) :
    (∀ x ∈ g_law03_ConfTells.known, x.holds T e) ∧ (∀ o ∈ g_law03_ConfTells.obs, (o.ev e).bool = true) ∧ semMany (c_law03_ConfTells.rs.flatMap (·.2)) (t_6 al).2 = semMany (c_law03_ConfTells.rs.flatMap (·.2)) ([.var 71].map (L.ev e)) := by
  have y0 : gi al 0 = (e 0).int := gi_e he (by omega)
  have y1 : gi al 1 = (e 1).int := gi_e he (by omega)
  obtain ⟨d71, d70, d69, d68, d67, d66, d65, d64, d63, d62, d61, d59, d58, d56, d55, d54, d53, d51, d50, d48, d47, d46, d45, d43, d42, d40, d39, d38, d37, d35, d34, d32, d31, d30, d29, d27, d26, d24, d23, d22, d21, d19, d18, d16, d14, d11, d8, d5, d2, -⟩ : AllHold T e g_law03_ConfTells.defs := allHold_of hd
  have hpE : (t_6 al).1 = (Day.i64 (e 0).int && Day.i64 (e 1).int) := by simp only [t_6, y0, y1]
  have hp := hpE.symm.trans hp
  have hoE : (t_6 al).2 = [.b (true)] := by simp only [t_6, y0, y1]
  obtain ⟨ho, hr⟩ := pure_law03_ConfTells (e 0).int (e 1).int (e 2).bool (e 3).int (e 4).int (e 5).bool (e 6).int (e 7).int (e 8).bool (e 9).int (e 10).int (e 11).bool (e 12).int (e 13).int (e 14).bool (e 15).bool (e 16).bool (e 17).bool (e 18).bool (e 19).bool (e 20).bool (e 21).bool (e 22).bool (e 23).bool (e 24).bool (e 25).int (e 26).bool (e 27).bool (e 28).int (e 29).bool (e 30).bool (e 31).bool (e 32).bool (e 33).int (e 34).bool (e 35).bool (e 36).int (e 37).bool (e 38).bool (e 39).bool (e 40).bool (e 41).int (e 42).bool (e 43).bool (e 44).int (e 45).bool (e 46).bool (e 47).bool (e 48).bool (e 49).int (e 50).bool (e 51).bool (e 52).int (e 53).bool (e 54).bool (e 55).bool (e 56).bool (e 57).int (e 58).bool (e 59).bool (e 60).int (e 61).bool (e 62).bool (e 63).bool (e 64).bool (e 65).bool (e 66).bool (e 67).bool (e 68).bool (e 69).bool (e 70).bool (e 71).bool
    (q_pre T_41 d2)
    (q_outI T_41 0 d2 rfl)
    (q_outI T_41 1 d2 rfl)
    (q_pre T_48 d5)
    (q_outI T_48 0 d5 rfl)
    (q_outI T_48 1 d5 rfl)
    (q_pre T_42 d8)
    (q_outI T_42 0 d8 rfl)
    (q_outI T_42 1 d8 rfl)
    (q_pre T_49 d11)
    (q_outI T_49 0 d11 rfl)
    (q_outI T_49 1 d11 rfl)
    (q_pre T_43 d14)
    (q_outB T_43 0 d14 rfl)
    (q_pre T_50 d16)
    (q_outB T_50 0 d16 rfl)
    (q_imp d18)
    (q_pre T_51 d19)
    (q_outB T_51 0 d19 rfl)
    (q_imp d21)
    (q_eqB d22)
    (q_iteB d23)
    (q_pre T_44 d24)
    (q_outI T_44 0 d24 rfl)
    (q_imp d26)
    (q_pre T_52 d27)
    (q_outI T_52 0 d27 rfl)
    (q_imp d29)
    (q_cmp d30)
    (q_iteB d31)
    (q_pre T_45 d32)
    (q_outI T_45 0 d32 rfl)
    (q_imp d34)
    (q_pre T_53 d35)
    (q_outI T_53 0 d35 rfl)
    (q_imp d37)
    (q_cmp d38)
    (q_iteB d39)
    (q_pre T_54 d40)
    (q_outI T_54 0 d40 rfl)
    (q_imp d42)
    (q_pre T_55 d43)
    (q_outI T_55 0 d43 rfl)
    (q_imp d45)
    (q_cmp d46)
    (q_iteB d47)
    (q_pre T_46 d48)
    (q_outI T_46 0 d48 rfl)
    (q_imp d50)
    (q_pre T_56 d51)
    (q_outI T_56 0 d51 rfl)
    (q_imp d53)
    (q_cmp d54)
    (q_iteB d55)
    (q_pre T_47 d56)
    (q_outI T_47 0 d56 rfl)
    (q_imp d58)
    (q_pre T_57 d59)
    (q_outI T_57 0 d59 rfl)
    (q_imp d61)
    (q_cmp d62)
    (q_iteB d63)
    (q_cmp d64)
    (q_iteB d65)
    (q_cmp d66)
    (q_iteB d67)
    (q_cmp d68)
    (q_iteB d69)
    (q_cmp d70)
    (q_iteB d71)
    hp
  obtain ⟨o0, o1, o2, o3, o4, o5, o6, o7, o8, o9, o10, o11, o12, o13, o14, o15, o16⟩ := ho
  have r0 := hr
  refine ⟨(fun x hx => by cases hx), obs_of (e := e) (l := g_law03_ConfTells.obs) ⟨o0, o1, o2, o3, o4, o5, o6, o7, o8, o9, o10, o11, o12, o13, o14, o15, o16, trivial⟩, ?_⟩
  rw [hoE]
  show semMany [.bool] [.b (true)] = semMany [.bool] [L.ev e (.var 71)]
  exact (semB r0 rfl)
theorem ctr_law03_ConfTells : CtrOK Try.prog T c_law03_ConfTells := by
  intro lits al vs w hok hag hargs hpre
  have hpre : (t_6 al).1 = true := by rw [← T_6]; exact hpre
  obtain ⟨hl, hlen⟩ := args_flat hargs rfl
  have hlen : al.length = 2 := hlen
  exact calls_of_run xok_law03_ConfTells widths (lits := []) (ns := []) (more := []) rfl run_law03_ConfTells (by kernel_rfl) (by kernel_rfl) rfl hargs hl (lit_none) (by rw [show c_law03_ConfTells.f = 6 from rfl, T_6]; rfl)
    fun e he hd => by rw [show c_law03_ConfTells.f = 6 from rfl, T_6]; exact bridge_law03_ConfTells hlen he hd hpre
end Rx.S
namespace Go.Proofs.Ytjipnabidebgbaa.confTells
open Go.ChangeShapes Go.WideShapes Go.ChangeAt Go.RowKit Rx
set_option linter.unusedVariables false
theorem own : ownKnob Try.prog.godebug = none := by kernel_rfl
set_option maxRecDepth 100000 in
theorem lifted (os : Os) (started : os.Started) (H : Type) (enc : TypeId × Value → H) :
    ReturnsInHanded {} Try.checked os 6 .any (Rows.confTellsSpec.pre6 enc Try.prog Try.f6 Rows.confTellsRow.domain false) (Rows.confTellsSpec.post enc Try.prog Try.f6 false true false false) := by
  refine returnsInHanded_of_change_sized (C := Try.checked) own started (by kernel_rfl) Try.func6
    (ChangeSpec.witness6 (enc := enc) (C := Try.checked) false ⟨#[], #[.int .i64 0, .int .i64 0], []⟩ 8 (by kernel_rfl) (by kernel_rfl) (by kernel_rfl) (by kernel_rfl)) ?_
  intro W base args ds gs before hval0 hW hcnd hsz0 _
  have hval : ∀ (j : Nat) t v, Try.f6.params[j]? = some t → args[j]? = some v → Value.okWide Try.prog W .any base t v := hval0
  have hW' := hW
  obtain ⟨p, q, hA0, hV, rfl, hfz, hnd⟩ := hW
  have hA : DataW.TrodAll enc Try.prog W 0 (fun _ => true) true Try.f6.params.toList args.toList ds p := hA0
  rw [Try.params6] at hA hval
  obtain ⟨v0, vs0, d0, ds0, p0, q0, hargs, rfl, rfl, h0, r0⟩ := trodAll_cons hA
  obtain ⟨v1, vs1, d1, ds1, p1, q1, rfl, rfl, rfl, h1, r1⟩ := trodAll_cons r0
  obtain ⟨rfl, rfl, rfl⟩ := trodAll_nil r1
  obtain rfl : args = #[v0, v1] := by cases args; simp_all
  obtain ⟨rfl, rfl⟩ := trodVars_none hV
  obtain ⟨l0, e0, o0⟩ := open_arg S.tysOk (n := 10) (t := 3) rfl rfl (hval 0 3 v0 rfl rfl) h0
  obtain ⟨x0, _, rfl, k0, rfl⟩ := e0
  obtain ⟨l1, e1, o1⟩ := open_arg S.tysOk (n := 10) (t := 3) rfl rfl (hval 1 3 v1 rfl rfl) h1
  obtain ⟨x1, _, rfl, k1, rfl⟩ := e1
  have hargs : ArgsRel W S.c_law03_ConfTells.ps [v0, v1] [x0, x1] := ⟨v0, _, [x0], _, rfl, rfl, o0, ⟨v1, _, [x1], _, rfl, rfl, o1, ⟨rfl, rfl⟩⟩⟩
  have f0 := leaf_i64 k0
  have f1 := leaf_i64 k1
  have hp : (S.t_6 [x0, x1]).1 = true := by
    simp [S.t_6, gi, gb, gs, gv, Day.ND.i64, f0, f1]
  refine (law_calls S.ctr_law03_ConfTells (fun _ => rfl) rfl hargs (by rw [show S.c_law03_ConfTells.f = 6 from rfl, S.T_6]; exact hp) (by rw [show S.c_law03_ConfTells.f = 6 from rfl, S.T_6]; rfl)).mono fun e W2 ⟨he, bel⟩ => ?_
  subst he
  have b0 := Below.trod Seat.laidOut (by kernel_rfl) (of_decide_eq_true (by kernel_rfl)) h0 bel (fun x hx => by simpa using hW'.lt x (by simp [hx]))
  have b1 := Below.trod Seat.laidOut (by kernel_rfl) (of_decide_eq_true (by kernel_rfl)) h1 bel (fun x hx => by simpa using hW'.lt x (by simp [hx]))
  exact ⟨_, rfl, _, _, _, [], _, [], hW', trodAll_mk1 (shut_bool Try.underlying4 _), (trodAll_cons_mk b0 (trodAll_cons_mk b1 trodAll_mk0)), rfl, bel.frame _, fun h => by cases h⟩
theorem facts : joinedFacts Try.prog 6 Try.f6 Rows.confTellsSpec Rows.confTellsRow = true :=
  Seat.facts Seat.enter Seat.lifts Seat.made Seat.laidOut Seat.rowed Seat.heard 6 Try.f6 Rows.confTellsSpec Rows.confTellsRow ((rfl : Rows.confTellsRow.plainKeys = true).trans Seat.keys) (by kernel_rfl) (by kernel_rfl) (by kernel_rfl) (by kernel_rfl) (by kernel_rfl) (by kernel_rfl) (by kernel_rfl) (by kernel_rfl)
theorem named : Try.prog.funcNamed Rows.confTellsRow.func = some 6 := by kernel_rfl
theorem inst : Try.f6.isInstance Try.prog Rows.confTellsRow.origin Rows.confTellsRow.targs := of_decide_eq_true (by kernel_rfl)
theorem wrapped : Try.f6.isWrapper Try.prog Rows.confTellsRow.wrapper Rows.confTellsRow.mainSum := by unfold Func.isWrapper; rw [if_neg (by decide +kernel)]; exact ⟨rfl, rfl⟩
theorem over : Rows.confTellsRow.holds Try.pinned (OpenSpec.ofChange Rows.confTellsSpec) :=
  OpenClaim.holds_of_wide 6 Try.f6 rfl rfl rfl rfl rfl rfl rfl ⟨rfl, rfl, rfl, rfl, rfl⟩ rfl rfl rfl rfl rfl named Try.func6 facts inst wrapped
    (fun os started H enc _ => lifted os started H enc)
theorem proved : Rows.ConfTellsSaid := over
end Go.Proofs.Ytjipnabidebgbaa.confTells
namespace Go.Proofs.Ytjipnabidebgbaa
/-- The row, under a short name, for the claim. -/
theorem confTells_holds : Rows.ConfTellsSaid := confTells.proved
end Go.Proofs.Ytjipnabidebgbaa
