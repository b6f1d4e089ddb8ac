/- For all numbers, nodes and states: whether it may be, a fresh one, one made right and one woken are those of the document. -/
import Derived.Test.YtjipnabidebgbaaXb
import Derived.Test.YtjipnabidebgbaaXc
import Derived.Test.YtjipnabidebgbaaXnode
import Derived.Test.YtjipnabidebgbaaXlaw06
import Derived.Test.YtjipnabidebgbaaRows
import Derived.Test.YtjipnabidebgbaaSeat
import Derived.WalkKit
import Derived.ProofKit
import Derived.OpenShut
import Derived.ShutString
import Derived.ChangeOld
import Derived.Below
import Derived.SizedLaws
set_option linter.unusedVariables false
set_option linter.unusedSimpArgs false
namespace Rx.S
open Go Rx Go.Proofs
set_option maxRecDepth 100000
set_option linter.unusedVariables false
def c_law06_NodeTells : Ctr := { f := 7, ps := [.c false [.int .i64], .c false [.int .i64], .c true [.int .i64, .int .i64, .int .i64, .int .i64]], rs := [(false, [.bool])], ok := fun _ => true }
noncomputable def fns_law06_NodeTells : List (Nat × Func) := [(7, Try.f7), (58, Try.f58), (59, Try.f59), (60, Try.f60), (61, Try.f61), (62, Try.f62), (63, Try.f63), (64, Try.f64), (65, Try.f65), (66, Try.f66)]
theorem fnsOk_law06_NodeTells : FnsAll Try.prog fns_law06_NodeTells := ⟨fn7, fn58, fn59, fn60, fn61, fn62, fn63, fn64, fn65, fn66, trivial⟩
noncomputable def X_law06_NodeTells : Ctx := { tys := tys, eqs := eqs, fns := fun f => look f fns_law06_NodeTells, ctr := [(58, c_node_Fresh), (63, c_node_Right), (60, c_node_Clean), (65, c_node_Wake), (59, c_ref06_Fresh), (64, c_ref06_Right), (61, c_ref06_Clean), (66, c_ref06_Wake), (62, c_law06_awake)], lim := 30 }
theorem xok_law06_NodeTells : XOK Try.prog T X_law06_NodeTells where
  tys := tysOk
  eqs := eqsOk
  mixed := mixed
  ctr := ctrsOK_of ⟨⟨rfl, ctr_node_Fresh⟩, ⟨rfl, ctr_node_Right⟩, ⟨rfl, ctr_node_Clean⟩, ⟨rfl, ctr_node_Wake⟩, ⟨rfl, ctr_ref06_Fresh⟩, ⟨rfl, ctr_ref06_Right⟩, ⟨rfl, ctr_ref06_Clean⟩, ⟨rfl, ctr_ref06_Wake⟩, ⟨rfl, ctr_law06_awake⟩, trivial⟩
  fns := fnsOK_of fnsOk_law06_NodeTells
def g_law06_NodeTells : G := { next := 80, defs := [⟨79, .iteB, [.var 59, .var 78, .t false]⟩, ⟨78, .and, [.var 77, .var 76]⟩, ⟨77, (.cmp .eql), [.var 61, .var 67]⟩, ⟨76, .and, [.var 75, .var 74]⟩, ⟨75, (.cmp .eql), [.var 62, .var 68]⟩, ⟨74, .and, [.var 73, .var 72]⟩, ⟨73, (.cmp .eql), [.var 63, .var 69]⟩, ⟨72, (.cmp .eql), [.var 64, .var 70]⟩, ⟨71, .imp, [.var 59, .var 66]⟩, ⟨66, (.call 66), [.var 2, .var 3, .var 4, .var 5]⟩, ⟨65, .imp, [.var 59, .var 60]⟩, ⟨60, (.call 65), [.var 2, .var 3, .var 4, .var 5]⟩, ⟨59, .iteB, [.var 57, .var 58, .t false]⟩, ⟨58, (.cmp .eql), [.var 23, .var 29]⟩, ⟨57, .iteB, [.var 49, .var 56, .t false]⟩, ⟨56, .and, [.var 55, .var 54]⟩, ⟨55, (.cmp .eql), [.var 19, .var 25]⟩, ⟨54, .and, [.var 53, .var 52]⟩, ⟨53, (.cmp .eql), [.var 20, .var 26]⟩, ⟨52, .and, [.var 51, .var 50]⟩, ⟨51, (.cmp .eql), [.var 21, .var 27]⟩, ⟨50, (.cmp .eql), [.var 22, .var 28]⟩, ⟨49, .iteB, [.var 47, .var 48, .t false]⟩, ⟨48, (.cmp .eql), [.var 11, .var 17]⟩, ⟨47, .iteB, [.var 39, .var 46, .t false]⟩, ⟨46, .and, [.var 45, .var 44]⟩, ⟨45, (.cmp .eql), [.var 7, .var 13]⟩, ⟨44, .and, [.var 43, .var 42]⟩, ⟨43, (.cmp .eql), [.var 8, .var 14]⟩, ⟨42, .and, [.var 41, .var 40]⟩, ⟨41, (.cmp .eql), [.var 9, .var 15]⟩, ⟨40, (.cmp .eql), [.var 10, .var 16]⟩, ⟨39, .iteB, [.var 31, .var 38, .t false]⟩, ⟨38, .eqB, [.var 33, .var 36]⟩, ⟨37, .imp, [.var 31, .var 35]⟩, ⟨35, (.call 64), [.var 0, .var 2, .var 3, .var 4, .var 5]⟩, ⟨34, .imp, [.var 31, .var 32]⟩, ⟨32, (.call 63), [.var 0, .var 2, .var 3, .var 4, .var 5]⟩, ⟨30, (.call 62), []⟩, ⟨24, (.call 61), [.var 0, .var 1, .var 2, .var 3, .var 4, .var 5]⟩, ⟨18, (.call 60), [.var 0, .var 1, .var 2, .var 3, .var 4, .var 5]⟩, ⟨12, (.call 59), [.var 0, .var 1]⟩, ⟨6, (.call 58), [.var 0, .var 1]⟩], obs := [.var 71, .var 65, .var 37, .var 34, .var 30, .var 24, .var 18, .var 12, .var 6], known := [] }
theorem run_law06_NodeTells : run X_law06_NodeTells 2000 7 ([.one (.k (.int .i64 (.var 0))), .one (.k (.int .i64 (.var 1))), .agg [.k (.int .i64 (.var 2)), .k (.int .i64 (.var 3)), .k (.int .i64 (.var 4)), .k (.int .i64 (.var 5))]]) ([]) 6 [] = some (.pv (.one (.k (.bool (.var 79)))), [{ own := true, ty := 42, es := 4, cells := [.k (.int .i64 (.var 2)), .k (.int .i64 (.var 3)), .k (.int .i64 (.var 4)), .k (.int .i64 (.var 5))] }, { own := true, ty := 42, es := 4, cells := [.k (.int .i64 (.var 7)), .k (.int .i64 (.var 8)), .k (.int .i64 (.var 9)), .k (.int .i64 (.var 10))] }, { own := true, ty := 42, es := 4, cells := [.k (.int .i64 (.var 13)), .k (.int .i64 (.var 14)), .k (.int .i64 (.var 15)), .k (.int .i64 (.var 16))] }, { own := true, ty := 42, es := 4, cells := [.k (.int .i64 (.var 19)), .k (.int .i64 (.var 20)), .k (.int .i64 (.var 21)), .k (.int .i64 (.var 22))] }, { own := true, ty := 42, es := 4, cells := [.k (.int .i64 (.var 25)), .k (.int .i64 (.var 26)), .k (.int .i64 (.var 27)), .k (.int .i64 (.var 28))] }], g_law06_NodeTells) := by kernel_rfl
theorem pure_law06_NodeTells (x0 : Int) (x1 : Int) (x2 : Int) (x3 : Int) (x4 : Int) (x5 : Int) (v6 : Bool) (v7 : Int) (v8 : Int) (v9 : Int) (v10 : Int) (v11 : Int) (v12 : Bool) (v13 : Int) (v14 : Int) (v15 : Int) (v16 : Int) (v17 : Int) (v18 : Bool) (v19 : Int) (v20 : Int) (v21 : Int) (v22 : Int) (v23 : Int) (v24 : Bool) (v25 : Int) (v26 : Int) (v27 : Int) (v28 : Int) (v29 : Int) (v30 : Bool) (v31 : Bool) (v32 : Bool) (v33 : Bool) (v34 : Bool) (v35 : Bool) (v36 : Bool) (v37 : Bool) (v38 : Bool) (v39 : Bool) (v40 : Bool) (v41 : Bool) (v42 : Bool) (v43 : Bool) (v44 : Bool) (v45 : Bool) (v46 : Bool) (v47 : Bool) (v48 : Bool) (v49 : Bool) (v50 : Bool) (v51 : Bool) (v52 : Bool) (v53 : Bool) (v54 : Bool) (v55 : Bool) (v56 : Bool) (v57 : Bool) (v58 : Bool) (v59 : Bool) (v60 : Bool) (v61 : Int) (v62 : Int) (v63 : Int) (v64 : Int) (v65 : Bool) (v66 : Bool) (v67 : Int) (v68 : Int) (v69 : Int) (v70 : Int) (v71 : Bool) (v72 : Bool) (v73 : Bool) (v74 : Bool) (v75 : Bool) (v76 : Bool) (v77 : Bool) (v78 : Bool) (v79 : Bool)
    (q6 : v6 = (true))
    (q7 : v7 = (((Day.freshN x0 x1)).id))
    (q8 : v8 = (((Day.freshN x0 x1)).mode))
    (q9 : v9 = (((Day.freshN x0 x1)).count))
    (q10 : v10 = (((Day.freshN x0 x1)).pos))
    (q11 : v11 = (Day.idE x0 x1))
    (q12 : v12 = (true))
    (q13 : v13 = (((Day.freshN x0 x1)).id))
    (q14 : v14 = (((Day.freshN x0 x1)).mode))
    (q15 : v15 = (((Day.freshN x0 x1)).count))
    (q16 : v16 = (((Day.freshN x0 x1)).pos))
    (q17 : v17 = (Day.idE x0 x1))
    (q18 : v18 = (Day.ND.i64 (Day.ND.mk x2 x3 x4 x5)))
    (q19 : v19 = (((Day.cleanN x0 x1 (Day.ND.mk x2 x3 x4 x5))).id))
    (q20 : v20 = (((Day.cleanN x0 x1 (Day.ND.mk x2 x3 x4 x5))).mode))
    (q21 : v21 = (((Day.cleanN x0 x1 (Day.ND.mk x2 x3 x4 x5))).count))
    (q22 : v22 = (((Day.cleanN x0 x1 (Day.ND.mk x2 x3 x4 x5))).pos))
    (q23 : v23 = (Day.idE x0 x1))
    (q24 : v24 = (Day.ND.i64 (Day.ND.mk x2 x3 x4 x5)))
    (q25 : v25 = (((Day.cleanN x0 x1 (Day.ND.mk x2 x3 x4 x5))).id))
    (q26 : v26 = (((Day.cleanN x0 x1 (Day.ND.mk x2 x3 x4 x5))).mode))
    (q27 : v27 = (((Day.cleanN x0 x1 (Day.ND.mk x2 x3 x4 x5))).count))
    (q28 : v28 = (((Day.cleanN x0 x1 (Day.ND.mk x2 x3 x4 x5))).pos))
    (q29 : v29 = (Day.idE x0 x1))
    (q30 : v30 = (true))
    (q31 : v31 = (true))
    (q32 : v32 = (Day.ND.i64 (Day.ND.mk x2 x3 x4 x5)))
    (q33 : v33 = (Day.rightN x0 (Day.ND.mk x2 x3 x4 x5)))
    (q34 : v34 = ((!v31 || v32)))
    (q35 : v35 = (Day.ND.i64 (Day.ND.mk x2 x3 x4 x5)))
    (q36 : v36 = (Day.rightN x0 (Day.ND.mk x2 x3 x4 x5)))
    (q37 : v37 = ((!v31 || v35)))
    (q38 : v38 = ((v33 == v36)))
    (q39 : v39 = ((if v31 then v38 else false)))
    (q40 : v40 = ((v10 == v16)))
    (q41 : v41 = ((v9 == v15)))
    (q42 : v42 = ((v41 && v40)))
    (q43 : v43 = ((v8 == v14)))
    (q44 : v44 = ((v43 && v42)))
    (q45 : v45 = ((v7 == v13)))
    (q46 : v46 = ((v45 && v44)))
    (q47 : v47 = ((if v39 then v46 else false)))
    (q48 : v48 = ((v11 == v17)))
    (q49 : v49 = ((if v47 then v48 else false)))
    (q50 : v50 = ((v22 == v28)))
    (q51 : v51 = ((v21 == v27)))
    (q52 : v52 = ((v51 && v50)))
    (q53 : v53 = ((v20 == v26)))
    (q54 : v54 = ((v53 && v52)))
    (q55 : v55 = ((v19 == v25)))
    (q56 : v56 = ((v55 && v54)))
    (q57 : v57 = ((if v49 then v56 else false)))
    (q58 : v58 = ((v23 == v29)))
    (q59 : v59 = ((if v57 then v58 else false)))
    (q60 : v60 = (true))
    (q61 : v61 = (((Day.wakeN (Day.ND.mk x2 x3 x4 x5))).id))
    (q62 : v62 = (((Day.wakeN (Day.ND.mk x2 x3 x4 x5))).mode))
    (q63 : v63 = (((Day.wakeN (Day.ND.mk x2 x3 x4 x5))).count))
    (q64 : v64 = (((Day.wakeN (Day.ND.mk x2 x3 x4 x5))).pos))
    (q65 : v65 = ((!v59 || v60)))
    (q66 : v66 = (true))
    (q67 : v67 = (((Day.wakeN (Day.ND.mk x2 x3 x4 x5))).id))
    (q68 : v68 = (((Day.wakeN (Day.ND.mk x2 x3 x4 x5))).mode))
    (q69 : v69 = (((Day.wakeN (Day.ND.mk x2 x3 x4 x5))).count))
    (q70 : v70 = (((Day.wakeN (Day.ND.mk x2 x3 x4 x5))).pos))
    (q71 : v71 = ((!v59 || v66)))
    (q72 : v72 = ((v64 == v70)))
    (q73 : v73 = ((v63 == v69)))
    (q74 : v74 = ((v73 && v72)))
    (q75 : v75 = ((v62 == v68)))
    (q76 : v76 = ((v75 && v74)))
    (q77 : v77 = ((v61 == v67)))
    (q78 : v78 = ((v77 && v76)))
    (q79 : v79 = ((if v59 then v78 else false)))
    (hp : (Day.i64 x0 && Day.i64 x1 && Day.ND.i64 (Day.ND.mk x2 x3 x4 x5)) = true)  :
    (v71 = true ∧ v65 = true ∧ v37 = true ∧ v34 = true ∧ v30 = true ∧ v24 = true ∧ v18 = true ∧ v12 = true ∧ v6 = true) ∧ (true = v79) := by
  grind [Day.clampR, Day.upR, Day.downR, Day.sm, Day.i64, Day.u8, Day.u16, Day.u32, Day.right, Day.times, Day.ownE, Day.ownR, Day.idE, Day.freshN, Day.noND, Day.cleanN, Day.wakeN, Day.rightN, Day.ND.i64, Day.waitR, Day.dueR, Day.ofR, Day.ofE, Day.noFr, wrap64, Day.modP, Day.modR, Day.slotP, Day.nextR, Day.atP, Day.atR, Day.aheadP, Day.aheadR]
theorem bridge_law06_NodeTells {e : Nat → A} {al more : List A} (hlen : al.length = 6) (he : ∀ j a, (al ++ more)[j]? = some a → e j = a) (hd : ∀ d ∈ g_law06_NodeTells.defs, d.holds T e) (hp : (t_7 al).1 = true) :
    (∀ x ∈ g_law06_NodeTells.known, x.holds T e) ∧ (∀ o ∈ g_law06_NodeTells.obs, (o.ev e).bool = true) ∧ semMany (c_law06_NodeTells.rs.flatMap (·.2)) (t_7 al).2 = semMany (c_law06_NodeTells.rs.flatMap (·.2)) ([.var 79].map (L.ev e)) := by
  have y0 : gi al 0 = (e 0).int := gi_e he (by omega)
  have y1 : gi al 1 = (e 1).int := gi_e he (by omega)
  have y2 : gi al 2 = (e 2).int := gi_e he (by omega)
  have y3 : gi al 3 = (e 3).int := gi_e he (by omega)
  have y4 : gi al 4 = (e 4).int := gi_e he (by omega)
  have y5 : gi al 5 = (e 5).int := gi_e he (by omega)
  obtain ⟨d79, d78, d77, d76, d75, d74, d73, d72, d71, d66, d65, d60, d59, d58, d57, d56, d55, d54, d53, d52, d51, d50, d49, d48, d47, d46, d45, d44, d43, d42, d41, d40, d39, d38, d37, d35, d34, d32, d30, d24, d18, d12, d6, -⟩ : AllHold T e g_law06_NodeTells.defs := allHold_of hd
  have hpE : (t_7 al).1 = (Day.i64 (e 0).int && Day.i64 (e 1).int && Day.ND.i64 (Day.ND.mk (e 2).int (e 3).int (e 4).int (e 5).int)) := by simp only [t_7, y0, y1, y2, y3, y4, y5]
  have hp := hpE.symm.trans hp
  have hoE : (t_7 al).2 = [.b (true)] := by simp only [t_7, y0, y1, y2, y3, y4, y5]
  obtain ⟨ho, hr⟩ := pure_law06_NodeTells (e 0).int (e 1).int (e 2).int (e 3).int (e 4).int (e 5).int (e 6).bool (e 7).int (e 8).int (e 9).int (e 10).int (e 11).int (e 12).bool (e 13).int (e 14).int (e 15).int (e 16).int (e 17).int (e 18).bool (e 19).int (e 20).int (e 21).int (e 22).int (e 23).int (e 24).bool (e 25).int (e 26).int (e 27).int (e 28).int (e 29).int (e 30).bool (e 31).bool (e 32).bool (e 33).bool (e 34).bool (e 35).bool (e 36).bool (e 37).bool (e 38).bool (e 39).bool (e 40).bool (e 41).bool (e 42).bool (e 43).bool (e 44).bool (e 45).bool (e 46).bool (e 47).bool (e 48).bool (e 49).bool (e 50).bool (e 51).bool (e 52).bool (e 53).bool (e 54).bool (e 55).bool (e 56).bool (e 57).bool (e 58).bool (e 59).bool (e 60).bool (e 61).int (e 62).int (e 63).int (e 64).int (e 65).bool (e 66).bool (e 67).int (e 68).int (e 69).int (e 70).int (e 71).bool (e 72).bool (e 73).bool (e 74).bool (e 75).bool (e 76).bool (e 77).bool (e 78).bool (e 79).bool
    (q_pre T_58 d6)
    (q_outI T_58 0 d6 rfl)
    (q_outI T_58 1 d6 rfl)
    (q_outI T_58 2 d6 rfl)
    (q_outI T_58 3 d6 rfl)
    (q_outI T_58 4 d6 rfl)
    (q_pre T_59 d12)
    (q_outI T_59 0 d12 rfl)
    (q_outI T_59 1 d12 rfl)
    (q_outI T_59 2 d12 rfl)
    (q_outI T_59 3 d12 rfl)
    (q_outI T_59 4 d12 rfl)
    (q_pre T_60 d18)
    (q_outI T_60 0 d18 rfl)
    (q_outI T_60 1 d18 rfl)
    (q_outI T_60 2 d18 rfl)
    (q_outI T_60 3 d18 rfl)
    (q_outI T_60 4 d18 rfl)
    (q_pre T_61 d24)
    (q_outI T_61 0 d24 rfl)
    (q_outI T_61 1 d24 rfl)
    (q_outI T_61 2 d24 rfl)
    (q_outI T_61 3 d24 rfl)
    (q_outI T_61 4 d24 rfl)
    (q_pre T_62 d30)
    (q_outB T_62 0 d30 rfl)
    (q_pre T_63 d32)
    (q_outB T_63 0 d32 rfl)
    (q_imp d34)
    (q_pre T_64 d35)
    (q_outB T_64 0 d35 rfl)
    (q_imp d37)
    (q_eqB d38)
    (q_iteB d39)
    (q_cmp d40)
    (q_cmp d41)
    (q_and d42)
    (q_cmp d43)
    (q_and d44)
    (q_cmp d45)
    (q_and d46)
    (q_iteB d47)
    (q_cmp d48)
    (q_iteB d49)
    (q_cmp d50)
    (q_cmp d51)
    (q_and d52)
    (q_cmp d53)
    (q_and d54)
    (q_cmp d55)
    (q_and d56)
    (q_iteB d57)
    (q_cmp d58)
    (q_iteB d59)
    (q_pre T_65 d60)
    (q_outI T_65 0 d60 rfl)
    (q_outI T_65 1 d60 rfl)
    (q_outI T_65 2 d60 rfl)
    (q_outI T_65 3 d60 rfl)
    (q_imp d65)
    (q_pre T_66 d66)
    (q_outI T_66 0 d66 rfl)
    (q_outI T_66 1 d66 rfl)
    (q_outI T_66 2 d66 rfl)
    (q_outI T_66 3 d66 rfl)
    (q_imp d71)
    (q_cmp d72)
    (q_cmp d73)
    (q_and d74)
    (q_cmp d75)
    (q_and d76)
    (q_cmp d77)
    (q_and d78)
    (q_iteB d79)
    hp
  obtain ⟨o0, o1, o2, o3, o4, o5, o6, o7, o8⟩ := ho
  have r0 := hr
  refine ⟨(fun x hx => by cases hx), obs_of (e := e) (l := g_law06_NodeTells.obs) ⟨o0, o1, o2, o3, o4, o5, o6, o7, o8, trivial⟩, ?_⟩
  rw [hoE]
  show semMany [.bool] [.b (true)] = semMany [.bool] [L.ev e (.var 79)]
  exact (semB r0 rfl)
theorem ctr_law06_NodeTells : CtrOK Try.prog T c_law06_NodeTells := by
  intro lits al vs w hok hag hargs hpre
  have hpre : (t_7 al).1 = true := by rw [← T_7]; exact hpre
  obtain ⟨hl, hlen⟩ := args_flat hargs rfl
  have hlen : al.length = 6 := hlen
  exact calls_of_run xok_law06_NodeTells widths (lits := []) (ns := []) (more := []) rfl run_law06_NodeTells (by kernel_rfl) (by kernel_rfl) rfl hargs hl (lit_none) (by rw [show c_law06_NodeTells.f = 7 from rfl, T_7]; rfl)
    fun e he hd => by rw [show c_law06_NodeTells.f = 7 from rfl, T_7]; exact bridge_law06_NodeTells hlen he hd hpre
end Rx.S
namespace Go.Proofs.Ytjipnabidebgbaa.nodeTells
open Go.ChangeShapes Go.WideShapes Go.ChangeAt Go.RowKit Rx
set_option linter.unusedVariables false
theorem own : ownKnob Try.prog.godebug = none := by kernel_rfl
set_option maxRecDepth 100000 in
theorem lifted (os : Os) (started : os.Started) (H : Type) (enc : TypeId × Value → H) :
    ReturnsInHanded {} Try.checked os 7 .any (Rows.nodeTellsSpec.pre6 enc Try.prog Try.f7 Rows.nodeTellsRow.domain false) (Rows.nodeTellsSpec.post enc Try.prog Try.f7 false true false false) := by
  refine returnsInHanded_of_change_sized (C := Try.checked) own started (by kernel_rfl) Try.func7
    (ChangeSpec.witness6 (enc := enc) (C := Try.checked) false ⟨#[], #[.int .i64 0, .int .i64 0, .agg #[.int .i64 0, .int .i64 0, .int .i64 0, .int .i64 0]], []⟩ 8 (by kernel_rfl) (by kernel_rfl) (by kernel_rfl) (by kernel_rfl)) ?_
  intro W base args ds gs before hval0 hW hcnd hsz0 _
  have hval : ∀ (j : Nat) t v, Try.f7.params[j]? = some t → args[j]? = some v → Value.okWide Try.prog W .any base t v := hval0
  have hW' := hW
  obtain ⟨p, q, hA0, hV, rfl, hfz, hnd⟩ := hW
  have hA : DataW.TrodAll enc Try.prog W 0 (fun _ => true) true Try.f7.params.toList args.toList ds p := hA0
  rw [Try.params7] at hA hval
  obtain ⟨v0, vs0, d0, ds0, p0, q0, hargs, rfl, rfl, h0, r0⟩ := trodAll_cons hA
  obtain ⟨v1, vs1, d1, ds1, p1, q1, rfl, rfl, rfl, h1, r1⟩ := trodAll_cons r0
  obtain ⟨v2, vs2, d2, ds2, p2, q2, rfl, rfl, rfl, h2, r2⟩ := trodAll_cons r1
  obtain ⟨rfl, rfl, rfl⟩ := trodAll_nil r2
  obtain rfl : args = #[v0, v1, v2] := by cases args; simp_all
  obtain ⟨rfl, rfl⟩ := trodVars_none hV
  obtain ⟨l0, e0, o0⟩ := open_arg S.tysOk (n := 10) (t := 3) rfl rfl (hval 0 3 v0 rfl rfl) h0
  obtain ⟨x0, _, rfl, k0, rfl⟩ := e0
  obtain ⟨l1, e1, o1⟩ := open_arg S.tysOk (n := 10) (t := 3) rfl rfl (hval 1 3 v1 rfl rfl) h1
  obtain ⟨x1, _, rfl, k1, rfl⟩ := e1
  obtain ⟨l2, e2, o2⟩ := open_arg S.tysOk (n := 10) (t := 42) rfl rfl (hval 2 42 v2 rfl rfl) h2
  obtain ⟨x2, _, rfl, k2, x3, _, rfl, k3, x4, _, rfl, k4, x5, _, rfl, k5, rfl⟩ := e2
  have hargs : ArgsRel W S.c_law06_NodeTells.ps [v0, v1, v2] [x0, x1, x2, x3, x4, x5] := ⟨v0, _, [x0], _, rfl, rfl, o0, ⟨v1, _, [x1], _, rfl, rfl, o1, ⟨v2, _, [x2, x3, x4, x5], _, rfl, rfl, o2, ⟨rfl, rfl⟩⟩⟩⟩
  have f0 := leaf_i64 k0
  have f1 := leaf_i64 k1
  have f2 := leaf_i64 k2
  have f3 := leaf_i64 k3
  have f4 := leaf_i64 k4
  have f5 := leaf_i64 k5
  have hp : (S.t_7 [x0, x1, x2, x3, x4, x5]).1 = true := by
    simp [S.t_7, gi, gb, gs, gv, Day.ND.i64, f0, f1, f2, f3, f4, f5]
  refine (law_calls S.ctr_law06_NodeTells (fun _ => rfl) rfl hargs (by rw [show S.c_law06_NodeTells.f = 7 from rfl, S.T_7]; exact hp) (by rw [show S.c_law06_NodeTells.f = 7 from rfl, S.T_7]; rfl)).mono fun e W2 ⟨he, bel⟩ => ?_
  subst he
  have b0 := Below.trod Seat.laidOut (by kernel_rfl) (of_decide_eq_true (by kernel_rfl)) h0 bel (fun x hx => by simpa using hW'.lt x (by simp [hx]))
  have b1 := Below.trod Seat.laidOut (by kernel_rfl) (of_decide_eq_true (by kernel_rfl)) h1 bel (fun x hx => by simpa using hW'.lt x (by simp [hx]))
  have b2 := Below.trod Seat.laidOut (by kernel_rfl) (of_decide_eq_true (by kernel_rfl)) h2 bel (fun x hx => by simpa using hW'.lt x (by simp [hx]))
  exact ⟨_, rfl, _, _, _, [], _, [], hW', trodAll_mk1 (shut_bool Try.underlying4 _), (trodAll_cons_mk b0 (trodAll_cons_mk b1 (trodAll_cons_mk b2 trodAll_mk0))), rfl, bel.frame _, fun h => by cases h⟩
theorem facts : joinedFacts Try.prog 7 Try.f7 Rows.nodeTellsSpec Rows.nodeTellsRow = true :=
  Seat.facts Seat.enter Seat.lifts Seat.made Seat.laidOut Seat.rowed Seat.heard 7 Try.f7 Rows.nodeTellsSpec Rows.nodeTellsRow ((rfl : Rows.nodeTellsRow.plainKeys = true).trans Seat.keys) (by kernel_rfl) (by kernel_rfl) (by kernel_rfl) (by kernel_rfl) (by kernel_rfl) (by kernel_rfl) (by kernel_rfl) (by kernel_rfl)
theorem named : Try.prog.funcNamed Rows.nodeTellsRow.func = some 7 := by kernel_rfl
theorem inst : Try.f7.isInstance Try.prog Rows.nodeTellsRow.origin Rows.nodeTellsRow.targs := of_decide_eq_true (by kernel_rfl)
theorem wrapped : Try.f7.isWrapper Try.prog Rows.nodeTellsRow.wrapper Rows.nodeTellsRow.mainSum := by unfold Func.isWrapper; rw [if_neg (by decide +kernel)]; exact ⟨rfl, rfl⟩
theorem over : Rows.nodeTellsRow.holds Try.pinned (OpenSpec.ofChange Rows.nodeTellsSpec) :=
  OpenClaim.holds_of_wide 7 Try.f7 rfl rfl rfl rfl rfl rfl rfl ⟨rfl, rfl, rfl, rfl, rfl⟩ rfl rfl rfl rfl rfl named Try.func7 facts inst wrapped
    (fun os started H enc _ => lifted os started H enc)
theorem proved : Rows.NodeTellsSaid := over
end Go.Proofs.Ytjipnabidebgbaa.nodeTells
namespace Go.Proofs.Ytjipnabidebgbaa
/-- The row, under a short name, for the claim. -/
theorem nodeTells_holds : Rows.NodeTellsSaid := nodeTells.proved
end Go.Proofs.Ytjipnabidebgbaa
