import Derived.Test.YtjipnabidebgbaaXc
import Derived.Test.YtjipnabidebgbaaXconf
import Derived.Test.YtjipnabidebgbaaXring
import Derived.Test.YtjipnabidebgbaaXtally
set_option linter.unusedVariables false
set_option linter.unusedSimpArgs false
namespace Rx.S
open Go Rx Go.Proofs
set_option maxRecDepth 100000
set_option linter.unusedVariables false
def c_node_Fresh : Ctr := { f := 58, ps := [.c false [.int .i64], .c false [.int .i64]], rs := [(true, [.int .i64, .int .i64, .int .i64, .int .i64]), (false, [.int .i64])], ok := fun _ => true }
noncomputable def fns_node_Fresh : List (Nat × Func) := [(50, Try.f50), (58, Try.f58)]
theorem fnsOk_node_Fresh : FnsAll Try.prog fns_node_Fresh := ⟨fn50, fn58, trivial⟩
noncomputable def X_node_Fresh : Ctx := { tys := tys, eqs := eqs, fns := fun f => look f fns_node_Fresh, ctr := [(50, c_conf_Right)], lim := 30 }
theorem xok_node_Fresh : XOK Try.prog T X_node_Fresh where
  tys := tysOk
  eqs := eqsOk
  mixed := mixed
  ctr := ctrsOK_of ⟨⟨rfl, ctr_conf_Right⟩, trivial⟩
  fns := fnsOK_of fnsOk_node_Fresh
def g_node_Fresh : G := { next := 27, defs := [⟨26, .iteB, [.var 22, .var 22, .var 21]⟩, ⟨25, .iteI, [.var 22, .var 1, .n 0]⟩, ⟨24, .iteI, [.var 22, .n 0, .var 20]⟩, ⟨23, .not, [.var 22]⟩, ⟨22, .and, [.var 5, .var 19]⟩, ⟨21, .iteB, [.var 4, .var 4, .var 18]⟩, ⟨20, .iteI, [.var 4, .n 1, .n 2]⟩, ⟨19, .and, [.var 15, .var 17]⟩, ⟨18, .and, [.var 14, .var 16]⟩, ⟨17, .and, [.var 5, .var 15]⟩, ⟨16, .and, [.var 5, .var 14]⟩, ⟨15, .not, [.var 14]⟩, ⟨14, .iteB, [.var 6, .t true, .var 13]⟩, ⟨13, (.cmp .geq), [.var 1, .var 0]⟩, ⟨12, .and, [.var 5, .var 11]⟩, ⟨11, .not, [.var 6]⟩, ⟨10, .and, [.var 5, .var 9]⟩, ⟨9, .not, [.var 6]⟩, ⟨8, .and, [.var 5, .var 7]⟩, ⟨7, .not, [.var 6]⟩, ⟨6, (.cmp .lss), [.var 1, .n 0]⟩, ⟨5, .not, [.var 4]⟩, ⟨4, .not, [.var 3]⟩, ⟨2, (.call 50), [.var 0]⟩], obs := [.var 2], known := [] }
theorem run_node_Fresh : run X_node_Fresh 2000 58 ([.one (.k (.int .i64 (.var 0))), .one (.k (.int .i64 (.var 1)))]) ([]) 2 [] = some (.tup [.agg [.k (.int .i64 (.var 25)), .k (.int .i64 (.n 0)), .k (.int .i64 (.n 0)), .k (.int .i64 (.n 0))], .one (.k (.int .i64 (.var 24)))], [{ own := true, ty := 42, es := 4, cells := [.k (.int .i64 (.var 25)), .k (.int .i64 (.n 0)), .k (.int .i64 (.n 0)), .k (.int .i64 (.n 0))] }], g_node_Fresh) := by kernel_rfl
theorem pure_node_Fresh (x0 : Int) (x1 : Int) (v2 : Bool) (v3 : Bool) (v4 : Bool) (v5 : Bool) (v6 : Bool) (v7 : Bool) (v8 : Bool) (v9 : Bool) (v10 : Bool) (v11 : Bool) (v12 : Bool) (v13 : Bool) (v14 : Bool) (v15 : Bool) (v16 : Bool) (v17 : Bool) (v18 : Bool) (v19 : Bool) (v20 : Int) (v21 : Bool) (v22 : Bool) (v23 : Bool) (v24 : Int) (v25 : Int) (v26 : Bool)
    (q2 : v2 = (true))
    (q3 : v3 = (Day.right x0))
    (q4 : v4 = ((!v3)))
    (q5 : v5 = ((!v4)))
    (q6 : v6 = (decide (x1 < (0 : Int))))
    (q7 : v7 = ((!v6)))
    (q8 : v8 = ((v5 && v7)))
    (q9 : v9 = ((!v6)))
    (q10 : v10 = ((v5 && v9)))
    (q11 : v11 = ((!v6)))
    (q12 : v12 = ((v5 && v11)))
    (q13 : v13 = (decide (x1 ≥ x0)))
    (q14 : v14 = ((if v6 then true else v13)))
    (q15 : v15 = ((!v14)))
    (q16 : v16 = ((v5 && v14)))
    (q17 : v17 = ((v5 && v15)))
    (q18 : v18 = ((v14 && v16)))
    (q19 : v19 = ((v15 && v17)))
    (q20 : v20 = ((if v4 then (1 : Int) else (2 : Int))))
    (q21 : v21 = ((if v4 then v4 else v18)))
    (q22 : v22 = ((v5 && v19)))
    (q23 : v23 = ((!v22)))
    (q24 : v24 = ((if v22 then (0 : Int) else v20)))
    (q25 : v25 = ((if v22 then x1 else (0 : Int))))
    (q26 : v26 = ((if v22 then v22 else v21)))
    (hp : (true) = true)  :
    (v2 = true) ∧ (((Day.freshN x0 x1)).id = v25 ∧ ((Day.freshN x0 x1)).mode = (0 : Int) ∧ ((Day.freshN x0 x1)).count = (0 : Int) ∧ ((Day.freshN x0 x1)).pos = (0 : Int) ∧ Day.idE x0 x1 = v24) := by
  grind [Day.clampR, Day.upR, Day.downR, Day.sm, Day.i64, Day.u8, Day.u16, Day.u32, Day.right, Day.times, Day.ownE, Day.ownR, Day.idE, Day.freshN, Day.noND, Day.cleanN, Day.wakeN, Day.rightN, Day.ND.i64, Day.waitR, Day.dueR, Day.ofR, Day.ofE, Day.noFr, wrap64, Day.modP, Day.modR, Day.slotP, Day.nextR, Day.atP, Day.atR, Day.aheadP, Day.aheadR]
theorem bridge_node_Fresh {e : Nat → A} {al more : List A} (hlen : al.length = 2) (he : ∀ j a, (al ++ more)[j]? = some a → e j = a) (hd : ∀ d ∈ g_node_Fresh.defs, d.holds T e) (hp : (t_58 al).1 = true) :
    (∀ x ∈ g_node_Fresh.known, x.holds T e) ∧ (∀ o ∈ g_node_Fresh.obs, (o.ev e).bool = true) ∧ semMany (c_node_Fresh.rs.flatMap (·.2)) (t_58 al).2 = semMany (c_node_Fresh.rs.flatMap (·.2)) ([.var 25, .n 0, .n 0, .n 0, .var 24].map (L.ev e)) := by
  have y0 : gi al 0 = (e 0).int := gi_e he (by omega)
  have y1 : gi al 1 = (e 1).int := gi_e he (by omega)
  obtain ⟨d26, d25, d24, d23, d22, d21, d20, d19, d18, d17, d16, d15, d14, d13, d12, d11, d10, d9, d8, d7, d6, d5, d4, d2, -⟩ : AllHold T e g_node_Fresh.defs := allHold_of hd
  have hpE : (t_58 al).1 = (true) := by simp only [t_58, y0, y1]
  have hp := hpE.symm.trans hp
  have hoE : (t_58 al).2 = [.i (((Day.freshN (e 0).int (e 1).int)).id), .i (((Day.freshN (e 0).int (e 1).int)).mode), .i (((Day.freshN (e 0).int (e 1).int)).count), .i (((Day.freshN (e 0).int (e 1).int)).pos), .i (Day.idE (e 0).int (e 1).int)] := by simp only [t_58, y0, y1]
  obtain ⟨ho, hr⟩ := pure_node_Fresh (e 0).int (e 1).int (e 2).bool (e 3).bool (e 4).bool (e 5).bool (e 6).bool (e 7).bool (e 8).bool (e 9).bool (e 10).bool (e 11).bool (e 12).bool (e 13).bool (e 14).bool (e 15).bool (e 16).bool (e 17).bool (e 18).bool (e 19).bool (e 20).int (e 21).bool (e 22).bool (e 23).bool (e 24).int (e 25).int (e 26).bool
    (q_pre T_50 d2)
    (q_outB T_50 0 d2 rfl)
    (q_not d4)
    (q_not d5)
    (q_cmp d6)
    (q_not d7)
    (q_and d8)
    (q_not d9)
    (q_and d10)
    (q_not d11)
    (q_and d12)
    (q_cmp d13)
    (q_iteB d14)
    (q_not d15)
    (q_and d16)
    (q_and d17)
    (q_and d18)
    (q_and d19)
    (q_iteI d20)
    (q_iteB d21)
    (q_and d22)
    (q_not d23)
    (q_iteI d24)
    (q_iteI d25)
    (q_iteB d26)
    hp
  have o0 := ho
  obtain ⟨r0, r1, r2, r3, r4⟩ := hr
  refine ⟨(fun x hx => by cases hx), obs_of (e := e) (l := g_node_Fresh.obs) ⟨o0, trivial⟩, ?_⟩
  rw [hoE]
  show semMany [.int .i64, .int .i64, .int .i64, .int .i64, .int .i64] [.i (((Day.freshN (e 0).int (e 1).int)).id), .i (((Day.freshN (e 0).int (e 1).int)).mode), .i (((Day.freshN (e 0).int (e 1).int)).count), .i (((Day.freshN (e 0).int (e 1).int)).pos), .i (Day.idE (e 0).int (e 1).int)] = semMany [.int .i64, .int .i64, .int .i64, .int .i64, .int .i64] [L.ev e (.var 25), L.ev e (.n 0), L.ev e (.n 0), L.ev e (.n 0), L.ev e (.var 24)]
  exact (semI r0 (semI r1 (semI r2 (semI r3 (semI r4 rfl)))))
theorem ctr_node_Fresh : CtrOK Try.prog T c_node_Fresh := by
  intro lits al vs w hok hag hargs hpre
  have hpre : (t_58 al).1 = true := by rw [← T_58]; exact hpre
  obtain ⟨hl, hlen⟩ := args_flat hargs rfl
  have hlen : al.length = 2 := hlen
  exact calls_of_run xok_node_Fresh widths (lits := []) (ns := []) (more := []) rfl run_node_Fresh (by kernel_rfl) (by kernel_rfl) rfl hargs hl (lit_none) (by rw [show c_node_Fresh.f = 58 from rfl, T_58]; rfl)
    fun e he hd => by rw [show c_node_Fresh.f = 58 from rfl, T_58]; exact bridge_node_Fresh hlen he hd hpre
end Rx.S
namespace Rx.S
open Go Rx Go.Proofs
set_option maxRecDepth 100000
set_option linter.unusedVariables false
def c_node_Right : Ctr := { f := 63, ps := [.c false [.int .i64], .c true [.int .i64, .int .i64, .int .i64, .int .i64]], rs := [(false, [.bool])], ok := fun _ => true }
noncomputable def fns_node_Right : List (Nat × Func) := [(33, Try.f33), (58, Try.f58), (63, Try.f63), (133, Try.f133)]
theorem fnsOk_node_Right : FnsAll Try.prog fns_node_Right := ⟨fn33, fn58, fn63, fn133, trivial⟩
noncomputable def X_node_Right : Ctx := { tys := tys, eqs := eqs, fns := fun f => look f fns_node_Right, ctr := [(133, c_tally_Clamp), (33, c_ring_Mod), (58, c_node_Fresh)], lim := 30 }
theorem xok_node_Right : XOK Try.prog T X_node_Right where
  tys := tysOk
  eqs := eqsOk
  mixed := mixed
  ctr := ctrsOK_of ⟨⟨rfl, ctr_tally_Clamp⟩, ⟨rfl, ctr_ring_Mod⟩, ⟨rfl, ctr_node_Fresh⟩, trivial⟩
  fns := fnsOK_of fnsOk_node_Right
def g_node_Right : G := { next := 66, defs := [⟨65, .iteB, [.var 23, .var 62, .var 22]⟩, ⟨64, .iteB, [.var 23, .var 61, .t false]⟩, ⟨63, .not, [.var 23]⟩, ⟨62, .iteB, [.var 59, .var 59, .var 58]⟩, ⟨61, .iteB, [.var 59, .t false, .var 57]⟩, ⟨60, .not, [.var 59]⟩, ⟨59, .and, [.var 25, .var 56]⟩, ⟨58, .iteB, [.var 24, .var 26, .var 55]⟩, ⟨57, .iteB, [.var 24, .var 33, .var 54]⟩, ⟨56, .and, [.var 40, .var 53]⟩, ⟨55, .iteB, [.var 39, .var 41, .var 52]⟩, ⟨54, .iteB, [.var 39, .var 43, .var 51]⟩, ⟨53, .and, [.var 45, .var 47]⟩, ⟨52, .and, [.var 44, .var 46]⟩, ⟨51, (.cmp .eql), [.var 49, .var 4]⟩, ⟨50, .imp, [.var 46, .var 48]⟩, ⟨48, (.call 33), [.var 0, .var 4]⟩, ⟨47, .and, [.var 42, .var 45]⟩, ⟨46, .and, [.var 42, .var 44]⟩, ⟨45, .not, [.var 44]⟩, ⟨44, (.cmp .eql), [.var 2, .n 3]⟩, ⟨43, (.cmp .eql), [.var 4, .n 0]⟩, ⟨42, .and, [.var 27, .var 40]⟩, ⟨41, .and, [.var 27, .var 39]⟩, ⟨40, .not, [.var 39]⟩, ⟨39, .iteB, [.var 34, .var 34, .var 38]⟩, ⟨38, (.cmp .eql), [.var 2, .n 2]⟩, ⟨37, .and, [.var 27, .var 35]⟩, ⟨36, .and, [.var 27, .var 34]⟩, ⟨35, .not, [.var 34]⟩, ⟨34, (.cmp .eql), [.var 2, .n 1]⟩, ⟨33, .iteB, [.var 28, .var 32, .t false]⟩, ⟨32, (.cmp .eql), [.var 4, .n 0]⟩, ⟨31, .and, [.var 26, .var 28]⟩, ⟨30, .and, [.var 26, .var 28]⟩, ⟨29, .and, [.var 26, .var 28]⟩, ⟨28, (.cmp .eql), [.var 3, .n 0]⟩, ⟨27, .and, [.var 23, .var 25]⟩, ⟨26, .and, [.var 23, .var 24]⟩, ⟨25, .not, [.var 24]⟩, ⟨24, (.cmp .eql), [.var 2, .n 0]⟩, ⟨23, .not, [.var 22]⟩, ⟨22, .iteB, [.var 11, .t true, .var 21]⟩, ⟨21, (.cmp .neq), [.var 16, .var 3]⟩, ⟨20, .not, [.var 11]⟩, ⟨19, .not, [.var 11]⟩, ⟨18, .not, [.var 11]⟩, ⟨17, .imp, [.var 14, .var 15]⟩, ⟨15, (.call 133), [.var 3, .n 0, .n 1073741824]⟩, ⟨14, .not, [.var 11]⟩, ⟨13, .not, [.var 11]⟩, ⟨12, .not, [.var 11]⟩, ⟨11, (.cmp .neq), [.var 10, .n 0]⟩, ⟨5, (.call 58), [.var 0, .var 1]⟩], obs := [.var 50, .var 17, .var 5], known := [] }
theorem run_node_Right : run X_node_Right 2000 63 ([.one (.k (.int .i64 (.var 0))), .agg [.k (.int .i64 (.var 1)), .k (.int .i64 (.var 2)), .k (.int .i64 (.var 3)), .k (.int .i64 (.var 4))]]) ([]) 5 [] = some (.pv (.one (.k (.bool (.var 64)))), [{ own := true, ty := 42, es := 4, cells := [.k (.int .i64 (.var 1)), .k (.int .i64 (.var 2)), .k (.int .i64 (.var 3)), .k (.int .i64 (.var 4))] }, { own := true, ty := 42, es := 4, cells := [.k (.int .i64 (.var 6)), .k (.int .i64 (.var 7)), .k (.int .i64 (.var 8)), .k (.int .i64 (.var 9))] }], g_node_Right) := by kernel_rfl
theorem pure_node_Right (x0 : Int) (x1 : Int) (x2 : Int) (x3 : Int) (x4 : Int) (v5 : Bool) (v6 : Int) (v7 : Int) (v8 : Int) (v9 : Int) (v10 : Int) (v11 : Bool) (v12 : Bool) (v13 : Bool) (v14 : Bool) (v15 : Bool) (v16 : Int) (v17 : Bool) (v18 : Bool) (v19 : Bool) (v20 : Bool) (v21 : Bool) (v22 : Bool) (v23 : Bool) (v24 : Bool) (v25 : Bool) (v26 : Bool) (v27 : Bool) (v28 : Bool) (v29 : Bool) (v30 : Bool) (v31 : Bool) (v32 : Bool) (v33 : Bool) (v34 : Bool) (v35 : Bool) (v36 : Bool) (v37 : Bool) (v38 : Bool) (v39 : Bool) (v40 : Bool) (v41 : Bool) (v42 : Bool) (v43 : Bool) (v44 : Bool) (v45 : Bool) (v46 : Bool) (v47 : Bool) (v48 : Bool) (v49 : Int) (v50 : Bool) (v51 : Bool) (v52 : Bool) (v53 : Bool) (v54 : Bool) (v55 : Bool) (v56 : Bool) (v57 : Bool) (v58 : Bool) (v59 : Bool) (v60 : Bool) (v61 : Bool) (v62 : Bool) (v63 : Bool) (v64 : Bool) (v65 : Bool)
    (q5 : v5 = (true))
    (q6 : v6 = (((Day.freshN x0 x1)).id))
    (q7 : v7 = (((Day.freshN x0 x1)).mode))
    (q8 : v8 = (((Day.freshN x0 x1)).count))
    (q9 : v9 = (((Day.freshN x0 x1)).pos))
    (q10 : v10 = (Day.idE x0 x1))
    (q11 : v11 = ((v10 != (0 : Int))))
    (q12 : v12 = ((!v11)))
    (q13 : v13 = ((!v11)))
    (q14 : v14 = ((!v11)))
    (q15 : v15 = (true))
    (q16 : v16 = (Day.clampR x3 (0 : Int) (1073741824 : Int)))
    (q17 : v17 = ((!v14 || v15)))
    (q18 : v18 = ((!v11)))
    (q19 : v19 = ((!v11)))
    (q20 : v20 = ((!v11)))
    (q21 : v21 = ((v16 != x3)))
    (q22 : v22 = ((if v11 then true else v21)))
    (q23 : v23 = ((!v22)))
    (q24 : v24 = ((x2 == (0 : Int))))
    (q25 : v25 = ((!v24)))
    (q26 : v26 = ((v23 && v24)))
    (q27 : v27 = ((v23 && v25)))
    (q28 : v28 = ((x3 == (0 : Int))))
    (q29 : v29 = ((v26 && v28)))
    (q30 : v30 = ((v26 && v28)))
    (q31 : v31 = ((v26 && v28)))
    (q32 : v32 = ((x4 == (0 : Int))))
    (q33 : v33 = ((if v28 then v32 else false)))
    (q34 : v34 = ((x2 == (1 : Int))))
    (q35 : v35 = ((!v34)))
    (q36 : v36 = ((v27 && v34)))
    (q37 : v37 = ((v27 && v35)))
    (q38 : v38 = ((x2 == (2 : Int))))
    (q39 : v39 = ((if v34 then v34 else v38)))
    (q40 : v40 = ((!v39)))
    (q41 : v41 = ((v27 && v39)))
    (q42 : v42 = ((v27 && v40)))
    (q43 : v43 = ((x4 == (0 : Int))))
    (q44 : v44 = ((x2 == (3 : Int))))
    (q45 : v45 = ((!v44)))
    (q46 : v46 = ((v42 && v44)))
    (q47 : v47 = ((v42 && v45)))
    (q48 : v48 = (Day.modP x0 && Day.i64 x4))
    (q49 : v49 = (Day.modR x0 x4))
    (q50 : v50 = ((!v46 || v48)))
    (q51 : v51 = ((v49 == x4)))
    (q52 : v52 = ((v44 && v46)))
    (q53 : v53 = ((v45 && v47)))
    (q54 : v54 = ((if v39 then v43 else v51)))
    (q55 : v55 = ((if v39 then v41 else v52)))
    (q56 : v56 = ((v40 && v53)))
    (q57 : v57 = ((if v24 then v33 else v54)))
    (q58 : v58 = ((if v24 then v26 else v55)))
    (q59 : v59 = ((v25 && v56)))
    (q60 : v60 = ((!v59)))
    (q61 : v61 = ((if v59 then false else v57)))
    (q62 : v62 = ((if v59 then v59 else v58)))
    (q63 : v63 = ((!v23)))
    (q64 : v64 = ((if v23 then v61 else false)))
    (q65 : v65 = ((if v23 then v62 else v22)))
    (hp : (Day.ND.i64 (Day.ND.mk x1 x2 x3 x4)) = true)  :
    (v50 = true ∧ v17 = true ∧ v5 = true) ∧ (Day.rightN x0 (Day.ND.mk x1 x2 x3 x4) = v64) := by
  subst_vars
  simp only [Day.rightN, Day.idE, Day.right, Day.ND.i64, Day.i64, Day.clampR, Day.modP, Day.modR] at *
  by_cases hr : 3 ≤ x0 ∧ x0 ≤ 8
  · have hn2 : x0 = 3 ∨ x0 = 4 ∨ x0 = 5 ∨ x0 = 6 ∨ x0 = 7 ∨ x0 = 8 := by omega
    clear hr
    rcases hn2 with rfl | rfl | rfl | rfl | rfl | rfl
    all_goals
      simp at hp
      simp
      rw [Bool.eq_iff_iff]
      simp
      grind
  · have : (decide (3 ≤ x0) && decide (x0 ≤ 8)) = false := by simp; omega
    simp [this]
theorem bridge_node_Right {e : Nat → A} {al more : List A} (hlen : al.length = 5) (he : ∀ j a, (al ++ more)[j]? = some a → e j = a) (hd : ∀ d ∈ g_node_Right.defs, d.holds T e) (hp : (t_63 al).1 = true) :
    (∀ x ∈ g_node_Right.known, x.holds T e) ∧ (∀ o ∈ g_node_Right.obs, (o.ev e).bool = true) ∧ semMany (c_node_Right.rs.flatMap (·.2)) (t_63 al).2 = semMany (c_node_Right.rs.flatMap (·.2)) ([.var 64].map (L.ev e)) := by
  have y0 : gi al 0 = (e 0).int := gi_e he (by omega)
  have y1 : gi al 1 = (e 1).int := gi_e he (by omega)
  have y2 : gi al 2 = (e 2).int := gi_e he (by omega)
  have y3 : gi al 3 = (e 3).int := gi_e he (by omega)
  have y4 : gi al 4 = (e 4).int := gi_e he (by omega)
  obtain ⟨d65, d64, d63, d62, d61, d60, d59, d58, d57, d56, d55, d54, d53, d52, d51, d50, d48, d47, d46, d45, d44, d43, d42, d41, d40, d39, d38, d37, d36, d35, d34, d33, d32, d31, d30, d29, d28, d27, d26, d25, d24, d23, d22, d21, d20, d19, d18, d17, d15, d14, d13, d12, d11, d5, -⟩ : AllHold T e g_node_Right.defs := allHold_of hd
  have hpE : (t_63 al).1 = (Day.ND.i64 (Day.ND.mk (e 1).int (e 2).int (e 3).int (e 4).int)) := by simp only [t_63, y0, y1, y2, y3, y4]
  have hp := hpE.symm.trans hp
  have hoE : (t_63 al).2 = [.b (Day.rightN (e 0).int (Day.ND.mk (e 1).int (e 2).int (e 3).int (e 4).int))] := by simp only [t_63, y0, y1, y2, y3, y4]
  obtain ⟨ho, hr⟩ := pure_node_Right (e 0).int (e 1).int (e 2).int (e 3).int (e 4).int (e 5).bool (e 6).int (e 7).int (e 8).int (e 9).int (e 10).int (e 11).bool (e 12).bool (e 13).bool (e 14).bool (e 15).bool (e 16).int (e 17).bool (e 18).bool (e 19).bool (e 20).bool (e 21).bool (e 22).bool (e 23).bool (e 24).bool (e 25).bool (e 26).bool (e 27).bool (e 28).bool (e 29).bool (e 30).bool (e 31).bool (e 32).bool (e 33).bool (e 34).bool (e 35).bool (e 36).bool (e 37).bool (e 38).bool (e 39).bool (e 40).bool (e 41).bool (e 42).bool (e 43).bool (e 44).bool (e 45).bool (e 46).bool (e 47).bool (e 48).bool (e 49).int (e 50).bool (e 51).bool (e 52).bool (e 53).bool (e 54).bool (e 55).bool (e 56).bool (e 57).bool (e 58).bool (e 59).bool (e 60).bool (e 61).bool (e 62).bool (e 63).bool (e 64).bool (e 65).bool
    (q_pre T_58 d5)
    (q_outI T_58 0 d5 rfl)
    (q_outI T_58 1 d5 rfl)
    (q_outI T_58 2 d5 rfl)
    (q_outI T_58 3 d5 rfl)
    (q_outI T_58 4 d5 rfl)
    (q_cmp d11)
    (q_not d12)
    (q_not d13)
    (q_not d14)
    (q_pre T_133 d15)
    (q_outI T_133 0 d15 rfl)
    (q_imp d17)
    (q_not d18)
    (q_not d19)
    (q_not d20)
    (q_cmp d21)
    (q_iteB d22)
    (q_not d23)
    (q_cmp d24)
    (q_not d25)
    (q_and d26)
    (q_and d27)
    (q_cmp d28)
    (q_and d29)
    (q_and d30)
    (q_and d31)
    (q_cmp d32)
    (q_iteB d33)
    (q_cmp d34)
    (q_not d35)
    (q_and d36)
    (q_and d37)
    (q_cmp d38)
    (q_iteB d39)
    (q_not d40)
    (q_and d41)
    (q_and d42)
    (q_cmp d43)
    (q_cmp d44)
    (q_not d45)
    (q_and d46)
    (q_and d47)
    (q_pre T_33 d48)
    (q_outI T_33 0 d48 rfl)
    (q_imp d50)
    (q_cmp d51)
    (q_and d52)
    (q_and d53)
    (q_iteB d54)
    (q_iteB d55)
    (q_and d56)
    (q_iteB d57)
    (q_iteB d58)
    (q_and d59)
    (q_not d60)
    (q_iteB d61)
    (q_iteB d62)
    (q_not d63)
    (q_iteB d64)
    (q_iteB d65)
    hp
  obtain ⟨o0, o1, o2⟩ := ho
  have r0 := hr
  refine ⟨(fun x hx => by cases hx), obs_of (e := e) (l := g_node_Right.obs) ⟨o0, o1, o2, trivial⟩, ?_⟩
  rw [hoE]
  show semMany [.bool] [.b (Day.rightN (e 0).int (Day.ND.mk (e 1).int (e 2).int (e 3).int (e 4).int))] = semMany [.bool] [L.ev e (.var 64)]
  exact (semB r0 rfl)
theorem ctr_node_Right : CtrOK Try.prog T c_node_Right := by
  intro lits al vs w hok hag hargs hpre
  have hpre : (t_63 al).1 = true := by rw [← T_63]; exact hpre
  obtain ⟨hl, hlen⟩ := args_flat hargs rfl
  have hlen : al.length = 5 := hlen
  exact calls_of_run xok_node_Right widths (lits := []) (ns := []) (more := []) rfl run_node_Right (by kernel_rfl) (by kernel_rfl) rfl hargs hl (lit_none) (by rw [show c_node_Right.f = 63 from rfl, T_63]; rfl)
    fun e he hd => by rw [show c_node_Right.f = 63 from rfl, T_63]; exact bridge_node_Right hlen he hd hpre
end Rx.S
namespace Rx.S
open Go Rx Go.Proofs
set_option maxRecDepth 100000
set_option linter.unusedVariables false
def c_ref06_Right : Ctr := { f := 64, ps := [.c false [.int .i64], .c true [.int .i64, .int .i64, .int .i64, .int .i64]], rs := [(false, [.bool])], ok := fun _ => true }
noncomputable def fns_ref06_Right : List (Nat × Func) := [(51, Try.f51), (64, Try.f64)]
theorem fnsOk_ref06_Right : FnsAll Try.prog fns_ref06_Right := ⟨fn51, fn64, trivial⟩
noncomputable def X_ref06_Right : Ctx := { tys := tys, eqs := eqs, fns := fun f => look f fns_ref06_Right, ctr := [(51, c_ref03_Right)], lim := 30 }
theorem xok_ref06_Right : XOK Try.prog T X_ref06_Right where
  tys := tysOk
  eqs := eqsOk
  mixed := mixed
  ctr := ctrsOK_of ⟨⟨rfl, ctr_ref03_Right⟩, trivial⟩
  fns := fnsOK_of fnsOk_ref06_Right
def g_ref06_Right : G := { next := 87, defs := [⟨86, .iteB, [.var 39, .var 83, .var 38]⟩, ⟨85, .iteB, [.var 39, .var 82, .t false]⟩, ⟨84, .not, [.var 39]⟩, ⟨83, .iteB, [.var 73, .var 73, .var 72]⟩, ⟨82, .iteB, [.var 73, .var 80, .t false]⟩, ⟨81, .not, [.var 73]⟩, ⟨80, .iteB, [.var 74, .var 79, .t false]⟩, ⟨79, (.cmp .lss), [.var 4, .var 0]⟩, ⟨78, .and, [.var 73, .var 74]⟩, ⟨77, .and, [.var 73, .var 74]⟩, ⟨76, .and, [.var 73, .var 74]⟩, ⟨75, .and, [.var 73, .var 74]⟩, ⟨74, (.cmp .geq), [.var 4, .n 0]⟩, ⟨73, .and, [.var 69, .var 71]⟩, ⟨72, .and, [.var 68, .var 70]⟩, ⟨71, .and, [.var 39, .var 69]⟩, ⟨70, .and, [.var 39, .var 68]⟩, ⟨69, .not, [.var 68]⟩, ⟨68, .iteB, [.var 45, .t true, .var 67]⟩, ⟨67, .iteB, [.var 52, .var 64, .t false]⟩, ⟨66, .and, [.var 39, .var 65]⟩, ⟨65, .not, [.var 45]⟩, ⟨64, (.cmp .neq), [.var 4, .n 0]⟩, ⟨63, .and, [.var 61, .var 62]⟩, ⟨62, .not, [.var 45]⟩, ⟨61, .and, [.var 39, .var 52]⟩, ⟨60, .and, [.var 58, .var 59]⟩, ⟨59, .not, [.var 45]⟩, ⟨58, .and, [.var 39, .var 52]⟩, ⟨57, .and, [.var 55, .var 56]⟩, ⟨56, .not, [.var 45]⟩, ⟨55, .and, [.var 39, .var 52]⟩, ⟨54, .and, [.var 39, .var 53]⟩, ⟨53, .not, [.var 45]⟩, ⟨52, (.cmp .neq), [.var 2, .n 3]⟩, ⟨51, .and, [.var 39, .var 50]⟩, ⟨50, .not, [.var 45]⟩, ⟨49, .and, [.var 39, .var 48]⟩, ⟨48, .not, [.var 45]⟩, ⟨47, .and, [.var 39, .var 46]⟩, ⟨46, .not, [.var 45]⟩, ⟨45, .iteB, [.var 40, .var 44, .t false]⟩, ⟨44, (.cmp .neq), [.var 3, .n 0]⟩, ⟨43, .and, [.var 39, .var 40]⟩, ⟨42, .and, [.var 39, .var 40]⟩, ⟨41, .and, [.var 39, .var 40]⟩, ⟨40, (.cmp .eql), [.var 2, .n 0]⟩, ⟨39, .not, [.var 38]⟩, ⟨38, .iteB, [.var 33, .t true, .var 37]⟩, ⟨37, (.cmp .gtr), [.var 3, .n 1073741824]⟩, ⟨36, .not, [.var 33]⟩, ⟨35, .not, [.var 33]⟩, ⟨34, .not, [.var 33]⟩, ⟨33, .iteB, [.var 28, .t true, .var 32]⟩, ⟨32, (.cmp .lss), [.var 3, .n 0]⟩, ⟨31, .not, [.var 28]⟩, ⟨30, .not, [.var 28]⟩, ⟨29, .not, [.var 28]⟩, ⟨28, .iteB, [.var 23, .t true, .var 27]⟩, ⟨27, (.cmp .gtr), [.var 2, .n 3]⟩, ⟨26, .not, [.var 23]⟩, ⟨25, .not, [.var 23]⟩, ⟨24, .not, [.var 23]⟩, ⟨23, .iteB, [.var 18, .t true, .var 22]⟩, ⟨22, (.cmp .lss), [.var 2, .n 0]⟩, ⟨21, .not, [.var 18]⟩, ⟨20, .not, [.var 18]⟩, ⟨19, .not, [.var 18]⟩, ⟨18, .iteB, [.var 12, .t true, .var 17]⟩, ⟨17, (.cmp .geq), [.var 1, .var 0]⟩, ⟨16, .not, [.var 12]⟩, ⟨15, .not, [.var 12]⟩, ⟨14, .not, [.var 12]⟩, ⟨13, .not, [.var 12]⟩, ⟨12, .iteB, [.var 7, .t true, .var 11]⟩, ⟨11, (.cmp .lss), [.var 1, .n 0]⟩, ⟨10, .not, [.var 7]⟩, ⟨9, .not, [.var 7]⟩, ⟨8, .not, [.var 7]⟩, ⟨7, .not, [.var 6]⟩, ⟨5, (.call 51), [.var 0]⟩], obs := [.var 5], known := [] }
theorem run_ref06_Right : run X_ref06_Right 2000 64 ([.one (.k (.int .i64 (.var 0))), .agg [.k (.int .i64 (.var 1)), .k (.int .i64 (.var 2)), .k (.int .i64 (.var 3)), .k (.int .i64 (.var 4))]]) ([]) 5 [] = some (.pv (.one (.k (.bool (.var 85)))), [{ own := true, ty := 42, es := 4, cells := [.k (.int .i64 (.var 1)), .k (.int .i64 (.var 2)), .k (.int .i64 (.var 3)), .k (.int .i64 (.var 4))] }], g_ref06_Right) := by kernel_rfl
theorem pure_ref06_Right (x0 : Int) (x1 : Int) (x2 : Int) (x3 : Int) (x4 : Int) (v5 : Bool) (v6 : Bool) (v7 : Bool) (v8 : Bool) (v9 : Bool) (v10 : Bool) (v11 : Bool) (v12 : Bool) (v13 : Bool) (v14 : Bool) (v15 : Bool) (v16 : Bool) (v17 : Bool) (v18 : Bool) (v19 : Bool) (v20 : Bool) (v21 : Bool) (v22 : Bool) (v23 : Bool) (v24 : Bool) (v25 : Bool) (v26 : Bool) (v27 : Bool) (v28 : Bool) (v29 : Bool) (v30 : Bool) (v31 : Bool) (v32 : Bool) (v33 : Bool) (v34 : Bool) (v35 : Bool) (v36 : Bool) (v37 : Bool) (v38 : Bool) (v39 : Bool) (v40 : Bool) (v41 : Bool) (v42 : Bool) (v43 : Bool) (v44 : Bool) (v45 : Bool) (v46 : Bool) (v47 : Bool) (v48 : Bool) (v49 : Bool) (v50 : Bool) (v51 : Bool) (v52 : Bool) (v53 : Bool) (v54 : Bool) (v55 : Bool) (v56 : Bool) (v57 : Bool) (v58 : Bool) (v59 : Bool) (v60 : Bool) (v61 : Bool) (v62 : Bool) (v63 : Bool) (v64 : Bool) (v65 : Bool) (v66 : Bool) (v67 : Bool) (v68 : Bool) (v69 : Bool) (v70 : Bool) (v71 : Bool) (v72 : Bool) (v73 : Bool) (v74 : Bool) (v75 : Bool) (v76 : Bool) (v77 : Bool) (v78 : Bool) (v79 : Bool) (v80 : Bool) (v81 : Bool) (v82 : Bool) (v83 : Bool) (v84 : Bool) (v85 : Bool) (v86 : Bool)
    (q5 : v5 = (true))
    (q6 : v6 = (Day.right x0))
    (q7 : v7 = ((!v6)))
    (q8 : v8 = ((!v7)))
    (q9 : v9 = ((!v7)))
    (q10 : v10 = ((!v7)))
    (q11 : v11 = (decide (x1 < (0 : Int))))
    (q12 : v12 = ((if v7 then true else v11)))
    (q13 : v13 = ((!v12)))
    (q14 : v14 = ((!v12)))
    (q15 : v15 = ((!v12)))
    (q16 : v16 = ((!v12)))
    (q17 : v17 = (decide (x1 ≥ x0)))
    (q18 : v18 = ((if v12 then true else v17)))
    (q19 : v19 = ((!v18)))
    (q20 : v20 = ((!v18)))
    (q21 : v21 = ((!v18)))
    (q22 : v22 = (decide (x2 < (0 : Int))))
    (q23 : v23 = ((if v18 then true else v22)))
    (q24 : v24 = ((!v23)))
    (q25 : v25 = ((!v23)))
    (q26 : v26 = ((!v23)))
    (q27 : v27 = (decide (x2 > (3 : Int))))
    (q28 : v28 = ((if v23 then true else v27)))
    (q29 : v29 = ((!v28)))
    (q30 : v30 = ((!v28)))
    (q31 : v31 = ((!v28)))
    (q32 : v32 = (decide (x3 < (0 : Int))))
    (q33 : v33 = ((if v28 then true else v32)))
    (q34 : v34 = ((!v33)))
    (q35 : v35 = ((!v33)))
    (q36 : v36 = ((!v33)))
    (q37 : v37 = (decide (x3 > (1073741824 : Int))))
    (q38 : v38 = ((if v33 then true else v37)))
    (q39 : v39 = ((!v38)))
    (q40 : v40 = ((x2 == (0 : Int))))
    (q41 : v41 = ((v39 && v40)))
    (q42 : v42 = ((v39 && v40)))
    (q43 : v43 = ((v39 && v40)))
    (q44 : v44 = ((x3 != (0 : Int))))
    (q45 : v45 = ((if v40 then v44 else false)))
    (q46 : v46 = ((!v45)))
    (q47 : v47 = ((v39 && v46)))
    (q48 : v48 = ((!v45)))
    (q49 : v49 = ((v39 && v48)))
    (q50 : v50 = ((!v45)))
    (q51 : v51 = ((v39 && v50)))
    (q52 : v52 = ((x2 != (3 : Int))))
    (q53 : v53 = ((!v45)))
    (q54 : v54 = ((v39 && v53)))
    (q55 : v55 = ((v39 && v52)))
    (q56 : v56 = ((!v45)))
    (q57 : v57 = ((v55 && v56)))
    (q58 : v58 = ((v39 && v52)))
    (q59 : v59 = ((!v45)))
    (q60 : v60 = ((v58 && v59)))
    (q61 : v61 = ((v39 && v52)))
    (q62 : v62 = ((!v45)))
    (q63 : v63 = ((v61 && v62)))
    (q64 : v64 = ((x4 != (0 : Int))))
    (q65 : v65 = ((!v45)))
    (q66 : v66 = ((v39 && v65)))
    (q67 : v67 = ((if v52 then v64 else false)))
    (q68 : v68 = ((if v45 then true else v67)))
    (q69 : v69 = ((!v68)))
    (q70 : v70 = ((v39 && v68)))
    (q71 : v71 = ((v39 && v69)))
    (q72 : v72 = ((v68 && v70)))
    (q73 : v73 = ((v69 && v71)))
    (q74 : v74 = (decide (x4 ≥ (0 : Int))))
    (q75 : v75 = ((v73 && v74)))
    (q76 : v76 = ((v73 && v74)))
    (q77 : v77 = ((v73 && v74)))
    (q78 : v78 = ((v73 && v74)))
    (q79 : v79 = (decide (x4 < x0)))
    (q80 : v80 = ((if v74 then v79 else false)))
    (q81 : v81 = ((!v73)))
    (q82 : v82 = ((if v73 then v80 else false)))
    (q83 : v83 = ((if v73 then v73 else v72)))
    (q84 : v84 = ((!v39)))
    (q85 : v85 = ((if v39 then v82 else false)))
    (q86 : v86 = ((if v39 then v83 else v38)))
    (hp : (Day.ND.i64 (Day.ND.mk x1 x2 x3 x4)) = true)  :
    (v5 = true) ∧ (Day.rightN x0 (Day.ND.mk x1 x2 x3 x4) = v85) := by
  subst_vars
  simp only [Day.rightN, Day.right, Day.ND.i64, Day.i64] at *
  rw [Bool.eq_iff_iff]
  simp
  omega
theorem bridge_ref06_Right {e : Nat → A} {al more : List A} (hlen : al.length = 5) (he : ∀ j a, (al ++ more)[j]? = some a → e j = a) (hd : ∀ d ∈ g_ref06_Right.defs, d.holds T e) (hp : (t_64 al).1 = true) :
    (∀ x ∈ g_ref06_Right.known, x.holds T e) ∧ (∀ o ∈ g_ref06_Right.obs, (o.ev e).bool = true) ∧ semMany (c_ref06_Right.rs.flatMap (·.2)) (t_64 al).2 = semMany (c_ref06_Right.rs.flatMap (·.2)) ([.var 85].map (L.ev e)) := by
  have y0 : gi al 0 = (e 0).int := gi_e he (by omega)
  have y1 : gi al 1 = (e 1).int := gi_e he (by omega)
  have y2 : gi al 2 = (e 2).int := gi_e he (by omega)
  have y3 : gi al 3 = (e 3).int := gi_e he (by omega)
  have y4 : gi al 4 = (e 4).int := gi_e he (by omega)
  obtain ⟨d86, d85, d84, d83, d82, d81, d80, d79, d78, d77, d76, d75, d74, d73, d72, d71, d70, d69, d68, d67, d66, d65, d64, d63, d62, d61, d60, d59, d58, d57, d56, d55, d54, d53, d52, d51, d50, d49, d48, d47, d46, d45, d44, d43, d42, d41, d40, d39, d38, d37, d36, d35, d34, d33, d32, d31, d30, d29, d28, d27, d26, d25, d24, d23, d22, d21, d20, d19, d18, d17, d16, d15, d14, d13, d12, d11, d10, d9, d8, d7, d5, -⟩ : AllHold T e g_ref06_Right.defs := allHold_of hd
  have hpE : (t_64 al).1 = (Day.ND.i64 (Day.ND.mk (e 1).int (e 2).int (e 3).int (e 4).int)) := by simp only [t_64, y0, y1, y2, y3, y4]
  have hp := hpE.symm.trans hp
  have hoE : (t_64 al).2 = [.b (Day.rightN (e 0).int (Day.ND.mk (e 1).int (e 2).int (e 3).int (e 4).int))] := by simp only [t_64, y0, y1, y2, y3, y4]
  obtain ⟨ho, hr⟩ := pure_ref06_Right (e 0).int (e 1).int (e 2).int (e 3).int (e 4).int (e 5).bool (e 6).bool (e 7).bool (e 8).bool (e 9).bool (e 10).bool (e 11).bool (e 12).bool (e 13).bool (e 14).bool (e 15).bool (e 16).bool (e 17).bool (e 18).bool (e 19).bool (e 20).bool (e 21).bool (e 22).bool (e 23).bool (e 24).bool (e 25).bool (e 26).bool (e 27).bool (e 28).bool (e 29).bool (e 30).bool (e 31).bool (e 32).bool (e 33).bool (e 34).bool (e 35).bool (e 36).bool (e 37).bool (e 38).bool (e 39).bool (e 40).bool (e 41).bool (e 42).bool (e 43).bool (e 44).bool (e 45).bool (e 46).bool (e 47).bool (e 48).bool (e 49).bool (e 50).bool (e 51).bool (e 52).bool (e 53).bool (e 54).bool (e 55).bool (e 56).bool (e 57).bool (e 58).bool (e 59).bool (e 60).bool (e 61).bool (e 62).bool (e 63).bool (e 64).bool (e 65).bool (e 66).bool (e 67).bool (e 68).bool (e 69).bool (e 70).bool (e 71).bool (e 72).bool (e 73).bool (e 74).bool (e 75).bool (e 76).bool (e 77).bool (e 78).bool (e 79).bool (e 80).bool (e 81).bool (e 82).bool (e 83).bool (e 84).bool (e 85).bool (e 86).bool
    (q_pre T_51 d5)
    (q_outB T_51 0 d5 rfl)
    (q_not d7)
    (q_not d8)
    (q_not d9)
    (q_not d10)
    (q_cmp d11)
    (q_iteB d12)
    (q_not d13)
    (q_not d14)
    (q_not d15)
    (q_not d16)
    (q_cmp d17)
    (q_iteB d18)
    (q_not d19)
    (q_not d20)
    (q_not d21)
    (q_cmp d22)
    (q_iteB d23)
    (q_not d24)
    (q_not d25)
    (q_not d26)
    (q_cmp d27)
    (q_iteB d28)
    (q_not d29)
    (q_not d30)
    (q_not d31)
    (q_cmp d32)
    (q_iteB d33)
    (q_not d34)
    (q_not d35)
    (q_not d36)
    (q_cmp d37)
    (q_iteB d38)
    (q_not d39)
    (q_cmp d40)
    (q_and d41)
    (q_and d42)
    (q_and d43)
    (q_cmp d44)
    (q_iteB d45)
    (q_not d46)
    (q_and d47)
    (q_not d48)
    (q_and d49)
    (q_not d50)
    (q_and d51)
    (q_cmp d52)
    (q_not d53)
    (q_and d54)
    (q_and d55)
    (q_not d56)
    (q_and d57)
    (q_and d58)
    (q_not d59)
    (q_and d60)
    (q_and d61)
    (q_not d62)
    (q_and d63)
    (q_cmp d64)
    (q_not d65)
    (q_and d66)
    (q_iteB d67)
    (q_iteB d68)
    (q_not d69)
    (q_and d70)
    (q_and d71)
    (q_and d72)
    (q_and d73)
    (q_cmp d74)
    (q_and d75)
    (q_and d76)
    (q_and d77)
    (q_and d78)
    (q_cmp d79)
    (q_iteB d80)
    (q_not d81)
    (q_iteB d82)
    (q_iteB d83)
    (q_not d84)
    (q_iteB d85)
    (q_iteB d86)
    hp
  have o0 := ho
  have r0 := hr
  refine ⟨(fun x hx => by cases hx), obs_of (e := e) (l := g_ref06_Right.obs) ⟨o0, trivial⟩, ?_⟩
  rw [hoE]
  show semMany [.bool] [.b (Day.rightN (e 0).int (Day.ND.mk (e 1).int (e 2).int (e 3).int (e 4).int))] = semMany [.bool] [L.ev e (.var 85)]
  exact (semB r0 rfl)
theorem ctr_ref06_Right : CtrOK Try.prog T c_ref06_Right := by
  intro lits al vs w hok hag hargs hpre
  have hpre : (t_64 al).1 = true := by rw [← T_64]; exact hpre
  obtain ⟨hl, hlen⟩ := args_flat hargs rfl
  have hlen : al.length = 5 := hlen
  exact calls_of_run xok_ref06_Right widths (lits := []) (ns := []) (more := []) rfl run_ref06_Right (by kernel_rfl) (by kernel_rfl) rfl hargs hl (lit_none) (by rw [show c_ref06_Right.f = 64 from rfl, T_64]; rfl)
    fun e he hd => by rw [show c_ref06_Right.f = 64 from rfl, T_64]; exact bridge_ref06_Right hlen he hd hpre
end Rx.S
namespace Rx.S
open Go Rx Go.Proofs
set_option maxRecDepth 100000
set_option linter.unusedVariables false
def c_node_Clean : Ctr := { f := 60, ps := [.c false [.int .i64], .c false [.int .i64], .c true [.int .i64, .int .i64, .int .i64, .int .i64]], rs := [(true, [.int .i64, .int .i64, .int .i64, .int .i64]), (false, [.int .i64])], ok := fun _ => true }
noncomputable def fns_node_Clean : List (Nat × Func) := [(33, Try.f33), (58, Try.f58), (60, Try.f60), (133, Try.f133)]
theorem fnsOk_node_Clean : FnsAll Try.prog fns_node_Clean := ⟨fn33, fn58, fn60, fn133, trivial⟩
noncomputable def X_node_Clean : Ctx := { tys := tys, eqs := eqs, fns := fun f => look f fns_node_Clean, ctr := [(133, c_tally_Clamp), (33, c_ring_Mod), (58, c_node_Fresh)], lim := 30 }
theorem xok_node_Clean : XOK Try.prog T X_node_Clean where
  tys := tysOk
  eqs := eqsOk
  mixed := mixed
  ctr := ctrsOK_of ⟨⟨rfl, ctr_tally_Clamp⟩, ⟨rfl, ctr_ring_Mod⟩, ⟨rfl, ctr_node_Fresh⟩, trivial⟩
  fns := fnsOK_of fnsOk_node_Clean
def g_node_Clean : G := { next := 42, defs := [⟨41, .iteB, [.var 13, .var 13, .var 12]⟩, ⟨40, .iteI, [.var 13, .var 30, .n 0]⟩, ⟨39, .iteI, [.var 13, .var 15, .n 0]⟩, ⟨38, .iteI, [.var 13, .var 29, .n 0]⟩, ⟨37, .iteI, [.var 13, .var 1, .n 0]⟩, ⟨36, .iteI, [.var 13, .var 30, .var 5]⟩, ⟨35, .iteI, [.var 13, .var 15, .var 4]⟩, ⟨34, .iteI, [.var 13, .var 29, .var 3]⟩, ⟨33, .iteI, [.var 13, .var 1, .var 2]⟩, ⟨32, .iteI, [.var 13, .n 0, .var 11]⟩, ⟨31, .not, [.var 13]⟩, ⟨30, .iteI, [.var 17, .var 22, .n 0]⟩, ⟨29, .iteI, [.var 17, .var 3, .var 28]⟩, ⟨28, .iteI, [.var 24, .var 3, .n 1]⟩, ⟨27, .and, [.var 20, .var 25]⟩, ⟨26, .and, [.var 20, .var 24]⟩, ⟨25, .not, [.var 24]⟩, ⟨24, (.cmp .eql), [.var 3, .n 2]⟩, ⟨23, .imp, [.var 19, .var 21]⟩, ⟨21, (.call 33), [.var 0, .var 5]⟩, ⟨20, .and, [.var 13, .var 18]⟩, ⟨19, .and, [.var 13, .var 17]⟩, ⟨18, .not, [.var 17]⟩, ⟨17, (.cmp .eql), [.var 3, .n 3]⟩, ⟨16, .imp, [.var 13, .var 14]⟩, ⟨14, (.call 133), [.var 4, .n 0, .n 1073741824]⟩, ⟨13, .not, [.var 12]⟩, ⟨12, (.cmp .neq), [.var 11, .n 0]⟩, ⟨6, (.call 58), [.var 0, .var 1]⟩], obs := [.var 23, .var 16, .var 6], known := [] }
theorem run_node_Clean : run X_node_Clean 2000 60 ([.one (.k (.int .i64 (.var 0))), .one (.k (.int .i64 (.var 1))), .agg [.k (.int .i64 (.var 2)), .k (.int .i64 (.var 3)), .k (.int .i64 (.var 4)), .k (.int .i64 (.var 5))]]) ([]) 6 [] = some (.tup [.agg [.k (.int .i64 (.var 37)), .k (.int .i64 (.var 38)), .k (.int .i64 (.var 39)), .k (.int .i64 (.var 40))], .one (.k (.int .i64 (.var 32)))], [{ own := true, ty := 42, es := 4, cells := [.k (.int .i64 (.var 33)), .k (.int .i64 (.var 34)), .k (.int .i64 (.var 35)), .k (.int .i64 (.var 36))] }, { own := true, ty := 42, es := 4, cells := [.k (.int .i64 (.var 37)), .k (.int .i64 (.var 38)), .k (.int .i64 (.var 39)), .k (.int .i64 (.var 40))] }, { own := true, ty := 42, es := 4, cells := [.k (.int .i64 (.var 7)), .k (.int .i64 (.var 8)), .k (.int .i64 (.var 9)), .k (.int .i64 (.var 10))] }], g_node_Clean) := by kernel_rfl
theorem pure_node_Clean (x0 : Int) (x1 : Int) (x2 : Int) (x3 : Int) (x4 : Int) (x5 : Int) (v6 : Bool) (v7 : Int) (v8 : Int) (v9 : Int) (v10 : Int) (v11 : Int) (v12 : Bool) (v13 : Bool) (v14 : Bool) (v15 : Int) (v16 : Bool) (v17 : Bool) (v18 : Bool) (v19 : Bool) (v20 : Bool) (v21 : Bool) (v22 : Int) (v23 : Bool) (v24 : Bool) (v25 : Bool) (v26 : Bool) (v27 : Bool) (v28 : Int) (v29 : Int) (v30 : Int) (v31 : Bool) (v32 : Int) (v33 : Int) (v34 : Int) (v35 : Int) (v36 : Int) (v37 : Int) (v38 : Int) (v39 : Int) (v40 : Int) (v41 : Bool)
    (q6 : v6 = (true))
    (q7 : v7 = (((Day.freshN x0 x1)).id))
    (q8 : v8 = (((Day.freshN x0 x1)).mode))
    (q9 : v9 = (((Day.freshN x0 x1)).count))
    (q10 : v10 = (((Day.freshN x0 x1)).pos))
    (q11 : v11 = (Day.idE x0 x1))
    (q12 : v12 = ((v11 != (0 : Int))))
    (q13 : v13 = ((!v12)))
    (q14 : v14 = (true))
    (q15 : v15 = (Day.clampR x4 (0 : Int) (1073741824 : Int)))
    (q16 : v16 = ((!v13 || v14)))
    (q17 : v17 = ((x3 == (3 : Int))))
    (q18 : v18 = ((!v17)))
    (q19 : v19 = ((v13 && v17)))
    (q20 : v20 = ((v13 && v18)))
    (q21 : v21 = (Day.modP x0 && Day.i64 x5))
    (q22 : v22 = (Day.modR x0 x5))
    (q23 : v23 = ((!v19 || v21)))
    (q24 : v24 = ((x3 == (2 : Int))))
    (q25 : v25 = ((!v24)))
    (q26 : v26 = ((v20 && v24)))
    (q27 : v27 = ((v20 && v25)))
    (q28 : v28 = ((if v24 then x3 else (1 : Int))))
    (q29 : v29 = ((if v17 then x3 else v28)))
    (q30 : v30 = ((if v17 then v22 else (0 : Int))))
    (q31 : v31 = ((!v13)))
    (q32 : v32 = ((if v13 then (0 : Int) else v11)))
    (q33 : v33 = ((if v13 then x1 else x2)))
    (q34 : v34 = ((if v13 then v29 else x3)))
    (q35 : v35 = ((if v13 then v15 else x4)))
    (q36 : v36 = ((if v13 then v30 else x5)))
    (q37 : v37 = ((if v13 then x1 else (0 : Int))))
    (q38 : v38 = ((if v13 then v29 else (0 : Int))))
    (q39 : v39 = ((if v13 then v15 else (0 : Int))))
    (q40 : v40 = ((if v13 then v30 else (0 : Int))))
    (q41 : v41 = ((if v13 then v13 else v12)))
    (hp : (Day.ND.i64 (Day.ND.mk x2 x3 x4 x5)) = true)  :
    (v23 = true ∧ v16 = true ∧ v6 = true) ∧ (((Day.cleanN x0 x1 (Day.ND.mk x2 x3 x4 x5))).id = v37 ∧ ((Day.cleanN x0 x1 (Day.ND.mk x2 x3 x4 x5))).mode = v38 ∧ ((Day.cleanN x0 x1 (Day.ND.mk x2 x3 x4 x5))).count = v39 ∧ ((Day.cleanN x0 x1 (Day.ND.mk x2 x3 x4 x5))).pos = v40 ∧ Day.idE x0 x1 = v32) := by
  grind [Day.clampR, Day.upR, Day.downR, Day.sm, Day.i64, Day.u8, Day.u16, Day.u32, Day.right, Day.times, Day.ownE, Day.ownR, Day.idE, Day.freshN, Day.noND, Day.cleanN, Day.wakeN, Day.rightN, Day.ND.i64, Day.waitR, Day.dueR, Day.ofR, Day.ofE, Day.noFr, wrap64, Day.modP, Day.modR, Day.slotP, Day.nextR, Day.atP, Day.atR, Day.aheadP, Day.aheadR]
theorem bridge_node_Clean {e : Nat → A} {al more : List A} (hlen : al.length = 6) (he : ∀ j a, (al ++ more)[j]? = some a → e j = a) (hd : ∀ d ∈ g_node_Clean.defs, d.holds T e) (hp : (t_60 al).1 = true) :
    (∀ x ∈ g_node_Clean.known, x.holds T e) ∧ (∀ o ∈ g_node_Clean.obs, (o.ev e).bool = true) ∧ semMany (c_node_Clean.rs.flatMap (·.2)) (t_60 al).2 = semMany (c_node_Clean.rs.flatMap (·.2)) ([.var 37, .var 38, .var 39, .var 40, .var 32].map (L.ev e)) := by
  have y0 : gi al 0 = (e 0).int := gi_e he (by omega)
  have y1 : gi al 1 = (e 1).int := gi_e he (by omega)
  have y2 : gi al 2 = (e 2).int := gi_e he (by omega)
  have y3 : gi al 3 = (e 3).int := gi_e he (by omega)
  have y4 : gi al 4 = (e 4).int := gi_e he (by omega)
  have y5 : gi al 5 = (e 5).int := gi_e he (by omega)
  obtain ⟨d41, d40, d39, d38, d37, d36, d35, d34, d33, d32, d31, d30, d29, d28, d27, d26, d25, d24, d23, d21, d20, d19, d18, d17, d16, d14, d13, d12, d6, -⟩ : AllHold T e g_node_Clean.defs := allHold_of hd
  have hpE : (t_60 al).1 = (Day.ND.i64 (Day.ND.mk (e 2).int (e 3).int (e 4).int (e 5).int)) := by simp only [t_60, y0, y1, y2, y3, y4, y5]
  have hp := hpE.symm.trans hp
  have hoE : (t_60 al).2 = [.i (((Day.cleanN (e 0).int (e 1).int (Day.ND.mk (e 2).int (e 3).int (e 4).int (e 5).int))).id), .i (((Day.cleanN (e 0).int (e 1).int (Day.ND.mk (e 2).int (e 3).int (e 4).int (e 5).int))).mode), .i (((Day.cleanN (e 0).int (e 1).int (Day.ND.mk (e 2).int (e 3).int (e 4).int (e 5).int))).count), .i (((Day.cleanN (e 0).int (e 1).int (Day.ND.mk (e 2).int (e 3).int (e 4).int (e 5).int))).pos), .i (Day.idE (e 0).int (e 1).int)] := by simp only [t_60, y0, y1, y2, y3, y4, y5]
  obtain ⟨ho, hr⟩ := pure_node_Clean (e 0).int (e 1).int (e 2).int (e 3).int (e 4).int (e 5).int (e 6).bool (e 7).int (e 8).int (e 9).int (e 10).int (e 11).int (e 12).bool (e 13).bool (e 14).bool (e 15).int (e 16).bool (e 17).bool (e 18).bool (e 19).bool (e 20).bool (e 21).bool (e 22).int (e 23).bool (e 24).bool (e 25).bool (e 26).bool (e 27).bool (e 28).int (e 29).int (e 30).int (e 31).bool (e 32).int (e 33).int (e 34).int (e 35).int (e 36).int (e 37).int (e 38).int (e 39).int (e 40).int (e 41).bool
    (q_pre T_58 d6)
    (q_outI T_58 0 d6 rfl)
    (q_outI T_58 1 d6 rfl)
    (q_outI T_58 2 d6 rfl)
    (q_outI T_58 3 d6 rfl)
    (q_outI T_58 4 d6 rfl)
    (q_cmp d12)
    (q_not d13)
    (q_pre T_133 d14)
    (q_outI T_133 0 d14 rfl)
    (q_imp d16)
    (q_cmp d17)
    (q_not d18)
    (q_and d19)
    (q_and d20)
    (q_pre T_33 d21)
    (q_outI T_33 0 d21 rfl)
    (q_imp d23)
    (q_cmp d24)
    (q_not d25)
    (q_and d26)
    (q_and d27)
    (q_iteI d28)
    (q_iteI d29)
    (q_iteI d30)
    (q_not d31)
    (q_iteI d32)
    (q_iteI d33)
    (q_iteI d34)
    (q_iteI d35)
    (q_iteI d36)
    (q_iteI d37)
    (q_iteI d38)
    (q_iteI d39)
    (q_iteI d40)
    (q_iteB d41)
    hp
  obtain ⟨o0, o1, o2⟩ := ho
  obtain ⟨r0, r1, r2, r3, r4⟩ := hr
  refine ⟨(fun x hx => by cases hx), obs_of (e := e) (l := g_node_Clean.obs) ⟨o0, o1, o2, trivial⟩, ?_⟩
  rw [hoE]
  show semMany [.int .i64, .int .i64, .int .i64, .int .i64, .int .i64] [.i (((Day.cleanN (e 0).int (e 1).int (Day.ND.mk (e 2).int (e 3).int (e 4).int (e 5).int))).id), .i (((Day.cleanN (e 0).int (e 1).int (Day.ND.mk (e 2).int (e 3).int (e 4).int (e 5).int))).mode), .i (((Day.cleanN (e 0).int (e 1).int (Day.ND.mk (e 2).int (e 3).int (e 4).int (e 5).int))).count), .i (((Day.cleanN (e 0).int (e 1).int (Day.ND.mk (e 2).int (e 3).int (e 4).int (e 5).int))).pos), .i (Day.idE (e 0).int (e 1).int)] = semMany [.int .i64, .int .i64, .int .i64, .int .i64, .int .i64] [L.ev e (.var 37), L.ev e (.var 38), L.ev e (.var 39), L.ev e (.var 40), L.ev e (.var 32)]
  exact (semI r0 (semI r1 (semI r2 (semI r3 (semI r4 rfl)))))
theorem ctr_node_Clean : CtrOK Try.prog T c_node_Clean := by
  intro lits al vs w hok hag hargs hpre
  have hpre : (t_60 al).1 = true := by rw [← T_60]; exact hpre
  obtain ⟨hl, hlen⟩ := args_flat hargs rfl
  have hlen : al.length = 6 := hlen
  exact calls_of_run xok_node_Clean widths (lits := []) (ns := []) (more := []) rfl run_node_Clean (by kernel_rfl) (by kernel_rfl) rfl hargs hl (lit_none) (by rw [show c_node_Clean.f = 60 from rfl, T_60]; rfl)
    fun e he hd => by rw [show c_node_Clean.f = 60 from rfl, T_60]; exact bridge_node_Clean hlen he hd hpre
end Rx.S
namespace Rx.S
open Go Rx Go.Proofs
set_option maxRecDepth 100000
set_option linter.unusedVariables false
def c_node_Wake : Ctr := { f := 65, ps := [.c true [.int .i64, .int .i64, .int .i64, .int .i64]], rs := [(true, [.int .i64, .int .i64, .int .i64, .int .i64])], ok := fun _ => true }
noncomputable def fns_node_Wake : List (Nat × Func) := [(65, Try.f65)]
theorem fnsOk_node_Wake : FnsAll Try.prog fns_node_Wake := ⟨fn65, trivial⟩
noncomputable def X_node_Wake : Ctx := { tys := tys, eqs := eqs, fns := fun f => look f fns_node_Wake, ctr := [], lim := 30 }
theorem xok_node_Wake : XOK Try.prog T X_node_Wake where
  tys := tysOk
  eqs := eqsOk
  mixed := mixed
  ctr := ctrsOK_of trivial
  fns := fnsOK_of fnsOk_node_Wake
def g_node_Wake : G := { next := 4, defs := [], obs := [], known := [] }
theorem run_node_Wake : run X_node_Wake 2000 65 ([.agg [.k (.int .i64 (.var 0)), .k (.int .i64 (.var 1)), .k (.int .i64 (.var 2)), .k (.int .i64 (.var 3))]]) ([]) 4 [] = some (.pv (.agg [.k (.int .i64 (.var 0)), .k (.int .i64 (.n 1)), .k (.int .i64 (.n 0)), .k (.int .i64 (.n 0))]), [{ own := true, ty := 42, es := 4, cells := [.k (.int .i64 (.var 0)), .k (.int .i64 (.n 1)), .k (.int .i64 (.n 0)), .k (.int .i64 (.n 0))] }, { own := true, ty := 42, es := 4, cells := [.k (.int .i64 (.var 0)), .k (.int .i64 (.n 1)), .k (.int .i64 (.n 0)), .k (.int .i64 (.n 0))] }], g_node_Wake) := by kernel_rfl
theorem pure_node_Wake (x0 : Int) (x1 : Int) (x2 : Int) (x3 : Int)
    (hp : (true) = true)  :
    (True) ∧ (((Day.wakeN (Day.ND.mk x0 x1 x2 x3))).id = x0 ∧ ((Day.wakeN (Day.ND.mk x0 x1 x2 x3))).mode = (1 : Int) ∧ ((Day.wakeN (Day.ND.mk x0 x1 x2 x3))).count = (0 : Int) ∧ ((Day.wakeN (Day.ND.mk x0 x1 x2 x3))).pos = (0 : Int)) := by
  grind [Day.clampR, Day.upR, Day.downR, Day.sm, Day.i64, Day.u8, Day.u16, Day.u32, Day.right, Day.times, Day.ownE, Day.ownR, Day.idE, Day.freshN, Day.noND, Day.cleanN, Day.wakeN, Day.rightN, Day.ND.i64, Day.waitR, Day.dueR, Day.ofR, Day.ofE, Day.noFr, wrap64, Day.modP, Day.modR, Day.slotP, Day.nextR, Day.atP, Day.atR, Day.aheadP, Day.aheadR]
theorem bridge_node_Wake {e : Nat → A} {al more : List A} (hlen : al.length = 4) (he : ∀ j a, (al ++ more)[j]? = some a → e j = a) (hd : ∀ d ∈ g_node_Wake.defs, d.holds T e) (hp : (t_65 al).1 = true) :
    (∀ x ∈ g_node_Wake.known, x.holds T e) ∧ (∀ o ∈ g_node_Wake.obs, (o.ev e).bool = true) ∧ semMany (c_node_Wake.rs.flatMap (·.2)) (t_65 al).2 = semMany (c_node_Wake.rs.flatMap (·.2)) ([.var 0, .n 1, .n 0, .n 0].map (L.ev e)) := by
  have y0 : gi al 0 = (e 0).int := gi_e he (by omega)
  have y1 : gi al 1 = (e 1).int := gi_e he (by omega)
  have y2 : gi al 2 = (e 2).int := gi_e he (by omega)
  have y3 : gi al 3 = (e 3).int := gi_e he (by omega)
  have hpE : (t_65 al).1 = (true) := by simp only [t_65, y0, y1, y2, y3]
  have hp := hpE.symm.trans hp
  have hoE : (t_65 al).2 = [.i (((Day.wakeN (Day.ND.mk (e 0).int (e 1).int (e 2).int (e 3).int))).id), .i (((Day.wakeN (Day.ND.mk (e 0).int (e 1).int (e 2).int (e 3).int))).mode), .i (((Day.wakeN (Day.ND.mk (e 0).int (e 1).int (e 2).int (e 3).int))).count), .i (((Day.wakeN (Day.ND.mk (e 0).int (e 1).int (e 2).int (e 3).int))).pos)] := by simp only [t_65, y0, y1, y2, y3]
  obtain ⟨ho, hr⟩ := pure_node_Wake (e 0).int (e 1).int (e 2).int (e 3).int
    hp
  obtain ⟨r0, r1, r2, r3⟩ := hr
  refine ⟨(fun x hx => by cases hx), obs_of (e := e) (l := g_node_Wake.obs) trivial, ?_⟩
  rw [hoE]
  show semMany [.int .i64, .int .i64, .int .i64, .int .i64] [.i (((Day.wakeN (Day.ND.mk (e 0).int (e 1).int (e 2).int (e 3).int))).id), .i (((Day.wakeN (Day.ND.mk (e 0).int (e 1).int (e 2).int (e 3).int))).mode), .i (((Day.wakeN (Day.ND.mk (e 0).int (e 1).int (e 2).int (e 3).int))).count), .i (((Day.wakeN (Day.ND.mk (e 0).int (e 1).int (e 2).int (e 3).int))).pos)] = semMany [.int .i64, .int .i64, .int .i64, .int .i64] [L.ev e (.var 0), L.ev e (.n 1), L.ev e (.n 0), L.ev e (.n 0)]
  exact (semI r0 (semI r1 (semI r2 (semI r3 rfl))))
theorem ctr_node_Wake : CtrOK Try.prog T c_node_Wake := by
  intro lits al vs w hok hag hargs hpre
  have hpre : (t_65 al).1 = true := by rw [← T_65]; exact hpre
  obtain ⟨hl, hlen⟩ := args_flat hargs rfl
  have hlen : al.length = 4 := hlen
  exact calls_of_run xok_node_Wake widths (lits := []) (ns := []) (more := []) rfl run_node_Wake (by kernel_rfl) (by kernel_rfl) rfl hargs hl (lit_none) (by rw [show c_node_Wake.f = 65 from rfl, T_65]; rfl)
    fun e he hd => by rw [show c_node_Wake.f = 65 from rfl, T_65]; exact bridge_node_Wake hlen he hd hpre
end Rx.S
namespace Rx.S
open Go Rx Go.Proofs
set_option maxRecDepth 100000
set_option linter.unusedVariables false
def c_ref06_Fresh : Ctr := { f := 59, ps := [.c false [.int .i64], .c false [.int .i64]], rs := [(true, [.int .i64, .int .i64, .int .i64, .int .i64]), (false, [.int .i64])], ok := fun _ => true }
noncomputable def fns_ref06_Fresh : List (Nat × Func) := [(51, Try.f51), (59, Try.f59)]
theorem fnsOk_ref06_Fresh : FnsAll Try.prog fns_ref06_Fresh := ⟨fn51, fn59, trivial⟩
noncomputable def X_ref06_Fresh : Ctx := { tys := tys, eqs := eqs, fns := fun f => look f fns_ref06_Fresh, ctr := [(51, c_ref03_Right)], lim := 30 }
theorem xok_ref06_Fresh : XOK Try.prog T X_ref06_Fresh where
  tys := tysOk
  eqs := eqsOk
  mixed := mixed
  ctr := ctrsOK_of ⟨⟨rfl, ctr_ref03_Right⟩, trivial⟩
  fns := fnsOK_of fnsOk_ref06_Fresh
def g_ref06_Fresh : G := { next := 28, defs := [⟨27, .iteB, [.var 5, .var 23, .var 4]⟩, ⟨26, .iteI, [.var 5, .var 22, .n 0]⟩, ⟨25, .iteI, [.var 5, .var 21, .n 1]⟩, ⟨24, .not, [.var 5]⟩, ⟨23, .iteB, [.var 19, .var 19, .var 18]⟩, ⟨22, .iteI, [.var 19, .var 1, .n 0]⟩, ⟨21, .iteI, [.var 19, .n 0, .n 2]⟩, ⟨20, .not, [.var 19]⟩, ⟨19, .and, [.var 15, .var 17]⟩, ⟨18, .and, [.var 14, .var 16]⟩, ⟨17, .and, [.var 5, .var 15]⟩, ⟨16, .and, [.var 5, .var 14]⟩, ⟨15, .not, [.var 14]⟩, ⟨14, .iteB, [.var 6, .t true, .var 13]⟩, ⟨13, (.cmp .geq), [.var 1, .var 0]⟩, ⟨12, .and, [.var 5, .var 11]⟩, ⟨11, .not, [.var 6]⟩, ⟨10, .and, [.var 5, .var 9]⟩, ⟨9, .not, [.var 6]⟩, ⟨8, .and, [.var 5, .var 7]⟩, ⟨7, .not, [.var 6]⟩, ⟨6, (.cmp .lss), [.var 1, .n 0]⟩, ⟨5, .not, [.var 4]⟩, ⟨4, .not, [.var 3]⟩, ⟨2, (.call 51), [.var 0]⟩], obs := [.var 2], known := [] }
theorem run_ref06_Fresh : run X_ref06_Fresh 2000 59 ([.one (.k (.int .i64 (.var 0))), .one (.k (.int .i64 (.var 1)))]) ([]) 2 [] = some (.tup [.agg [.k (.int .i64 (.var 26)), .k (.int .i64 (.n 0)), .k (.int .i64 (.n 0)), .k (.int .i64 (.n 0))], .one (.k (.int .i64 (.var 25)))], [{ own := true, ty := 42, es := 4, cells := [.k (.int .i64 (.var 26)), .k (.int .i64 (.n 0)), .k (.int .i64 (.n 0)), .k (.int .i64 (.n 0))] }], g_ref06_Fresh) := by kernel_rfl
theorem pure_ref06_Fresh (x0 : Int) (x1 : Int) (v2 : Bool) (v3 : Bool) (v4 : Bool) (v5 : Bool) (v6 : Bool) (v7 : Bool) (v8 : Bool) (v9 : Bool) (v10 : Bool) (v11 : Bool) (v12 : Bool) (v13 : Bool) (v14 : Bool) (v15 : Bool) (v16 : Bool) (v17 : Bool) (v18 : Bool) (v19 : Bool) (v20 : Bool) (v21 : Int) (v22 : Int) (v23 : Bool) (v24 : Bool) (v25 : Int) (v26 : Int) (v27 : Bool)
    (q2 : v2 = (true))
    (q3 : v3 = (Day.right x0))
    (q4 : v4 = ((!v3)))
    (q5 : v5 = ((!v4)))
    (q6 : v6 = (decide (x1 < (0 : Int))))
    (q7 : v7 = ((!v6)))
    (q8 : v8 = ((v5 && v7)))
    (q9 : v9 = ((!v6)))
    (q10 : v10 = ((v5 && v9)))
    (q11 : v11 = ((!v6)))
    (q12 : v12 = ((v5 && v11)))
    (q13 : v13 = (decide (x1 ≥ x0)))
    (q14 : v14 = ((if v6 then true else v13)))
    (q15 : v15 = ((!v14)))
    (q16 : v16 = ((v5 && v14)))
    (q17 : v17 = ((v5 && v15)))
    (q18 : v18 = ((v14 && v16)))
    (q19 : v19 = ((v15 && v17)))
    (q20 : v20 = ((!v19)))
    (q21 : v21 = ((if v19 then (0 : Int) else (2 : Int))))
    (q22 : v22 = ((if v19 then x1 else (0 : Int))))
    (q23 : v23 = ((if v19 then v19 else v18)))
    (q24 : v24 = ((!v5)))
    (q25 : v25 = ((if v5 then v21 else (1 : Int))))
    (q26 : v26 = ((if v5 then v22 else (0 : Int))))
    (q27 : v27 = ((if v5 then v23 else v4)))
    (hp : (true) = true)  :
    (v2 = true) ∧ (((Day.freshN x0 x1)).id = v26 ∧ ((Day.freshN x0 x1)).mode = (0 : Int) ∧ ((Day.freshN x0 x1)).count = (0 : Int) ∧ ((Day.freshN x0 x1)).pos = (0 : Int) ∧ Day.idE x0 x1 = v25) := by
  grind [Day.clampR, Day.upR, Day.downR, Day.sm, Day.i64, Day.u8, Day.u16, Day.u32, Day.right, Day.times, Day.ownE, Day.ownR, Day.idE, Day.freshN, Day.noND, Day.cleanN, Day.wakeN, Day.rightN, Day.ND.i64, Day.waitR, Day.dueR, Day.ofR, Day.ofE, Day.noFr, wrap64, Day.modP, Day.modR, Day.slotP, Day.nextR, Day.atP, Day.atR, Day.aheadP, Day.aheadR]
theorem bridge_ref06_Fresh {e : Nat → A} {al more : List A} (hlen : al.length = 2) (he : ∀ j a, (al ++ more)[j]? = some a → e j = a) (hd : ∀ d ∈ g_ref06_Fresh.defs, d.holds T e) (hp : (t_59 al).1 = true) :
    (∀ x ∈ g_ref06_Fresh.known, x.holds T e) ∧ (∀ o ∈ g_ref06_Fresh.obs, (o.ev e).bool = true) ∧ semMany (c_ref06_Fresh.rs.flatMap (·.2)) (t_59 al).2 = semMany (c_ref06_Fresh.rs.flatMap (·.2)) ([.var 26, .n 0, .n 0, .n 0, .var 25].map (L.ev e)) := by
  have y0 : gi al 0 = (e 0).int := gi_e he (by omega)
  have y1 : gi al 1 = (e 1).int := gi_e he (by omega)
  obtain ⟨d27, d26, d25, d24, d23, d22, d21, d20, d19, d18, d17, d16, d15, d14, d13, d12, d11, d10, d9, d8, d7, d6, d5, d4, d2, -⟩ : AllHold T e g_ref06_Fresh.defs := allHold_of hd
  have hpE : (t_59 al).1 = (true) := by simp only [t_59, y0, y1]
  have hp := hpE.symm.trans hp
  have hoE : (t_59 al).2 = [.i (((Day.freshN (e 0).int (e 1).int)).id), .i (((Day.freshN (e 0).int (e 1).int)).mode), .i (((Day.freshN (e 0).int (e 1).int)).count), .i (((Day.freshN (e 0).int (e 1).int)).pos), .i (Day.idE (e 0).int (e 1).int)] := by simp only [t_59, y0, y1]
  obtain ⟨ho, hr⟩ := pure_ref06_Fresh (e 0).int (e 1).int (e 2).bool (e 3).bool (e 4).bool (e 5).bool (e 6).bool (e 7).bool (e 8).bool (e 9).bool (e 10).bool (e 11).bool (e 12).bool (e 13).bool (e 14).bool (e 15).bool (e 16).bool (e 17).bool (e 18).bool (e 19).bool (e 20).bool (e 21).int (e 22).int (e 23).bool (e 24).bool (e 25).int (e 26).int (e 27).bool
    (q_pre T_51 d2)
    (q_outB T_51 0 d2 rfl)
    (q_not d4)
    (q_not d5)
    (q_cmp d6)
    (q_not d7)
    (q_and d8)
    (q_not d9)
    (q_and d10)
    (q_not d11)
    (q_and d12)
    (q_cmp d13)
    (q_iteB d14)
    (q_not d15)
    (q_and d16)
    (q_and d17)
    (q_and d18)
    (q_and d19)
    (q_not d20)
    (q_iteI d21)
    (q_iteI d22)
    (q_iteB d23)
    (q_not d24)
    (q_iteI d25)
    (q_iteI d26)
    (q_iteB d27)
    hp
  have o0 := ho
  obtain ⟨r0, r1, r2, r3, r4⟩ := hr
  refine ⟨(fun x hx => by cases hx), obs_of (e := e) (l := g_ref06_Fresh.obs) ⟨o0, trivial⟩, ?_⟩
  rw [hoE]
  show semMany [.int .i64, .int .i64, .int .i64, .int .i64, .int .i64] [.i (((Day.freshN (e 0).int (e 1).int)).id), .i (((Day.freshN (e 0).int (e 1).int)).mode), .i (((Day.freshN (e 0).int (e 1).int)).count), .i (((Day.freshN (e 0).int (e 1).int)).pos), .i (Day.idE (e 0).int (e 1).int)] = semMany [.int .i64, .int .i64, .int .i64, .int .i64, .int .i64] [L.ev e (.var 26), L.ev e (.n 0), L.ev e (.n 0), L.ev e (.n 0), L.ev e (.var 25)]
  exact (semI r0 (semI r1 (semI r2 (semI r3 (semI r4 rfl)))))
theorem ctr_ref06_Fresh : CtrOK Try.prog T c_ref06_Fresh := by
  intro lits al vs w hok hag hargs hpre
  have hpre : (t_59 al).1 = true := by rw [← T_59]; exact hpre
  obtain ⟨hl, hlen⟩ := args_flat hargs rfl
  have hlen : al.length = 2 := hlen
  exact calls_of_run xok_ref06_Fresh widths (lits := []) (ns := []) (more := []) rfl run_ref06_Fresh (by kernel_rfl) (by kernel_rfl) rfl hargs hl (lit_none) (by rw [show c_ref06_Fresh.f = 59 from rfl, T_59]; rfl)
    fun e he hd => by rw [show c_ref06_Fresh.f = 59 from rfl, T_59]; exact bridge_ref06_Fresh hlen he hd hpre
end Rx.S
namespace Rx.S
open Go Rx Go.Proofs
set_option maxRecDepth 100000
set_option linter.unusedVariables false
def c_ref06_Clean : Ctr := { f := 61, ps := [.c false [.int .i64], .c false [.int .i64], .c true [.int .i64, .int .i64, .int .i64, .int .i64]], rs := [(true, [.int .i64, .int .i64, .int .i64, .int .i64]), (false, [.int .i64])], ok := fun _ => true }
noncomputable def fns_ref06_Clean : List (Nat × Func) := [(34, Try.f34), (59, Try.f59), (61, Try.f61), (134, Try.f134)]
theorem fnsOk_ref06_Clean : FnsAll Try.prog fns_ref06_Clean := ⟨fn34, fn59, fn61, fn134, trivial⟩
noncomputable def X_ref06_Clean : Ctx := { tys := tys, eqs := eqs, fns := fun f => look f fns_ref06_Clean, ctr := [(134, c_ref04_Clamp), (34, c_ref05_Mod), (59, c_ref06_Fresh)], lim := 30 }
theorem xok_ref06_Clean : XOK Try.prog T X_ref06_Clean where
  tys := tysOk
  eqs := eqsOk
  mixed := mixed
  ctr := ctrsOK_of ⟨⟨rfl, ctr_ref04_Clamp⟩, ⟨rfl, ctr_ref05_Mod⟩, ⟨rfl, ctr_ref06_Fresh⟩, trivial⟩
  fns := fnsOK_of fnsOk_ref06_Clean
def g_ref06_Clean : G := { next := 47, defs := [⟨46, .iteB, [.var 13, .var 13, .var 12]⟩, ⟨45, .iteI, [.var 13, .var 37, .var 10]⟩, ⟨44, .iteI, [.var 13, .var 28, .var 9]⟩, ⟨43, .iteI, [.var 13, .var 26, .var 8]⟩, ⟨42, .iteI, [.var 13, .var 37, .var 10]⟩, ⟨41, .iteI, [.var 13, .var 28, .var 9]⟩, ⟨40, .iteI, [.var 13, .var 26, .var 8]⟩, ⟨39, .iteI, [.var 13, .n 0, .var 11]⟩, ⟨38, .not, [.var 13]⟩, ⟨37, .iteI, [.var 30, .var 35, .var 10]⟩, ⟨36, .imp, [.var 32, .var 34]⟩, ⟨34, (.call 34), [.var 0, .var 5]⟩, ⟨33, .and, [.var 13, .var 31]⟩, ⟨32, .and, [.var 13, .var 30]⟩, ⟨31, .not, [.var 30]⟩, ⟨30, (.cmp .eql), [.var 26, .n 3]⟩, ⟨29, .imp, [.var 13, .var 27]⟩, ⟨27, (.call 134), [.var 4, .n 0, .n 1073741824]⟩, ⟨26, .iteI, [.var 22, .n 1, .var 3]⟩, ⟨25, .and, [.var 13, .var 23]⟩, ⟨24, .and, [.var 13, .var 22]⟩, ⟨23, .not, [.var 22]⟩, ⟨22, .iteB, [.var 14, .t true, .var 21]⟩, ⟨21, (.cmp .gtr), [.var 3, .n 3]⟩, ⟨20, .and, [.var 13, .var 19]⟩, ⟨19, .not, [.var 14]⟩, ⟨18, .and, [.var 13, .var 17]⟩, ⟨17, .not, [.var 14]⟩, ⟨16, .and, [.var 13, .var 15]⟩, ⟨15, .not, [.var 14]⟩, ⟨14, (.cmp .lss), [.var 3, .n 1]⟩, ⟨13, .not, [.var 12]⟩, ⟨12, (.cmp .neq), [.var 11, .n 0]⟩, ⟨6, (.call 59), [.var 0, .var 1]⟩], obs := [.var 36, .var 29, .var 6], known := [] }
theorem run_ref06_Clean : run X_ref06_Clean 2000 61 ([.one (.k (.int .i64 (.var 0))), .one (.k (.int .i64 (.var 1))), .agg [.k (.int .i64 (.var 2)), .k (.int .i64 (.var 3)), .k (.int .i64 (.var 4)), .k (.int .i64 (.var 5))]]) ([]) 6 [] = some (.tup [.agg [.k (.int .i64 (.var 7)), .k (.int .i64 (.var 40)), .k (.int .i64 (.var 41)), .k (.int .i64 (.var 42))], .one (.k (.int .i64 (.var 39)))], [{ own := true, ty := 42, es := 4, cells := [.k (.int .i64 (.var 2)), .k (.int .i64 (.var 3)), .k (.int .i64 (.var 4)), .k (.int .i64 (.var 5))] }, { own := true, ty := 42, es := 4, cells := [.k (.int .i64 (.var 7)), .k (.int .i64 (.var 40)), .k (.int .i64 (.var 41)), .k (.int .i64 (.var 42))] }, { own := true, ty := 42, es := 4, cells := [.k (.int .i64 (.var 7)), .k (.int .i64 (.var 43)), .k (.int .i64 (.var 44)), .k (.int .i64 (.var 45))] }], g_ref06_Clean) := by kernel_rfl
theorem pure_ref06_Clean (x0 : Int) (x1 : Int) (x2 : Int) (x3 : Int) (x4 : Int) (x5 : Int) (v6 : Bool) (v7 : Int) (v8 : Int) (v9 : Int) (v10 : Int) (v11 : Int) (v12 : Bool) (v13 : Bool) (v14 : Bool) (v15 : Bool) (v16 : Bool) (v17 : Bool) (v18 : Bool) (v19 : Bool) (v20 : Bool) (v21 : Bool) (v22 : Bool) (v23 : Bool) (v24 : Bool) (v25 : Bool) (v26 : Int) (v27 : Bool) (v28 : Int) (v29 : Bool) (v30 : Bool) (v31 : Bool) (v32 : Bool) (v33 : Bool) (v34 : Bool) (v35 : Int) (v36 : Bool) (v37 : Int) (v38 : Bool) (v39 : Int) (v40 : Int) (v41 : Int) (v42 : Int) (v43 : Int) (v44 : Int) (v45 : Int) (v46 : Bool)
    (q6 : v6 = (true))
    (q7 : v7 = (((Day.freshN x0 x1)).id))
    (q8 : v8 = (((Day.freshN x0 x1)).mode))
    (q9 : v9 = (((Day.freshN x0 x1)).count))
    (q10 : v10 = (((Day.freshN x0 x1)).pos))
    (q11 : v11 = (Day.idE x0 x1))
    (q12 : v12 = ((v11 != (0 : Int))))
    (q13 : v13 = ((!v12)))
    (q14 : v14 = (decide (x3 < (1 : Int))))
    (q15 : v15 = ((!v14)))
    (q16 : v16 = ((v13 && v15)))
    (q17 : v17 = ((!v14)))
    (q18 : v18 = ((v13 && v17)))
    (q19 : v19 = ((!v14)))
    (q20 : v20 = ((v13 && v19)))
    (q21 : v21 = (decide (x3 > (3 : Int))))
    (q22 : v22 = ((if v14 then true else v21)))
    (q23 : v23 = ((!v22)))
    (q24 : v24 = ((v13 && v22)))
    (q25 : v25 = ((v13 && v23)))
    (q26 : v26 = ((if v22 then (1 : Int) else x3)))
    (q27 : v27 = (true))
    (q28 : v28 = (Day.clampR x4 (0 : Int) (1073741824 : Int)))
    (q29 : v29 = ((!v13 || v27)))
    (q30 : v30 = ((v26 == (3 : Int))))
    (q31 : v31 = ((!v30)))
    (q32 : v32 = ((v13 && v30)))
    (q33 : v33 = ((v13 && v31)))
    (q34 : v34 = (Day.modP x0 && Day.i64 x5))
    (q35 : v35 = (Day.modR x0 x5))
    (q36 : v36 = ((!v32 || v34)))
    (q37 : v37 = ((if v30 then v35 else v10)))
    (q38 : v38 = ((!v13)))
    (q39 : v39 = ((if v13 then (0 : Int) else v11)))
    (q40 : v40 = ((if v13 then v26 else v8)))
    (q41 : v41 = ((if v13 then v28 else v9)))
    (q42 : v42 = ((if v13 then v37 else v10)))
    (q43 : v43 = ((if v13 then v26 else v8)))
    (q44 : v44 = ((if v13 then v28 else v9)))
    (q45 : v45 = ((if v13 then v37 else v10)))
    (q46 : v46 = ((if v13 then v13 else v12)))
    (hp : (Day.ND.i64 (Day.ND.mk x2 x3 x4 x5)) = true)  :
    (v36 = true ∧ v29 = true ∧ v6 = true) ∧ (((Day.cleanN x0 x1 (Day.ND.mk x2 x3 x4 x5))).id = v7 ∧ ((Day.cleanN x0 x1 (Day.ND.mk x2 x3 x4 x5))).mode = v40 ∧ ((Day.cleanN x0 x1 (Day.ND.mk x2 x3 x4 x5))).count = v41 ∧ ((Day.cleanN x0 x1 (Day.ND.mk x2 x3 x4 x5))).pos = v42 ∧ Day.idE x0 x1 = v39) := by
  grind [Day.clampR, Day.upR, Day.downR, Day.sm, Day.i64, Day.u8, Day.u16, Day.u32, Day.right, Day.times, Day.ownE, Day.ownR, Day.idE, Day.freshN, Day.noND, Day.cleanN, Day.wakeN, Day.rightN, Day.ND.i64, Day.waitR, Day.dueR, Day.ofR, Day.ofE, Day.noFr, wrap64, Day.modP, Day.modR, Day.slotP, Day.nextR, Day.atP, Day.atR, Day.aheadP, Day.aheadR]
theorem bridge_ref06_Clean {e : Nat → A} {al more : List A} (hlen : al.length = 6) (he : ∀ j a, (al ++ more)[j]? = some a → e j = a) (hd : ∀ d ∈ g_ref06_Clean.defs, d.holds T e) (hp : (t_61 al).1 = true) :
    (∀ x ∈ g_ref06_Clean.known, x.holds T e) ∧ (∀ o ∈ g_ref06_Clean.obs, (o.ev e).bool = true) ∧ semMany (c_ref06_Clean.rs.flatMap (·.2)) (t_61 al).2 = semMany (c_ref06_Clean.rs.flatMap (·.2)) ([.var 7, .var 40, .var 41, .var 42, .var 39].map (L.ev e)) := by
  have y0 : gi al 0 = (e 0).int := gi_e he (by omega)
  have y1 : gi al 1 = (e 1).int := gi_e he (by omega)
  have y2 : gi al 2 = (e 2).int := gi_e he (by omega)
  have y3 : gi al 3 = (e 3).int := gi_e he (by omega)
  have y4 : gi al 4 = (e 4).int := gi_e he (by omega)
  have y5 : gi al 5 = (e 5).int := gi_e he (by omega)
  obtain ⟨d46, d45, d44, d43, d42, d41, d40, d39, d38, d37, d36, d34, d33, d32, d31, d30, d29, d27, d26, d25, d24, d23, d22, d21, d20, d19, d18, d17, d16, d15, d14, d13, d12, d6, -⟩ : AllHold T e g_ref06_Clean.defs := allHold_of hd
  have hpE : (t_61 al).1 = (Day.ND.i64 (Day.ND.mk (e 2).int (e 3).int (e 4).int (e 5).int)) := by simp only [t_61, y0, y1, y2, y3, y4, y5]
  have hp := hpE.symm.trans hp
  have hoE : (t_61 al).2 = [.i (((Day.cleanN (e 0).int (e 1).int (Day.ND.mk (e 2).int (e 3).int (e 4).int (e 5).int))).id), .i (((Day.cleanN (e 0).int (e 1).int (Day.ND.mk (e 2).int (e 3).int (e 4).int (e 5).int))).mode), .i (((Day.cleanN (e 0).int (e 1).int (Day.ND.mk (e 2).int (e 3).int (e 4).int (e 5).int))).count), .i (((Day.cleanN (e 0).int (e 1).int (Day.ND.mk (e 2).int (e 3).int (e 4).int (e 5).int))).pos), .i (Day.idE (e 0).int (e 1).int)] := by simp only [t_61, y0, y1, y2, y3, y4, y5]
  obtain ⟨ho, hr⟩ := pure_ref06_Clean (e 0).int (e 1).int (e 2).int (e 3).int (e 4).int (e 5).int (e 6).bool (e 7).int (e 8).int (e 9).int (e 10).int (e 11).int (e 12).bool (e 13).bool (e 14).bool (e 15).bool (e 16).bool (e 17).bool (e 18).bool (e 19).bool (e 20).bool (e 21).bool (e 22).bool (e 23).bool (e 24).bool (e 25).bool (e 26).int (e 27).bool (e 28).int (e 29).bool (e 30).bool (e 31).bool (e 32).bool (e 33).bool (e 34).bool (e 35).int (e 36).bool (e 37).int (e 38).bool (e 39).int (e 40).int (e 41).int (e 42).int (e 43).int (e 44).int (e 45).int (e 46).bool
    (q_pre T_59 d6)
    (q_outI T_59 0 d6 rfl)
    (q_outI T_59 1 d6 rfl)
    (q_outI T_59 2 d6 rfl)
    (q_outI T_59 3 d6 rfl)
    (q_outI T_59 4 d6 rfl)
    (q_cmp d12)
    (q_not d13)
    (q_cmp d14)
    (q_not d15)
    (q_and d16)
    (q_not d17)
    (q_and d18)
    (q_not d19)
    (q_and d20)
    (q_cmp d21)
    (q_iteB d22)
    (q_not d23)
    (q_and d24)
    (q_and d25)
    (q_iteI d26)
    (q_pre T_134 d27)
    (q_outI T_134 0 d27 rfl)
    (q_imp d29)
    (q_cmp d30)
    (q_not d31)
    (q_and d32)
    (q_and d33)
    (q_pre T_34 d34)
    (q_outI T_34 0 d34 rfl)
    (q_imp d36)
    (q_iteI d37)
    (q_not d38)
    (q_iteI d39)
    (q_iteI d40)
    (q_iteI d41)
    (q_iteI d42)
    (q_iteI d43)
    (q_iteI d44)
    (q_iteI d45)
    (q_iteB d46)
    hp
  obtain ⟨o0, o1, o2⟩ := ho
  obtain ⟨r0, r1, r2, r3, r4⟩ := hr
  refine ⟨(fun x hx => by cases hx), obs_of (e := e) (l := g_ref06_Clean.obs) ⟨o0, o1, o2, trivial⟩, ?_⟩
  rw [hoE]
  show semMany [.int .i64, .int .i64, .int .i64, .int .i64, .int .i64] [.i (((Day.cleanN (e 0).int (e 1).int (Day.ND.mk (e 2).int (e 3).int (e 4).int (e 5).int))).id), .i (((Day.cleanN (e 0).int (e 1).int (Day.ND.mk (e 2).int (e 3).int (e 4).int (e 5).int))).mode), .i (((Day.cleanN (e 0).int (e 1).int (Day.ND.mk (e 2).int (e 3).int (e 4).int (e 5).int))).count), .i (((Day.cleanN (e 0).int (e 1).int (Day.ND.mk (e 2).int (e 3).int (e 4).int (e 5).int))).pos), .i (Day.idE (e 0).int (e 1).int)] = semMany [.int .i64, .int .i64, .int .i64, .int .i64, .int .i64] [L.ev e (.var 7), L.ev e (.var 40), L.ev e (.var 41), L.ev e (.var 42), L.ev e (.var 39)]
  exact (semI r0 (semI r1 (semI r2 (semI r3 (semI r4 rfl)))))
theorem ctr_ref06_Clean : CtrOK Try.prog T c_ref06_Clean := by
  intro lits al vs w hok hag hargs hpre
  have hpre : (t_61 al).1 = true := by rw [← T_61]; exact hpre
  obtain ⟨hl, hlen⟩ := args_flat hargs rfl
  have hlen : al.length = 6 := hlen
  exact calls_of_run xok_ref06_Clean widths (lits := []) (ns := []) (more := []) rfl run_ref06_Clean (by kernel_rfl) (by kernel_rfl) rfl hargs hl (lit_none) (by rw [show c_ref06_Clean.f = 61 from rfl, T_61]; rfl)
    fun e he hd => by rw [show c_ref06_Clean.f = 61 from rfl, T_61]; exact bridge_ref06_Clean hlen he hd hpre
end Rx.S
namespace Rx.S
open Go Rx Go.Proofs
set_option maxRecDepth 100000
set_option linter.unusedVariables false
def c_ref06_Wake : Ctr := { f := 66, ps := [.c true [.int .i64, .int .i64, .int .i64, .int .i64]], rs := [(true, [.int .i64, .int .i64, .int .i64, .int .i64])], ok := fun _ => true }
noncomputable def fns_ref06_Wake : List (Nat × Func) := [(66, Try.f66)]
theorem fnsOk_ref06_Wake : FnsAll Try.prog fns_ref06_Wake := ⟨fn66, trivial⟩
noncomputable def X_ref06_Wake : Ctx := { tys := tys, eqs := eqs, fns := fun f => look f fns_ref06_Wake, ctr := [], lim := 30 }
theorem xok_ref06_Wake : XOK Try.prog T X_ref06_Wake where
  tys := tysOk
  eqs := eqsOk
  mixed := mixed
  ctr := ctrsOK_of trivial
  fns := fnsOK_of fnsOk_ref06_Wake
def g_ref06_Wake : G := { next := 4, defs := [], obs := [], known := [] }
theorem run_ref06_Wake : run X_ref06_Wake 2000 66 ([.agg [.k (.int .i64 (.var 0)), .k (.int .i64 (.var 1)), .k (.int .i64 (.var 2)), .k (.int .i64 (.var 3))]]) ([]) 4 [] = some (.pv (.agg [.k (.int .i64 (.var 0)), .k (.int .i64 (.n 1)), .k (.int .i64 (.n 0)), .k (.int .i64 (.n 0))]), [{ own := true, ty := 42, es := 4, cells := [.k (.int .i64 (.var 0)), .k (.int .i64 (.var 1)), .k (.int .i64 (.var 2)), .k (.int .i64 (.var 3))] }, { own := true, ty := 42, es := 4, cells := [.k (.int .i64 (.var 0)), .k (.int .i64 (.n 1)), .k (.int .i64 (.n 0)), .k (.int .i64 (.n 0))] }], g_ref06_Wake) := by kernel_rfl
theorem pure_ref06_Wake (x0 : Int) (x1 : Int) (x2 : Int) (x3 : Int)
    (hp : (true) = true)  :
    (True) ∧ (((Day.wakeN (Day.ND.mk x0 x1 x2 x3))).id = x0 ∧ ((Day.wakeN (Day.ND.mk x0 x1 x2 x3))).mode = (1 : Int) ∧ ((Day.wakeN (Day.ND.mk x0 x1 x2 x3))).count = (0 : Int) ∧ ((Day.wakeN (Day.ND.mk x0 x1 x2 x3))).pos = (0 : Int)) := by
  grind [Day.clampR, Day.upR, Day.downR, Day.sm, Day.i64, Day.u8, Day.u16, Day.u32, Day.right, Day.times, Day.ownE, Day.ownR, Day.idE, Day.freshN, Day.noND, Day.cleanN, Day.wakeN, Day.rightN, Day.ND.i64, Day.waitR, Day.dueR, Day.ofR, Day.ofE, Day.noFr, wrap64, Day.modP, Day.modR, Day.slotP, Day.nextR, Day.atP, Day.atR, Day.aheadP, Day.aheadR]
theorem bridge_ref06_Wake {e : Nat → A} {al more : List A} (hlen : al.length = 4) (he : ∀ j a, (al ++ more)[j]? = some a → e j = a) (hd : ∀ d ∈ g_ref06_Wake.defs, d.holds T e) (hp : (t_66 al).1 = true) :
    (∀ x ∈ g_ref06_Wake.known, x.holds T e) ∧ (∀ o ∈ g_ref06_Wake.obs, (o.ev e).bool = true) ∧ semMany (c_ref06_Wake.rs.flatMap (·.2)) (t_66 al).2 = semMany (c_ref06_Wake.rs.flatMap (·.2)) ([.var 0, .n 1, .n 0, .n 0].map (L.ev e)) := by
  have y0 : gi al 0 = (e 0).int := gi_e he (by omega)
  have y1 : gi al 1 = (e 1).int := gi_e he (by omega)
  have y2 : gi al 2 = (e 2).int := gi_e he (by omega)
  have y3 : gi al 3 = (e 3).int := gi_e he (by omega)
  have hpE : (t_66 al).1 = (true) := by simp only [t_66, y0, y1, y2, y3]
  have hp := hpE.symm.trans hp
  have hoE : (t_66 al).2 = [.i (((Day.wakeN (Day.ND.mk (e 0).int (e 1).int (e 2).int (e 3).int))).id), .i (((Day.wakeN (Day.ND.mk (e 0).int (e 1).int (e 2).int (e 3).int))).mode), .i (((Day.wakeN (Day.ND.mk (e 0).int (e 1).int (e 2).int (e 3).int))).count), .i (((Day.wakeN (Day.ND.mk (e 0).int (e 1).int (e 2).int (e 3).int))).pos)] := by simp only [t_66, y0, y1, y2, y3]
  obtain ⟨ho, hr⟩ := pure_ref06_Wake (e 0).int (e 1).int (e 2).int (e 3).int
    hp
  obtain ⟨r0, r1, r2, r3⟩ := hr
  refine ⟨(fun x hx => by cases hx), obs_of (e := e) (l := g_ref06_Wake.obs) trivial, ?_⟩
  rw [hoE]
  show semMany [.int .i64, .int .i64, .int .i64, .int .i64] [.i (((Day.wakeN (Day.ND.mk (e 0).int (e 1).int (e 2).int (e 3).int))).id), .i (((Day.wakeN (Day.ND.mk (e 0).int (e 1).int (e 2).int (e 3).int))).mode), .i (((Day.wakeN (Day.ND.mk (e 0).int (e 1).int (e 2).int (e 3).int))).count), .i (((Day.wakeN (Day.ND.mk (e 0).int (e 1).int (e 2).int (e 3).int))).pos)] = semMany [.int .i64, .int .i64, .int .i64, .int .i64] [L.ev e (.var 0), L.ev e (.n 1), L.ev e (.n 0), L.ev e (.n 0)]
  exact (semI r0 (semI r1 (semI r2 (semI r3 rfl))))
theorem ctr_ref06_Wake : CtrOK Try.prog T c_ref06_Wake := by
  intro lits al vs w hok hag hargs hpre
  have hpre : (t_66 al).1 = true := by rw [← T_66]; exact hpre
  obtain ⟨hl, hlen⟩ := args_flat hargs rfl
  have hlen : al.length = 4 := hlen
  exact calls_of_run xok_ref06_Wake widths (lits := []) (ns := []) (more := []) rfl run_ref06_Wake (by kernel_rfl) (by kernel_rfl) rfl hargs hl (lit_none) (by rw [show c_ref06_Wake.f = 66 from rfl, T_66]; rfl)
    fun e he hd => by rw [show c_ref06_Wake.f = 66 from rfl, T_66]; exact bridge_ref06_Wake hlen he hd hpre
end Rx.S
