import Derived.Test.YtjipnabidebgbaaXc
import Derived.Test.YtjipnabidebgbaaXnode
set_option linter.unusedVariables false
set_option linter.unusedSimpArgs false
namespace Rx.S
open Go Rx Go.Proofs
set_option maxRecDepth 100000
set_option linter.unusedVariables false
def c_law06_awake : Ctr := { f := 62, ps := [], rs := [(false, [.bool])], ok := fun _ => true }
noncomputable def fns_law06_awake : List (Nat × Func) := [(58, Try.f58), (60, Try.f60), (62, Try.f62), (63, Try.f63)]
theorem fnsOk_law06_awake : FnsAll Try.prog fns_law06_awake := ⟨fn58, fn60, fn62, fn63, trivial⟩
noncomputable def X_law06_awake : Ctx := { tys := tys, eqs := eqs, fns := fun f => look f fns_law06_awake, ctr := [(58, c_node_Fresh), (63, c_node_Right), (60, c_node_Clean)], lim := 30 }
theorem xok_law06_awake : XOK Try.prog T X_law06_awake where
  tys := tysOk
  eqs := eqsOk
  mixed := mixed
  ctr := ctrsOK_of ⟨⟨rfl, ctr_node_Fresh⟩, ⟨rfl, ctr_node_Right⟩, ⟨rfl, ctr_node_Clean⟩, trivial⟩
  fns := fnsOK_of fnsOk_law06_awake
def g_law06_awake : G := { next := 32, defs := [⟨31, .iteB, [.var 26, .var 30, .t false]⟩, ⟨30, .not, [.var 28]⟩, ⟨29, .imp, [.var 26, .var 27]⟩, ⟨27, (.call 63), [.n 3, .n 0, .n 4, .n 0, .n 0]⟩, ⟨26, .iteB, [.var 22, .var 24, .t false]⟩, ⟨25, .imp, [.var 22, .var 23]⟩, ⟨23, (.call 63), [.n 3, .var 1, .var 2, .var 3, .var 4]⟩, ⟨22, .iteB, [.var 20, .var 21, .t false]⟩, ⟨21, (.cmp .eql), [.var 11, .n 1]⟩, ⟨20, .iteB, [.var 12, .var 19, .t false]⟩, ⟨19, .and, [.var 18, .var 17]⟩, ⟨18, (.cmp .eql), [.var 1, .n 1]⟩, ⟨17, .and, [.var 16, .var 15]⟩, ⟨16, (.cmp .eql), [.var 2, .n 1]⟩, ⟨15, .and, [.var 14, .var 13]⟩, ⟨14, (.cmp .eql), [.var 3, .n 0]⟩, ⟨13, (.cmp .eql), [.var 4, .n 0]⟩, ⟨12, (.cmp .eql), [.var 5, .n 0]⟩, ⟨6, (.call 58), [.n 2, .n 0]⟩, ⟨0, (.call 60), [.n 3, .n 1, .n 0, .n 9, .n 0, .n 7]⟩], obs := [.var 29, .var 25, .var 6, .var 0], known := [] }
theorem run_law06_awake : run X_law06_awake 2000 62 ([]) ([]) 0 [] = some (.pv (.one (.k (.bool (.var 31)))), [{ own := true, ty := 42, es := 4, cells := [.k (.int .i64 (.var 1)), .k (.int .i64 (.var 2)), .k (.int .i64 (.var 3)), .k (.int .i64 (.var 4))] }, { own := true, ty := 42, es := 4, cells := [.k (.int .i64 (.var 7)), .k (.int .i64 (.var 8)), .k (.int .i64 (.var 9)), .k (.int .i64 (.var 10))] }], g_law06_awake) := by kernel_rfl
theorem pure_law06_awake (v0 : Bool) (v1 : Int) (v2 : Int) (v3 : Int) (v4 : Int) (v5 : Int) (v6 : Bool) (v7 : Int) (v8 : Int) (v9 : Int) (v10 : Int) (v11 : Int) (v12 : Bool) (v13 : Bool) (v14 : Bool) (v15 : Bool) (v16 : Bool) (v17 : Bool) (v18 : Bool) (v19 : Bool) (v20 : Bool) (v21 : Bool) (v22 : Bool) (v23 : Bool) (v24 : Bool) (v25 : Bool) (v26 : Bool) (v27 : Bool) (v28 : Bool) (v29 : Bool) (v30 : Bool) (v31 : Bool)
    (q0 : v0 = (Day.ND.i64 (Day.ND.mk (0 : Int) (9 : Int) (0 : Int) (7 : Int))))
    (q1 : v1 = (((Day.cleanN (3 : Int) (1 : Int) (Day.ND.mk (0 : Int) (9 : Int) (0 : Int) (7 : Int)))).id))
    (q2 : v2 = (((Day.cleanN (3 : Int) (1 : Int) (Day.ND.mk (0 : Int) (9 : Int) (0 : Int) (7 : Int)))).mode))
    (q3 : v3 = (((Day.cleanN (3 : Int) (1 : Int) (Day.ND.mk (0 : Int) (9 : Int) (0 : Int) (7 : Int)))).count))
    (q4 : v4 = (((Day.cleanN (3 : Int) (1 : Int) (Day.ND.mk (0 : Int) (9 : Int) (0 : Int) (7 : Int)))).pos))
    (q5 : v5 = (Day.idE (3 : Int) (1 : Int)))
    (q6 : v6 = (true))
    (q7 : v7 = (((Day.freshN (2 : Int) (0 : Int))).id))
    (q8 : v8 = (((Day.freshN (2 : Int) (0 : Int))).mode))
    (q9 : v9 = (((Day.freshN (2 : Int) (0 : Int))).count))
    (q10 : v10 = (((Day.freshN (2 : Int) (0 : Int))).pos))
    (q11 : v11 = (Day.idE (2 : Int) (0 : Int)))
    (q12 : v12 = ((v5 == (0 : Int))))
    (q13 : v13 = ((v4 == (0 : Int))))
    (q14 : v14 = ((v3 == (0 : Int))))
    (q15 : v15 = ((v14 && v13)))
    (q16 : v16 = ((v2 == (1 : Int))))
    (q17 : v17 = ((v16 && v15)))
    (q18 : v18 = ((v1 == (1 : Int))))
    (q19 : v19 = ((v18 && v17)))
    (q20 : v20 = ((if v12 then v19 else false)))
    (q21 : v21 = ((v11 == (1 : Int))))
    (q22 : v22 = ((if v20 then v21 else false)))
    (q23 : v23 = (Day.ND.i64 (Day.ND.mk v1 v2 v3 v4)))
    (q24 : v24 = (Day.rightN (3 : Int) (Day.ND.mk v1 v2 v3 v4)))
    (q25 : v25 = ((!v22 || v23)))
    (q26 : v26 = ((if v22 then v24 else false)))
    (q27 : v27 = (Day.ND.i64 (Day.ND.mk (0 : Int) (4 : Int) (0 : Int) (0 : Int))))
    (q28 : v28 = (Day.rightN (3 : Int) (Day.ND.mk (0 : Int) (4 : Int) (0 : Int) (0 : Int))))
    (q29 : v29 = ((!v26 || v27)))
    (q30 : v30 = ((!v28)))
    (q31 : v31 = ((if v26 then v30 else false)))
    (hp : (true) = true)  :
    (v29 = true ∧ v25 = true ∧ v6 = true ∧ v0 = true) ∧ (true = v31) := by
  grind [Day.clampR, Day.upR, Day.downR, Day.sm, Day.i64, Day.u8, Day.u16, Day.u32, Day.right, Day.times, Day.ownE, Day.ownR, Day.idE, Day.freshN, Day.noND, Day.cleanN, Day.wakeN, Day.rightN, Day.ND.i64, Day.waitR, Day.dueR, Day.ofR, Day.ofE, Day.noFr, wrap64, Day.modP, Day.modR, Day.slotP, Day.nextR, Day.atP, Day.atR, Day.aheadP, Day.aheadR]
theorem bridge_law06_awake {e : Nat → A} {al more : List A} (hlen : al.length = 0) (he : ∀ j a, (al ++ more)[j]? = some a → e j = a) (hd : ∀ d ∈ g_law06_awake.defs, d.holds T e) (hp : (t_62 al).1 = true) :
    (∀ x ∈ g_law06_awake.known, x.holds T e) ∧ (∀ o ∈ g_law06_awake.obs, (o.ev e).bool = true) ∧ semMany (c_law06_awake.rs.flatMap (·.2)) (t_62 al).2 = semMany (c_law06_awake.rs.flatMap (·.2)) ([.var 31].map (L.ev e)) := by
  obtain ⟨d31, d30, d29, d27, d26, d25, d23, d22, d21, d20, d19, d18, d17, d16, d15, d14, d13, d12, d6, d0, -⟩ : AllHold T e g_law06_awake.defs := allHold_of hd
  have hpE : (t_62 al).1 = (true) := by simp only [t_62]
  have hp := hpE.symm.trans hp
  have hoE : (t_62 al).2 = [.b (true)] := by simp only [t_62]
  obtain ⟨ho, hr⟩ := pure_law06_awake (e 0).bool (e 1).int (e 2).int (e 3).int (e 4).int (e 5).int (e 6).bool (e 7).int (e 8).int (e 9).int (e 10).int (e 11).int (e 12).bool (e 13).bool (e 14).bool (e 15).bool (e 16).bool (e 17).bool (e 18).bool (e 19).bool (e 20).bool (e 21).bool (e 22).bool (e 23).bool (e 24).bool (e 25).bool (e 26).bool (e 27).bool (e 28).bool (e 29).bool (e 30).bool (e 31).bool
    (q_pre T_60 d0)
    (q_outI T_60 0 d0 rfl)
    (q_outI T_60 1 d0 rfl)
    (q_outI T_60 2 d0 rfl)
    (q_outI T_60 3 d0 rfl)
    (q_outI T_60 4 d0 rfl)
    (q_pre T_58 d6)
    (q_outI T_58 0 d6 rfl)
    (q_outI T_58 1 d6 rfl)
    (q_outI T_58 2 d6 rfl)
    (q_outI T_58 3 d6 rfl)
    (q_outI T_58 4 d6 rfl)
    (q_cmp d12)
    (q_cmp d13)
    (q_cmp d14)
    (q_and d15)
    (q_cmp d16)
    (q_and d17)
    (q_cmp d18)
    (q_and d19)
    (q_iteB d20)
    (q_cmp d21)
    (q_iteB d22)
    (q_pre T_63 d23)
    (q_outB T_63 0 d23 rfl)
    (q_imp d25)
    (q_iteB d26)
    (q_pre T_63 d27)
    (q_outB T_63 0 d27 rfl)
    (q_imp d29)
    (q_not d30)
    (q_iteB d31)
    hp
  obtain ⟨o0, o1, o2, o3⟩ := ho
  have r0 := hr
  refine ⟨(fun x hx => by cases hx), obs_of (e := e) (l := g_law06_awake.obs) ⟨o0, o1, o2, o3, trivial⟩, ?_⟩
  rw [hoE]
  show semMany [.bool] [.b (true)] = semMany [.bool] [L.ev e (.var 31)]
  exact (semB r0 rfl)
theorem ctr_law06_awake : CtrOK Try.prog T c_law06_awake := by
  intro lits al vs w hok hag hargs hpre
  have hpre : (t_62 al).1 = true := by rw [← T_62]; exact hpre
  obtain ⟨hl, hlen⟩ := args_flat hargs rfl
  have hlen : al.length = 0 := hlen
  exact calls_of_run xok_law06_awake widths (lits := []) (ns := []) (more := []) rfl run_law06_awake (by kernel_rfl) (by kernel_rfl) rfl hargs hl (lit_none) (by rw [show c_law06_awake.f = 62 from rfl, T_62]; rfl)
    fun e he hd => by rw [show c_law06_awake.f = 62 from rfl, T_62]; exact bridge_law06_awake hlen he hd hpre
end Rx.S
