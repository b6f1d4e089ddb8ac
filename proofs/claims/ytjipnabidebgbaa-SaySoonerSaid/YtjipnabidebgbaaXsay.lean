import Derived.Test.YtjipnabidebgbaaXc
import Derived.Test.YtjipnabidebgbaaXconf
import Derived.Test.YtjipnabidebgbaaXring
import Derived.Test.YtjipnabidebgbaaXnode
set_option linter.unusedVariables false
set_option linter.unusedSimpArgs false
namespace Rx.S
open Go Rx Go.Proofs
set_option maxRecDepth 100000
set_option linter.unusedVariables false
def c_say_wait : Ctr := { f := 140, ps := [.c false [.int .i64], .c true [.int .i64, .int .i64, .int .i64, .int .i64]], rs := [(false, [.int .i64])], ok := fun _ => true }
noncomputable def fns_say_wait : List (Nat × Func) := [(41, Try.f41), (42, Try.f42), (140, Try.f140)]
theorem fnsOk_say_wait : FnsAll Try.prog fns_say_wait := ⟨fn41, fn42, fn140, trivial⟩
noncomputable def X_say_wait : Ctx := { tys := tys, eqs := eqs, fns := fun f => look f fns_say_wait, ctr := [(41, c_conf_Listen), (42, c_conf_Cold)], lim := 30 }
theorem xok_say_wait : XOK Try.prog T X_say_wait where
  tys := tysOk
  eqs := eqsOk
  mixed := mixed
  ctr := ctrsOK_of ⟨⟨rfl, ctr_conf_Listen⟩, ⟨rfl, ctr_conf_Cold⟩, trivial⟩
  fns := fnsOK_of fnsOk_say_wait
def g_say_wait_a : G := { next := 8, defs := [⟨5, (.call 41), [.var 0, .var 1]⟩], obs := [.var 5], known := [⟨(.cmp .eql), [.var 2, .n 1], [.t true]⟩] }
theorem run_say_wait_a : run X_say_wait 2000 140 ([.one (.k (.int .i64 (.var 0))), .agg [.k (.int .i64 (.var 1)), .k (.int .i64 (.var 2)), .k (.int .i64 (.var 3)), .k (.int .i64 (.var 4))]]) ([]) 5 [⟨(.cmp .eql), [.var 2, .n 1], [.t true]⟩] = some (.pv (.one (.k (.int .i64 (.var 6)))), [{ own := true, ty := 42, es := 4, cells := [.k (.int .i64 (.var 1)), .k (.int .i64 (.var 2)), .k (.int .i64 (.var 3)), .k (.int .i64 (.var 4))] }], g_say_wait_a) := by kernel_rfl
theorem pure_say_wait_a (x0 : Int) (x1 : Int) (x2 : Int) (x3 : Int) (x4 : Int) (v5 : Bool) (v6 : Int) (v7 : Int)
    (q5 : v5 = (true))
    (q6 : v6 = (Day.ownR 4 x0 x1))
    (q7 : v7 = (Day.ownE x0 x1))
    (hp : (true) = true) (hc : x2 = 1) :
    (v5 = true) ∧ (Day.waitR x0 (Day.ND.mk x1 x2 x3 x4) = v6) := by
  grind [Day.clampR, Day.upR, Day.downR, Day.sm, Day.i64, Day.u8, Day.u16, Day.u32, Day.right, Day.times, Day.ownE, Day.ownR, Day.idE, Day.freshN, Day.noND, Day.cleanN, Day.wakeN, Day.rightN, Day.ND.i64, Day.waitR, Day.dueR, Day.ofR, Day.ofE, Day.noFr, wrap64, Day.modP, Day.modR, Day.slotP, Day.nextR, Day.atP, Day.atR, Day.aheadP, Day.aheadR]
theorem bridge_say_wait_a {e : Nat → A} {al more : List A} (hlen : al.length = 5) (he : ∀ j a, (al ++ more)[j]? = some a → e j = a) (hd : ∀ d ∈ g_say_wait_a.defs, d.holds T e) (hp : (t_140 al).1 = true) (hc : (gi al 2) = 1) :
    (∀ x ∈ g_say_wait_a.known, x.holds T e) ∧ (∀ o ∈ g_say_wait_a.obs, (o.ev e).bool = true) ∧ semMany (c_say_wait.rs.flatMap (·.2)) (t_140 al).2 = semMany (c_say_wait.rs.flatMap (·.2)) ([.var 6].map (L.ev e)) := by
  have y0 : gi al 0 = (e 0).int := gi_e he (by omega)
  have y1 : gi al 1 = (e 1).int := gi_e he (by omega)
  have y2 : gi al 2 = (e 2).int := gi_e he (by omega)
  have y3 : gi al 3 = (e 3).int := gi_e he (by omega)
  have y4 : gi al 4 = (e 4).int := gi_e he (by omega)
  obtain ⟨d5, -⟩ : AllHold T e g_say_wait_a.defs := allHold_of hd
  have hpE : (t_140 al).1 = (true) := by simp only [t_140, y0, y1, y2, y3, y4]
  have hp := hpE.symm.trans hp
  have hoE : (t_140 al).2 = [.i (Day.waitR (e 0).int (Day.ND.mk (e 1).int (e 2).int (e 3).int (e 4).int))] := by simp only [t_140, y0, y1, y2, y3, y4]
  simp only [y0, y1, y2, y3, y4] at hc
  obtain ⟨ho, hr⟩ := pure_say_wait_a (e 0).int (e 1).int (e 2).int (e 3).int (e 4).int (e 5).bool (e 6).int (e 7).int
    (q_pre T_41 d5)
    (q_outI T_41 0 d5 rfl)
    (q_outI T_41 1 d5 rfl)
    hp hc
  have o0 := ho
  have r0 := hr
  refine ⟨knownAll_of (T := T) (e := e) (l := g_say_wait_a.known) ⟨known_cmp (show ((e 2).int == 1) = true by simpa using hc), trivial⟩, obs_of (e := e) (l := g_say_wait_a.obs) ⟨o0, trivial⟩, ?_⟩
  rw [hoE]
  show semMany [.int .i64] [.i (Day.waitR (e 0).int (Day.ND.mk (e 1).int (e 2).int (e 3).int (e 4).int))] = semMany [.int .i64] [L.ev e (.var 6)]
  exact (semI r0 rfl)
def g_say_wait_b : G := { next := 8, defs := [⟨5, (.call 42), [.var 0, .var 1]⟩], obs := [.var 5], known := [⟨(.cmp .eql), [.var 2, .n 1], [.t false]⟩] }
theorem run_say_wait_b : run X_say_wait 2000 140 ([.one (.k (.int .i64 (.var 0))), .agg [.k (.int .i64 (.var 1)), .k (.int .i64 (.var 2)), .k (.int .i64 (.var 3)), .k (.int .i64 (.var 4))]]) ([]) 5 [⟨(.cmp .eql), [.var 2, .n 1], [.t false]⟩] = some (.pv (.one (.k (.int .i64 (.var 6)))), [{ own := true, ty := 42, es := 4, cells := [.k (.int .i64 (.var 1)), .k (.int .i64 (.var 2)), .k (.int .i64 (.var 3)), .k (.int .i64 (.var 4))] }], g_say_wait_b) := by kernel_rfl
theorem pure_say_wait_b (x0 : Int) (x1 : Int) (x2 : Int) (x3 : Int) (x4 : Int) (v5 : Bool) (v6 : Int) (v7 : Int)
    (q5 : v5 = (true))
    (q6 : v6 = (Day.ownR 2 x0 x1))
    (q7 : v7 = (Day.ownE x0 x1))
    (hp : (true) = true) (hc : ¬ x2 = 1) :
    (v5 = true) ∧ (Day.waitR x0 (Day.ND.mk x1 x2 x3 x4) = v6) := by
  grind [Day.clampR, Day.upR, Day.downR, Day.sm, Day.i64, Day.u8, Day.u16, Day.u32, Day.right, Day.times, Day.ownE, Day.ownR, Day.idE, Day.freshN, Day.noND, Day.cleanN, Day.wakeN, Day.rightN, Day.ND.i64, Day.waitR, Day.dueR, Day.ofR, Day.ofE, Day.noFr, wrap64, Day.modP, Day.modR, Day.slotP, Day.nextR, Day.atP, Day.atR, Day.aheadP, Day.aheadR]
theorem bridge_say_wait_b {e : Nat → A} {al more : List A} (hlen : al.length = 5) (he : ∀ j a, (al ++ more)[j]? = some a → e j = a) (hd : ∀ d ∈ g_say_wait_b.defs, d.holds T e) (hp : (t_140 al).1 = true) (hc : ¬ (gi al 2) = 1) :
    (∀ x ∈ g_say_wait_b.known, x.holds T e) ∧ (∀ o ∈ g_say_wait_b.obs, (o.ev e).bool = true) ∧ semMany (c_say_wait.rs.flatMap (·.2)) (t_140 al).2 = semMany (c_say_wait.rs.flatMap (·.2)) ([.var 6].map (L.ev e)) := by
  have y0 : gi al 0 = (e 0).int := gi_e he (by omega)
  have y1 : gi al 1 = (e 1).int := gi_e he (by omega)
  have y2 : gi al 2 = (e 2).int := gi_e he (by omega)
  have y3 : gi al 3 = (e 3).int := gi_e he (by omega)
  have y4 : gi al 4 = (e 4).int := gi_e he (by omega)
  obtain ⟨d5, -⟩ : AllHold T e g_say_wait_b.defs := allHold_of hd
  have hpE : (t_140 al).1 = (true) := by simp only [t_140, y0, y1, y2, y3, y4]
  have hp := hpE.symm.trans hp
  have hoE : (t_140 al).2 = [.i (Day.waitR (e 0).int (Day.ND.mk (e 1).int (e 2).int (e 3).int (e 4).int))] := by simp only [t_140, y0, y1, y2, y3, y4]
  simp only [y0, y1, y2, y3, y4] at hc
  obtain ⟨ho, hr⟩ := pure_say_wait_b (e 0).int (e 1).int (e 2).int (e 3).int (e 4).int (e 5).bool (e 6).int (e 7).int
    (q_pre T_42 d5)
    (q_outI T_42 0 d5 rfl)
    (q_outI T_42 1 d5 rfl)
    hp hc
  have o0 := ho
  have r0 := hr
  refine ⟨knownAll_of (T := T) (e := e) (l := g_say_wait_b.known) ⟨known_cmp (show ((e 2).int == 1) = false by simpa using hc), trivial⟩, obs_of (e := e) (l := g_say_wait_b.obs) ⟨o0, trivial⟩, ?_⟩
  rw [hoE]
  show semMany [.int .i64] [.i (Day.waitR (e 0).int (Day.ND.mk (e 1).int (e 2).int (e 3).int (e 4).int))] = semMany [.int .i64] [L.ev e (.var 6)]
  exact (semI r0 rfl)
theorem ctr_say_wait : CtrOK Try.prog T c_say_wait := by
  intro lits al vs w hok hag hargs hpre
  have hpre : (t_140 al).1 = true := by rw [← T_140]; exact hpre
  obtain ⟨hl, hlen⟩ := args_flat hargs rfl
  have hlen : al.length = 5 := hlen
  by_cases hc : gi al 2 = 1
  · exact calls_of_run xok_say_wait widths (lits := []) (ns := []) (more := []) rfl run_say_wait_a (by kernel_rfl) (by kernel_rfl) rfl hargs hl (lit_none) (by rw [show c_say_wait.f = 140 from rfl, T_140]; rfl)
      fun e he hd => by rw [show c_say_wait.f = 140 from rfl, T_140]; exact bridge_say_wait_a hlen he hd hpre hc
  · exact calls_of_run xok_say_wait widths (lits := []) (ns := []) (more := []) rfl run_say_wait_b (by kernel_rfl) (by kernel_rfl) rfl hargs hl (lit_none) (by rw [show c_say_wait.f = 140 from rfl, T_140]; rfl)
      fun e he hd => by rw [show c_say_wait.f = 140 from rfl, T_140]; exact bridge_say_wait_b hlen he hd hpre hc
end Rx.S
namespace Rx.S
open Go Rx Go.Proofs
set_option maxRecDepth 100000
set_option linter.unusedVariables false
def c_say_Due : Ctr := { f := 87, ps := [.c false [.int .i64], .c true [.int .i64, .int .i64, .int .i64, .int .i64]], rs := [(false, [.int .i64])], ok := fun _ => true }
noncomputable def fns_say_Due : List (Nat × Func) := [(39, Try.f39), (63, Try.f63), (87, Try.f87), (140, Try.f140)]
theorem fnsOk_say_Due : FnsAll Try.prog fns_say_Due := ⟨fn39, fn63, fn87, fn140, trivial⟩
noncomputable def X_say_Due : Ctx := { tys := tys, eqs := eqs, fns := fun f => look f fns_say_Due, ctr := [(39, c_ring_Ahead), (63, c_node_Right), (140, c_say_wait)], lim := 30 }
theorem xok_say_Due : XOK Try.prog T X_say_Due where
  tys := tysOk
  eqs := eqsOk
  mixed := mixed
  ctr := ctrsOK_of ⟨⟨rfl, ctr_ring_Ahead⟩, ⟨rfl, ctr_node_Right⟩, ⟨rfl, ctr_say_wait⟩, trivial⟩
  fns := fnsOK_of fnsOk_say_Due
def g_say_Due : G := { next := 34, defs := [⟨33, .iteB, [.var 25, .var 25, .var 24]⟩, ⟨32, .iteI, [.var 25, .var 30, .var 23]⟩, ⟨31, .not, [.var 25]⟩, ⟨30, .mx, [.n 0, .var 29]⟩, ⟨29, (.ar .sub .i64), [.var 27, .var 3]⟩, ⟨28, .imp, [.var 25, .var 26]⟩, ⟨26, (.call 140), [.var 0, .var 1, .var 2, .var 3, .var 4]⟩, ⟨25, .and, [.var 13, .var 22]⟩, ⟨24, .iteB, [.var 12, .var 12, .var 21]⟩, ⟨23, .iteI, [.var 12, .n (-1), .var 19]⟩, ⟨22, .and, [.var 15, .var 17]⟩, ⟨21, .and, [.var 14, .var 16]⟩, ⟨20, .imp, [.var 16, .var 18]⟩, ⟨18, (.call 39), [.var 0, .var 4, .var 1]⟩, ⟨17, .and, [.var 13, .var 15]⟩, ⟨16, .and, [.var 13, .var 14]⟩, ⟨15, .not, [.var 14]⟩, ⟨14, (.cmp .eql), [.var 2, .n 3]⟩, ⟨13, .not, [.var 12]⟩, ⟨12, .iteB, [.var 7, .t true, .var 11]⟩, ⟨11, (.cmp .eql), [.var 2, .n 0]⟩, ⟨10, .not, [.var 7]⟩, ⟨9, .not, [.var 7]⟩, ⟨8, .not, [.var 7]⟩, ⟨7, .not, [.var 6]⟩, ⟨5, (.call 63), [.var 0, .var 1, .var 2, .var 3, .var 4]⟩], obs := [.var 28, .var 20, .var 5], known := [] }
theorem run_say_Due : run X_say_Due 2000 87 ([.one (.k (.int .i64 (.var 0))), .agg [.k (.int .i64 (.var 1)), .k (.int .i64 (.var 2)), .k (.int .i64 (.var 3)), .k (.int .i64 (.var 4))]]) ([]) 5 [] = some (.pv (.one (.k (.int .i64 (.var 32)))), [{ own := true, ty := 42, es := 4, cells := [.k (.int .i64 (.var 1)), .k (.int .i64 (.var 2)), .k (.int .i64 (.var 3)), .k (.int .i64 (.var 4))] }], g_say_Due) := by kernel_rfl
theorem pure_say_Due (x0 : Int) (x1 : Int) (x2 : Int) (x3 : Int) (x4 : Int) (v5 : Bool) (v6 : Bool) (v7 : Bool) (v8 : Bool) (v9 : Bool) (v10 : Bool) (v11 : Bool) (v12 : Bool) (v13 : Bool) (v14 : Bool) (v15 : Bool) (v16 : Bool) (v17 : Bool) (v18 : Bool) (v19 : Int) (v20 : Bool) (v21 : Bool) (v22 : Bool) (v23 : Int) (v24 : Bool) (v25 : Bool) (v26 : Bool) (v27 : Int) (v28 : Bool) (v29 : Int) (v30 : Int) (v31 : Bool) (v32 : Int) (v33 : Bool)
    (q5 : v5 = (Day.ND.i64 (Day.ND.mk x1 x2 x3 x4)))
    (q6 : v6 = (Day.rightN x0 (Day.ND.mk x1 x2 x3 x4)))
    (q7 : v7 = ((!v6)))
    (q8 : v8 = ((!v7)))
    (q9 : v9 = ((!v7)))
    (q10 : v10 = ((!v7)))
    (q11 : v11 = ((x2 == (0 : Int))))
    (q12 : v12 = ((if v7 then true else v11)))
    (q13 : v13 = ((!v12)))
    (q14 : v14 = ((x2 == (3 : Int))))
    (q15 : v15 = ((!v14)))
    (q16 : v16 = ((v13 && v14)))
    (q17 : v17 = ((v13 && v15)))
    (q18 : v18 = (Day.aheadP x0 x4 x1))
    (q19 : v19 = (Day.aheadR x0 x4 x1))
    (q20 : v20 = ((!v16 || v18)))
    (q21 : v21 = ((v14 && v16)))
    (q22 : v22 = ((v15 && v17)))
    (q23 : v23 = ((if v12 then (-1) else v19)))
    (q24 : v24 = ((if v12 then v12 else v21)))
    (q25 : v25 = ((v13 && v22)))
    (q26 : v26 = (true))
    (q27 : v27 = (Day.waitR x0 (Day.ND.mk x1 x2 x3 x4)))
    (q28 : v28 = ((!v25 || v26)))
    (q29 : v29 = (IntKind.wrap .i64 (v27 - x3)))
    (q30 : v30 = ((if (0 : Int) < v29 then v29 else (0 : Int))))
    (q31 : v31 = ((!v25)))
    (q32 : v32 = ((if v25 then v30 else v23)))
    (q33 : v33 = ((if v25 then v25 else v24)))
    (hp : (Day.ND.i64 (Day.ND.mk x1 x2 x3 x4)) = true)  :
    (v28 = true ∧ v20 = true ∧ v5 = true) ∧ (Day.dueR x0 (Day.ND.mk x1 x2 x3 x4) = v32) := by
  grind [Day.clampR, Day.upR, Day.downR, Day.sm, Day.i64, Day.u8, Day.u16, Day.u32, Day.right, Day.times, Day.ownE, Day.ownR, Day.idE, Day.freshN, Day.noND, Day.cleanN, Day.wakeN, Day.rightN, Day.ND.i64, Day.waitR, Day.dueR, Day.ofR, Day.ofE, Day.noFr, wrap64, Day.modP, Day.modR, Day.slotP, Day.nextR, Day.atP, Day.atR, Day.aheadP, Day.aheadR]
theorem bridge_say_Due {e : Nat → A} {al more : List A} (hlen : al.length = 5) (he : ∀ j a, (al ++ more)[j]? = some a → e j = a) (hd : ∀ d ∈ g_say_Due.defs, d.holds T e) (hp : (t_87 al).1 = true) :
    (∀ x ∈ g_say_Due.known, x.holds T e) ∧ (∀ o ∈ g_say_Due.obs, (o.ev e).bool = true) ∧ semMany (c_say_Due.rs.flatMap (·.2)) (t_87 al).2 = semMany (c_say_Due.rs.flatMap (·.2)) ([.var 32].map (L.ev e)) := by
  have y0 : gi al 0 = (e 0).int := gi_e he (by omega)
  have y1 : gi al 1 = (e 1).int := gi_e he (by omega)
  have y2 : gi al 2 = (e 2).int := gi_e he (by omega)
  have y3 : gi al 3 = (e 3).int := gi_e he (by omega)
  have y4 : gi al 4 = (e 4).int := gi_e he (by omega)
  obtain ⟨d33, d32, d31, d30, d29, d28, d26, d25, d24, d23, d22, d21, d20, d18, d17, d16, d15, d14, d13, d12, d11, d10, d9, d8, d7, d5, -⟩ : AllHold T e g_say_Due.defs := allHold_of hd
  have hpE : (t_87 al).1 = (Day.ND.i64 (Day.ND.mk (e 1).int (e 2).int (e 3).int (e 4).int)) := by simp only [t_87, y0, y1, y2, y3, y4]
  have hp := hpE.symm.trans hp
  have hoE : (t_87 al).2 = [.i (Day.dueR (e 0).int (Day.ND.mk (e 1).int (e 2).int (e 3).int (e 4).int))] := by simp only [t_87, y0, y1, y2, y3, y4]
  obtain ⟨ho, hr⟩ := pure_say_Due (e 0).int (e 1).int (e 2).int (e 3).int (e 4).int (e 5).bool (e 6).bool (e 7).bool (e 8).bool (e 9).bool (e 10).bool (e 11).bool (e 12).bool (e 13).bool (e 14).bool (e 15).bool (e 16).bool (e 17).bool (e 18).bool (e 19).int (e 20).bool (e 21).bool (e 22).bool (e 23).int (e 24).bool (e 25).bool (e 26).bool (e 27).int (e 28).bool (e 29).int (e 30).int (e 31).bool (e 32).int (e 33).bool
    (q_pre T_63 d5)
    (q_outB T_63 0 d5 rfl)
    (q_not d7)
    (q_not d8)
    (q_not d9)
    (q_not d10)
    (q_cmp d11)
    (q_iteB d12)
    (q_not d13)
    (q_cmp d14)
    (q_not d15)
    (q_and d16)
    (q_and d17)
    (q_pre T_39 d18)
    (q_outI T_39 0 d18 rfl)
    (q_imp d20)
    (q_and d21)
    (q_and d22)
    (q_iteI d23)
    (q_iteB d24)
    (q_and d25)
    (q_pre T_140 d26)
    (q_outI T_140 0 d26 rfl)
    (q_imp d28)
    (q_ar d29)
    (q_mx d30)
    (q_not d31)
    (q_iteI d32)
    (q_iteB d33)
    hp
  obtain ⟨o0, o1, o2⟩ := ho
  have r0 := hr
  refine ⟨(fun x hx => by cases hx), obs_of (e := e) (l := g_say_Due.obs) ⟨o0, o1, o2, trivial⟩, ?_⟩
  rw [hoE]
  show semMany [.int .i64] [.i (Day.dueR (e 0).int (Day.ND.mk (e 1).int (e 2).int (e 3).int (e 4).int))] = semMany [.int .i64] [L.ev e (.var 32)]
  exact (semI r0 rfl)
theorem ctr_say_Due : CtrOK Try.prog T c_say_Due := by
  intro lits al vs w hok hag hargs hpre
  have hpre : (t_87 al).1 = true := by rw [← T_87]; exact hpre
  obtain ⟨hl, hlen⟩ := args_flat hargs rfl
  have hlen : al.length = 5 := hlen
  exact calls_of_run xok_say_Due widths (lits := []) (ns := []) (more := []) rfl run_say_Due (by kernel_rfl) (by kernel_rfl) rfl hargs hl (lit_none) (by rw [show c_say_Due.f = 87 from rfl, T_87]; rfl)
    fun e he hd => by rw [show c_say_Due.f = 87 from rfl, T_87]; exact bridge_say_Due hlen he hd hpre
end Rx.S
namespace Rx.S
open Go Rx Go.Proofs
set_option maxRecDepth 100000
set_option linter.unusedVariables false
def c_say_Of : Ctr := { f := 84, ps := [.c false [.int .i64], .c true [.int .i64, .int .i64, .int .i64, .int .i64]], rs := [(true, [.int .i64, .int .i64]), (false, [.int .i64])], ok := fun _ => true }
noncomputable def fns_say_Of : List (Nat × Func) := [(63, Try.f63), (84, Try.f84), (140, Try.f140)]
theorem fnsOk_say_Of : FnsAll Try.prog fns_say_Of := ⟨fn63, fn84, fn140, trivial⟩
noncomputable def X_say_Of : Ctx := { tys := tys, eqs := eqs, fns := fun f => look f fns_say_Of, ctr := [(63, c_node_Right), (140, c_say_wait)], lim := 30 }
theorem xok_say_Of : XOK Try.prog T X_say_Of where
  tys := tysOk
  eqs := eqsOk
  mixed := mixed
  ctr := ctrsOK_of ⟨⟨rfl, ctr_node_Right⟩, ⟨rfl, ctr_say_wait⟩, trivial⟩
  fns := fnsOK_of fnsOk_say_Of
def g_say_Of : G := { next := 57, defs := [⟨56, .iteB, [.var 8, .var 51, .var 7]⟩, ⟨55, .iteI, [.var 8, .var 50, .n 0]⟩, ⟨54, .iteI, [.var 8, .var 49, .n 0]⟩, ⟨53, .iteI, [.var 8, .n 0, .n 1]⟩, ⟨52, .not, [.var 8]⟩, ⟨51, .iteB, [.var 47, .var 47, .var 46]⟩, ⟨50, .iteI, [.var 47, .n 0, .var 1]⟩, ⟨49, .iteI, [.var 47, .n 0, .var 45]⟩, ⟨48, .not, [.var 47]⟩, ⟨47, .and, [.var 17, .var 44]⟩, ⟨46, .iteB, [.var 16, .var 18, .var 43]⟩, ⟨45, .iteI, [.var 16, .n 2, .n 1]⟩, ⟨44, .and, [.var 40, .var 42]⟩, ⟨43, .and, [.var 39, .var 41]⟩, ⟨42, .and, [.var 19, .var 40]⟩, ⟨41, .and, [.var 19, .var 39]⟩, ⟨40, .not, [.var 39]⟩, ⟨39, .iteB, [.var 28, .var 38, .t false]⟩, ⟨38, (.cmp .geq), [.var 3, .var 35]⟩, ⟨37, .and, [.var 19, .var 28]⟩, ⟨36, .imp, [.var 33, .var 34]⟩, ⟨34, (.call 140), [.var 0, .var 1, .var 2, .var 3, .var 4]⟩, ⟨33, .and, [.var 19, .var 28]⟩, ⟨32, .and, [.var 19, .var 28]⟩, ⟨31, .and, [.var 19, .var 28]⟩, ⟨30, .and, [.var 19, .var 28]⟩, ⟨29, .and, [.var 19, .var 28]⟩, ⟨28, .iteB, [.var 20, .t true, .var 27]⟩, ⟨27, (.cmp .eql), [.var 2, .n 2]⟩, ⟨26, .and, [.var 19, .var 25]⟩, ⟨25, .not, [.var 20]⟩, ⟨24, .and, [.var 19, .var 23]⟩, ⟨23, .not, [.var 20]⟩, ⟨22, .and, [.var 19, .var 21]⟩, ⟨21, .not, [.var 20]⟩, ⟨20, (.cmp .eql), [.var 2, .n 1]⟩, ⟨19, .and, [.var 8, .var 17]⟩, ⟨18, .and, [.var 8, .var 16]⟩, ⟨17, .not, [.var 16]⟩, ⟨16, .iteB, [.var 9, .var 15, .t false]⟩, ⟨15, (.cmp .eql), [.var 4, .var 1]⟩, ⟨14, .and, [.var 8, .var 9]⟩, ⟨13, .and, [.var 8, .var 9]⟩, ⟨12, .and, [.var 8, .var 9]⟩, ⟨11, .and, [.var 8, .var 9]⟩, ⟨10, .and, [.var 8, .var 9]⟩, ⟨9, (.cmp .eql), [.var 2, .n 3]⟩, ⟨8, .not, [.var 7]⟩, ⟨7, .not, [.var 6]⟩, ⟨5, (.call 63), [.var 0, .var 1, .var 2, .var 3, .var 4]⟩], obs := [.var 36, .var 5], known := [] }
theorem run_say_Of : run X_say_Of 2000 84 ([.one (.k (.int .i64 (.var 0))), .agg [.k (.int .i64 (.var 1)), .k (.int .i64 (.var 2)), .k (.int .i64 (.var 3)), .k (.int .i64 (.var 4))]]) ([]) 5 [] = some (.tup [.agg [.k (.int .i64 (.var 54)), .k (.int .i64 (.var 55))], .one (.k (.int .i64 (.var 53)))], [{ own := true, ty := 42, es := 4, cells := [.k (.int .i64 (.var 1)), .k (.int .i64 (.var 2)), .k (.int .i64 (.var 3)), .k (.int .i64 (.var 4))] }, { own := true, ty := 57, es := 2, cells := [.k (.int .i64 (.var 54)), .k (.int .i64 (.var 55))] }], g_say_Of) := by kernel_rfl
theorem pure_say_Of (x0 : Int) (x1 : Int) (x2 : Int) (x3 : Int) (x4 : Int) (v5 : Bool) (v6 : Bool) (v7 : Bool) (v8 : Bool) (v9 : Bool) (v10 : Bool) (v11 : Bool) (v12 : Bool) (v13 : Bool) (v14 : Bool) (v15 : Bool) (v16 : Bool) (v17 : Bool) (v18 : Bool) (v19 : Bool) (v20 : Bool) (v21 : Bool) (v22 : Bool) (v23 : Bool) (v24 : Bool) (v25 : Bool) (v26 : Bool) (v27 : Bool) (v28 : Bool) (v29 : Bool) (v30 : Bool) (v31 : Bool) (v32 : Bool) (v33 : Bool) (v34 : Bool) (v35 : Int) (v36 : Bool) (v37 : Bool) (v38 : Bool) (v39 : Bool) (v40 : Bool) (v41 : Bool) (v42 : Bool) (v43 : Bool) (v44 : Bool) (v45 : Int) (v46 : Bool) (v47 : Bool) (v48 : Bool) (v49 : Int) (v50 : Int) (v51 : Bool) (v52 : Bool) (v53 : Int) (v54 : Int) (v55 : Int) (v56 : Bool)
    (q5 : v5 = (Day.ND.i64 (Day.ND.mk x1 x2 x3 x4)))
    (q6 : v6 = (Day.rightN x0 (Day.ND.mk x1 x2 x3 x4)))
    (q7 : v7 = ((!v6)))
    (q8 : v8 = ((!v7)))
    (q9 : v9 = ((x2 == (3 : Int))))
    (q10 : v10 = ((v8 && v9)))
    (q11 : v11 = ((v8 && v9)))
    (q12 : v12 = ((v8 && v9)))
    (q13 : v13 = ((v8 && v9)))
    (q14 : v14 = ((v8 && v9)))
    (q15 : v15 = ((x4 == x1)))
    (q16 : v16 = ((if v9 then v15 else false)))
    (q17 : v17 = ((!v16)))
    (q18 : v18 = ((v8 && v16)))
    (q19 : v19 = ((v8 && v17)))
    (q20 : v20 = ((x2 == (1 : Int))))
    (q21 : v21 = ((!v20)))
    (q22 : v22 = ((v19 && v21)))
    (q23 : v23 = ((!v20)))
    (q24 : v24 = ((v19 && v23)))
    (q25 : v25 = ((!v20)))
    (q26 : v26 = ((v19 && v25)))
    (q27 : v27 = ((x2 == (2 : Int))))
    (q28 : v28 = ((if v20 then true else v27)))
    (q29 : v29 = ((v19 && v28)))
    (q30 : v30 = ((v19 && v28)))
    (q31 : v31 = ((v19 && v28)))
    (q32 : v32 = ((v19 && v28)))
    (q33 : v33 = ((v19 && v28)))
    (q34 : v34 = (true))
    (q35 : v35 = (Day.waitR x0 (Day.ND.mk x1 x2 x3 x4)))
    (q36 : v36 = ((!v33 || v34)))
    (q37 : v37 = ((v19 && v28)))
    (q38 : v38 = (decide (x3 ≥ v35)))
    (q39 : v39 = ((if v28 then v38 else false)))
    (q40 : v40 = ((!v39)))
    (q41 : v41 = ((v19 && v39)))
    (q42 : v42 = ((v19 && v40)))
    (q43 : v43 = ((v39 && v41)))
    (q44 : v44 = ((v40 && v42)))
    (q45 : v45 = ((if v16 then (2 : Int) else (1 : Int))))
    (q46 : v46 = ((if v16 then v18 else v43)))
    (q47 : v47 = ((v17 && v44)))
    (q48 : v48 = ((!v47)))
    (q49 : v49 = ((if v47 then (0 : Int) else v45)))
    (q50 : v50 = ((if v47 then (0 : Int) else x1)))
    (q51 : v51 = ((if v47 then v47 else v46)))
    (q52 : v52 = ((!v8)))
    (q53 : v53 = ((if v8 then (0 : Int) else (1 : Int))))
    (q54 : v54 = ((if v8 then v49 else (0 : Int))))
    (q55 : v55 = ((if v8 then v50 else (0 : Int))))
    (q56 : v56 = ((if v8 then v51 else v7)))
    (hp : (Day.ND.i64 (Day.ND.mk x1 x2 x3 x4)) = true)  :
    (v36 = true ∧ v5 = true) ∧ (((Day.ofR x0 (Day.ND.mk x1 x2 x3 x4))).kind = v54 ∧ ((Day.ofR x0 (Day.ND.mk x1 x2 x3 x4))).id = v55 ∧ Day.ofE x0 (Day.ND.mk x1 x2 x3 x4) = v53) := by
  have hz := @Day.due0 x0 ⟨x1, x2, x3, x4⟩
  simp only at hz
  grind (splits := 30) [Day.clampR, Day.upR, Day.downR, Day.sm, Day.i64, Day.u8, Day.u16, Day.u32, Day.right, Day.times, Day.ownE, Day.ownR, Day.idE, Day.freshN, Day.noND, Day.cleanN, Day.wakeN, Day.rightN, Day.ND.i64, Day.waitR, Day.dueR, Day.ofR, Day.ofE, Day.noFr, wrap64, Day.modP, Day.modR, Day.slotP, Day.nextR, Day.atP, Day.atR, Day.aheadP, Day.aheadR]
theorem bridge_say_Of {e : Nat → A} {al more : List A} (hlen : al.length = 5) (he : ∀ j a, (al ++ more)[j]? = some a → e j = a) (hd : ∀ d ∈ g_say_Of.defs, d.holds T e) (hp : (t_84 al).1 = true) :
    (∀ x ∈ g_say_Of.known, x.holds T e) ∧ (∀ o ∈ g_say_Of.obs, (o.ev e).bool = true) ∧ semMany (c_say_Of.rs.flatMap (·.2)) (t_84 al).2 = semMany (c_say_Of.rs.flatMap (·.2)) ([.var 54, .var 55, .var 53].map (L.ev e)) := by
  have y0 : gi al 0 = (e 0).int := gi_e he (by omega)
  have y1 : gi al 1 = (e 1).int := gi_e he (by omega)
  have y2 : gi al 2 = (e 2).int := gi_e he (by omega)
  have y3 : gi al 3 = (e 3).int := gi_e he (by omega)
  have y4 : gi al 4 = (e 4).int := gi_e he (by omega)
  obtain ⟨d56, d55, d54, d53, d52, d51, d50, d49, d48, d47, d46, d45, d44, d43, d42, d41, d40, d39, d38, d37, d36, d34, d33, d32, d31, d30, d29, d28, d27, d26, d25, d24, d23, d22, d21, d20, d19, d18, d17, d16, d15, d14, d13, d12, d11, d10, d9, d8, d7, d5, -⟩ : AllHold T e g_say_Of.defs := allHold_of hd
  have hpE : (t_84 al).1 = (Day.ND.i64 (Day.ND.mk (e 1).int (e 2).int (e 3).int (e 4).int)) := by simp only [t_84, y0, y1, y2, y3, y4]
  have hp := hpE.symm.trans hp
  have hoE : (t_84 al).2 = [.i (((Day.ofR (e 0).int (Day.ND.mk (e 1).int (e 2).int (e 3).int (e 4).int))).kind), .i (((Day.ofR (e 0).int (Day.ND.mk (e 1).int (e 2).int (e 3).int (e 4).int))).id), .i (Day.ofE (e 0).int (Day.ND.mk (e 1).int (e 2).int (e 3).int (e 4).int))] := by simp only [t_84, y0, y1, y2, y3, y4]
  obtain ⟨ho, hr⟩ := pure_say_Of (e 0).int (e 1).int (e 2).int (e 3).int (e 4).int (e 5).bool (e 6).bool (e 7).bool (e 8).bool (e 9).bool (e 10).bool (e 11).bool (e 12).bool (e 13).bool (e 14).bool (e 15).bool (e 16).bool (e 17).bool (e 18).bool (e 19).bool (e 20).bool (e 21).bool (e 22).bool (e 23).bool (e 24).bool (e 25).bool (e 26).bool (e 27).bool (e 28).bool (e 29).bool (e 30).bool (e 31).bool (e 32).bool (e 33).bool (e 34).bool (e 35).int (e 36).bool (e 37).bool (e 38).bool (e 39).bool (e 40).bool (e 41).bool (e 42).bool (e 43).bool (e 44).bool (e 45).int (e 46).bool (e 47).bool (e 48).bool (e 49).int (e 50).int (e 51).bool (e 52).bool (e 53).int (e 54).int (e 55).int (e 56).bool
    (q_pre T_63 d5)
    (q_outB T_63 0 d5 rfl)
    (q_not d7)
    (q_not d8)
    (q_cmp d9)
    (q_and d10)
    (q_and d11)
    (q_and d12)
    (q_and d13)
    (q_and d14)
    (q_cmp d15)
    (q_iteB d16)
    (q_not d17)
    (q_and d18)
    (q_and d19)
    (q_cmp d20)
    (q_not d21)
    (q_and d22)
    (q_not d23)
    (q_and d24)
    (q_not d25)
    (q_and d26)
    (q_cmp d27)
    (q_iteB d28)
    (q_and d29)
    (q_and d30)
    (q_and d31)
    (q_and d32)
    (q_and d33)
    (q_pre T_140 d34)
    (q_outI T_140 0 d34 rfl)
    (q_imp d36)
    (q_and d37)
    (q_cmp d38)
    (q_iteB d39)
    (q_not d40)
    (q_and d41)
    (q_and d42)
    (q_and d43)
    (q_and d44)
    (q_iteI d45)
    (q_iteB d46)
    (q_and d47)
    (q_not d48)
    (q_iteI d49)
    (q_iteI d50)
    (q_iteB d51)
    (q_not d52)
    (q_iteI d53)
    (q_iteI d54)
    (q_iteI d55)
    (q_iteB d56)
    hp
  obtain ⟨o0, o1⟩ := ho
  obtain ⟨r0, r1, r2⟩ := hr
  refine ⟨(fun x hx => by cases hx), obs_of (e := e) (l := g_say_Of.obs) ⟨o0, o1, trivial⟩, ?_⟩
  rw [hoE]
  show semMany [.int .i64, .int .i64, .int .i64] [.i (((Day.ofR (e 0).int (Day.ND.mk (e 1).int (e 2).int (e 3).int (e 4).int))).kind), .i (((Day.ofR (e 0).int (Day.ND.mk (e 1).int (e 2).int (e 3).int (e 4).int))).id), .i (Day.ofE (e 0).int (Day.ND.mk (e 1).int (e 2).int (e 3).int (e 4).int))] = semMany [.int .i64, .int .i64, .int .i64] [L.ev e (.var 54), L.ev e (.var 55), L.ev e (.var 53)]
  exact (semI r0 (semI r1 (semI r2 rfl)))
theorem ctr_say_Of : CtrOK Try.prog T c_say_Of := by
  intro lits al vs w hok hag hargs hpre
  have hpre : (t_84 al).1 = true := by rw [← T_84]; exact hpre
  obtain ⟨hl, hlen⟩ := args_flat hargs rfl
  have hlen : al.length = 5 := hlen
  exact calls_of_run xok_say_Of widths (lits := []) (ns := []) (more := []) rfl run_say_Of (by kernel_rfl) (by kernel_rfl) rfl hargs hl (lit_none) (by rw [show c_say_Of.f = 84 from rfl, T_84]; rfl)
    fun e he hd => by rw [show c_say_Of.f = 84 from rfl, T_84]; exact bridge_say_Of hlen he hd hpre
end Rx.S
namespace Rx.S
open Go Rx Go.Proofs
set_option maxRecDepth 100000
set_option linter.unusedVariables false
def c_ref08_Due : Ctr := { f := 88, ps := [.c false [.int .i64], .c true [.int .i64, .int .i64, .int .i64, .int .i64]], rs := [(false, [.int .i64])], ok := fun _ => true }
noncomputable def fns_ref08_Due : List (Nat × Func) := [(40, Try.f40), (48, Try.f48), (49, Try.f49), (64, Try.f64), (88, Try.f88)]
theorem fnsOk_ref08_Due : FnsAll Try.prog fns_ref08_Due := ⟨fn40, fn48, fn49, fn64, fn88, trivial⟩
noncomputable def X_ref08_Due : Ctx := { tys := tys, eqs := eqs, fns := fun f => look f fns_ref08_Due, ctr := [(40, c_ref05_Ahead), (48, c_ref03_Listen), (49, c_ref03_Cold), (64, c_ref06_Right)], lim := 30 }
theorem xok_ref08_Due : XOK Try.prog T X_ref08_Due where
  tys := tysOk
  eqs := eqsOk
  mixed := mixed
  ctr := ctrsOK_of ⟨⟨rfl, ctr_ref05_Ahead⟩, ⟨rfl, ctr_ref03_Listen⟩, ⟨rfl, ctr_ref03_Cold⟩, ⟨rfl, ctr_ref06_Right⟩, trivial⟩
  fns := fnsOK_of fnsOk_ref08_Due
def g_ref08_Due : G := { next := 50, defs := [⟨49, .iteB, [.var 8, .var 46, .var 7]⟩, ⟨48, .iteI, [.var 8, .var 45, .n (-1)]⟩, ⟨47, .not, [.var 8]⟩, ⟨46, .iteB, [.var 43, .var 43, .var 42]⟩, ⟨45, .iteI, [.var 43, .n (-1), .var 41]⟩, ⟨44, .not, [.var 43]⟩, ⟨43, .and, [.var 18, .var 40]⟩, ⟨42, .iteB, [.var 17, .var 19, .var 39]⟩, ⟨41, .iteI, [.var 17, .var 22, .var 38]⟩, ⟨40, .and, [.var 24, .var 37]⟩, ⟨39, .iteB, [.var 23, .var 25, .var 36]⟩, ⟨38, .iteI, [.var 23, .var 28, .var 34]⟩, ⟨37, .and, [.var 30, .var 32]⟩, ⟨36, .and, [.var 29, .var 31]⟩, ⟨35, .imp, [.var 31, .var 33]⟩, ⟨33, (.call 40), [.var 0, .var 4, .var 1]⟩, ⟨32, .and, [.var 26, .var 30]⟩, ⟨31, .and, [.var 26, .var 29]⟩, ⟨30, .not, [.var 29]⟩, ⟨29, (.cmp .eql), [.var 2, .n 3]⟩, ⟨28, .mx, [.var 27, .n 0]⟩, ⟨27, (.ar .sub .i64), [.var 14, .var 3]⟩, ⟨26, .and, [.var 20, .var 24]⟩, ⟨25, .and, [.var 20, .var 23]⟩, ⟨24, .not, [.var 23]⟩, ⟨23, (.cmp .eql), [.var 2, .n 2]⟩, ⟨22, .mx, [.var 21, .n 0]⟩, ⟨21, (.ar .sub .i64), [.var 10, .var 3]⟩, ⟨20, .and, [.var 8, .var 18]⟩, ⟨19, .and, [.var 8, .var 17]⟩, ⟨18, .not, [.var 17]⟩, ⟨17, (.cmp .eql), [.var 2, .n 1]⟩, ⟨16, .imp, [.var 8, .var 13]⟩, ⟨13, (.call 49), [.var 0, .var 1]⟩, ⟨12, .imp, [.var 8, .var 9]⟩, ⟨9, (.call 48), [.var 0, .var 1]⟩, ⟨8, .not, [.var 7]⟩, ⟨7, .not, [.var 6]⟩, ⟨5, (.call 64), [.var 0, .var 1, .var 2, .var 3, .var 4]⟩], obs := [.var 35, .var 16, .var 12, .var 5], known := [] }
theorem run_ref08_Due : run X_ref08_Due 2000 88 ([.one (.k (.int .i64 (.var 0))), .agg [.k (.int .i64 (.var 1)), .k (.int .i64 (.var 2)), .k (.int .i64 (.var 3)), .k (.int .i64 (.var 4))]]) ([]) 5 [] = some (.pv (.one (.k (.int .i64 (.var 48)))), [{ own := true, ty := 42, es := 4, cells := [.k (.int .i64 (.var 1)), .k (.int .i64 (.var 2)), .k (.int .i64 (.var 3)), .k (.int .i64 (.var 4))] }], g_ref08_Due) := by kernel_rfl
theorem pure_ref08_Due (x0 : Int) (x1 : Int) (x2 : Int) (x3 : Int) (x4 : Int) (v5 : Bool) (v6 : Bool) (v7 : Bool) (v8 : Bool) (v9 : Bool) (v10 : Int) (v11 : Int) (v12 : Bool) (v13 : Bool) (v14 : Int) (v15 : Int) (v16 : Bool) (v17 : Bool) (v18 : Bool) (v19 : Bool) (v20 : Bool) (v21 : Int) (v22 : Int) (v23 : Bool) (v24 : Bool) (v25 : Bool) (v26 : Bool) (v27 : Int) (v28 : Int) (v29 : Bool) (v30 : Bool) (v31 : Bool) (v32 : Bool) (v33 : Bool) (v34 : Int) (v35 : Bool) (v36 : Bool) (v37 : Bool) (v38 : Int) (v39 : Bool) (v40 : Bool) (v41 : Int) (v42 : Bool) (v43 : Bool) (v44 : Bool) (v45 : Int) (v46 : Bool) (v47 : Bool) (v48 : Int) (v49 : Bool)
    (q5 : v5 = (Day.ND.i64 (Day.ND.mk x1 x2 x3 x4)))
    (q6 : v6 = (Day.rightN x0 (Day.ND.mk x1 x2 x3 x4)))
    (q7 : v7 = ((!v6)))
    (q8 : v8 = ((!v7)))
    (q9 : v9 = (true))
    (q10 : v10 = (Day.ownR 4 x0 x1))
    (q11 : v11 = (Day.ownE x0 x1))
    (q12 : v12 = ((!v8 || v9)))
    (q13 : v13 = (true))
    (q14 : v14 = (Day.ownR 2 x0 x1))
    (q15 : v15 = (Day.ownE x0 x1))
    (q16 : v16 = ((!v8 || v13)))
    (q17 : v17 = ((x2 == (1 : Int))))
    (q18 : v18 = ((!v17)))
    (q19 : v19 = ((v8 && v17)))
    (q20 : v20 = ((v8 && v18)))
    (q21 : v21 = (IntKind.wrap .i64 (v10 - x3)))
    (q22 : v22 = ((if v21 < (0 : Int) then (0 : Int) else v21)))
    (q23 : v23 = ((x2 == (2 : Int))))
    (q24 : v24 = ((!v23)))
    (q25 : v25 = ((v20 && v23)))
    (q26 : v26 = ((v20 && v24)))
    (q27 : v27 = (IntKind.wrap .i64 (v14 - x3)))
    (q28 : v28 = ((if v27 < (0 : Int) then (0 : Int) else v27)))
    (q29 : v29 = ((x2 == (3 : Int))))
    (q30 : v30 = ((!v29)))
    (q31 : v31 = ((v26 && v29)))
    (q32 : v32 = ((v26 && v30)))
    (q33 : v33 = (Day.aheadP x0 x4 x1))
    (q34 : v34 = (Day.aheadR x0 x4 x1))
    (q35 : v35 = ((!v31 || v33)))
    (q36 : v36 = ((v29 && v31)))
    (q37 : v37 = ((v30 && v32)))
    (q38 : v38 = ((if v23 then v28 else v34)))
    (q39 : v39 = ((if v23 then v25 else v36)))
    (q40 : v40 = ((v24 && v37)))
    (q41 : v41 = ((if v17 then v22 else v38)))
    (q42 : v42 = ((if v17 then v19 else v39)))
    (q43 : v43 = ((v18 && v40)))
    (q44 : v44 = ((!v43)))
    (q45 : v45 = ((if v43 then (-1) else v41)))
    (q46 : v46 = ((if v43 then v43 else v42)))
    (q47 : v47 = ((!v8)))
    (q48 : v48 = ((if v8 then v45 else (-1))))
    (q49 : v49 = ((if v8 then v46 else v7)))
    (hp : (Day.ND.i64 (Day.ND.mk x1 x2 x3 x4)) = true)  :
    (v35 = true ∧ v16 = true ∧ v12 = true ∧ v5 = true) ∧ (Day.dueR x0 (Day.ND.mk x1 x2 x3 x4) = v48) := by
  grind [Day.clampR, Day.upR, Day.downR, Day.sm, Day.i64, Day.u8, Day.u16, Day.u32, Day.right, Day.times, Day.ownE, Day.ownR, Day.idE, Day.freshN, Day.noND, Day.cleanN, Day.wakeN, Day.rightN, Day.ND.i64, Day.waitR, Day.dueR, Day.ofR, Day.ofE, Day.noFr, wrap64, Day.modP, Day.modR, Day.slotP, Day.nextR, Day.atP, Day.atR, Day.aheadP, Day.aheadR]
theorem bridge_ref08_Due {e : Nat → A} {al more : List A} (hlen : al.length = 5) (he : ∀ j a, (al ++ more)[j]? = some a → e j = a) (hd : ∀ d ∈ g_ref08_Due.defs, d.holds T e) (hp : (t_88 al).1 = true) :
    (∀ x ∈ g_ref08_Due.known, x.holds T e) ∧ (∀ o ∈ g_ref08_Due.obs, (o.ev e).bool = true) ∧ semMany (c_ref08_Due.rs.flatMap (·.2)) (t_88 al).2 = semMany (c_ref08_Due.rs.flatMap (·.2)) ([.var 48].map (L.ev e)) := by
  have y0 : gi al 0 = (e 0).int := gi_e he (by omega)
  have y1 : gi al 1 = (e 1).int := gi_e he (by omega)
  have y2 : gi al 2 = (e 2).int := gi_e he (by omega)
  have y3 : gi al 3 = (e 3).int := gi_e he (by omega)
  have y4 : gi al 4 = (e 4).int := gi_e he (by omega)
  obtain ⟨d49, d48, d47, d46, d45, d44, d43, d42, d41, d40, d39, d38, d37, d36, d35, d33, d32, d31, d30, d29, d28, d27, d26, d25, d24, d23, d22, d21, d20, d19, d18, d17, d16, d13, d12, d9, d8, d7, d5, -⟩ : AllHold T e g_ref08_Due.defs := allHold_of hd
  have hpE : (t_88 al).1 = (Day.ND.i64 (Day.ND.mk (e 1).int (e 2).int (e 3).int (e 4).int)) := by simp only [t_88, y0, y1, y2, y3, y4]
  have hp := hpE.symm.trans hp
  have hoE : (t_88 al).2 = [.i (Day.dueR (e 0).int (Day.ND.mk (e 1).int (e 2).int (e 3).int (e 4).int))] := by simp only [t_88, y0, y1, y2, y3, y4]
  obtain ⟨ho, hr⟩ := pure_ref08_Due (e 0).int (e 1).int (e 2).int (e 3).int (e 4).int (e 5).bool (e 6).bool (e 7).bool (e 8).bool (e 9).bool (e 10).int (e 11).int (e 12).bool (e 13).bool (e 14).int (e 15).int (e 16).bool (e 17).bool (e 18).bool (e 19).bool (e 20).bool (e 21).int (e 22).int (e 23).bool (e 24).bool (e 25).bool (e 26).bool (e 27).int (e 28).int (e 29).bool (e 30).bool (e 31).bool (e 32).bool (e 33).bool (e 34).int (e 35).bool (e 36).bool (e 37).bool (e 38).int (e 39).bool (e 40).bool (e 41).int (e 42).bool (e 43).bool (e 44).bool (e 45).int (e 46).bool (e 47).bool (e 48).int (e 49).bool
    (q_pre T_64 d5)
    (q_outB T_64 0 d5 rfl)
    (q_not d7)
    (q_not d8)
    (q_pre T_48 d9)
    (q_outI T_48 0 d9 rfl)
    (q_outI T_48 1 d9 rfl)
    (q_imp d12)
    (q_pre T_49 d13)
    (q_outI T_49 0 d13 rfl)
    (q_outI T_49 1 d13 rfl)
    (q_imp d16)
    (q_cmp d17)
    (q_not d18)
    (q_and d19)
    (q_and d20)
    (q_ar d21)
    (q_mx d22)
    (q_cmp d23)
    (q_not d24)
    (q_and d25)
    (q_and d26)
    (q_ar d27)
    (q_mx d28)
    (q_cmp d29)
    (q_not d30)
    (q_and d31)
    (q_and d32)
    (q_pre T_40 d33)
    (q_outI T_40 0 d33 rfl)
    (q_imp d35)
    (q_and d36)
    (q_and d37)
    (q_iteI d38)
    (q_iteB d39)
    (q_and d40)
    (q_iteI d41)
    (q_iteB d42)
    (q_and d43)
    (q_not d44)
    (q_iteI d45)
    (q_iteB d46)
    (q_not d47)
    (q_iteI d48)
    (q_iteB d49)
    hp
  obtain ⟨o0, o1, o2, o3⟩ := ho
  have r0 := hr
  refine ⟨(fun x hx => by cases hx), obs_of (e := e) (l := g_ref08_Due.obs) ⟨o0, o1, o2, o3, trivial⟩, ?_⟩
  rw [hoE]
  show semMany [.int .i64] [.i (Day.dueR (e 0).int (Day.ND.mk (e 1).int (e 2).int (e 3).int (e 4).int))] = semMany [.int .i64] [L.ev e (.var 48)]
  exact (semI r0 rfl)
theorem ctr_ref08_Due : CtrOK Try.prog T c_ref08_Due := by
  intro lits al vs w hok hag hargs hpre
  have hpre : (t_88 al).1 = true := by rw [← T_88]; exact hpre
  obtain ⟨hl, hlen⟩ := args_flat hargs rfl
  have hlen : al.length = 5 := hlen
  exact calls_of_run xok_ref08_Due widths (lits := []) (ns := []) (more := []) rfl run_ref08_Due (by kernel_rfl) (by kernel_rfl) rfl hargs hl (lit_none) (by rw [show c_ref08_Due.f = 88 from rfl, T_88]; rfl)
    fun e he hd => by rw [show c_ref08_Due.f = 88 from rfl, T_88]; exact bridge_ref08_Due hlen he hd hpre
end Rx.S
namespace Rx.S
open Go Rx Go.Proofs
set_option maxRecDepth 100000
set_option linter.unusedVariables false
def c_ref08_Of : Ctr := { f := 85, ps := [.c false [.int .i64], .c true [.int .i64, .int .i64, .int .i64, .int .i64]], rs := [(true, [.int .i64, .int .i64]), (false, [.int .i64])], ok := fun _ => true }
noncomputable def fns_ref08_Of : List (Nat × Func) := [(64, Try.f64), (85, Try.f85), (88, Try.f88)]
theorem fnsOk_ref08_Of : FnsAll Try.prog fns_ref08_Of := ⟨fn64, fn85, fn88, trivial⟩
noncomputable def X_ref08_Of : Ctx := { tys := tys, eqs := eqs, fns := fun f => look f fns_ref08_Of, ctr := [(64, c_ref06_Right), (88, c_ref08_Due)], lim := 30 }
theorem xok_ref08_Of : XOK Try.prog T X_ref08_Of where
  tys := tysOk
  eqs := eqsOk
  mixed := mixed
  ctr := ctrsOK_of ⟨⟨rfl, ctr_ref06_Right⟩, ⟨rfl, ctr_ref08_Due⟩, trivial⟩
  fns := fnsOK_of fnsOk_ref08_Of
def g_ref08_Of : G := { next := 36, defs := [⟨35, .iteB, [.var 8, .var 30, .var 7]⟩, ⟨34, .iteI, [.var 8, .var 29, .n 0]⟩, ⟨33, .iteI, [.var 8, .var 28, .n 0]⟩, ⟨32, .iteI, [.var 8, .n 0, .n 1]⟩, ⟨31, .not, [.var 8]⟩, ⟨30, .iteB, [.var 17, .var 26, .var 16]⟩, ⟨29, .iteI, [.var 17, .var 1, .n 0]⟩, ⟨28, .iteI, [.var 17, .var 25, .n 0]⟩, ⟨27, .not, [.var 17]⟩, ⟨26, .iteB, [.var 23, .var 23, .var 22]⟩, ⟨25, .iteI, [.var 23, .n 1, .n 2]⟩, ⟨24, .not, [.var 23]⟩, ⟨23, .and, [.var 19, .var 21]⟩, ⟨22, .and, [.var 18, .var 20]⟩, ⟨21, .and, [.var 17, .var 19]⟩, ⟨20, .and, [.var 17, .var 18]⟩, ⟨19, .not, [.var 18]⟩, ⟨18, (.cmp .eql), [.var 2, .n 3]⟩, ⟨17, .and, [.var 13, .var 15]⟩, ⟨16, .and, [.var 12, .var 14]⟩, ⟨15, .and, [.var 8, .var 13]⟩, ⟨14, .and, [.var 8, .var 12]⟩, ⟨13, .not, [.var 12]⟩, ⟨12, (.cmp .neq), [.var 10, .n 0]⟩, ⟨11, .imp, [.var 8, .var 9]⟩, ⟨9, (.call 88), [.var 0, .var 1, .var 2, .var 3, .var 4]⟩, ⟨8, .not, [.var 7]⟩, ⟨7, .not, [.var 6]⟩, ⟨5, (.call 64), [.var 0, .var 1, .var 2, .var 3, .var 4]⟩], obs := [.var 11, .var 5], known := [] }
theorem run_ref08_Of : run X_ref08_Of 2000 85 ([.one (.k (.int .i64 (.var 0))), .agg [.k (.int .i64 (.var 1)), .k (.int .i64 (.var 2)), .k (.int .i64 (.var 3)), .k (.int .i64 (.var 4))]]) ([]) 5 [] = some (.tup [.agg [.k (.int .i64 (.var 33)), .k (.int .i64 (.var 34))], .one (.k (.int .i64 (.var 32)))], [{ own := true, ty := 42, es := 4, cells := [.k (.int .i64 (.var 1)), .k (.int .i64 (.var 2)), .k (.int .i64 (.var 3)), .k (.int .i64 (.var 4))] }, { own := true, ty := 57, es := 2, cells := [.k (.int .i64 (.var 33)), .k (.int .i64 (.var 34))] }], g_ref08_Of) := by kernel_rfl
theorem pure_ref08_Of (x0 : Int) (x1 : Int) (x2 : Int) (x3 : Int) (x4 : Int) (v5 : Bool) (v6 : Bool) (v7 : Bool) (v8 : Bool) (v9 : Bool) (v10 : Int) (v11 : Bool) (v12 : Bool) (v13 : Bool) (v14 : Bool) (v15 : Bool) (v16 : Bool) (v17 : Bool) (v18 : Bool) (v19 : Bool) (v20 : Bool) (v21 : Bool) (v22 : Bool) (v23 : Bool) (v24 : Bool) (v25 : Int) (v26 : Bool) (v27 : Bool) (v28 : Int) (v29 : Int) (v30 : Bool) (v31 : Bool) (v32 : Int) (v33 : Int) (v34 : Int) (v35 : Bool)
    (q5 : v5 = (Day.ND.i64 (Day.ND.mk x1 x2 x3 x4)))
    (q6 : v6 = (Day.rightN x0 (Day.ND.mk x1 x2 x3 x4)))
    (q7 : v7 = ((!v6)))
    (q8 : v8 = ((!v7)))
    (q9 : v9 = (Day.ND.i64 (Day.ND.mk x1 x2 x3 x4)))
    (q10 : v10 = (Day.dueR x0 (Day.ND.mk x1 x2 x3 x4)))
    (q11 : v11 = ((!v8 || v9)))
    (q12 : v12 = ((v10 != (0 : Int))))
    (q13 : v13 = ((!v12)))
    (q14 : v14 = ((v8 && v12)))
    (q15 : v15 = ((v8 && v13)))
    (q16 : v16 = ((v12 && v14)))
    (q17 : v17 = ((v13 && v15)))
    (q18 : v18 = ((x2 == (3 : Int))))
    (q19 : v19 = ((!v18)))
    (q20 : v20 = ((v17 && v18)))
    (q21 : v21 = ((v17 && v19)))
    (q22 : v22 = ((v18 && v20)))
    (q23 : v23 = ((v19 && v21)))
    (q24 : v24 = ((!v23)))
    (q25 : v25 = ((if v23 then (1 : Int) else (2 : Int))))
    (q26 : v26 = ((if v23 then v23 else v22)))
    (q27 : v27 = ((!v17)))
    (q28 : v28 = ((if v17 then v25 else (0 : Int))))
    (q29 : v29 = ((if v17 then x1 else (0 : Int))))
    (q30 : v30 = ((if v17 then v26 else v16)))
    (q31 : v31 = ((!v8)))
    (q32 : v32 = ((if v8 then (0 : Int) else (1 : Int))))
    (q33 : v33 = ((if v8 then v28 else (0 : Int))))
    (q34 : v34 = ((if v8 then v29 else (0 : Int))))
    (q35 : v35 = ((if v8 then v30 else v7)))
    (hp : (Day.ND.i64 (Day.ND.mk x1 x2 x3 x4)) = true)  :
    (v11 = true ∧ v5 = true) ∧ (((Day.ofR x0 (Day.ND.mk x1 x2 x3 x4))).kind = v33 ∧ ((Day.ofR x0 (Day.ND.mk x1 x2 x3 x4))).id = v34 ∧ Day.ofE x0 (Day.ND.mk x1 x2 x3 x4) = v32) := by
  grind [Day.clampR, Day.upR, Day.downR, Day.sm, Day.i64, Day.u8, Day.u16, Day.u32, Day.right, Day.times, Day.ownE, Day.ownR, Day.idE, Day.freshN, Day.noND, Day.cleanN, Day.wakeN, Day.rightN, Day.ND.i64, Day.waitR, Day.dueR, Day.ofR, Day.ofE, Day.noFr, wrap64, Day.modP, Day.modR, Day.slotP, Day.nextR, Day.atP, Day.atR, Day.aheadP, Day.aheadR]
theorem bridge_ref08_Of {e : Nat → A} {al more : List A} (hlen : al.length = 5) (he : ∀ j a, (al ++ more)[j]? = some a → e j = a) (hd : ∀ d ∈ g_ref08_Of.defs, d.holds T e) (hp : (t_85 al).1 = true) :
    (∀ x ∈ g_ref08_Of.known, x.holds T e) ∧ (∀ o ∈ g_ref08_Of.obs, (o.ev e).bool = true) ∧ semMany (c_ref08_Of.rs.flatMap (·.2)) (t_85 al).2 = semMany (c_ref08_Of.rs.flatMap (·.2)) ([.var 33, .var 34, .var 32].map (L.ev e)) := by
  have y0 : gi al 0 = (e 0).int := gi_e he (by omega)
  have y1 : gi al 1 = (e 1).int := gi_e he (by omega)
  have y2 : gi al 2 = (e 2).int := gi_e he (by omega)
  have y3 : gi al 3 = (e 3).int := gi_e he (by omega)
  have y4 : gi al 4 = (e 4).int := gi_e he (by omega)
  obtain ⟨d35, d34, d33, d32, d31, d30, d29, d28, d27, d26, d25, d24, d23, d22, d21, d20, d19, d18, d17, d16, d15, d14, d13, d12, d11, d9, d8, d7, d5, -⟩ : AllHold T e g_ref08_Of.defs := allHold_of hd
  have hpE : (t_85 al).1 = (Day.ND.i64 (Day.ND.mk (e 1).int (e 2).int (e 3).int (e 4).int)) := by simp only [t_85, y0, y1, y2, y3, y4]
  have hp := hpE.symm.trans hp
  have hoE : (t_85 al).2 = [.i (((Day.ofR (e 0).int (Day.ND.mk (e 1).int (e 2).int (e 3).int (e 4).int))).kind), .i (((Day.ofR (e 0).int (Day.ND.mk (e 1).int (e 2).int (e 3).int (e 4).int))).id), .i (Day.ofE (e 0).int (Day.ND.mk (e 1).int (e 2).int (e 3).int (e 4).int))] := by simp only [t_85, y0, y1, y2, y3, y4]
  obtain ⟨ho, hr⟩ := pure_ref08_Of (e 0).int (e 1).int (e 2).int (e 3).int (e 4).int (e 5).bool (e 6).bool (e 7).bool (e 8).bool (e 9).bool (e 10).int (e 11).bool (e 12).bool (e 13).bool (e 14).bool (e 15).bool (e 16).bool (e 17).bool (e 18).bool (e 19).bool (e 20).bool (e 21).bool (e 22).bool (e 23).bool (e 24).bool (e 25).int (e 26).bool (e 27).bool (e 28).int (e 29).int (e 30).bool (e 31).bool (e 32).int (e 33).int (e 34).int (e 35).bool
    (q_pre T_64 d5)
    (q_outB T_64 0 d5 rfl)
    (q_not d7)
    (q_not d8)
    (q_pre T_88 d9)
    (q_outI T_88 0 d9 rfl)
    (q_imp d11)
    (q_cmp d12)
    (q_not d13)
    (q_and d14)
    (q_and d15)
    (q_and d16)
    (q_and d17)
    (q_cmp d18)
    (q_not d19)
    (q_and d20)
    (q_and d21)
    (q_and d22)
    (q_and d23)
    (q_not d24)
    (q_iteI d25)
    (q_iteB d26)
    (q_not d27)
    (q_iteI d28)
    (q_iteI d29)
    (q_iteB d30)
    (q_not d31)
    (q_iteI d32)
    (q_iteI d33)
    (q_iteI d34)
    (q_iteB d35)
    hp
  obtain ⟨o0, o1⟩ := ho
  obtain ⟨r0, r1, r2⟩ := hr
  refine ⟨(fun x hx => by cases hx), obs_of (e := e) (l := g_ref08_Of.obs) ⟨o0, o1, trivial⟩, ?_⟩
  rw [hoE]
  show semMany [.int .i64, .int .i64, .int .i64] [.i (((Day.ofR (e 0).int (Day.ND.mk (e 1).int (e 2).int (e 3).int (e 4).int))).kind), .i (((Day.ofR (e 0).int (Day.ND.mk (e 1).int (e 2).int (e 3).int (e 4).int))).id), .i (Day.ofE (e 0).int (Day.ND.mk (e 1).int (e 2).int (e 3).int (e 4).int))] = semMany [.int .i64, .int .i64, .int .i64] [L.ev e (.var 33), L.ev e (.var 34), L.ev e (.var 32)]
  exact (semI r0 (semI r1 (semI r2 rfl)))
theorem ctr_ref08_Of : CtrOK Try.prog T c_ref08_Of := by
  intro lits al vs w hok hag hargs hpre
  have hpre : (t_85 al).1 = true := by rw [← T_85]; exact hpre
  obtain ⟨hl, hlen⟩ := args_flat hargs rfl
  have hlen : al.length = 5 := hlen
  exact calls_of_run xok_ref08_Of widths (lits := []) (ns := []) (more := []) rfl run_ref08_Of (by kernel_rfl) (by kernel_rfl) rfl hargs hl (lit_none) (by rw [show c_ref08_Of.f = 85 from rfl, T_85]; rfl)
    fun e he hd => by rw [show c_ref08_Of.f = 85 from rfl, T_85]; exact bridge_ref08_Of hlen he hd hpre
end Rx.S
