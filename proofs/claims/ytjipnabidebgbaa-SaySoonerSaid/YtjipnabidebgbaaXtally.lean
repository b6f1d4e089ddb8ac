import Derived.Test.YtjipnabidebgbaaXc
set_option linter.unusedVariables false
set_option linter.unusedSimpArgs false
namespace Rx.S
open Go Rx Go.Proofs
set_option maxRecDepth 100000
set_option linter.unusedVariables false
def c_tally_Clamp : Ctr := { f := 133, ps := [.c false [.int .i64], .c false [.int .i64], .c false [.int .i64]], rs := [(false, [.int .i64])], ok := fun _ => true }
noncomputable def fns_tally_Clamp : List (Nat × Func) := [(133, Try.f133)]
theorem fnsOk_tally_Clamp : FnsAll Try.prog fns_tally_Clamp := ⟨fn133, trivial⟩
noncomputable def X_tally_Clamp : Ctx := { tys := tys, eqs := eqs, fns := fun f => look f fns_tally_Clamp, ctr := [], lim := 30 }
theorem xok_tally_Clamp : XOK Try.prog T X_tally_Clamp where
  tys := tysOk
  eqs := eqsOk
  mixed := mixed
  ctr := ctrsOK_of trivial
  fns := fnsOK_of fnsOk_tally_Clamp
def g_tally_Clamp : G := { next := 9, defs := [⟨8, .iteB, [.var 4, .var 4, .var 3]⟩, ⟨7, .iteI, [.var 4, .var 5, .var 1]⟩, ⟨6, .not, [.var 4]⟩, ⟨5, .mn, [.var 0, .var 2]⟩, ⟨4, .not, [.var 3]⟩, ⟨3, (.cmp .lss), [.var 0, .var 1]⟩], obs := [], known := [] }
theorem run_tally_Clamp : run X_tally_Clamp 2000 133 ([.one (.k (.int .i64 (.var 0))), .one (.k (.int .i64 (.var 1))), .one (.k (.int .i64 (.var 2)))]) ([]) 3 [] = some (.pv (.one (.k (.int .i64 (.var 7)))), [], g_tally_Clamp) := by kernel_rfl
theorem pure_tally_Clamp (x0 : Int) (x1 : Int) (x2 : Int) (v3 : Bool) (v4 : Bool) (v5 : Int) (v6 : Bool) (v7 : Int) (v8 : Bool)
    (q3 : v3 = (decide (x0 < x1)))
    (q4 : v4 = ((!v3)))
    (q5 : v5 = ((if x2 < x0 then x2 else x0)))
    (q6 : v6 = ((!v4)))
    (q7 : v7 = ((if v4 then v5 else x1)))
    (q8 : v8 = ((if v4 then v4 else v3)))
    (hp : (true) = true)  :
    (True) ∧ (Day.clampR x0 x1 x2 = v7) := by
  grind [Day.clampR, Day.upR, Day.downR, Day.sm, Day.i64, Day.u8, Day.u16, Day.u32, Day.right, Day.times, Day.ownE, Day.ownR, Day.idE, Day.freshN, Day.noND, Day.cleanN, Day.wakeN, Day.rightN, Day.ND.i64, Day.waitR, Day.dueR, Day.ofR, Day.ofE, Day.noFr, wrap64, Day.modP, Day.modR, Day.slotP, Day.nextR, Day.atP, Day.atR, Day.aheadP, Day.aheadR]
theorem bridge_tally_Clamp {e : Nat → A} {al more : List A} (hlen : al.length = 3) (he : ∀ j a, (al ++ more)[j]? = some a → e j = a) (hd : ∀ d ∈ g_tally_Clamp.defs, d.holds T e) (hp : (t_133 al).1 = true) :
    (∀ x ∈ g_tally_Clamp.known, x.holds T e) ∧ (∀ o ∈ g_tally_Clamp.obs, (o.ev e).bool = true) ∧ semMany (c_tally_Clamp.rs.flatMap (·.2)) (t_133 al).2 = semMany (c_tally_Clamp.rs.flatMap (·.2)) ([.var 7].map (L.ev e)) := by
  have y0 : gi al 0 = (e 0).int := gi_e he (by omega)
  have y1 : gi al 1 = (e 1).int := gi_e he (by omega)
  have y2 : gi al 2 = (e 2).int := gi_e he (by omega)
  obtain ⟨d8, d7, d6, d5, d4, d3, -⟩ : AllHold T e g_tally_Clamp.defs := allHold_of hd
  have hpE : (t_133 al).1 = (true) := by simp only [t_133, y0, y1, y2]
  have hp := hpE.symm.trans hp
  have hoE : (t_133 al).2 = [.i (Day.clampR (e 0).int (e 1).int (e 2).int)] := by simp only [t_133, y0, y1, y2]
  obtain ⟨ho, hr⟩ := pure_tally_Clamp (e 0).int (e 1).int (e 2).int (e 3).bool (e 4).bool (e 5).int (e 6).bool (e 7).int (e 8).bool
    (q_cmp d3)
    (q_not d4)
    (q_mn d5)
    (q_not d6)
    (q_iteI d7)
    (q_iteB d8)
    hp
  have r0 := hr
  refine ⟨(fun x hx => by cases hx), obs_of (e := e) (l := g_tally_Clamp.obs) trivial, ?_⟩
  rw [hoE]
  show semMany [.int .i64] [.i (Day.clampR (e 0).int (e 1).int (e 2).int)] = semMany [.int .i64] [L.ev e (.var 7)]
  exact (semI r0 rfl)
theorem ctr_tally_Clamp : CtrOK Try.prog T c_tally_Clamp := by
  intro lits al vs w hok hag hargs hpre
  have hpre : (t_133 al).1 = true := by rw [← T_133]; exact hpre
  obtain ⟨hl, hlen⟩ := args_flat hargs rfl
  have hlen : al.length = 3 := hlen
  exact calls_of_run xok_tally_Clamp widths (lits := []) (ns := []) (more := []) rfl run_tally_Clamp (by kernel_rfl) (by kernel_rfl) rfl hargs hl (lit_none) (by rw [show c_tally_Clamp.f = 133 from rfl, T_133]; rfl)
    fun e he hd => by rw [show c_tally_Clamp.f = 133 from rfl, T_133]; exact bridge_tally_Clamp hlen he hd hpre
end Rx.S
namespace Rx.S
open Go Rx Go.Proofs
set_option maxRecDepth 100000
set_option linter.unusedVariables false
def c_ref04_Clamp : Ctr := { f := 134, ps := [.c false [.int .i64], .c false [.int .i64], .c false [.int .i64]], rs := [(false, [.int .i64])], ok := fun _ => true }
noncomputable def fns_ref04_Clamp : List (Nat × Func) := [(134, Try.f134)]
theorem fnsOk_ref04_Clamp : FnsAll Try.prog fns_ref04_Clamp := ⟨fn134, trivial⟩
noncomputable def X_ref04_Clamp : Ctx := { tys := tys, eqs := eqs, fns := fun f => look f fns_ref04_Clamp, ctr := [], lim := 30 }
theorem xok_ref04_Clamp : XOK Try.prog T X_ref04_Clamp where
  tys := tysOk
  eqs := eqsOk
  mixed := mixed
  ctr := ctrsOK_of trivial
  fns := fnsOK_of fnsOk_ref04_Clamp
def g_ref04_Clamp : G := { next := 17, defs := [⟨16, .iteB, [.var 4, .var 13, .var 3]⟩, ⟨15, .iteI, [.var 4, .var 12, .var 1]⟩, ⟨14, .not, [.var 4]⟩, ⟨13, .iteB, [.var 10, .var 10, .var 9]⟩, ⟨12, .iteI, [.var 10, .var 0, .var 2]⟩, ⟨11, .not, [.var 10]⟩, ⟨10, .and, [.var 6, .var 8]⟩, ⟨9, .and, [.var 5, .var 7]⟩, ⟨8, .and, [.var 4, .var 6]⟩, ⟨7, .and, [.var 4, .var 5]⟩, ⟨6, .not, [.var 5]⟩, ⟨5, (.cmp .gtr), [.var 0, .var 2]⟩, ⟨4, .not, [.var 3]⟩, ⟨3, (.cmp .lss), [.var 0, .var 1]⟩], obs := [], known := [] }
theorem run_ref04_Clamp : run X_ref04_Clamp 2000 134 ([.one (.k (.int .i64 (.var 0))), .one (.k (.int .i64 (.var 1))), .one (.k (.int .i64 (.var 2)))]) ([]) 3 [] = some (.pv (.one (.k (.int .i64 (.var 15)))), [], g_ref04_Clamp) := by kernel_rfl
theorem pure_ref04_Clamp (x0 : Int) (x1 : Int) (x2 : Int) (v3 : Bool) (v4 : Bool) (v5 : Bool) (v6 : Bool) (v7 : Bool) (v8 : Bool) (v9 : Bool) (v10 : Bool) (v11 : Bool) (v12 : Int) (v13 : Bool) (v14 : Bool) (v15 : Int) (v16 : Bool)
    (q3 : v3 = (decide (x0 < x1)))
    (q4 : v4 = ((!v3)))
    (q5 : v5 = (decide (x0 > x2)))
    (q6 : v6 = ((!v5)))
    (q7 : v7 = ((v4 && v5)))
    (q8 : v8 = ((v4 && v6)))
    (q9 : v9 = ((v5 && v7)))
    (q10 : v10 = ((v6 && v8)))
    (q11 : v11 = ((!v10)))
    (q12 : v12 = ((if v10 then x0 else x2)))
    (q13 : v13 = ((if v10 then v10 else v9)))
    (q14 : v14 = ((!v4)))
    (q15 : v15 = ((if v4 then v12 else x1)))
    (q16 : v16 = ((if v4 then v13 else v3)))
    (hp : (true) = true)  :
    (True) ∧ (Day.clampR x0 x1 x2 = v15) := by
  grind [Day.clampR, Day.upR, Day.downR, Day.sm, Day.i64, Day.u8, Day.u16, Day.u32, Day.right, Day.times, Day.ownE, Day.ownR, Day.idE, Day.freshN, Day.noND, Day.cleanN, Day.wakeN, Day.rightN, Day.ND.i64, Day.waitR, Day.dueR, Day.ofR, Day.ofE, Day.noFr, wrap64, Day.modP, Day.modR, Day.slotP, Day.nextR, Day.atP, Day.atR, Day.aheadP, Day.aheadR]
theorem bridge_ref04_Clamp {e : Nat → A} {al more : List A} (hlen : al.length = 3) (he : ∀ j a, (al ++ more)[j]? = some a → e j = a) (hd : ∀ d ∈ g_ref04_Clamp.defs, d.holds T e) (hp : (t_134 al).1 = true) :
    (∀ x ∈ g_ref04_Clamp.known, x.holds T e) ∧ (∀ o ∈ g_ref04_Clamp.obs, (o.ev e).bool = true) ∧ semMany (c_ref04_Clamp.rs.flatMap (·.2)) (t_134 al).2 = semMany (c_ref04_Clamp.rs.flatMap (·.2)) ([.var 15].map (L.ev e)) := by
  have y0 : gi al 0 = (e 0).int := gi_e he (by omega)
  have y1 : gi al 1 = (e 1).int := gi_e he (by omega)
  have y2 : gi al 2 = (e 2).int := gi_e he (by omega)
  obtain ⟨d16, d15, d14, d13, d12, d11, d10, d9, d8, d7, d6, d5, d4, d3, -⟩ : AllHold T e g_ref04_Clamp.defs := allHold_of hd
  have hpE : (t_134 al).1 = (true) := by simp only [t_134, y0, y1, y2]
  have hp := hpE.symm.trans hp
  have hoE : (t_134 al).2 = [.i (Day.clampR (e 0).int (e 1).int (e 2).int)] := by simp only [t_134, y0, y1, y2]
  obtain ⟨ho, hr⟩ := pure_ref04_Clamp (e 0).int (e 1).int (e 2).int (e 3).bool (e 4).bool (e 5).bool (e 6).bool (e 7).bool (e 8).bool (e 9).bool (e 10).bool (e 11).bool (e 12).int (e 13).bool (e 14).bool (e 15).int (e 16).bool
    (q_cmp d3)
    (q_not d4)
    (q_cmp d5)
    (q_not d6)
    (q_and d7)
    (q_and d8)
    (q_and d9)
    (q_and d10)
    (q_not d11)
    (q_iteI d12)
    (q_iteB d13)
    (q_not d14)
    (q_iteI d15)
    (q_iteB d16)
    hp
  have r0 := hr
  refine ⟨(fun x hx => by cases hx), obs_of (e := e) (l := g_ref04_Clamp.obs) trivial, ?_⟩
  rw [hoE]
  show semMany [.int .i64] [.i (Day.clampR (e 0).int (e 1).int (e 2).int)] = semMany [.int .i64] [L.ev e (.var 15)]
  exact (semI r0 rfl)
theorem ctr_ref04_Clamp : CtrOK Try.prog T c_ref04_Clamp := by
  intro lits al vs w hok hag hargs hpre
  have hpre : (t_134 al).1 = true := by rw [← T_134]; exact hpre
  obtain ⟨hl, hlen⟩ := args_flat hargs rfl
  have hlen : al.length = 3 := hlen
  exact calls_of_run xok_ref04_Clamp widths (lits := []) (ns := []) (more := []) rfl run_ref04_Clamp (by kernel_rfl) (by kernel_rfl) rfl hargs hl (lit_none) (by rw [show c_ref04_Clamp.f = 134 from rfl, T_134]; rfl)
    fun e he hd => by rw [show c_ref04_Clamp.f = 134 from rfl, T_134]; exact bridge_ref04_Clamp hlen he hd hpre
end Rx.S
namespace Rx.S
open Go Rx Go.Proofs
set_option maxRecDepth 100000
set_option linter.unusedVariables false
def c_ref04_Down : Ctr := { f := 149, ps := [.c false [.int .i64]], rs := [(false, [.int .i64])], ok := fun _ => true }
noncomputable def fns_ref04_Down : List (Nat × Func) := [(149, Try.f149)]
theorem fnsOk_ref04_Down : FnsAll Try.prog fns_ref04_Down := ⟨fn149, trivial⟩
noncomputable def X_ref04_Down : Ctx := { tys := tys, eqs := eqs, fns := fun f => look f fns_ref04_Down, ctr := [], lim := 30 }
theorem xok_ref04_Down : XOK Try.prog T X_ref04_Down where
  tys := tysOk
  eqs := eqsOk
  mixed := mixed
  ctr := ctrsOK_of trivial
  fns := fnsOK_of fnsOk_ref04_Down
def g_ref04_Down : G := { next := 7, defs := [⟨6, .iteB, [.var 2, .var 2, .var 1]⟩, ⟨5, .iteI, [.var 2, .var 3, .n 0]⟩, ⟨4, .not, [.var 2]⟩, ⟨3, (.ar .sub .i64), [.var 0, .n 1]⟩, ⟨2, .not, [.var 1]⟩, ⟨1, (.cmp .leq), [.var 0, .n 0]⟩], obs := [], known := [] }
theorem run_ref04_Down : run X_ref04_Down 2000 149 ([.one (.k (.int .i64 (.var 0)))]) ([]) 1 [] = some (.pv (.one (.k (.int .i64 (.var 5)))), [], g_ref04_Down) := by kernel_rfl
theorem pure_ref04_Down (x0 : Int) (v1 : Bool) (v2 : Bool) (v3 : Int) (v4 : Bool) (v5 : Int) (v6 : Bool)
    (q1 : v1 = (decide (x0 ≤ (0 : Int))))
    (q2 : v2 = ((!v1)))
    (q3 : v3 = (IntKind.wrap .i64 (x0 - (1 : Int))))
    (q4 : v4 = ((!v2)))
    (q5 : v5 = ((if v2 then v3 else (0 : Int))))
    (q6 : v6 = ((if v2 then v2 else v1)))
    (hp : (Day.i64 x0) = true)  :
    (True) ∧ (Day.downR x0 = v5) := by
  grind [Day.clampR, Day.upR, Day.downR, Day.sm, Day.i64, Day.u8, Day.u16, Day.u32, Day.right, Day.times, Day.ownE, Day.ownR, Day.idE, Day.freshN, Day.noND, Day.cleanN, Day.wakeN, Day.rightN, Day.ND.i64, Day.waitR, Day.dueR, Day.ofR, Day.ofE, Day.noFr, wrap64, Day.modP, Day.modR, Day.slotP, Day.nextR, Day.atP, Day.atR, Day.aheadP, Day.aheadR]
theorem bridge_ref04_Down {e : Nat → A} {al more : List A} (hlen : al.length = 1) (he : ∀ j a, (al ++ more)[j]? = some a → e j = a) (hd : ∀ d ∈ g_ref04_Down.defs, d.holds T e) (hp : (t_149 al).1 = true) :
    (∀ x ∈ g_ref04_Down.known, x.holds T e) ∧ (∀ o ∈ g_ref04_Down.obs, (o.ev e).bool = true) ∧ semMany (c_ref04_Down.rs.flatMap (·.2)) (t_149 al).2 = semMany (c_ref04_Down.rs.flatMap (·.2)) ([.var 5].map (L.ev e)) := by
  have y0 : gi al 0 = (e 0).int := gi_e he (by omega)
  obtain ⟨d6, d5, d4, d3, d2, d1, -⟩ : AllHold T e g_ref04_Down.defs := allHold_of hd
  have hpE : (t_149 al).1 = (Day.i64 (e 0).int) := by simp only [t_149, y0]
  have hp := hpE.symm.trans hp
  have hoE : (t_149 al).2 = [.i (Day.downR (e 0).int)] := by simp only [t_149, y0]
  obtain ⟨ho, hr⟩ := pure_ref04_Down (e 0).int (e 1).bool (e 2).bool (e 3).int (e 4).bool (e 5).int (e 6).bool
    (q_cmp d1)
    (q_not d2)
    (q_ar d3)
    (q_not d4)
    (q_iteI d5)
    (q_iteB d6)
    hp
  have r0 := hr
  refine ⟨(fun x hx => by cases hx), obs_of (e := e) (l := g_ref04_Down.obs) trivial, ?_⟩
  rw [hoE]
  show semMany [.int .i64] [.i (Day.downR (e 0).int)] = semMany [.int .i64] [L.ev e (.var 5)]
  exact (semI r0 rfl)
theorem ctr_ref04_Down : CtrOK Try.prog T c_ref04_Down := by
  intro lits al vs w hok hag hargs hpre
  have hpre : (t_149 al).1 = true := by rw [← T_149]; exact hpre
  obtain ⟨hl, hlen⟩ := args_flat hargs rfl
  have hlen : al.length = 1 := hlen
  exact calls_of_run xok_ref04_Down widths (lits := []) (ns := []) (more := []) rfl run_ref04_Down (by kernel_rfl) (by kernel_rfl) rfl hargs hl (lit_none) (by rw [show c_ref04_Down.f = 149 from rfl, T_149]; rfl)
    fun e he hd => by rw [show c_ref04_Down.f = 149 from rfl, T_149]; exact bridge_ref04_Down hlen he hd hpre
end Rx.S
namespace Rx.S
open Go Rx Go.Proofs
set_option maxRecDepth 100000
set_option linter.unusedVariables false
def c_ref04_Up : Ctr := { f := 148, ps := [.c false [.int .i64], .c false [.int .i64]], rs := [(false, [.int .i64])], ok := fun _ => true }
noncomputable def fns_ref04_Up : List (Nat × Func) := [(148, Try.f148)]
theorem fnsOk_ref04_Up : FnsAll Try.prog fns_ref04_Up := ⟨fn148, trivial⟩
noncomputable def X_ref04_Up : Ctx := { tys := tys, eqs := eqs, fns := fun f => look f fns_ref04_Up, ctr := [], lim := 30 }
theorem xok_ref04_Up : XOK Try.prog T X_ref04_Up where
  tys := tysOk
  eqs := eqsOk
  mixed := mixed
  ctr := ctrsOK_of trivial
  fns := fnsOK_of fnsOk_ref04_Up
def g_ref04_Up : G := { next := 11, defs := [⟨10, .iteB, [.var 6, .var 6, .var 5]⟩, ⟨9, .iteI, [.var 6, .var 7, .var 1]⟩, ⟨8, .not, [.var 6]⟩, ⟨7, (.ar .add .i64), [.var 4, .n 1]⟩, ⟨6, .not, [.var 5]⟩, ⟨5, (.cmp .geq), [.var 4, .var 1]⟩, ⟨4, .iteI, [.var 2, .n 0, .var 0]⟩, ⟨3, .not, [.var 2]⟩, ⟨2, (.cmp .lss), [.var 0, .n 0]⟩], obs := [], known := [] }
theorem run_ref04_Up : run X_ref04_Up 2000 148 ([.one (.k (.int .i64 (.var 0))), .one (.k (.int .i64 (.var 1)))]) ([]) 2 [] = some (.pv (.one (.k (.int .i64 (.var 9)))), [], g_ref04_Up) := by kernel_rfl
theorem pure_ref04_Up (x0 : Int) (x1 : Int) (v2 : Bool) (v3 : Bool) (v4 : Int) (v5 : Bool) (v6 : Bool) (v7 : Int) (v8 : Bool) (v9 : Int) (v10 : Bool)
    (q2 : v2 = (decide (x0 < (0 : Int))))
    (q3 : v3 = ((!v2)))
    (q4 : v4 = ((if v2 then (0 : Int) else x0)))
    (q5 : v5 = (decide (v4 ≥ x1)))
    (q6 : v6 = ((!v5)))
    (q7 : v7 = (IntKind.wrap .i64 (v4 + (1 : Int))))
    (q8 : v8 = ((!v6)))
    (q9 : v9 = ((if v6 then v7 else x1)))
    (q10 : v10 = ((if v6 then v6 else v5)))
    (hp : (Day.sm x1) = true)  :
    (True) ∧ (Day.upR x0 x1 = v9) := by
  grind [Day.clampR, Day.upR, Day.downR, Day.sm, Day.i64, Day.u8, Day.u16, Day.u32, Day.right, Day.times, Day.ownE, Day.ownR, Day.idE, Day.freshN, Day.noND, Day.cleanN, Day.wakeN, Day.rightN, Day.ND.i64, Day.waitR, Day.dueR, Day.ofR, Day.ofE, Day.noFr, wrap64, Day.modP, Day.modR, Day.slotP, Day.nextR, Day.atP, Day.atR, Day.aheadP, Day.aheadR]
theorem bridge_ref04_Up {e : Nat → A} {al more : List A} (hlen : al.length = 2) (he : ∀ j a, (al ++ more)[j]? = some a → e j = a) (hd : ∀ d ∈ g_ref04_Up.defs, d.holds T e) (hp : (t_148 al).1 = true) :
    (∀ x ∈ g_ref04_Up.known, x.holds T e) ∧ (∀ o ∈ g_ref04_Up.obs, (o.ev e).bool = true) ∧ semMany (c_ref04_Up.rs.flatMap (·.2)) (t_148 al).2 = semMany (c_ref04_Up.rs.flatMap (·.2)) ([.var 9].map (L.ev e)) := by
  have y0 : gi al 0 = (e 0).int := gi_e he (by omega)
  have y1 : gi al 1 = (e 1).int := gi_e he (by omega)
  obtain ⟨d10, d9, d8, d7, d6, d5, d4, d3, d2, -⟩ : AllHold T e g_ref04_Up.defs := allHold_of hd
  have hpE : (t_148 al).1 = (Day.sm (e 1).int) := by simp only [t_148, y0, y1]
  have hp := hpE.symm.trans hp
  have hoE : (t_148 al).2 = [.i (Day.upR (e 0).int (e 1).int)] := by simp only [t_148, y0, y1]
  obtain ⟨ho, hr⟩ := pure_ref04_Up (e 0).int (e 1).int (e 2).bool (e 3).bool (e 4).int (e 5).bool (e 6).bool (e 7).int (e 8).bool (e 9).int (e 10).bool
    (q_cmp d2)
    (q_not d3)
    (q_iteI d4)
    (q_cmp d5)
    (q_not d6)
    (q_ar d7)
    (q_not d8)
    (q_iteI d9)
    (q_iteB d10)
    hp
  have r0 := hr
  refine ⟨(fun x hx => by cases hx), obs_of (e := e) (l := g_ref04_Up.obs) trivial, ?_⟩
  rw [hoE]
  show semMany [.int .i64] [.i (Day.upR (e 0).int (e 1).int)] = semMany [.int .i64] [L.ev e (.var 9)]
  exact (semI r0 rfl)
theorem ctr_ref04_Up : CtrOK Try.prog T c_ref04_Up := by
  intro lits al vs w hok hag hargs hpre
  have hpre : (t_148 al).1 = true := by rw [← T_148]; exact hpre
  obtain ⟨hl, hlen⟩ := args_flat hargs rfl
  have hlen : al.length = 2 := hlen
  exact calls_of_run xok_ref04_Up widths (lits := []) (ns := []) (more := []) rfl run_ref04_Up (by kernel_rfl) (by kernel_rfl) rfl hargs hl (lit_none) (by rw [show c_ref04_Up.f = 148 from rfl, T_148]; rfl)
    fun e he hd => by rw [show c_ref04_Up.f = 148 from rfl, T_148]; exact bridge_ref04_Up hlen he hd hpre
end Rx.S
namespace Rx.S
open Go Rx Go.Proofs
set_option maxRecDepth 100000
set_option linter.unusedVariables false
def c_tally_Down : Ctr := { f := 142, ps := [.c false [.int .i64]], rs := [(false, [.int .i64])], ok := fun _ => true }
noncomputable def fns_tally_Down : List (Nat × Func) := [(142, Try.f142)]
theorem fnsOk_tally_Down : FnsAll Try.prog fns_tally_Down := ⟨fn142, trivial⟩
noncomputable def X_tally_Down : Ctx := { tys := tys, eqs := eqs, fns := fun f => look f fns_tally_Down, ctr := [], lim := 30 }
theorem xok_tally_Down : XOK Try.prog T X_tally_Down where
  tys := tysOk
  eqs := eqsOk
  mixed := mixed
  ctr := ctrsOK_of trivial
  fns := fnsOK_of fnsOk_tally_Down
def g_tally_Down : G := { next := 3, defs := [⟨2, (.ar .sub .i64), [.var 1, .n 1]⟩, ⟨1, .mx, [.var 0, .n 1]⟩], obs := [], known := [] }
theorem run_tally_Down : run X_tally_Down 2000 142 ([.one (.k (.int .i64 (.var 0)))]) ([]) 1 [] = some (.pv (.one (.k (.int .i64 (.var 2)))), [], g_tally_Down) := by kernel_rfl
theorem pure_tally_Down (x0 : Int) (v1 : Int) (v2 : Int)
    (q1 : v1 = ((if x0 < (1 : Int) then (1 : Int) else x0)))
    (q2 : v2 = (IntKind.wrap .i64 (v1 - (1 : Int))))
    (hp : (Day.i64 x0) = true)  :
    (True) ∧ (Day.downR x0 = v2) := by
  grind [Day.clampR, Day.upR, Day.downR, Day.sm, Day.i64, Day.u8, Day.u16, Day.u32, Day.right, Day.times, Day.ownE, Day.ownR, Day.idE, Day.freshN, Day.noND, Day.cleanN, Day.wakeN, Day.rightN, Day.ND.i64, Day.waitR, Day.dueR, Day.ofR, Day.ofE, Day.noFr, wrap64, Day.modP, Day.modR, Day.slotP, Day.nextR, Day.atP, Day.atR, Day.aheadP, Day.aheadR]
theorem bridge_tally_Down {e : Nat → A} {al more : List A} (hlen : al.length = 1) (he : ∀ j a, (al ++ more)[j]? = some a → e j = a) (hd : ∀ d ∈ g_tally_Down.defs, d.holds T e) (hp : (t_142 al).1 = true) :
    (∀ x ∈ g_tally_Down.known, x.holds T e) ∧ (∀ o ∈ g_tally_Down.obs, (o.ev e).bool = true) ∧ semMany (c_tally_Down.rs.flatMap (·.2)) (t_142 al).2 = semMany (c_tally_Down.rs.flatMap (·.2)) ([.var 2].map (L.ev e)) := by
  have y0 : gi al 0 = (e 0).int := gi_e he (by omega)
  obtain ⟨d2, d1, -⟩ : AllHold T e g_tally_Down.defs := allHold_of hd
  have hpE : (t_142 al).1 = (Day.i64 (e 0).int) := by simp only [t_142, y0]
  have hp := hpE.symm.trans hp
  have hoE : (t_142 al).2 = [.i (Day.downR (e 0).int)] := by simp only [t_142, y0]
  obtain ⟨ho, hr⟩ := pure_tally_Down (e 0).int (e 1).int (e 2).int
    (q_mx d1)
    (q_ar d2)
    hp
  have r0 := hr
  refine ⟨(fun x hx => by cases hx), obs_of (e := e) (l := g_tally_Down.obs) trivial, ?_⟩
  rw [hoE]
  show semMany [.int .i64] [.i (Day.downR (e 0).int)] = semMany [.int .i64] [L.ev e (.var 2)]
  exact (semI r0 rfl)
theorem ctr_tally_Down : CtrOK Try.prog T c_tally_Down := by
  intro lits al vs w hok hag hargs hpre
  have hpre : (t_142 al).1 = true := by rw [← T_142]; exact hpre
  obtain ⟨hl, hlen⟩ := args_flat hargs rfl
  have hlen : al.length = 1 := hlen
  exact calls_of_run xok_tally_Down widths (lits := []) (ns := []) (more := []) rfl run_tally_Down (by kernel_rfl) (by kernel_rfl) rfl hargs hl (lit_none) (by rw [show c_tally_Down.f = 142 from rfl, T_142]; rfl)
    fun e he hd => by rw [show c_tally_Down.f = 142 from rfl, T_142]; exact bridge_tally_Down hlen he hd hpre
end Rx.S
namespace Rx.S
open Go Rx Go.Proofs
set_option maxRecDepth 100000
set_option linter.unusedVariables false
def c_tally_Up : Ctr := { f := 143, ps := [.c false [.int .i64], .c false [.int .i64]], rs := [(false, [.int .i64])], ok := fun _ => true }
noncomputable def fns_tally_Up : List (Nat × Func) := [(143, Try.f143)]
theorem fnsOk_tally_Up : FnsAll Try.prog fns_tally_Up := ⟨fn143, trivial⟩
noncomputable def X_tally_Up : Ctx := { tys := tys, eqs := eqs, fns := fun f => look f fns_tally_Up, ctr := [], lim := 30 }
theorem xok_tally_Up : XOK Try.prog T X_tally_Up where
  tys := tysOk
  eqs := eqsOk
  mixed := mixed
  ctr := ctrsOK_of trivial
  fns := fnsOK_of fnsOk_tally_Up
def g_tally_Up : G := { next := 8, defs := [⟨7, .mn, [.var 6, .var 1]⟩, ⟨6, .iteI, [.var 3, .var 5, .var 2]⟩, ⟨5, (.ar .add .i64), [.var 2, .n 1]⟩, ⟨4, .not, [.var 3]⟩, ⟨3, (.cmp .lss), [.var 2, .var 1]⟩, ⟨2, .mx, [.var 0, .n 0]⟩], obs := [], known := [] }
theorem run_tally_Up : run X_tally_Up 2000 143 ([.one (.k (.int .i64 (.var 0))), .one (.k (.int .i64 (.var 1)))]) ([]) 2 [] = some (.pv (.one (.k (.int .i64 (.var 7)))), [], g_tally_Up) := by kernel_rfl
theorem pure_tally_Up (x0 : Int) (x1 : Int) (v2 : Int) (v3 : Bool) (v4 : Bool) (v5 : Int) (v6 : Int) (v7 : Int)
    (q2 : v2 = ((if x0 < (0 : Int) then (0 : Int) else x0)))
    (q3 : v3 = (decide (v2 < x1)))
    (q4 : v4 = ((!v3)))
    (q5 : v5 = (IntKind.wrap .i64 (v2 + (1 : Int))))
    (q6 : v6 = ((if v3 then v5 else v2)))
    (q7 : v7 = ((if x1 < v6 then x1 else v6)))
    (hp : (Day.sm x1) = true)  :
    (True) ∧ (Day.upR x0 x1 = v7) := by
  grind [Day.clampR, Day.upR, Day.downR, Day.sm, Day.i64, Day.u8, Day.u16, Day.u32, Day.right, Day.times, Day.ownE, Day.ownR, Day.idE, Day.freshN, Day.noND, Day.cleanN, Day.wakeN, Day.rightN, Day.ND.i64, Day.waitR, Day.dueR, Day.ofR, Day.ofE, Day.noFr, wrap64, Day.modP, Day.modR, Day.slotP, Day.nextR, Day.atP, Day.atR, Day.aheadP, Day.aheadR]
theorem bridge_tally_Up {e : Nat → A} {al more : List A} (hlen : al.length = 2) (he : ∀ j a, (al ++ more)[j]? = some a → e j = a) (hd : ∀ d ∈ g_tally_Up.defs, d.holds T e) (hp : (t_143 al).1 = true) :
    (∀ x ∈ g_tally_Up.known, x.holds T e) ∧ (∀ o ∈ g_tally_Up.obs, (o.ev e).bool = true) ∧ semMany (c_tally_Up.rs.flatMap (·.2)) (t_143 al).2 = semMany (c_tally_Up.rs.flatMap (·.2)) ([.var 7].map (L.ev e)) := by
  have y0 : gi al 0 = (e 0).int := gi_e he (by omega)
  have y1 : gi al 1 = (e 1).int := gi_e he (by omega)
  obtain ⟨d7, d6, d5, d4, d3, d2, -⟩ : AllHold T e g_tally_Up.defs := allHold_of hd
  have hpE : (t_143 al).1 = (Day.sm (e 1).int) := by simp only [t_143, y0, y1]
  have hp := hpE.symm.trans hp
  have hoE : (t_143 al).2 = [.i (Day.upR (e 0).int (e 1).int)] := by simp only [t_143, y0, y1]
  obtain ⟨ho, hr⟩ := pure_tally_Up (e 0).int (e 1).int (e 2).int (e 3).bool (e 4).bool (e 5).int (e 6).int (e 7).int
    (q_mx d2)
    (q_cmp d3)
    (q_not d4)
    (q_ar d5)
    (q_iteI d6)
    (q_mn d7)
    hp
  have r0 := hr
  refine ⟨(fun x hx => by cases hx), obs_of (e := e) (l := g_tally_Up.obs) trivial, ?_⟩
  rw [hoE]
  show semMany [.int .i64] [.i (Day.upR (e 0).int (e 1).int)] = semMany [.int .i64] [L.ev e (.var 7)]
  exact (semI r0 rfl)
theorem ctr_tally_Up : CtrOK Try.prog T c_tally_Up := by
  intro lits al vs w hok hag hargs hpre
  have hpre : (t_143 al).1 = true := by rw [← T_143]; exact hpre
  obtain ⟨hl, hlen⟩ := args_flat hargs rfl
  have hlen : al.length = 2 := hlen
  exact calls_of_run xok_tally_Up widths (lits := []) (ns := []) (more := []) rfl run_tally_Up (by kernel_rfl) (by kernel_rfl) rfl hargs hl (lit_none) (by rw [show c_tally_Up.f = 143 from rfl, T_143]; rfl)
    fun e he hd => by rw [show c_tally_Up.f = 143 from rfl, T_143]; exact bridge_tally_Up hlen he hd hpre
end Rx.S
