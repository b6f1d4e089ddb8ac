import Derived.Test.YtjipnabidebgbaaXc
set_option linter.unusedVariables false
set_option linter.unusedSimpArgs false
namespace Rx.S
open Go Rx Go.Proofs
set_option maxRecDepth 100000
set_option linter.unusedVariables false
def c_ring_Mod : Ctr := { f := 33, ps := [.c false [.int .i64], .c false [.int .i64]], rs := [(false, [.int .i64])], ok := fun _ => true }
noncomputable def fns_ring_Mod : List (Nat × Func) := [(33, Try.f33)]
theorem fnsOk_ring_Mod : FnsAll Try.prog fns_ring_Mod := ⟨fn33, trivial⟩
noncomputable def X_ring_Mod : Ctx := { tys := tys, eqs := eqs, fns := fun f => look f fns_ring_Mod, ctr := [], lim := 30 }
theorem xok_ring_Mod : XOK Try.prog T X_ring_Mod where
  tys := tysOk
  eqs := eqsOk
  mixed := mixed
  ctr := ctrsOK_of trivial
  fns := fnsOK_of fnsOk_ring_Mod
def g_ring_Mod : G := { next := 8, defs := [⟨7, .iteI, [.var 4, .var 6, .var 3]⟩, ⟨6, (.ar .add .i64), [.var 3, .var 0]⟩, ⟨5, .not, [.var 4]⟩, ⟨4, (.cmp .lss), [.var 3, .n 0]⟩, ⟨3, (.dv .rem .i64), [.var 1, .var 0]⟩, ⟨2, (.cmp .neq), [.var 0, .n 0]⟩], obs := [.var 2], known := [] }
theorem run_ring_Mod : run X_ring_Mod 2000 33 ([.one (.k (.int .i64 (.var 0))), .one (.k (.int .i64 (.var 1)))]) ([]) 2 [] = some (.pv (.one (.k (.int .i64 (.var 7)))), [], g_ring_Mod) := by kernel_rfl
theorem pure_ring_Mod (x0 : Int) (x1 : Int) (v2 : Bool) (v3 : Int) (v4 : Bool) (v5 : Bool) (v6 : Int) (v7 : Int)
    (q2 : v2 = ((x0 != (0 : Int))))
    (q3 : v3 = (Int.tmod x1 x0))
    (q4 : v4 = (decide (v3 < (0 : Int))))
    (q5 : v5 = ((!v4)))
    (q6 : v6 = (IntKind.wrap .i64 (v3 + x0)))
    (q7 : v7 = ((if v4 then v6 else v3)))
    (hp : (Day.modP x0 && Day.i64 x1) = true)  :
    (v2 = true) ∧ (Day.modR x0 x1 = v7) := by
  have hn : 1 ≤ x0 ∧ x0 ≤ 8 := by grind [Day.clampR, Day.upR, Day.downR, Day.sm, Day.i64, Day.u8, Day.u16, Day.u32, Day.right, Day.times, Day.ownE, Day.ownR, Day.idE, Day.freshN, Day.noND, Day.cleanN, Day.wakeN, Day.rightN, Day.ND.i64, Day.waitR, Day.dueR, Day.ofR, Day.ofE, Day.noFr, wrap64, Day.modP, Day.modR, Day.slotP, Day.nextR, Day.atP, Day.atR, Day.aheadP, Day.aheadR]
  have hn2 : x0 = 1 ∨ x0 = 2 ∨ x0 = 3 ∨ x0 = 4 ∨ x0 = 5 ∨ x0 = 6 ∨ x0 = 7 ∨ x0 = 8 := by omega
  clear hn
  rcases hn2 with rfl | rfl | rfl | rfl | rfl | rfl | rfl | rfl <;> grind [Day.clampR, Day.upR, Day.downR, Day.sm, Day.i64, Day.u8, Day.u16, Day.u32, Day.right, Day.times, Day.ownE, Day.ownR, Day.idE, Day.freshN, Day.noND, Day.cleanN, Day.wakeN, Day.rightN, Day.ND.i64, Day.waitR, Day.dueR, Day.ofR, Day.ofE, Day.noFr, wrap64, Day.modP, Day.modR, Day.slotP, Day.nextR, Day.atP, Day.atR, Day.aheadP, Day.aheadR]
theorem bridge_ring_Mod {e : Nat → A} {al more : List A} (hlen : al.length = 2) (he : ∀ j a, (al ++ more)[j]? = some a → e j = a) (hd : ∀ d ∈ g_ring_Mod.defs, d.holds T e) (hp : (t_33 al).1 = true) :
    (∀ x ∈ g_ring_Mod.known, x.holds T e) ∧ (∀ o ∈ g_ring_Mod.obs, (o.ev e).bool = true) ∧ semMany (c_ring_Mod.rs.flatMap (·.2)) (t_33 al).2 = semMany (c_ring_Mod.rs.flatMap (·.2)) ([.var 7].map (L.ev e)) := by
  have y0 : gi al 0 = (e 0).int := gi_e he (by omega)
  have y1 : gi al 1 = (e 1).int := gi_e he (by omega)
  obtain ⟨d7, d6, d5, d4, d3, d2, -⟩ : AllHold T e g_ring_Mod.defs := allHold_of hd
  have hpE : (t_33 al).1 = (Day.modP (e 0).int && Day.i64 (e 1).int) := by simp only [t_33, y0, y1]
  have hp := hpE.symm.trans hp
  have hoE : (t_33 al).2 = [.i (Day.modR (e 0).int (e 1).int)] := by simp only [t_33, y0, y1]
  obtain ⟨ho, hr⟩ := pure_ring_Mod (e 0).int (e 1).int (e 2).bool (e 3).int (e 4).bool (e 5).bool (e 6).int (e 7).int
    (q_cmp d2)
    (q_dv d3)
    (q_cmp d4)
    (q_not d5)
    (q_ar d6)
    (q_iteI d7)
    hp
  have o0 := ho
  have r0 := hr
  refine ⟨(fun x hx => by cases hx), obs_of (e := e) (l := g_ring_Mod.obs) ⟨o0, trivial⟩, ?_⟩
  rw [hoE]
  show semMany [.int .i64] [.i (Day.modR (e 0).int (e 1).int)] = semMany [.int .i64] [L.ev e (.var 7)]
  exact (semI r0 rfl)
theorem ctr_ring_Mod : CtrOK Try.prog T c_ring_Mod := by
  intro lits al vs w hok hag hargs hpre
  have hpre : (t_33 al).1 = true := by rw [← T_33]; exact hpre
  obtain ⟨hl, hlen⟩ := args_flat hargs rfl
  have hlen : al.length = 2 := hlen
  exact calls_of_run xok_ring_Mod widths (lits := []) (ns := []) (more := []) rfl run_ring_Mod (by kernel_rfl) (by kernel_rfl) rfl hargs hl (lit_none) (by rw [show c_ring_Mod.f = 33 from rfl, T_33]; rfl)
    fun e he hd => by rw [show c_ring_Mod.f = 33 from rfl, T_33]; exact bridge_ring_Mod hlen he hd hpre
end Rx.S
namespace Rx.S
open Go Rx Go.Proofs
set_option maxRecDepth 100000
set_option linter.unusedVariables false
def c_ring_Ahead : Ctr := { f := 39, ps := [.c false [.int .i64], .c false [.int .i64], .c false [.int .i64]], rs := [(false, [.int .i64])], ok := fun _ => true }
noncomputable def fns_ring_Ahead : List (Nat × Func) := [(39, Try.f39)]
theorem fnsOk_ring_Ahead : FnsAll Try.prog fns_ring_Ahead := ⟨fn39, trivial⟩
noncomputable def X_ring_Ahead : Ctx := { tys := tys, eqs := eqs, fns := fun f => look f fns_ring_Ahead, ctr := [], lim := 30 }
theorem xok_ring_Ahead : XOK Try.prog T X_ring_Ahead where
  tys := tysOk
  eqs := eqsOk
  mixed := mixed
  ctr := ctrsOK_of trivial
  fns := fnsOK_of fnsOk_ring_Ahead
def g_ring_Ahead : G := { next := 8, defs := [⟨7, (.ar .sub .i64), [.var 6, .var 1]⟩, ⟨6, .iteI, [.var 3, .var 5, .var 2]⟩, ⟨5, (.ar .add .i64), [.var 2, .var 0]⟩, ⟨4, .not, [.var 3]⟩, ⟨3, (.cmp .lss), [.var 2, .var 1]⟩], obs := [], known := [] }
theorem run_ring_Ahead : run X_ring_Ahead 2000 39 ([.one (.k (.int .i64 (.var 0))), .one (.k (.int .i64 (.var 1))), .one (.k (.int .i64 (.var 2)))]) ([]) 3 [] = some (.pv (.one (.k (.int .i64 (.var 7)))), [], g_ring_Ahead) := by kernel_rfl
theorem pure_ring_Ahead (x0 : Int) (x1 : Int) (x2 : Int) (v3 : Bool) (v4 : Bool) (v5 : Int) (v6 : Int) (v7 : Int)
    (q3 : v3 = (decide (x2 < x1)))
    (q4 : v4 = ((!v3)))
    (q5 : v5 = (IntKind.wrap .i64 (x2 + x0)))
    (q6 : v6 = ((if v3 then v5 else x2)))
    (q7 : v7 = (IntKind.wrap .i64 (v6 - x1)))
    (hp : (Day.aheadP x0 x1 x2) = true)  :
    (True) ∧ (Day.aheadR x0 x1 x2 = v7) := by
  have hn : 1 ≤ x0 ∧ x0 ≤ 8 := by grind [Day.clampR, Day.upR, Day.downR, Day.sm, Day.i64, Day.u8, Day.u16, Day.u32, Day.right, Day.times, Day.ownE, Day.ownR, Day.idE, Day.freshN, Day.noND, Day.cleanN, Day.wakeN, Day.rightN, Day.ND.i64, Day.waitR, Day.dueR, Day.ofR, Day.ofE, Day.noFr, wrap64, Day.modP, Day.modR, Day.slotP, Day.nextR, Day.atP, Day.atR, Day.aheadP, Day.aheadR]
  have hn2 : x0 = 1 ∨ x0 = 2 ∨ x0 = 3 ∨ x0 = 4 ∨ x0 = 5 ∨ x0 = 6 ∨ x0 = 7 ∨ x0 = 8 := by omega
  clear hn
  rcases hn2 with rfl | rfl | rfl | rfl | rfl | rfl | rfl | rfl <;> grind [Day.clampR, Day.upR, Day.downR, Day.sm, Day.i64, Day.u8, Day.u16, Day.u32, Day.right, Day.times, Day.ownE, Day.ownR, Day.idE, Day.freshN, Day.noND, Day.cleanN, Day.wakeN, Day.rightN, Day.ND.i64, Day.waitR, Day.dueR, Day.ofR, Day.ofE, Day.noFr, wrap64, Day.modP, Day.modR, Day.slotP, Day.nextR, Day.atP, Day.atR, Day.aheadP, Day.aheadR]
theorem bridge_ring_Ahead {e : Nat → A} {al more : List A} (hlen : al.length = 3) (he : ∀ j a, (al ++ more)[j]? = some a → e j = a) (hd : ∀ d ∈ g_ring_Ahead.defs, d.holds T e) (hp : (t_39 al).1 = true) :
    (∀ x ∈ g_ring_Ahead.known, x.holds T e) ∧ (∀ o ∈ g_ring_Ahead.obs, (o.ev e).bool = true) ∧ semMany (c_ring_Ahead.rs.flatMap (·.2)) (t_39 al).2 = semMany (c_ring_Ahead.rs.flatMap (·.2)) ([.var 7].map (L.ev e)) := by
  have y0 : gi al 0 = (e 0).int := gi_e he (by omega)
  have y1 : gi al 1 = (e 1).int := gi_e he (by omega)
  have y2 : gi al 2 = (e 2).int := gi_e he (by omega)
  obtain ⟨d7, d6, d5, d4, d3, -⟩ : AllHold T e g_ring_Ahead.defs := allHold_of hd
  have hpE : (t_39 al).1 = (Day.aheadP (e 0).int (e 1).int (e 2).int) := by simp only [t_39, y0, y1, y2]
  have hp := hpE.symm.trans hp
  have hoE : (t_39 al).2 = [.i (Day.aheadR (e 0).int (e 1).int (e 2).int)] := by simp only [t_39, y0, y1, y2]
  obtain ⟨ho, hr⟩ := pure_ring_Ahead (e 0).int (e 1).int (e 2).int (e 3).bool (e 4).bool (e 5).int (e 6).int (e 7).int
    (q_cmp d3)
    (q_not d4)
    (q_ar d5)
    (q_iteI d6)
    (q_ar d7)
    hp
  have r0 := hr
  refine ⟨(fun x hx => by cases hx), obs_of (e := e) (l := g_ring_Ahead.obs) trivial, ?_⟩
  rw [hoE]
  show semMany [.int .i64] [.i (Day.aheadR (e 0).int (e 1).int (e 2).int)] = semMany [.int .i64] [L.ev e (.var 7)]
  exact (semI r0 rfl)
theorem ctr_ring_Ahead : CtrOK Try.prog T c_ring_Ahead := by
  intro lits al vs w hok hag hargs hpre
  have hpre : (t_39 al).1 = true := by rw [← T_39]; exact hpre
  obtain ⟨hl, hlen⟩ := args_flat hargs rfl
  have hlen : al.length = 3 := hlen
  exact calls_of_run xok_ring_Ahead widths (lits := []) (ns := []) (more := []) rfl run_ring_Ahead (by kernel_rfl) (by kernel_rfl) rfl hargs hl (lit_none) (by rw [show c_ring_Ahead.f = 39 from rfl, T_39]; rfl)
    fun e he hd => by rw [show c_ring_Ahead.f = 39 from rfl, T_39]; exact bridge_ring_Ahead hlen he hd hpre
end Rx.S
namespace Rx.S
open Go Rx Go.Proofs
set_option maxRecDepth 100000
set_option linter.unusedVariables false
def c_ref05_Mod : Ctr := { f := 34, ps := [.c false [.int .i64], .c false [.int .i64]], rs := [(false, [.int .i64])], ok := fun _ => true }
noncomputable def fns_ref05_Mod : List (Nat × Func) := [(34, Try.f34)]
theorem fnsOk_ref05_Mod : FnsAll Try.prog fns_ref05_Mod := ⟨fn34, trivial⟩
noncomputable def X_ref05_Mod : Ctx := { tys := tys, eqs := eqs, fns := fun f => look f fns_ref05_Mod, ctr := [], lim := 30 }
theorem xok_ref05_Mod : XOK Try.prog T X_ref05_Mod where
  tys := tysOk
  eqs := eqsOk
  mixed := mixed
  ctr := ctrsOK_of trivial
  fns := fnsOK_of fnsOk_ref05_Mod
def g_ref05_Mod : G := { next := 7, defs := [⟨6, (.dv .rem .i64), [.var 4, .var 0]⟩, ⟨5, (.cmp .neq), [.var 0, .n 0]⟩, ⟨4, (.ar .add .i64), [.var 3, .var 0]⟩, ⟨3, (.dv .rem .i64), [.var 1, .var 0]⟩, ⟨2, (.cmp .neq), [.var 0, .n 0]⟩], obs := [.var 5, .var 2], known := [] }
theorem run_ref05_Mod : run X_ref05_Mod 2000 34 ([.one (.k (.int .i64 (.var 0))), .one (.k (.int .i64 (.var 1)))]) ([]) 2 [] = some (.pv (.one (.k (.int .i64 (.var 6)))), [], g_ref05_Mod) := by kernel_rfl
theorem pure_ref05_Mod (x0 : Int) (x1 : Int) (v2 : Bool) (v3 : Int) (v4 : Int) (v5 : Bool) (v6 : Int)
    (q2 : v2 = ((x0 != (0 : Int))))
    (q3 : v3 = (Int.tmod x1 x0))
    (q4 : v4 = (IntKind.wrap .i64 (v3 + x0)))
    (q5 : v5 = ((x0 != (0 : Int))))
    (q6 : v6 = (Int.tmod v4 x0))
    (hp : (Day.modP x0 && Day.i64 x1) = true)  :
    (v5 = true ∧ v2 = true) ∧ (Day.modR x0 x1 = v6) := by
  have hn : 1 ≤ x0 ∧ x0 ≤ 8 := by grind [Day.clampR, Day.upR, Day.downR, Day.sm, Day.i64, Day.u8, Day.u16, Day.u32, Day.right, Day.times, Day.ownE, Day.ownR, Day.idE, Day.freshN, Day.noND, Day.cleanN, Day.wakeN, Day.rightN, Day.ND.i64, Day.waitR, Day.dueR, Day.ofR, Day.ofE, Day.noFr, wrap64, Day.modP, Day.modR, Day.slotP, Day.nextR, Day.atP, Day.atR, Day.aheadP, Day.aheadR]
  have hn2 : x0 = 1 ∨ x0 = 2 ∨ x0 = 3 ∨ x0 = 4 ∨ x0 = 5 ∨ x0 = 6 ∨ x0 = 7 ∨ x0 = 8 := by omega
  clear hn
  rcases hn2 with rfl | rfl | rfl | rfl | rfl | rfl | rfl | rfl <;> grind [Day.clampR, Day.upR, Day.downR, Day.sm, Day.i64, Day.u8, Day.u16, Day.u32, Day.right, Day.times, Day.ownE, Day.ownR, Day.idE, Day.freshN, Day.noND, Day.cleanN, Day.wakeN, Day.rightN, Day.ND.i64, Day.waitR, Day.dueR, Day.ofR, Day.ofE, Day.noFr, wrap64, Day.modP, Day.modR, Day.slotP, Day.nextR, Day.atP, Day.atR, Day.aheadP, Day.aheadR]
theorem bridge_ref05_Mod {e : Nat → A} {al more : List A} (hlen : al.length = 2) (he : ∀ j a, (al ++ more)[j]? = some a → e j = a) (hd : ∀ d ∈ g_ref05_Mod.defs, d.holds T e) (hp : (t_34 al).1 = true) :
    (∀ x ∈ g_ref05_Mod.known, x.holds T e) ∧ (∀ o ∈ g_ref05_Mod.obs, (o.ev e).bool = true) ∧ semMany (c_ref05_Mod.rs.flatMap (·.2)) (t_34 al).2 = semMany (c_ref05_Mod.rs.flatMap (·.2)) ([.var 6].map (L.ev e)) := by
  have y0 : gi al 0 = (e 0).int := gi_e he (by omega)
  have y1 : gi al 1 = (e 1).int := gi_e he (by omega)
  obtain ⟨d6, d5, d4, d3, d2, -⟩ : AllHold T e g_ref05_Mod.defs := allHold_of hd
  have hpE : (t_34 al).1 = (Day.modP (e 0).int && Day.i64 (e 1).int) := by simp only [t_34, y0, y1]
  have hp := hpE.symm.trans hp
  have hoE : (t_34 al).2 = [.i (Day.modR (e 0).int (e 1).int)] := by simp only [t_34, y0, y1]
  obtain ⟨ho, hr⟩ := pure_ref05_Mod (e 0).int (e 1).int (e 2).bool (e 3).int (e 4).int (e 5).bool (e 6).int
    (q_cmp d2)
    (q_dv d3)
    (q_ar d4)
    (q_cmp d5)
    (q_dv d6)
    hp
  obtain ⟨o0, o1⟩ := ho
  have r0 := hr
  refine ⟨(fun x hx => by cases hx), obs_of (e := e) (l := g_ref05_Mod.obs) ⟨o0, o1, trivial⟩, ?_⟩
  rw [hoE]
  show semMany [.int .i64] [.i (Day.modR (e 0).int (e 1).int)] = semMany [.int .i64] [L.ev e (.var 6)]
  exact (semI r0 rfl)
theorem ctr_ref05_Mod : CtrOK Try.prog T c_ref05_Mod := by
  intro lits al vs w hok hag hargs hpre
  have hpre : (t_34 al).1 = true := by rw [← T_34]; exact hpre
  obtain ⟨hl, hlen⟩ := args_flat hargs rfl
  have hlen : al.length = 2 := hlen
  exact calls_of_run xok_ref05_Mod widths (lits := []) (ns := []) (more := []) rfl run_ref05_Mod (by kernel_rfl) (by kernel_rfl) rfl hargs hl (lit_none) (by rw [show c_ref05_Mod.f = 34 from rfl, T_34]; rfl)
    fun e he hd => by rw [show c_ref05_Mod.f = 34 from rfl, T_34]; exact bridge_ref05_Mod hlen he hd hpre
end Rx.S
namespace Rx.S
open Go Rx Go.Proofs
set_option maxRecDepth 100000
set_option linter.unusedVariables false
def c_ref05_Ahead : Ctr := { f := 40, ps := [.c false [.int .i64], .c false [.int .i64], .c false [.int .i64]], rs := [(false, [.int .i64])], ok := fun _ => true }
noncomputable def fns_ref05_Ahead : List (Nat × Func) := [(34, Try.f34), (40, Try.f40)]
theorem fnsOk_ref05_Ahead : FnsAll Try.prog fns_ref05_Ahead := ⟨fn34, fn40, trivial⟩
noncomputable def X_ref05_Ahead : Ctx := { tys := tys, eqs := eqs, fns := fun f => look f fns_ref05_Ahead, ctr := [(34, c_ref05_Mod)], lim := 30 }
theorem xok_ref05_Ahead : XOK Try.prog T X_ref05_Ahead where
  tys := tysOk
  eqs := eqsOk
  mixed := mixed
  ctr := ctrsOK_of ⟨⟨rfl, ctr_ref05_Mod⟩, trivial⟩
  fns := fnsOK_of fnsOk_ref05_Ahead
def g_ref05_Ahead : G := { next := 6, defs := [⟨4, (.call 34), [.var 0, .var 3]⟩, ⟨3, (.ar .sub .i64), [.var 2, .var 1]⟩], obs := [.var 4], known := [] }
theorem run_ref05_Ahead : run X_ref05_Ahead 2000 40 ([.one (.k (.int .i64 (.var 0))), .one (.k (.int .i64 (.var 1))), .one (.k (.int .i64 (.var 2)))]) ([]) 3 [] = some (.pv (.one (.k (.int .i64 (.var 5)))), [], g_ref05_Ahead) := by kernel_rfl
theorem pure_ref05_Ahead (x0 : Int) (x1 : Int) (x2 : Int) (v3 : Int) (v4 : Bool) (v5 : Int)
    (q3 : v3 = (IntKind.wrap .i64 (x2 - x1)))
    (q4 : v4 = (Day.modP x0 && Day.i64 v3))
    (q5 : v5 = (Day.modR x0 v3))
    (hp : (Day.aheadP x0 x1 x2) = true)  :
    (v4 = true) ∧ (Day.aheadR x0 x1 x2 = v5) := by
  have hn : 1 ≤ x0 ∧ x0 ≤ 8 := by grind [Day.clampR, Day.upR, Day.downR, Day.sm, Day.i64, Day.u8, Day.u16, Day.u32, Day.right, Day.times, Day.ownE, Day.ownR, Day.idE, Day.freshN, Day.noND, Day.cleanN, Day.wakeN, Day.rightN, Day.ND.i64, Day.waitR, Day.dueR, Day.ofR, Day.ofE, Day.noFr, wrap64, Day.modP, Day.modR, Day.slotP, Day.nextR, Day.atP, Day.atR, Day.aheadP, Day.aheadR]
  have hn2 : x0 = 1 ∨ x0 = 2 ∨ x0 = 3 ∨ x0 = 4 ∨ x0 = 5 ∨ x0 = 6 ∨ x0 = 7 ∨ x0 = 8 := by omega
  clear hn
  rcases hn2 with rfl | rfl | rfl | rfl | rfl | rfl | rfl | rfl <;> grind [Day.clampR, Day.upR, Day.downR, Day.sm, Day.i64, Day.u8, Day.u16, Day.u32, Day.right, Day.times, Day.ownE, Day.ownR, Day.idE, Day.freshN, Day.noND, Day.cleanN, Day.wakeN, Day.rightN, Day.ND.i64, Day.waitR, Day.dueR, Day.ofR, Day.ofE, Day.noFr, wrap64, Day.modP, Day.modR, Day.slotP, Day.nextR, Day.atP, Day.atR, Day.aheadP, Day.aheadR]
theorem bridge_ref05_Ahead {e : Nat → A} {al more : List A} (hlen : al.length = 3) (he : ∀ j a, (al ++ more)[j]? = some a → e j = a) (hd : ∀ d ∈ g_ref05_Ahead.defs, d.holds T e) (hp : (t_40 al).1 = true) :
    (∀ x ∈ g_ref05_Ahead.known, x.holds T e) ∧ (∀ o ∈ g_ref05_Ahead.obs, (o.ev e).bool = true) ∧ semMany (c_ref05_Ahead.rs.flatMap (·.2)) (t_40 al).2 = semMany (c_ref05_Ahead.rs.flatMap (·.2)) ([.var 5].map (L.ev e)) := by
  have y0 : gi al 0 = (e 0).int := gi_e he (by omega)
  have y1 : gi al 1 = (e 1).int := gi_e he (by omega)
  have y2 : gi al 2 = (e 2).int := gi_e he (by omega)
  obtain ⟨d4, d3, -⟩ : AllHold T e g_ref05_Ahead.defs := allHold_of hd
  have hpE : (t_40 al).1 = (Day.aheadP (e 0).int (e 1).int (e 2).int) := by simp only [t_40, y0, y1, y2]
  have hp := hpE.symm.trans hp
  have hoE : (t_40 al).2 = [.i (Day.aheadR (e 0).int (e 1).int (e 2).int)] := by simp only [t_40, y0, y1, y2]
  obtain ⟨ho, hr⟩ := pure_ref05_Ahead (e 0).int (e 1).int (e 2).int (e 3).int (e 4).bool (e 5).int
    (q_ar d3)
    (q_pre T_34 d4)
    (q_outI T_34 0 d4 rfl)
    hp
  have o0 := ho
  have r0 := hr
  refine ⟨(fun x hx => by cases hx), obs_of (e := e) (l := g_ref05_Ahead.obs) ⟨o0, trivial⟩, ?_⟩
  rw [hoE]
  show semMany [.int .i64] [.i (Day.aheadR (e 0).int (e 1).int (e 2).int)] = semMany [.int .i64] [L.ev e (.var 5)]
  exact (semI r0 rfl)
theorem ctr_ref05_Ahead : CtrOK Try.prog T c_ref05_Ahead := by
  intro lits al vs w hok hag hargs hpre
  have hpre : (t_40 al).1 = true := by rw [← T_40]; exact hpre
  obtain ⟨hl, hlen⟩ := args_flat hargs rfl
  have hlen : al.length = 3 := hlen
  exact calls_of_run xok_ref05_Ahead widths (lits := []) (ns := []) (more := []) rfl run_ref05_Ahead (by kernel_rfl) (by kernel_rfl) rfl hargs hl (lit_none) (by rw [show c_ref05_Ahead.f = 40 from rfl, T_40]; rfl)
    fun e he hd => by rw [show c_ref05_Ahead.f = 40 from rfl, T_40]; exact bridge_ref05_Ahead hlen he hd hpre
end Rx.S
namespace Rx.S
open Go Rx Go.Proofs
set_option maxRecDepth 100000
set_option linter.unusedVariables false
def c_ref05_At : Ctr := { f := 38, ps := [.c false [.int .i64], .c false [.int .i64], .c false [.int .i64]], rs := [(false, [.int .i64])], ok := fun _ => true }
noncomputable def fns_ref05_At : List (Nat × Func) := [(34, Try.f34), (38, Try.f38)]
theorem fnsOk_ref05_At : FnsAll Try.prog fns_ref05_At := ⟨fn34, fn38, trivial⟩
noncomputable def X_ref05_At : Ctx := { tys := tys, eqs := eqs, fns := fun f => look f fns_ref05_At, ctr := [(34, c_ref05_Mod)], lim := 30 }
theorem xok_ref05_At : XOK Try.prog T X_ref05_At where
  tys := tysOk
  eqs := eqsOk
  mixed := mixed
  ctr := ctrsOK_of ⟨⟨rfl, ctr_ref05_Mod⟩, trivial⟩
  fns := fnsOK_of fnsOk_ref05_At
def g_ref05_At : G := { next := 6, defs := [⟨4, (.call 34), [.var 0, .var 3]⟩, ⟨3, (.ar .add .i64), [.var 1, .var 2]⟩], obs := [.var 4], known := [] }
theorem run_ref05_At : run X_ref05_At 2000 38 ([.one (.k (.int .i64 (.var 0))), .one (.k (.int .i64 (.var 1))), .one (.k (.int .i64 (.var 2)))]) ([]) 3 [] = some (.pv (.one (.k (.int .i64 (.var 5)))), [], g_ref05_At) := by kernel_rfl
theorem pure_ref05_At (x0 : Int) (x1 : Int) (x2 : Int) (v3 : Int) (v4 : Bool) (v5 : Int)
    (q3 : v3 = (IntKind.wrap .i64 (x1 + x2)))
    (q4 : v4 = (Day.modP x0 && Day.i64 v3))
    (q5 : v5 = (Day.modR x0 v3))
    (hp : (Day.atP x0 x1 x2) = true)  :
    (v4 = true) ∧ (Day.atR x0 x1 x2 = v5) := by
  have hn : 1 ≤ x0 ∧ x0 ≤ 8 := by grind [Day.clampR, Day.upR, Day.downR, Day.sm, Day.i64, Day.u8, Day.u16, Day.u32, Day.right, Day.times, Day.ownE, Day.ownR, Day.idE, Day.freshN, Day.noND, Day.cleanN, Day.wakeN, Day.rightN, Day.ND.i64, Day.waitR, Day.dueR, Day.ofR, Day.ofE, Day.noFr, wrap64, Day.modP, Day.modR, Day.slotP, Day.nextR, Day.atP, Day.atR, Day.aheadP, Day.aheadR]
  have hn2 : x0 = 1 ∨ x0 = 2 ∨ x0 = 3 ∨ x0 = 4 ∨ x0 = 5 ∨ x0 = 6 ∨ x0 = 7 ∨ x0 = 8 := by omega
  clear hn
  rcases hn2 with rfl | rfl | rfl | rfl | rfl | rfl | rfl | rfl <;> grind [Day.clampR, Day.upR, Day.downR, Day.sm, Day.i64, Day.u8, Day.u16, Day.u32, Day.right, Day.times, Day.ownE, Day.ownR, Day.idE, Day.freshN, Day.noND, Day.cleanN, Day.wakeN, Day.rightN, Day.ND.i64, Day.waitR, Day.dueR, Day.ofR, Day.ofE, Day.noFr, wrap64, Day.modP, Day.modR, Day.slotP, Day.nextR, Day.atP, Day.atR, Day.aheadP, Day.aheadR]
theorem bridge_ref05_At {e : Nat → A} {al more : List A} (hlen : al.length = 3) (he : ∀ j a, (al ++ more)[j]? = some a → e j = a) (hd : ∀ d ∈ g_ref05_At.defs, d.holds T e) (hp : (t_38 al).1 = true) :
    (∀ x ∈ g_ref05_At.known, x.holds T e) ∧ (∀ o ∈ g_ref05_At.obs, (o.ev e).bool = true) ∧ semMany (c_ref05_At.rs.flatMap (·.2)) (t_38 al).2 = semMany (c_ref05_At.rs.flatMap (·.2)) ([.var 5].map (L.ev e)) := by
  have y0 : gi al 0 = (e 0).int := gi_e he (by omega)
  have y1 : gi al 1 = (e 1).int := gi_e he (by omega)
  have y2 : gi al 2 = (e 2).int := gi_e he (by omega)
  obtain ⟨d4, d3, -⟩ : AllHold T e g_ref05_At.defs := allHold_of hd
  have hpE : (t_38 al).1 = (Day.atP (e 0).int (e 1).int (e 2).int) := by simp only [t_38, y0, y1, y2]
  have hp := hpE.symm.trans hp
  have hoE : (t_38 al).2 = [.i (Day.atR (e 0).int (e 1).int (e 2).int)] := by simp only [t_38, y0, y1, y2]
  obtain ⟨ho, hr⟩ := pure_ref05_At (e 0).int (e 1).int (e 2).int (e 3).int (e 4).bool (e 5).int
    (q_ar d3)
    (q_pre T_34 d4)
    (q_outI T_34 0 d4 rfl)
    hp
  have o0 := ho
  have r0 := hr
  refine ⟨(fun x hx => by cases hx), obs_of (e := e) (l := g_ref05_At.obs) ⟨o0, trivial⟩, ?_⟩
  rw [hoE]
  show semMany [.int .i64] [.i (Day.atR (e 0).int (e 1).int (e 2).int)] = semMany [.int .i64] [L.ev e (.var 5)]
  exact (semI r0 rfl)
theorem ctr_ref05_At : CtrOK Try.prog T c_ref05_At := by
  intro lits al vs w hok hag hargs hpre
  have hpre : (t_38 al).1 = true := by rw [← T_38]; exact hpre
  obtain ⟨hl, hlen⟩ := args_flat hargs rfl
  have hlen : al.length = 3 := hlen
  exact calls_of_run xok_ref05_At widths (lits := []) (ns := []) (more := []) rfl run_ref05_At (by kernel_rfl) (by kernel_rfl) rfl hargs hl (lit_none) (by rw [show c_ref05_At.f = 38 from rfl, T_38]; rfl)
    fun e he hd => by rw [show c_ref05_At.f = 38 from rfl, T_38]; exact bridge_ref05_At hlen he hd hpre
end Rx.S
namespace Rx.S
open Go Rx Go.Proofs
set_option maxRecDepth 100000
set_option linter.unusedVariables false
def c_ref05_Next : Ctr := { f := 36, ps := [.c false [.int .i64], .c false [.int .i64]], rs := [(false, [.int .i64])], ok := fun _ => true }
noncomputable def fns_ref05_Next : List (Nat × Func) := [(34, Try.f34), (36, Try.f36)]
theorem fnsOk_ref05_Next : FnsAll Try.prog fns_ref05_Next := ⟨fn34, fn36, trivial⟩
noncomputable def X_ref05_Next : Ctx := { tys := tys, eqs := eqs, fns := fun f => look f fns_ref05_Next, ctr := [(34, c_ref05_Mod)], lim := 30 }
theorem xok_ref05_Next : XOK Try.prog T X_ref05_Next where
  tys := tysOk
  eqs := eqsOk
  mixed := mixed
  ctr := ctrsOK_of ⟨⟨rfl, ctr_ref05_Mod⟩, trivial⟩
  fns := fnsOK_of fnsOk_ref05_Next
def g_ref05_Next : G := { next := 5, defs := [⟨3, (.call 34), [.var 0, .var 2]⟩, ⟨2, (.ar .add .i64), [.var 1, .n 1]⟩], obs := [.var 3], known := [] }
theorem run_ref05_Next : run X_ref05_Next 2000 36 ([.one (.k (.int .i64 (.var 0))), .one (.k (.int .i64 (.var 1)))]) ([]) 2 [] = some (.pv (.one (.k (.int .i64 (.var 4)))), [], g_ref05_Next) := by kernel_rfl
theorem pure_ref05_Next (x0 : Int) (x1 : Int) (v2 : Int) (v3 : Bool) (v4 : Int)
    (q2 : v2 = (IntKind.wrap .i64 (x1 + (1 : Int))))
    (q3 : v3 = (Day.modP x0 && Day.i64 v2))
    (q4 : v4 = (Day.modR x0 v2))
    (hp : (Day.slotP x0 x1) = true)  :
    (v3 = true) ∧ (Day.nextR x0 x1 = v4) := by
  have hn : 1 ≤ x0 ∧ x0 ≤ 8 := by grind [Day.clampR, Day.upR, Day.downR, Day.sm, Day.i64, Day.u8, Day.u16, Day.u32, Day.right, Day.times, Day.ownE, Day.ownR, Day.idE, Day.freshN, Day.noND, Day.cleanN, Day.wakeN, Day.rightN, Day.ND.i64, Day.waitR, Day.dueR, Day.ofR, Day.ofE, Day.noFr, wrap64, Day.modP, Day.modR, Day.slotP, Day.nextR, Day.atP, Day.atR, Day.aheadP, Day.aheadR]
  have hn2 : x0 = 1 ∨ x0 = 2 ∨ x0 = 3 ∨ x0 = 4 ∨ x0 = 5 ∨ x0 = 6 ∨ x0 = 7 ∨ x0 = 8 := by omega
  clear hn
  rcases hn2 with rfl | rfl | rfl | rfl | rfl | rfl | rfl | rfl <;> grind [Day.clampR, Day.upR, Day.downR, Day.sm, Day.i64, Day.u8, Day.u16, Day.u32, Day.right, Day.times, Day.ownE, Day.ownR, Day.idE, Day.freshN, Day.noND, Day.cleanN, Day.wakeN, Day.rightN, Day.ND.i64, Day.waitR, Day.dueR, Day.ofR, Day.ofE, Day.noFr, wrap64, Day.modP, Day.modR, Day.slotP, Day.nextR, Day.atP, Day.atR, Day.aheadP, Day.aheadR]
theorem bridge_ref05_Next {e : Nat → A} {al more : List A} (hlen : al.length = 2) (he : ∀ j a, (al ++ more)[j]? = some a → e j = a) (hd : ∀ d ∈ g_ref05_Next.defs, d.holds T e) (hp : (t_36 al).1 = true) :
    (∀ x ∈ g_ref05_Next.known, x.holds T e) ∧ (∀ o ∈ g_ref05_Next.obs, (o.ev e).bool = true) ∧ semMany (c_ref05_Next.rs.flatMap (·.2)) (t_36 al).2 = semMany (c_ref05_Next.rs.flatMap (·.2)) ([.var 4].map (L.ev e)) := by
  have y0 : gi al 0 = (e 0).int := gi_e he (by omega)
  have y1 : gi al 1 = (e 1).int := gi_e he (by omega)
  obtain ⟨d3, d2, -⟩ : AllHold T e g_ref05_Next.defs := allHold_of hd
  have hpE : (t_36 al).1 = (Day.slotP (e 0).int (e 1).int) := by simp only [t_36, y0, y1]
  have hp := hpE.symm.trans hp
  have hoE : (t_36 al).2 = [.i (Day.nextR (e 0).int (e 1).int)] := by simp only [t_36, y0, y1]
  obtain ⟨ho, hr⟩ := pure_ref05_Next (e 0).int (e 1).int (e 2).int (e 3).bool (e 4).int
    (q_ar d2)
    (q_pre T_34 d3)
    (q_outI T_34 0 d3 rfl)
    hp
  have o0 := ho
  have r0 := hr
  refine ⟨(fun x hx => by cases hx), obs_of (e := e) (l := g_ref05_Next.obs) ⟨o0, trivial⟩, ?_⟩
  rw [hoE]
  show semMany [.int .i64] [.i (Day.nextR (e 0).int (e 1).int)] = semMany [.int .i64] [L.ev e (.var 4)]
  exact (semI r0 rfl)
theorem ctr_ref05_Next : CtrOK Try.prog T c_ref05_Next := by
  intro lits al vs w hok hag hargs hpre
  have hpre : (t_36 al).1 = true := by rw [← T_36]; exact hpre
  obtain ⟨hl, hlen⟩ := args_flat hargs rfl
  have hlen : al.length = 2 := hlen
  exact calls_of_run xok_ref05_Next widths (lits := []) (ns := []) (more := []) rfl run_ref05_Next (by kernel_rfl) (by kernel_rfl) rfl hargs hl (lit_none) (by rw [show c_ref05_Next.f = 36 from rfl, T_36]; rfl)
    fun e he hd => by rw [show c_ref05_Next.f = 36 from rfl, T_36]; exact bridge_ref05_Next hlen he hd hpre
end Rx.S
namespace Rx.S
open Go Rx Go.Proofs
set_option maxRecDepth 100000
set_option linter.unusedVariables false
def c_ring_At : Ctr := { f := 37, ps := [.c false [.int .i64], .c false [.int .i64], .c false [.int .i64]], rs := [(false, [.int .i64])], ok := fun _ => true }
noncomputable def fns_ring_At : List (Nat × Func) := [(37, Try.f37)]
theorem fnsOk_ring_At : FnsAll Try.prog fns_ring_At := ⟨fn37, trivial⟩
noncomputable def X_ring_At : Ctx := { tys := tys, eqs := eqs, fns := fun f => look f fns_ring_At, ctr := [], lim := 30 }
theorem xok_ring_At : XOK Try.prog T X_ring_At where
  tys := tysOk
  eqs := eqsOk
  mixed := mixed
  ctr := ctrsOK_of trivial
  fns := fnsOK_of fnsOk_ring_At
def g_ring_At : G := { next := 6, defs := [⟨5, (.dv .rem .i64), [.var 3, .var 0]⟩, ⟨4, (.cmp .neq), [.var 0, .n 0]⟩, ⟨3, (.ar .add .i64), [.var 1, .var 2]⟩], obs := [.var 4], known := [] }
theorem run_ring_At : run X_ring_At 2000 37 ([.one (.k (.int .i64 (.var 0))), .one (.k (.int .i64 (.var 1))), .one (.k (.int .i64 (.var 2)))]) ([]) 3 [] = some (.pv (.one (.k (.int .i64 (.var 5)))), [], g_ring_At) := by kernel_rfl
theorem pure_ring_At (x0 : Int) (x1 : Int) (x2 : Int) (v3 : Int) (v4 : Bool) (v5 : Int)
    (q3 : v3 = (IntKind.wrap .i64 (x1 + x2)))
    (q4 : v4 = ((x0 != (0 : Int))))
    (q5 : v5 = (Int.tmod v3 x0))
    (hp : (Day.atP x0 x1 x2) = true)  :
    (v4 = true) ∧ (Day.atR x0 x1 x2 = v5) := by
  have hn : 1 ≤ x0 ∧ x0 ≤ 8 := by grind [Day.clampR, Day.upR, Day.downR, Day.sm, Day.i64, Day.u8, Day.u16, Day.u32, Day.right, Day.times, Day.ownE, Day.ownR, Day.idE, Day.freshN, Day.noND, Day.cleanN, Day.wakeN, Day.rightN, Day.ND.i64, Day.waitR, Day.dueR, Day.ofR, Day.ofE, Day.noFr, wrap64, Day.modP, Day.modR, Day.slotP, Day.nextR, Day.atP, Day.atR, Day.aheadP, Day.aheadR]
  have hn2 : x0 = 1 ∨ x0 = 2 ∨ x0 = 3 ∨ x0 = 4 ∨ x0 = 5 ∨ x0 = 6 ∨ x0 = 7 ∨ x0 = 8 := by omega
  clear hn
  rcases hn2 with rfl | rfl | rfl | rfl | rfl | rfl | rfl | rfl <;> grind [Day.clampR, Day.upR, Day.downR, Day.sm, Day.i64, Day.u8, Day.u16, Day.u32, Day.right, Day.times, Day.ownE, Day.ownR, Day.idE, Day.freshN, Day.noND, Day.cleanN, Day.wakeN, Day.rightN, Day.ND.i64, Day.waitR, Day.dueR, Day.ofR, Day.ofE, Day.noFr, wrap64, Day.modP, Day.modR, Day.slotP, Day.nextR, Day.atP, Day.atR, Day.aheadP, Day.aheadR]
theorem bridge_ring_At {e : Nat → A} {al more : List A} (hlen : al.length = 3) (he : ∀ j a, (al ++ more)[j]? = some a → e j = a) (hd : ∀ d ∈ g_ring_At.defs, d.holds T e) (hp : (t_37 al).1 = true) :
    (∀ x ∈ g_ring_At.known, x.holds T e) ∧ (∀ o ∈ g_ring_At.obs, (o.ev e).bool = true) ∧ semMany (c_ring_At.rs.flatMap (·.2)) (t_37 al).2 = semMany (c_ring_At.rs.flatMap (·.2)) ([.var 5].map (L.ev e)) := by
  have y0 : gi al 0 = (e 0).int := gi_e he (by omega)
  have y1 : gi al 1 = (e 1).int := gi_e he (by omega)
  have y2 : gi al 2 = (e 2).int := gi_e he (by omega)
  obtain ⟨d5, d4, d3, -⟩ : AllHold T e g_ring_At.defs := allHold_of hd
  have hpE : (t_37 al).1 = (Day.atP (e 0).int (e 1).int (e 2).int) := by simp only [t_37, y0, y1, y2]
  have hp := hpE.symm.trans hp
  have hoE : (t_37 al).2 = [.i (Day.atR (e 0).int (e 1).int (e 2).int)] := by simp only [t_37, y0, y1, y2]
  obtain ⟨ho, hr⟩ := pure_ring_At (e 0).int (e 1).int (e 2).int (e 3).int (e 4).bool (e 5).int
    (q_ar d3)
    (q_cmp d4)
    (q_dv d5)
    hp
  have o0 := ho
  have r0 := hr
  refine ⟨(fun x hx => by cases hx), obs_of (e := e) (l := g_ring_At.obs) ⟨o0, trivial⟩, ?_⟩
  rw [hoE]
  show semMany [.int .i64] [.i (Day.atR (e 0).int (e 1).int (e 2).int)] = semMany [.int .i64] [L.ev e (.var 5)]
  exact (semI r0 rfl)
theorem ctr_ring_At : CtrOK Try.prog T c_ring_At := by
  intro lits al vs w hok hag hargs hpre
  have hpre : (t_37 al).1 = true := by rw [← T_37]; exact hpre
  obtain ⟨hl, hlen⟩ := args_flat hargs rfl
  have hlen : al.length = 3 := hlen
  exact calls_of_run xok_ring_At widths (lits := []) (ns := []) (more := []) rfl run_ring_At (by kernel_rfl) (by kernel_rfl) rfl hargs hl (lit_none) (by rw [show c_ring_At.f = 37 from rfl, T_37]; rfl)
    fun e he hd => by rw [show c_ring_At.f = 37 from rfl, T_37]; exact bridge_ring_At hlen he hd hpre
end Rx.S
namespace Rx.S
open Go Rx Go.Proofs
set_option maxRecDepth 100000
set_option linter.unusedVariables false
def c_ring_Next : Ctr := { f := 35, ps := [.c false [.int .i64], .c false [.int .i64]], rs := [(false, [.int .i64])], ok := fun _ => true }
noncomputable def fns_ring_Next : List (Nat × Func) := [(35, Try.f35)]
theorem fnsOk_ring_Next : FnsAll Try.prog fns_ring_Next := ⟨fn35, trivial⟩
noncomputable def X_ring_Next : Ctx := { tys := tys, eqs := eqs, fns := fun f => look f fns_ring_Next, ctr := [], lim := 30 }
theorem xok_ring_Next : XOK Try.prog T X_ring_Next where
  tys := tysOk
  eqs := eqsOk
  mixed := mixed
  ctr := ctrsOK_of trivial
  fns := fnsOK_of fnsOk_ring_Next
def g_ring_Next : G := { next := 9, defs := [⟨8, .iteB, [.var 4, .var 4, .var 3]⟩, ⟨7, .iteI, [.var 4, .var 5, .n 0]⟩, ⟨6, .not, [.var 4]⟩, ⟨5, (.ar .add .i64), [.var 1, .n 1]⟩, ⟨4, .not, [.var 3]⟩, ⟨3, (.cmp .eql), [.var 1, .var 2]⟩, ⟨2, (.ar .sub .i64), [.var 0, .n 1]⟩], obs := [], known := [] }
theorem run_ring_Next : run X_ring_Next 2000 35 ([.one (.k (.int .i64 (.var 0))), .one (.k (.int .i64 (.var 1)))]) ([]) 2 [] = some (.pv (.one (.k (.int .i64 (.var 7)))), [], g_ring_Next) := by kernel_rfl
theorem pure_ring_Next (x0 : Int) (x1 : Int) (v2 : Int) (v3 : Bool) (v4 : Bool) (v5 : Int) (v6 : Bool) (v7 : Int) (v8 : Bool)
    (q2 : v2 = (IntKind.wrap .i64 (x0 - (1 : Int))))
    (q3 : v3 = ((x1 == v2)))
    (q4 : v4 = ((!v3)))
    (q5 : v5 = (IntKind.wrap .i64 (x1 + (1 : Int))))
    (q6 : v6 = ((!v4)))
    (q7 : v7 = ((if v4 then v5 else (0 : Int))))
    (q8 : v8 = ((if v4 then v4 else v3)))
    (hp : (Day.slotP x0 x1) = true)  :
    (True) ∧ (Day.nextR x0 x1 = v7) := by
  have hn : 1 ≤ x0 ∧ x0 ≤ 8 := by grind [Day.clampR, Day.upR, Day.downR, Day.sm, Day.i64, Day.u8, Day.u16, Day.u32, Day.right, Day.times, Day.ownE, Day.ownR, Day.idE, Day.freshN, Day.noND, Day.cleanN, Day.wakeN, Day.rightN, Day.ND.i64, Day.waitR, Day.dueR, Day.ofR, Day.ofE, Day.noFr, wrap64, Day.modP, Day.modR, Day.slotP, Day.nextR, Day.atP, Day.atR, Day.aheadP, Day.aheadR]
  have hn2 : x0 = 1 ∨ x0 = 2 ∨ x0 = 3 ∨ x0 = 4 ∨ x0 = 5 ∨ x0 = 6 ∨ x0 = 7 ∨ x0 = 8 := by omega
  clear hn
  rcases hn2 with rfl | rfl | rfl | rfl | rfl | rfl | rfl | rfl <;> grind [Day.clampR, Day.upR, Day.downR, Day.sm, Day.i64, Day.u8, Day.u16, Day.u32, Day.right, Day.times, Day.ownE, Day.ownR, Day.idE, Day.freshN, Day.noND, Day.cleanN, Day.wakeN, Day.rightN, Day.ND.i64, Day.waitR, Day.dueR, Day.ofR, Day.ofE, Day.noFr, wrap64, Day.modP, Day.modR, Day.slotP, Day.nextR, Day.atP, Day.atR, Day.aheadP, Day.aheadR]
theorem bridge_ring_Next {e : Nat → A} {al more : List A} (hlen : al.length = 2) (he : ∀ j a, (al ++ more)[j]? = some a → e j = a) (hd : ∀ d ∈ g_ring_Next.defs, d.holds T e) (hp : (t_35 al).1 = true) :
    (∀ x ∈ g_ring_Next.known, x.holds T e) ∧ (∀ o ∈ g_ring_Next.obs, (o.ev e).bool = true) ∧ semMany (c_ring_Next.rs.flatMap (·.2)) (t_35 al).2 = semMany (c_ring_Next.rs.flatMap (·.2)) ([.var 7].map (L.ev e)) := by
  have y0 : gi al 0 = (e 0).int := gi_e he (by omega)
  have y1 : gi al 1 = (e 1).int := gi_e he (by omega)
  obtain ⟨d8, d7, d6, d5, d4, d3, d2, -⟩ : AllHold T e g_ring_Next.defs := allHold_of hd
  have hpE : (t_35 al).1 = (Day.slotP (e 0).int (e 1).int) := by simp only [t_35, y0, y1]
  have hp := hpE.symm.trans hp
  have hoE : (t_35 al).2 = [.i (Day.nextR (e 0).int (e 1).int)] := by simp only [t_35, y0, y1]
  obtain ⟨ho, hr⟩ := pure_ring_Next (e 0).int (e 1).int (e 2).int (e 3).bool (e 4).bool (e 5).int (e 6).bool (e 7).int (e 8).bool
    (q_ar d2)
    (q_cmp d3)
    (q_not d4)
    (q_ar d5)
    (q_not d6)
    (q_iteI d7)
    (q_iteB d8)
    hp
  have r0 := hr
  refine ⟨(fun x hx => by cases hx), obs_of (e := e) (l := g_ring_Next.obs) trivial, ?_⟩
  rw [hoE]
  show semMany [.int .i64] [.i (Day.nextR (e 0).int (e 1).int)] = semMany [.int .i64] [L.ev e (.var 7)]
  exact (semI r0 rfl)
theorem ctr_ring_Next : CtrOK Try.prog T c_ring_Next := by
  intro lits al vs w hok hag hargs hpre
  have hpre : (t_35 al).1 = true := by rw [← T_35]; exact hpre
  obtain ⟨hl, hlen⟩ := args_flat hargs rfl
  have hlen : al.length = 2 := hlen
  exact calls_of_run xok_ring_Next widths (lits := []) (ns := []) (more := []) rfl run_ring_Next (by kernel_rfl) (by kernel_rfl) rfl hargs hl (lit_none) (by rw [show c_ring_Next.f = 35 from rfl, T_35]; rfl)
    fun e he hd => by rw [show c_ring_Next.f = 35 from rfl, T_35]; exact bridge_ring_Next hlen he hd hpre
end Rx.S
