import Derived.Test.YtjipnabidebgbaaXc
import Derived.Test.YtjipnabidebgbaaXsay
set_option linter.unusedVariables false
set_option linter.unusedSimpArgs false
namespace Rx.S
open Go Rx Go.Proofs
set_option maxRecDepth 100000
set_option linter.unusedVariables false
def c_law08_awake : Ctr := { f := 86, ps := [], rs := [(false, [.bool])], ok := fun _ => true }
noncomputable def fns_law08_awake : List (Nat × Func) := [(84, Try.f84), (86, Try.f86), (87, Try.f87)]
theorem fnsOk_law08_awake : FnsAll Try.prog fns_law08_awake := ⟨fn84, fn86, fn87, trivial⟩
noncomputable def X_law08_awake : Ctx := { tys := tys, eqs := eqs, fns := fun f => look f fns_law08_awake, ctr := [(87, c_say_Due), (84, c_say_Of)], lim := 30 }
theorem xok_law08_awake : XOK Try.prog T X_law08_awake where
  tys := tysOk
  eqs := eqsOk
  mixed := mixed
  ctr := ctrsOK_of ⟨⟨rfl, ctr_say_Due⟩, ⟨rfl, ctr_say_Of⟩, trivial⟩
  fns := fnsOK_of fnsOk_law08_awake
def g_law08_awake : G := { next := 20, defs := [⟨19, .iteB, [.var 14, .var 18, .t false]⟩, ⟨18, (.cmp .eql), [.var 16, .n 2]⟩, ⟨17, .imp, [.var 14, .var 15]⟩, ⟨15, (.call 87), [.n 3, .n 1, .n 3, .n 0, .n 2]⟩, ⟨14, .iteB, [.var 12, .var 13, .t false]⟩, ⟨13, (.cmp .eql), [.var 7, .n 1]⟩, ⟨12, .iteB, [.var 8, .var 11, .t false]⟩, ⟨11, .and, [.var 10, .var 9]⟩, ⟨10, (.cmp .eql), [.var 1, .n 2]⟩, ⟨9, (.cmp .eql), [.var 2, .n 1]⟩, ⟨8, (.cmp .eql), [.var 3, .n 0]⟩, ⟨4, (.call 84), [.n 2, .n 0, .n 0, .n 0, .n 0]⟩, ⟨0, (.call 84), [.n 3, .n 1, .n 3, .n 0, .n 1]⟩], obs := [.var 17, .var 4, .var 0], known := [] }
theorem run_law08_awake : run X_law08_awake 2000 86 ([]) ([]) 0 [] = some (.pv (.one (.k (.bool (.var 19)))), [{ own := true, ty := 57, es := 2, cells := [.k (.int .i64 (.var 1)), .k (.int .i64 (.var 2))] }, { own := true, ty := 57, es := 2, cells := [.k (.int .i64 (.var 5)), .k (.int .i64 (.var 6))] }], g_law08_awake) := by kernel_rfl
theorem pure_law08_awake (v0 : Bool) (v1 : Int) (v2 : Int) (v3 : Int) (v4 : Bool) (v5 : Int) (v6 : Int) (v7 : Int) (v8 : Bool) (v9 : Bool) (v10 : Bool) (v11 : Bool) (v12 : Bool) (v13 : Bool) (v14 : Bool) (v15 : Bool) (v16 : Int) (v17 : Bool) (v18 : Bool) (v19 : Bool)
    (q0 : v0 = (Day.ND.i64 (Day.ND.mk (1 : Int) (3 : Int) (0 : Int) (1 : Int))))
    (q1 : v1 = (((Day.ofR (3 : Int) (Day.ND.mk (1 : Int) (3 : Int) (0 : Int) (1 : Int)))).kind))
    (q2 : v2 = (((Day.ofR (3 : Int) (Day.ND.mk (1 : Int) (3 : Int) (0 : Int) (1 : Int)))).id))
    (q3 : v3 = (Day.ofE (3 : Int) (Day.ND.mk (1 : Int) (3 : Int) (0 : Int) (1 : Int))))
    (q4 : v4 = (Day.ND.i64 (Day.ND.mk (0 : Int) (0 : Int) (0 : Int) (0 : Int))))
    (q5 : v5 = (((Day.ofR (2 : Int) (Day.ND.mk (0 : Int) (0 : Int) (0 : Int) (0 : Int)))).kind))
    (q6 : v6 = (((Day.ofR (2 : Int) (Day.ND.mk (0 : Int) (0 : Int) (0 : Int) (0 : Int)))).id))
    (q7 : v7 = (Day.ofE (2 : Int) (Day.ND.mk (0 : Int) (0 : Int) (0 : Int) (0 : Int))))
    (q8 : v8 = ((v3 == (0 : Int))))
    (q9 : v9 = ((v2 == (1 : Int))))
    (q10 : v10 = ((v1 == (2 : Int))))
    (q11 : v11 = ((v10 && v9)))
    (q12 : v12 = ((if v8 then v11 else false)))
    (q13 : v13 = ((v7 == (1 : Int))))
    (q14 : v14 = ((if v12 then v13 else false)))
    (q15 : v15 = (Day.ND.i64 (Day.ND.mk (1 : Int) (3 : Int) (0 : Int) (2 : Int))))
    (q16 : v16 = (Day.dueR (3 : Int) (Day.ND.mk (1 : Int) (3 : Int) (0 : Int) (2 : Int))))
    (q17 : v17 = ((!v14 || v15)))
    (q18 : v18 = ((v16 == (2 : Int))))
    (q19 : v19 = ((if v14 then v18 else false)))
    (hp : (true) = true)  :
    (v17 = true ∧ v4 = true ∧ v0 = true) ∧ (true = v19) := by
  grind [Day.clampR, Day.upR, Day.downR, Day.sm, Day.i64, Day.u8, Day.u16, Day.u32, Day.right, Day.times, Day.ownE, Day.ownR, Day.idE, Day.freshN, Day.noND, Day.cleanN, Day.wakeN, Day.rightN, Day.ND.i64, Day.waitR, Day.dueR, Day.ofR, Day.ofE, Day.noFr, wrap64, Day.modP, Day.modR, Day.slotP, Day.nextR, Day.atP, Day.atR, Day.aheadP, Day.aheadR]
theorem bridge_law08_awake {e : Nat → A} {al more : List A} (hlen : al.length = 0) (he : ∀ j a, (al ++ more)[j]? = some a → e j = a) (hd : ∀ d ∈ g_law08_awake.defs, d.holds T e) (hp : (t_86 al).1 = true) :
    (∀ x ∈ g_law08_awake.known, x.holds T e) ∧ (∀ o ∈ g_law08_awake.obs, (o.ev e).bool = true) ∧ semMany (c_law08_awake.rs.flatMap (·.2)) (t_86 al).2 = semMany (c_law08_awake.rs.flatMap (·.2)) ([.var 19].map (L.ev e)) := by
  obtain ⟨d19, d18, d17, d15, d14, d13, d12, d11, d10, d9, d8, d4, d0, -⟩ : AllHold T e g_law08_awake.defs := allHold_of hd
  have hpE : (t_86 al).1 = (true) := by simp only [t_86]
  have hp := hpE.symm.trans hp
  have hoE : (t_86 al).2 = [.b (true)] := by simp only [t_86]
  obtain ⟨ho, hr⟩ := pure_law08_awake (e 0).bool (e 1).int (e 2).int (e 3).int (e 4).bool (e 5).int (e 6).int (e 7).int (e 8).bool (e 9).bool (e 10).bool (e 11).bool (e 12).bool (e 13).bool (e 14).bool (e 15).bool (e 16).int (e 17).bool (e 18).bool (e 19).bool
    (q_pre T_84 d0)
    (q_outI T_84 0 d0 rfl)
    (q_outI T_84 1 d0 rfl)
    (q_outI T_84 2 d0 rfl)
    (q_pre T_84 d4)
    (q_outI T_84 0 d4 rfl)
    (q_outI T_84 1 d4 rfl)
    (q_outI T_84 2 d4 rfl)
    (q_cmp d8)
    (q_cmp d9)
    (q_cmp d10)
    (q_and d11)
    (q_iteB d12)
    (q_cmp d13)
    (q_iteB d14)
    (q_pre T_87 d15)
    (q_outI T_87 0 d15 rfl)
    (q_imp d17)
    (q_cmp d18)
    (q_iteB d19)
    hp
  obtain ⟨o0, o1, o2⟩ := ho
  have r0 := hr
  refine ⟨(fun x hx => by cases hx), obs_of (e := e) (l := g_law08_awake.obs) ⟨o0, o1, o2, trivial⟩, ?_⟩
  rw [hoE]
  show semMany [.bool] [.b (true)] = semMany [.bool] [L.ev e (.var 19)]
  exact (semB r0 rfl)
theorem ctr_law08_awake : CtrOK Try.prog T c_law08_awake := by
  intro lits al vs w hok hag hargs hpre
  have hpre : (t_86 al).1 = true := by rw [← T_86]; exact hpre
  obtain ⟨hl, hlen⟩ := args_flat hargs rfl
  have hlen : al.length = 0 := hlen
  exact calls_of_run xok_law08_awake widths (lits := []) (ns := []) (more := []) rfl run_law08_awake (by kernel_rfl) (by kernel_rfl) rfl hargs hl (lit_none) (by rw [show c_law08_awake.f = 86 from rfl, T_86]; rfl)
    fun e he hd => by rw [show c_law08_awake.f = 86 from rfl, T_86]; exact bridge_law08_awake hlen he hd hpre
end Rx.S
