import Derived.Test.YtjipnabidebgbaaXc
import Derived.Test.YtjipnabidebgbaaXconf
set_option linter.unusedVariables false
set_option linter.unusedSimpArgs false
namespace Rx.S
open Go Rx Go.Proofs
set_option maxRecDepth 100000
set_option linter.unusedVariables false
def c_law03_awake : Ctr := { f := 43, ps := [], rs := [(false, [.bool])], ok := fun _ => true }
noncomputable def fns_law03_awake : List (Nat × Func) := [(41, Try.f41), (42, Try.f42), (43, Try.f43), (44, Try.f44)]
theorem fnsOk_law03_awake : FnsAll Try.prog fns_law03_awake := ⟨fn41, fn42, fn43, fn44, trivial⟩
noncomputable def X_law03_awake : Ctx := { tys := tys, eqs := eqs, fns := fun f => look f fns_law03_awake, ctr := [(44, c_conf_Block), (41, c_conf_Listen), (42, c_conf_Cold)], lim := 30 }
theorem xok_law03_awake : XOK Try.prog T X_law03_awake where
  tys := tysOk
  eqs := eqsOk
  mixed := mixed
  ctr := ctrsOK_of ⟨⟨rfl, ctr_conf_Block⟩, ⟨rfl, ctr_conf_Listen⟩, ⟨rfl, ctr_conf_Cold⟩, trivial⟩
  fns := fnsOK_of fnsOk_law03_awake
def g_law03_awake : G := { next := 22, defs := [⟨21, .iteB, [.var 19, .var 20, .t false]⟩, ⟨20, (.cmp .eql), [.var 8, .n 1]⟩, ⟨19, .iteB, [.var 17, .var 18, .t false]⟩, ⟨18, (.cmp .eql), [.var 4, .n 17]⟩, ⟨17, .iteB, [.var 15, .var 16, .t false]⟩, ⟨16, (.cmp .eql), [.var 5, .n 0]⟩, ⟨15, .iteB, [.var 13, .var 14, .t false]⟩, ⟨14, (.cmp .eql), [.var 1, .n 9]⟩, ⟨13, .iteB, [.var 11, .var 12, .t false]⟩, ⟨12, (.cmp .eql), [.var 2, .n 0]⟩, ⟨11, (.cmp .eql), [.var 10, .n 8]⟩, ⟨9, (.call 44), [.n 4]⟩, ⟨6, (.call 42), [.n 2, .n 0]⟩, ⟨3, (.call 41), [.n 4, .n 0]⟩, ⟨0, (.call 42), [.n 4, .n 0]⟩], obs := [.var 9, .var 6, .var 3, .var 0], known := [] }
theorem run_law03_awake : run X_law03_awake 2000 43 ([]) ([]) 0 [] = some (.pv (.one (.k (.bool (.var 21)))), [], g_law03_awake) := by kernel_rfl
theorem pure_law03_awake (v0 : Bool) (v1 : Int) (v2 : Int) (v3 : Bool) (v4 : Int) (v5 : Int) (v6 : Bool) (v7 : Int) (v8 : Int) (v9 : Bool) (v10 : Int) (v11 : Bool) (v12 : Bool) (v13 : Bool) (v14 : Bool) (v15 : Bool) (v16 : Bool) (v17 : Bool) (v18 : Bool) (v19 : Bool) (v20 : Bool) (v21 : Bool)
    (q0 : v0 = (true))
    (q1 : v1 = (Day.ownR 2 (4 : Int) (0 : Int)))
    (q2 : v2 = (Day.ownE (4 : Int) (0 : Int)))
    (q3 : v3 = (true))
    (q4 : v4 = (Day.ownR 4 (4 : Int) (0 : Int)))
    (q5 : v5 = (Day.ownE (4 : Int) (0 : Int)))
    (q6 : v6 = (true))
    (q7 : v7 = (Day.ownR 2 (2 : Int) (0 : Int)))
    (q8 : v8 = (Day.ownE (2 : Int) (0 : Int)))
    (q9 : v9 = (true))
    (q10 : v10 = (Day.times 2 (4 : Int)))
    (q11 : v11 = ((v10 == (8 : Int))))
    (q12 : v12 = ((v2 == (0 : Int))))
    (q13 : v13 = ((if v11 then v12 else false)))
    (q14 : v14 = ((v1 == (9 : Int))))
    (q15 : v15 = ((if v13 then v14 else false)))
    (q16 : v16 = ((v5 == (0 : Int))))
    (q17 : v17 = ((if v15 then v16 else false)))
    (q18 : v18 = ((v4 == (17 : Int))))
    (q19 : v19 = ((if v17 then v18 else false)))
    (q20 : v20 = ((v8 == (1 : Int))))
    (q21 : v21 = ((if v19 then v20 else false)))
    (hp : (true) = true)  :
    (v9 = true ∧ v6 = true ∧ v3 = true ∧ v0 = true) ∧ (true = v21) := by
  grind [Day.clampR, Day.upR, Day.downR, Day.sm, Day.i64, Day.u8, Day.u16, Day.u32, Day.right, Day.times, Day.ownE, Day.ownR, Day.idE, Day.freshN, Day.noND, Day.cleanN, Day.wakeN, Day.rightN, Day.ND.i64, Day.waitR, Day.dueR, Day.ofR, Day.ofE, Day.noFr, wrap64, Day.modP, Day.modR, Day.slotP, Day.nextR, Day.atP, Day.atR, Day.aheadP, Day.aheadR]
theorem bridge_law03_awake {e : Nat → A} {al more : List A} (hlen : al.length = 0) (he : ∀ j a, (al ++ more)[j]? = some a → e j = a) (hd : ∀ d ∈ g_law03_awake.defs, d.holds T e) (hp : (t_43 al).1 = true) :
    (∀ x ∈ g_law03_awake.known, x.holds T e) ∧ (∀ o ∈ g_law03_awake.obs, (o.ev e).bool = true) ∧ semMany (c_law03_awake.rs.flatMap (·.2)) (t_43 al).2 = semMany (c_law03_awake.rs.flatMap (·.2)) ([.var 21].map (L.ev e)) := by
  obtain ⟨d21, d20, d19, d18, d17, d16, d15, d14, d13, d12, d11, d9, d6, d3, d0, -⟩ : AllHold T e g_law03_awake.defs := allHold_of hd
  have hpE : (t_43 al).1 = (true) := by simp only [t_43]
  have hp := hpE.symm.trans hp
  have hoE : (t_43 al).2 = [.b (true)] := by simp only [t_43]
  obtain ⟨ho, hr⟩ := pure_law03_awake (e 0).bool (e 1).int (e 2).int (e 3).bool (e 4).int (e 5).int (e 6).bool (e 7).int (e 8).int (e 9).bool (e 10).int (e 11).bool (e 12).bool (e 13).bool (e 14).bool (e 15).bool (e 16).bool (e 17).bool (e 18).bool (e 19).bool (e 20).bool (e 21).bool
    (q_pre T_42 d0)
    (q_outI T_42 0 d0 rfl)
    (q_outI T_42 1 d0 rfl)
    (q_pre T_41 d3)
    (q_outI T_41 0 d3 rfl)
    (q_outI T_41 1 d3 rfl)
    (q_pre T_42 d6)
    (q_outI T_42 0 d6 rfl)
    (q_outI T_42 1 d6 rfl)
    (q_pre T_44 d9)
    (q_outI T_44 0 d9 rfl)
    (q_cmp d11)
    (q_cmp d12)
    (q_iteB d13)
    (q_cmp d14)
    (q_iteB d15)
    (q_cmp d16)
    (q_iteB d17)
    (q_cmp d18)
    (q_iteB d19)
    (q_cmp d20)
    (q_iteB d21)
    hp
  obtain ⟨o0, o1, o2, o3⟩ := ho
  have r0 := hr
  refine ⟨(fun x hx => by cases hx), obs_of (e := e) (l := g_law03_awake.obs) ⟨o0, o1, o2, o3, trivial⟩, ?_⟩
  rw [hoE]
  show semMany [.bool] [.b (true)] = semMany [.bool] [L.ev e (.var 21)]
  exact (semB r0 rfl)
theorem ctr_law03_awake : CtrOK Try.prog T c_law03_awake := by
  intro lits al vs w hok hag hargs hpre
  have hpre : (t_43 al).1 = true := by rw [← T_43]; exact hpre
  obtain ⟨hl, hlen⟩ := args_flat hargs rfl
  have hlen : al.length = 0 := hlen
  exact calls_of_run xok_law03_awake widths (lits := []) (ns := []) (more := []) rfl run_law03_awake (by kernel_rfl) (by kernel_rfl) rfl hargs hl (lit_none) (by rw [show c_law03_awake.f = 43 from rfl, T_43]; rfl)
    fun e he hd => by rw [show c_law03_awake.f = 43 from rfl, T_43]; exact bridge_law03_awake hlen he hd hpre
end Rx.S
