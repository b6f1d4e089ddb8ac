import Derived.Test.YtjipnabidebgbaaXc
import Derived.Test.YtjipnabidebgbaaXring
set_option linter.unusedVariables false
set_option linter.unusedSimpArgs false
namespace Rx.S
open Go Rx Go.Proofs
set_option maxRecDepth 100000
set_option linter.unusedVariables false
def c_law05_awake : Ctr := { f := 32, ps := [], rs := [(false, [.bool])], ok := fun _ => true }
noncomputable def fns_law05_awake : List (Nat × Func) := [(32, Try.f32), (33, Try.f33), (35, Try.f35), (37, Try.f37), (39, Try.f39)]
theorem fnsOk_law05_awake : FnsAll Try.prog fns_law05_awake := ⟨fn32, fn33, fn35, fn37, fn39, trivial⟩
noncomputable def X_law05_awake : Ctx := { tys := tys, eqs := eqs, fns := fun f => look f fns_law05_awake, ctr := [(33, c_ring_Mod), (35, c_ring_Next), (37, c_ring_At), (39, c_ring_Ahead)], lim := 30 }
theorem xok_law05_awake : XOK Try.prog T X_law05_awake where
  tys := tysOk
  eqs := eqsOk
  mixed := mixed
  ctr := ctrsOK_of ⟨⟨rfl, ctr_ring_Mod⟩, ⟨rfl, ctr_ring_Next⟩, ⟨rfl, ctr_ring_At⟩, ⟨rfl, ctr_ring_Ahead⟩, trivial⟩
  fns := fnsOK_of fnsOk_law05_awake
def g_law05_awake : G := { next := 18, defs := [⟨17, .iteB, [.var 12, .var 16, .t false]⟩, ⟨16, (.cmp .eql), [.var 14, .n 2]⟩, ⟨15, .imp, [.var 12, .var 13]⟩, ⟨13, (.call 39), [.n 4, .n 3, .n 1]⟩, ⟨12, .iteB, [.var 7, .var 11, .t false]⟩, ⟨11, (.cmp .eql), [.var 9, .n 0]⟩, ⟨10, .imp, [.var 7, .var 8]⟩, ⟨8, (.call 35), [.n 4, .n 3]⟩, ⟨7, .iteB, [.var 2, .var 6, .t false]⟩, ⟨6, (.cmp .eql), [.var 4, .n 3]⟩, ⟨5, .imp, [.var 2, .var 3]⟩, ⟨3, (.call 33), [.n 4, .n (-1)]⟩, ⟨2, (.cmp .eql), [.var 1, .n 1]⟩, ⟨0, (.call 37), [.n 4, .n 3, .n 2]⟩], obs := [.var 15, .var 10, .var 5, .var 0], known := [] }
theorem run_law05_awake : run X_law05_awake 2000 32 ([]) ([]) 0 [] = some (.pv (.one (.k (.bool (.var 17)))), [], g_law05_awake) := by kernel_rfl
theorem pure_law05_awake (v0 : Bool) (v1 : Int) (v2 : Bool) (v3 : Bool) (v4 : Int) (v5 : Bool) (v6 : Bool) (v7 : Bool) (v8 : Bool) (v9 : Int) (v10 : Bool) (v11 : Bool) (v12 : Bool) (v13 : Bool) (v14 : Int) (v15 : Bool) (v16 : Bool) (v17 : Bool)
    (q0 : v0 = (Day.atP (4 : Int) (3 : Int) (2 : Int)))
    (q1 : v1 = (Day.atR (4 : Int) (3 : Int) (2 : Int)))
    (q2 : v2 = ((v1 == (1 : Int))))
    (q3 : v3 = (Day.modP (4 : Int) && Day.i64 (-1)))
    (q4 : v4 = (Day.modR (4 : Int) (-1)))
    (q5 : v5 = ((!v2 || v3)))
    (q6 : v6 = ((v4 == (3 : Int))))
    (q7 : v7 = ((if v2 then v6 else false)))
    (q8 : v8 = (Day.slotP (4 : Int) (3 : Int)))
    (q9 : v9 = (Day.nextR (4 : Int) (3 : Int)))
    (q10 : v10 = ((!v7 || v8)))
    (q11 : v11 = ((v9 == (0 : Int))))
    (q12 : v12 = ((if v7 then v11 else false)))
    (q13 : v13 = (Day.aheadP (4 : Int) (3 : Int) (1 : Int)))
    (q14 : v14 = (Day.aheadR (4 : Int) (3 : Int) (1 : Int)))
    (q15 : v15 = ((!v12 || v13)))
    (q16 : v16 = ((v14 == (2 : Int))))
    (q17 : v17 = ((if v12 then v16 else false)))
    (hp : (true) = true)  :
    (v15 = true ∧ v10 = true ∧ v5 = true ∧ v0 = true) ∧ (true = v17) := by
  grind [Day.clampR, Day.upR, Day.downR, Day.sm, Day.i64, Day.u8, Day.u16, Day.u32, Day.right, Day.times, Day.ownE, Day.ownR, Day.idE, Day.freshN, Day.noND, Day.cleanN, Day.wakeN, Day.rightN, Day.ND.i64, Day.waitR, Day.dueR, Day.ofR, Day.ofE, Day.noFr, wrap64, Day.modP, Day.modR, Day.slotP, Day.nextR, Day.atP, Day.atR, Day.aheadP, Day.aheadR]
theorem bridge_law05_awake {e : Nat → A} {al more : List A} (hlen : al.length = 0) (he : ∀ j a, (al ++ more)[j]? = some a → e j = a) (hd : ∀ d ∈ g_law05_awake.defs, d.holds T e) (hp : (t_32 al).1 = true) :
    (∀ x ∈ g_law05_awake.known, x.holds T e) ∧ (∀ o ∈ g_law05_awake.obs, (o.ev e).bool = true) ∧ semMany (c_law05_awake.rs.flatMap (·.2)) (t_32 al).2 = semMany (c_law05_awake.rs.flatMap (·.2)) ([.var 17].map (L.ev e)) := by
  obtain ⟨d17, d16, d15, d13, d12, d11, d10, d8, d7, d6, d5, d3, d2, d0, -⟩ : AllHold T e g_law05_awake.defs := allHold_of hd
  have hpE : (t_32 al).1 = (true) := by simp only [t_32]
  have hp := hpE.symm.trans hp
  have hoE : (t_32 al).2 = [.b (true)] := by simp only [t_32]
  obtain ⟨ho, hr⟩ := pure_law05_awake (e 0).bool (e 1).int (e 2).bool (e 3).bool (e 4).int (e 5).bool (e 6).bool (e 7).bool (e 8).bool (e 9).int (e 10).bool (e 11).bool (e 12).bool (e 13).bool (e 14).int (e 15).bool (e 16).bool (e 17).bool
    (q_pre T_37 d0)
    (q_outI T_37 0 d0 rfl)
    (q_cmp d2)
    (q_pre T_33 d3)
    (q_outI T_33 0 d3 rfl)
    (q_imp d5)
    (q_cmp d6)
    (q_iteB d7)
    (q_pre T_35 d8)
    (q_outI T_35 0 d8 rfl)
    (q_imp d10)
    (q_cmp d11)
    (q_iteB d12)
    (q_pre T_39 d13)
    (q_outI T_39 0 d13 rfl)
    (q_imp d15)
    (q_cmp d16)
    (q_iteB d17)
    hp
  obtain ⟨o0, o1, o2, o3⟩ := ho
  have r0 := hr
  refine ⟨(fun x hx => by cases hx), obs_of (e := e) (l := g_law05_awake.obs) ⟨o0, o1, o2, o3, trivial⟩, ?_⟩
  rw [hoE]
  show semMany [.bool] [.b (true)] = semMany [.bool] [L.ev e (.var 17)]
  exact (semB r0 rfl)
theorem ctr_law05_awake : CtrOK Try.prog T c_law05_awake := by
  intro lits al vs w hok hag hargs hpre
  have hpre : (t_32 al).1 = true := by rw [← T_32]; exact hpre
  obtain ⟨hl, hlen⟩ := args_flat hargs rfl
  have hlen : al.length = 0 := hlen
  exact calls_of_run xok_law05_awake widths (lits := []) (ns := []) (more := []) rfl run_law05_awake (by kernel_rfl) (by kernel_rfl) rfl hargs hl (lit_none) (by rw [show c_law05_awake.f = 32 from rfl, T_32]; rfl)
    fun e he hd => by rw [show c_law05_awake.f = 32 from rfl, T_32]; exact bridge_law05_awake hlen he hd hpre
end Rx.S
