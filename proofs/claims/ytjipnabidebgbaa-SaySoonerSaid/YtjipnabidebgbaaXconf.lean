import Derived.Test.YtjipnabidebgbaaXc
import Derived.Test.YtjipnabidebgbaaXm
set_option linter.unusedVariables false
set_option linter.unusedSimpArgs false
namespace Rx.S
open Go Rx Go.Proofs
set_option maxRecDepth 100000
set_option linter.unusedVariables false
def c_conf_Right : Ctr := { f := 50, ps := [.c false [.int .i64]], rs := [(false, [.bool])], ok := fun _ => true }
noncomputable def fns_conf_Right : List (Nat × Func) := [(50, Try.f50)]
theorem fnsOk_conf_Right : FnsAll Try.prog fns_conf_Right := ⟨fn50, trivial⟩
noncomputable def X_conf_Right : Ctx := { tys := tys, eqs := eqs, fns := fun f => look f fns_conf_Right, ctr := [], lim := 30 }
theorem xok_conf_Right : XOK Try.prog T X_conf_Right where
  tys := tysOk
  eqs := eqsOk
  mixed := mixed
  ctr := ctrsOK_of trivial
  fns := fnsOK_of fnsOk_conf_Right
def g_conf_Right : G := { next := 4, defs := [⟨3, .iteB, [.var 1, .var 2, .t false]⟩, ⟨2, (.cmp .leq), [.var 0, .n 8]⟩, ⟨1, (.cmp .geq), [.var 0, .n 3]⟩], obs := [], known := [] }
theorem run_conf_Right : run X_conf_Right 2000 50 ([.one (.k (.int .i64 (.var 0)))]) ([]) 1 [] = some (.pv (.one (.k (.bool (.var 3)))), [], g_conf_Right) := by kernel_rfl
theorem pure_conf_Right (x0 : Int) (v1 : Bool) (v2 : Bool) (v3 : Bool)
    (q1 : v1 = (decide (x0 ≥ (3 : Int))))
    (q2 : v2 = (decide (x0 ≤ (8 : Int))))
    (q3 : v3 = ((if v1 then v2 else false)))
    (hp : (true) = true)  :
    (True) ∧ (Day.right x0 = v3) := by
  grind [Day.clampR, Day.upR, Day.downR, Day.sm, Day.i64, Day.u8, Day.u16, Day.u32, Day.right, Day.times, Day.ownE, Day.ownR, Day.idE, Day.freshN, Day.noND, Day.cleanN, Day.wakeN, Day.rightN, Day.ND.i64, Day.waitR, Day.dueR, Day.ofR, Day.ofE, Day.noFr, wrap64, Day.modP, Day.modR, Day.slotP, Day.nextR, Day.atP, Day.atR, Day.aheadP, Day.aheadR]
theorem bridge_conf_Right {e : Nat → A} {al more : List A} (hlen : al.length = 1) (he : ∀ j a, (al ++ more)[j]? = some a → e j = a) (hd : ∀ d ∈ g_conf_Right.defs, d.holds T e) (hp : (t_50 al).1 = true) :
    (∀ x ∈ g_conf_Right.known, x.holds T e) ∧ (∀ o ∈ g_conf_Right.obs, (o.ev e).bool = true) ∧ semMany (c_conf_Right.rs.flatMap (·.2)) (t_50 al).2 = semMany (c_conf_Right.rs.flatMap (·.2)) ([.var 3].map (L.ev e)) := by
  have y0 : gi al 0 = (e 0).int := gi_e he (by omega)
  obtain ⟨d3, d2, d1, -⟩ : AllHold T e g_conf_Right.defs := allHold_of hd
  have hpE : (t_50 al).1 = (true) := by simp only [t_50, y0]
  have hp := hpE.symm.trans hp
  have hoE : (t_50 al).2 = [.b (Day.right (e 0).int)] := by simp only [t_50, y0]
  obtain ⟨ho, hr⟩ := pure_conf_Right (e 0).int (e 1).bool (e 2).bool (e 3).bool
    (q_cmp d1)
    (q_cmp d2)
    (q_iteB d3)
    hp
  have r0 := hr
  refine ⟨(fun x hx => by cases hx), obs_of (e := e) (l := g_conf_Right.obs) trivial, ?_⟩
  rw [hoE]
  show semMany [.bool] [.b (Day.right (e 0).int)] = semMany [.bool] [L.ev e (.var 3)]
  exact (semB r0 rfl)
theorem ctr_conf_Right : CtrOK Try.prog T c_conf_Right := by
  intro lits al vs w hok hag hargs hpre
  have hpre : (t_50 al).1 = true := by rw [← T_50]; exact hpre
  obtain ⟨hl, hlen⟩ := args_flat hargs rfl
  have hlen : al.length = 1 := hlen
  exact calls_of_run xok_conf_Right widths (lits := []) (ns := []) (more := []) rfl run_conf_Right (by kernel_rfl) (by kernel_rfl) rfl hargs hl (lit_none) (by rw [show c_conf_Right.f = 50 from rfl, T_50]; rfl)
    fun e he hd => by rw [show c_conf_Right.f = 50 from rfl, T_50]; exact bridge_conf_Right hlen he hd hpre
end Rx.S
namespace Rx.S
open Go Rx Go.Proofs Go.RowKit
set_option maxRecDepth 100000
def kb (l : List UInt8) (n : Int) (c : Nat) : MapEntry := { key := .string ⟨l.toArray⟩, val := .int .i64 n, born := c }
def ES : Array MapEntry := #[kb [98, 108, 111, 99, 107] 2 0, kb [119, 97, 116, 99, 104] 8 1, kb [108, 97, 116, 101, 114] 3 2, kb [115, 116, 97, 114, 116] 40 3, kb [115, 116, 97, 98, 108, 101] 96 4, kb [108, 105, 115, 116, 101, 110] 4 5, kb [99, 111, 108, 100] 2 6]
theorem ins0 (w : World) : (Instr.mapUpdate 166 (.map (some w.heap.size)) (.string { data := #[98, 108, 111, 99, 107] }) (.int .i64 2)).run Try.prog (w.alloc (.map #[] 0)) = .ok () (w.alloc (.map #[kb [98, 108, 111, 99, 107] 2 0] 1)) :=
  run_insert_new w (t := 166) (k := 9) (e := 3) Try.underlying166 #[] 0 _ _ Try.underlying9 trivial (by kernel_rfl)
theorem ins1 (w : World) : (Instr.mapUpdate 166 (.map (some w.heap.size)) (.string { data := #[119, 97, 116, 99, 104] }) (.int .i64 8)).run Try.prog (w.alloc (.map #[kb [98, 108, 111, 99, 107] 2 0] 1)) = .ok () (w.alloc (.map #[kb [98, 108, 111, 99, 107] 2 0, kb [119, 97, 116, 99, 104] 8 1] 2)) :=
  run_insert_new w (t := 166) (k := 9) (e := 3) Try.underlying166 #[kb [98, 108, 111, 99, 107] 2 0] 1 _ _ Try.underlying9 trivial (by kernel_rfl)
theorem ins2 (w : World) : (Instr.mapUpdate 166 (.map (some w.heap.size)) (.string { data := #[108, 97, 116, 101, 114] }) (.int .i64 3)).run Try.prog (w.alloc (.map #[kb [98, 108, 111, 99, 107] 2 0, kb [119, 97, 116, 99, 104] 8 1] 2)) = .ok () (w.alloc (.map #[kb [98, 108, 111, 99, 107] 2 0, kb [119, 97, 116, 99, 104] 8 1, kb [108, 97, 116, 101, 114] 3 2] 3)) :=
  run_insert_new w (t := 166) (k := 9) (e := 3) Try.underlying166 #[kb [98, 108, 111, 99, 107] 2 0, kb [119, 97, 116, 99, 104] 8 1] 2 _ _ Try.underlying9 trivial (by kernel_rfl)
theorem ins3 (w : World) : (Instr.mapUpdate 166 (.map (some w.heap.size)) (.string { data := #[115, 116, 97, 114, 116] }) (.int .i64 40)).run Try.prog (w.alloc (.map #[kb [98, 108, 111, 99, 107] 2 0, kb [119, 97, 116, 99, 104] 8 1, kb [108, 97, 116, 101, 114] 3 2] 3)) = .ok () (w.alloc (.map #[kb [98, 108, 111, 99, 107] 2 0, kb [119, 97, 116, 99, 104] 8 1, kb [108, 97, 116, 101, 114] 3 2, kb [115, 116, 97, 114, 116] 40 3] 4)) :=
  run_insert_new w (t := 166) (k := 9) (e := 3) Try.underlying166 #[kb [98, 108, 111, 99, 107] 2 0, kb [119, 97, 116, 99, 104] 8 1, kb [108, 97, 116, 101, 114] 3 2] 3 _ _ Try.underlying9 trivial (by kernel_rfl)
theorem ins4 (w : World) : (Instr.mapUpdate 166 (.map (some w.heap.size)) (.string { data := #[115, 116, 97, 98, 108, 101] }) (.int .i64 96)).run Try.prog (w.alloc (.map #[kb [98, 108, 111, 99, 107] 2 0, kb [119, 97, 116, 99, 104] 8 1, kb [108, 97, 116, 101, 114] 3 2, kb [115, 116, 97, 114, 116] 40 3] 4)) = .ok () (w.alloc (.map #[kb [98, 108, 111, 99, 107] 2 0, kb [119, 97, 116, 99, 104] 8 1, kb [108, 97, 116, 101, 114] 3 2, kb [115, 116, 97, 114, 116] 40 3, kb [115, 116, 97, 98, 108, 101] 96 4] 5)) :=
  run_insert_new w (t := 166) (k := 9) (e := 3) Try.underlying166 #[kb [98, 108, 111, 99, 107] 2 0, kb [119, 97, 116, 99, 104] 8 1, kb [108, 97, 116, 101, 114] 3 2, kb [115, 116, 97, 114, 116] 40 3] 4 _ _ Try.underlying9 trivial (by kernel_rfl)
theorem ins5 (w : World) : (Instr.mapUpdate 166 (.map (some w.heap.size)) (.string { data := #[108, 105, 115, 116, 101, 110] }) (.int .i64 4)).run Try.prog (w.alloc (.map #[kb [98, 108, 111, 99, 107] 2 0, kb [119, 97, 116, 99, 104] 8 1, kb [108, 97, 116, 101, 114] 3 2, kb [115, 116, 97, 114, 116] 40 3, kb [115, 116, 97, 98, 108, 101] 96 4] 5)) = .ok () (w.alloc (.map #[kb [98, 108, 111, 99, 107] 2 0, kb [119, 97, 116, 99, 104] 8 1, kb [108, 97, 116, 101, 114] 3 2, kb [115, 116, 97, 114, 116] 40 3, kb [115, 116, 97, 98, 108, 101] 96 4, kb [108, 105, 115, 116, 101, 110] 4 5] 6)) :=
  run_insert_new w (t := 166) (k := 9) (e := 3) Try.underlying166 #[kb [98, 108, 111, 99, 107] 2 0, kb [119, 97, 116, 99, 104] 8 1, kb [108, 97, 116, 101, 114] 3 2, kb [115, 116, 97, 114, 116] 40 3, kb [115, 116, 97, 98, 108, 101] 96 4] 5 _ _ Try.underlying9 trivial (by kernel_rfl)
theorem ins6 (w : World) : (Instr.mapUpdate 166 (.map (some w.heap.size)) (.string { data := #[99, 111, 108, 100] }) (.int .i64 2)).run Try.prog (w.alloc (.map #[kb [98, 108, 111, 99, 107] 2 0, kb [119, 97, 116, 99, 104] 8 1, kb [108, 97, 116, 101, 114] 3 2, kb [115, 116, 97, 114, 116] 40 3, kb [115, 116, 97, 98, 108, 101] 96 4, kb [108, 105, 115, 116, 101, 110] 4 5] 6)) = .ok () (w.alloc (.map #[kb [98, 108, 111, 99, 107] 2 0, kb [119, 97, 116, 99, 104] 8 1, kb [108, 97, 116, 101, 114] 3 2, kb [115, 116, 97, 114, 116] 40 3, kb [115, 116, 97, 98, 108, 101] 96 4, kb [108, 105, 115, 116, 101, 110] 4 5, kb [99, 111, 108, 100] 2 6] 7)) :=
  run_insert_new w (t := 166) (k := 9) (e := 3) Try.underlying166 #[kb [98, 108, 111, 99, 107] 2 0, kb [119, 97, 116, 99, 104] 8 1, kb [108, 97, 116, 101, 114] 3 2, kb [115, 116, 97, 114, 116] 40 3, kb [115, 116, 97, 98, 108, 101] 96 4, kb [108, 105, 115, 116, 101, 110] 4 5] 6 _ _ Try.underlying9 trivial (by kernel_rfl)
theorem rounds_calls (w : World) : Calls Try.prog 163 #[] w fun e w' => e = .returned (.map (some w.heap.size)) ∧ w' = w.alloc (.map ES 7) := by
  have hmm := @run_makeMap Try.prog
  have h0 := ins0 w
  have h1 := ins1 w
  have h2 := ins2 w
  have h3 := ins3 w
  have h4 := ins4 w
  have h5 := ins5 w
  have h6 := ins6 w
  go_enter Try.func163, Try.ntmps163
  go_wp2
  go_ret
  exact ⟨rfl, rfl⟩
end Rx.S
namespace Rx.S
open Go Rx Go.Proofs Go.RowKit
set_option maxRecDepth 100000
def c_conf_time : Ctr := { f := 130, ps := [.c false [.str], .c false [.int .i64]], rs := [(false, [.int .i64])], ok := fun _ => true }
theorem right_calls (n : Int) (w : World) : Calls Try.prog 50 #[.int .i64 n] w fun e w' => e = .returned (.bool (Day.right n)) ∧ w' = w := by
  by_cases h1 : 3 ≤ n
  · have c1 : decide (n ≥ 3) = true := decide_eq_true h1
    by_cases h2 : n ≤ 8
    · have c2 : decide (n ≤ 8) = true := decide_eq_true h2
      go_enter Try.func50, Try.ntmps50
      go_wp2
      go_ret
      exact ⟨by simp [Day.right, h1, h2], rfl⟩
    · have c2 : decide (n ≤ 8) = false := decide_eq_false h2
      go_enter Try.func50, Try.ntmps50
      go_wp2
      go_ret
      exact ⟨by simp [Day.right, h1, h2], rfl⟩
  · have c1 : decide (n ≥ 3) = false := decide_eq_false h1
    go_enter Try.func50, Try.ntmps50
    go_wp2
    go_ret
    exact ⟨by simp [Day.right]; omega, rfl⟩
theorem find_name (s : ByteArray) (h : Day.kOf s ≠ 0) : ∃ i, Instr.findNow .string (.string s) ES.toList 0 = some (some (i, .int .i64 (Day.kOf s))) := by
  obtain ⟨⟨l⟩⟩ := s
  unfold Day.kOf at h ⊢
  simp only at h ⊢
  by_cases h1 : l = [98, 108, 111, 99, 107]
  · subst h1; exact ⟨0, by kernel_rfl⟩
  by_cases h2 : l = [119, 97, 116, 99, 104]
  · subst h2; exact ⟨1, by kernel_rfl⟩
  by_cases h3 : l = [108, 97, 116, 101, 114]
  · subst h3; exact ⟨2, by kernel_rfl⟩
  by_cases h4 : l = [115, 116, 97, 114, 116]
  · subst h4; exact ⟨3, by kernel_rfl⟩
  by_cases h5 : l = [115, 116, 97, 98, 108, 101]
  · subst h5; exact ⟨4, by kernel_rfl⟩
  by_cases h6 : l = [108, 105, 115, 116, 101, 110]
  · subst h6; exact ⟨5, by kernel_rfl⟩
  by_cases h7 : l = [99, 111, 108, 100]
  · subst h7; exact ⟨6, by kernel_rfl⟩
  · exact absurd (by rw [if_neg h1, if_neg h2, if_neg h3, if_neg h4, if_neg h5, if_neg h6, if_neg h7]) h
theorem time_calls (s : ByteArray) (n : Int) (hs : Day.kOf s ≠ 0) (w : World) : Calls Try.prog 130 #[.string s, .int .i64 n] w fun e w' => e = .returned (.int .i64 (Day.times (Day.kOf s) n)) ∧ Below w.heap.size w w' := by
  obtain ⟨i, hi⟩ := find_name s hs
  have hl := run_lookup_hit (P := Try.prog) (w.alloc (.map ES 7)) (t := 166) (k := 9) (e := 3) Try.underlying166 (alloc_last w (.map ES 7)) (.string s) Try.underlying9 trivial hi false
  have hk := Day.kOf_range s
  cases hr : Day.right n with
  | false =>
    have ht : Day.times (Day.kOf s) n = 0 := by simp [Day.times, hr]
    rw [ht]
    have hc := right_calls n w
    rw [hr] at hc
    clear hl hi
    go_enter Try.func130, Try.ntmps130
    go_wp2_with (go_at_call 50; refine hc.mono ?_; rintro e w' ⟨rfl, rfl⟩)
    go_ret
    exact ⟨rfl, Below.refl _ _⟩
  | true =>
    have ht : IntKind.wrap .i64 (Day.kOf s * n) = Day.times (Day.kOf s) n := by
      simp only [Day.times, hr, if_true]
      have : 3 ≤ n ∧ n ≤ 8 := by simpa [Day.right] using hr
      have hn2 : n = 3 ∨ n = 4 ∨ n = 5 ∨ n = 6 ∨ n = 7 ∨ n = 8 := by omega
      rcases hn2 with rfl | rfl | rfl | rfl | rfl | rfl <;> exact wrap64 (by omega) (by omega)
    rw [← ht, IntWalk.i64_left]
    have hc := right_calls n w
    rw [hr] at hc
    simp only [Bool.false_eq_true, if_false] at hl
    clear hi ht
    go_enter Try.func130, Try.ntmps130
    go_wp2_with (first | (go_at_call 50; refine hc.mono ?_; rintro e w' ⟨rfl, rfl⟩) | (go_at_call 163; refine (rounds_calls _).mono ?_; rintro e w' ⟨rfl, rfl⟩))
    go_ret
    exact ⟨rfl, (Below.refl _ _).alloc (Nat.le_refl _) _⟩
theorem ctr_conf_time : CtrOK Try.prog T c_conf_time := by
  intro lits al vs w hok hag hargs hpre
  have hpre : (t_130 al).1 = true := by rw [← T_130]; exact hpre
  obtain ⟨v, vr, a1, a2, rfl, rfl, o1, v', vr', a3, a4, rfl, rfl, o2, hnil⟩ := hargs
  obtain ⟨rfl, rfl⟩ := hnil
  obtain ⟨l1, o1⟩ := o1
  obtain ⟨l2, o2⟩ := o2
  rw [if_neg (by simp)] at o1 o2
  obtain ⟨s1, b1, e1, rfl, rfl⟩ := o1
  obtain ⟨s2, b2, e2, rfl, rfl⟩ := o2
  simp only [List.cons.injEq, and_true] at e1 e2
  subst e1 e2
  have hk : Day.kOf b1.str ≠ 0 := of_decide_eq_true hpre
  refine (time_calls b1.str b2.int hk w).mono ?_
  rintro e w' ⟨rfl, hb⟩
  refine ⟨_, rfl, ?_, hb⟩
  rw [show c_conf_time.f = 130 from rfl, T_130]
  exact ⟨_, ⟨_, _, [_], [], rfl, rfl, ⟨rfl, by rw [if_neg (by simp)]; exact ⟨_, _, rfl, rfl, rfl⟩⟩, rfl, rfl⟩, rfl⟩
end Rx.S
namespace Rx.S
open Go Rx Go.Proofs
set_option maxRecDepth 100000
set_option linter.unusedVariables false
def c_conf_own : Ctr := { f := 129, ps := [.c false [.str], .c false [.int .i64], .c false [.int .i64]], rs := [(false, [.int .i64]), (false, [.int .i64])], ok := fun _ => true }
noncomputable def fns_conf_own : List (Nat × Func) := [(50, Try.f50), (129, Try.f129), (130, Try.f130)]
theorem fnsOk_conf_own : FnsAll Try.prog fns_conf_own := ⟨fn50, fn129, fn130, trivial⟩
noncomputable def X_conf_own : Ctx := { tys := tys, eqs := eqs, fns := fun f => look f fns_conf_own, ctr := [(50, c_conf_Right), (130, c_conf_time)], lim := 30 }
theorem xok_conf_own : XOK Try.prog T X_conf_own where
  tys := tysOk
  eqs := eqsOk
  mixed := mixed
  ctr := ctrsOK_of ⟨⟨rfl, ctr_conf_Right⟩, ⟨rfl, ctr_conf_time⟩, trivial⟩
  fns := fnsOK_of fnsOk_conf_own
def g_conf_own : G := { next := 33, defs := [⟨32, .iteB, [.var 23, .var 23, .var 22]⟩, ⟨31, .iteI, [.var 23, .n 0, .var 21]⟩, ⟨30, .iteI, [.var 23, .var 28, .n 0]⟩, ⟨29, .not, [.var 23]⟩, ⟨28, (.ar .add .i64), [.var 27, .n 1]⟩, ⟨27, (.ar .add .i64), [.var 25, .var 2]⟩, ⟨26, .imp, [.var 23, .var 24]⟩, ⟨24, (.call 130), [.var 0, .var 1]⟩, ⟨23, .and, [.var 6, .var 20]⟩, ⟨22, .iteB, [.var 5, .var 5, .var 19]⟩, ⟨21, .iteI, [.var 5, .n 1, .n 2]⟩, ⟨20, .and, [.var 16, .var 18]⟩, ⟨19, .and, [.var 15, .var 17]⟩, ⟨18, .and, [.var 6, .var 16]⟩, ⟨17, .and, [.var 6, .var 15]⟩, ⟨16, .not, [.var 15]⟩, ⟨15, .iteB, [.var 7, .t true, .var 14]⟩, ⟨14, (.cmp .geq), [.var 2, .var 1]⟩, ⟨13, .and, [.var 6, .var 12]⟩, ⟨12, .not, [.var 7]⟩, ⟨11, .and, [.var 6, .var 10]⟩, ⟨10, .not, [.var 7]⟩, ⟨9, .and, [.var 6, .var 8]⟩, ⟨8, .not, [.var 7]⟩, ⟨7, (.cmp .lss), [.var 2, .n 0]⟩, ⟨6, .not, [.var 5]⟩, ⟨5, .not, [.var 4]⟩, ⟨3, (.call 50), [.var 1]⟩], obs := [.var 26, .var 3], known := [] }
theorem run_conf_own : run X_conf_own 2000 129 ([.one (.k (.str (.var 0))), .one (.k (.int .i64 (.var 1))), .one (.k (.int .i64 (.var 2)))]) ([]) 3 [] = some (.tup [.one (.k (.int .i64 (.var 30))), .one (.k (.int .i64 (.var 31)))], [], g_conf_own) := by kernel_rfl
theorem pure_conf_own (x0 : ByteArray) (x1 : Int) (x2 : Int) (v3 : Bool) (v4 : Bool) (v5 : Bool) (v6 : Bool) (v7 : Bool) (v8 : Bool) (v9 : Bool) (v10 : Bool) (v11 : Bool) (v12 : Bool) (v13 : Bool) (v14 : Bool) (v15 : Bool) (v16 : Bool) (v17 : Bool) (v18 : Bool) (v19 : Bool) (v20 : Bool) (v21 : Int) (v22 : Bool) (v23 : Bool) (v24 : Bool) (v25 : Int) (v26 : Bool) (v27 : Int) (v28 : Int) (v29 : Bool) (v30 : Int) (v31 : Int) (v32 : Bool)
    (q3 : v3 = (true))
    (q4 : v4 = (Day.right x1))
    (q5 : v5 = ((!v4)))
    (q6 : v6 = ((!v5)))
    (q7 : v7 = (decide (x2 < (0 : Int))))
    (q8 : v8 = ((!v7)))
    (q9 : v9 = ((v6 && v8)))
    (q10 : v10 = ((!v7)))
    (q11 : v11 = ((v6 && v10)))
    (q12 : v12 = ((!v7)))
    (q13 : v13 = ((v6 && v12)))
    (q14 : v14 = (decide (x2 ≥ x1)))
    (q15 : v15 = ((if v7 then true else v14)))
    (q16 : v16 = ((!v15)))
    (q17 : v17 = ((v6 && v15)))
    (q18 : v18 = ((v6 && v16)))
    (q19 : v19 = ((v15 && v17)))
    (q20 : v20 = ((v16 && v18)))
    (q21 : v21 = ((if v5 then (1 : Int) else (2 : Int))))
    (q22 : v22 = ((if v5 then v5 else v19)))
    (q23 : v23 = ((v6 && v20)))
    (q24 : v24 = (Day.timeP x0))
    (q25 : v25 = (Day.times (Day.kOf x0) x1))
    (q26 : v26 = ((!v23 || v24)))
    (q27 : v27 = (IntKind.wrap .i64 (v25 + x2)))
    (q28 : v28 = (IntKind.wrap .i64 (v27 + (1 : Int))))
    (q29 : v29 = ((!v23)))
    (q30 : v30 = ((if v23 then v28 else (0 : Int))))
    (q31 : v31 = ((if v23 then (0 : Int) else v21)))
    (q32 : v32 = ((if v23 then v23 else v22)))
    (hp : (Day.timeP x0) = true)  :
    (v26 = true ∧ v3 = true) ∧ (Day.ownR (Day.kOf x0) x1 x2 = v30 ∧ Day.ownE x1 x2 = v31) := by
  have hk := Day.kOf_range x0
  by_cases hr : Day.right x1 = true
  · have hn : 3 ≤ x1 ∧ x1 ≤ 8 := by grind [Day.clampR, Day.upR, Day.downR, Day.sm, Day.i64, Day.u8, Day.u16, Day.u32, Day.right, Day.times, Day.ownE, Day.ownR, Day.idE, Day.freshN, Day.noND, Day.cleanN, Day.wakeN, Day.rightN, Day.ND.i64, Day.waitR, Day.dueR, Day.ofR, Day.ofE, Day.noFr, wrap64, Day.modP, Day.modR, Day.slotP, Day.nextR, Day.atP, Day.atR, Day.aheadP, Day.aheadR]
    have hn2 : x1 = 3 ∨ x1 = 4 ∨ x1 = 5 ∨ x1 = 6 ∨ x1 = 7 ∨ x1 = 8 := by omega
    clear hn
    rcases hn2 with rfl | rfl | rfl | rfl | rfl | rfl <;> grind [Day.clampR, Day.upR, Day.downR, Day.sm, Day.i64, Day.u8, Day.u16, Day.u32, Day.right, Day.times, Day.ownE, Day.ownR, Day.idE, Day.freshN, Day.noND, Day.cleanN, Day.wakeN, Day.rightN, Day.ND.i64, Day.waitR, Day.dueR, Day.ofR, Day.ofE, Day.noFr, wrap64, Day.modP, Day.modR, Day.slotP, Day.nextR, Day.atP, Day.atR, Day.aheadP, Day.aheadR]
  · grind [Day.clampR, Day.upR, Day.downR, Day.sm, Day.i64, Day.u8, Day.u16, Day.u32, Day.right, Day.times, Day.ownE, Day.ownR, Day.idE, Day.freshN, Day.noND, Day.cleanN, Day.wakeN, Day.rightN, Day.ND.i64, Day.waitR, Day.dueR, Day.ofR, Day.ofE, Day.noFr, wrap64, Day.modP, Day.modR, Day.slotP, Day.nextR, Day.atP, Day.atR, Day.aheadP, Day.aheadR]
theorem bridge_conf_own {e : Nat → A} {al more : List A} (hlen : al.length = 3) (he : ∀ j a, (al ++ more)[j]? = some a → e j = a) (hd : ∀ d ∈ g_conf_own.defs, d.holds T e) (hp : (t_129 al).1 = true) :
    (∀ x ∈ g_conf_own.known, x.holds T e) ∧ (∀ o ∈ g_conf_own.obs, (o.ev e).bool = true) ∧ semMany (c_conf_own.rs.flatMap (·.2)) (t_129 al).2 = semMany (c_conf_own.rs.flatMap (·.2)) ([.var 30, .var 31].map (L.ev e)) := by
  have y0 : gs al 0 = (e 0).str := gs_e he (by omega)
  have y1 : gi al 1 = (e 1).int := gi_e he (by omega)
  have y2 : gi al 2 = (e 2).int := gi_e he (by omega)
  obtain ⟨d32, d31, d30, d29, d28, d27, d26, d24, d23, d22, d21, d20, d19, d18, d17, d16, d15, d14, d13, d12, d11, d10, d9, d8, d7, d6, d5, d3, -⟩ : AllHold T e g_conf_own.defs := allHold_of hd
  have hpE : (t_129 al).1 = (Day.timeP (e 0).str) := by simp only [t_129, y0, y1, y2]
  have hp := hpE.symm.trans hp
  have hoE : (t_129 al).2 = [.i (Day.ownR (Day.kOf (e 0).str) (e 1).int (e 2).int), .i (Day.ownE (e 1).int (e 2).int)] := by simp only [t_129, y0, y1, y2]
  obtain ⟨ho, hr⟩ := pure_conf_own (e 0).str (e 1).int (e 2).int (e 3).bool (e 4).bool (e 5).bool (e 6).bool (e 7).bool (e 8).bool (e 9).bool (e 10).bool (e 11).bool (e 12).bool (e 13).bool (e 14).bool (e 15).bool (e 16).bool (e 17).bool (e 18).bool (e 19).bool (e 20).bool (e 21).int (e 22).bool (e 23).bool (e 24).bool (e 25).int (e 26).bool (e 27).int (e 28).int (e 29).bool (e 30).int (e 31).int (e 32).bool
    (q_pre T_50 d3)
    (q_outB T_50 0 d3 rfl)
    (q_not d5)
    (q_not d6)
    (q_cmp d7)
    (q_not d8)
    (q_and d9)
    (q_not d10)
    (q_and d11)
    (q_not d12)
    (q_and d13)
    (q_cmp d14)
    (q_iteB d15)
    (q_not d16)
    (q_and d17)
    (q_and d18)
    (q_and d19)
    (q_and d20)
    (q_iteI d21)
    (q_iteB d22)
    (q_and d23)
    (q_pre T_130 d24)
    (q_outI T_130 0 d24 rfl)
    (q_imp d26)
    (q_ar d27)
    (q_ar d28)
    (q_not d29)
    (q_iteI d30)
    (q_iteI d31)
    (q_iteB d32)
    hp
  obtain ⟨o0, o1⟩ := ho
  obtain ⟨r0, r1⟩ := hr
  refine ⟨(fun x hx => by cases hx), obs_of (e := e) (l := g_conf_own.obs) ⟨o0, o1, trivial⟩, ?_⟩
  rw [hoE]
  show semMany [.int .i64, .int .i64] [.i (Day.ownR (Day.kOf (e 0).str) (e 1).int (e 2).int), .i (Day.ownE (e 1).int (e 2).int)] = semMany [.int .i64, .int .i64] [L.ev e (.var 30), L.ev e (.var 31)]
  exact (semI r0 (semI r1 rfl))
theorem ctr_conf_own : CtrOK Try.prog T c_conf_own := by
  intro lits al vs w hok hag hargs hpre
  have hpre : (t_129 al).1 = true := by rw [← T_129]; exact hpre
  obtain ⟨hl, hlen⟩ := args_flat hargs rfl
  have hlen : al.length = 3 := hlen
  exact calls_of_run xok_conf_own widths (lits := []) (ns := []) (more := []) rfl run_conf_own (by kernel_rfl) (by kernel_rfl) rfl hargs hl (lit_none) (by rw [show c_conf_own.f = 129 from rfl, T_129]; rfl)
    fun e he hd => by rw [show c_conf_own.f = 129 from rfl, T_129]; exact bridge_conf_own hlen he hd hpre
end Rx.S
namespace Rx.S
open Go Rx Go.Proofs
set_option maxRecDepth 100000
set_option linter.unusedVariables false
def c_conf_Cold : Ctr := { f := 42, ps := [.c false [.int .i64], .c false [.int .i64]], rs := [(false, [.int .i64]), (false, [.int .i64])], ok := fun _ => true }
noncomputable def fns_conf_Cold : List (Nat × Func) := [(42, Try.f42), (129, Try.f129)]
theorem fnsOk_conf_Cold : FnsAll Try.prog fns_conf_Cold := ⟨fn42, fn129, trivial⟩
noncomputable def X_conf_Cold : Ctx := { tys := tys, eqs := eqs, fns := fun f => look f fns_conf_Cold, ctr := [(129, c_conf_own)], lim := 30 }
theorem xok_conf_Cold : XOK Try.prog T X_conf_Cold where
  tys := tysOk
  eqs := eqsOk
  mixed := mixed
  ctr := ctrsOK_of ⟨⟨rfl, ctr_conf_own⟩, trivial⟩
  fns := fnsOK_of fnsOk_conf_Cold
def g_conf_Cold : G := { next := 5, defs := [⟨2, (.call 129), [.s [99, 111, 108, 100], .var 0, .var 1]⟩], obs := [.var 2], known := [] }
theorem run_conf_Cold : run X_conf_Cold 2000 42 ([.one (.k (.int .i64 (.var 0))), .one (.k (.int .i64 (.var 1)))]) ([]) 2 [] = some (.tup [.one (.k (.int .i64 (.var 3))), .one (.k (.int .i64 (.var 4)))], [], g_conf_Cold) := by kernel_rfl
theorem pure_conf_Cold (x0 : Int) (x1 : Int) (v2 : Bool) (v3 : Int) (v4 : Int)
    (q2 : v2 = (Day.timeP (⟨([99, 111, 108, 100] : List UInt8).toArray⟩ : ByteArray)))
    (q3 : v3 = (Day.ownR (Day.kOf (⟨([99, 111, 108, 100] : List UInt8).toArray⟩ : ByteArray)) x0 x1))
    (q4 : v4 = (Day.ownE x0 x1))
    (hp : (true) = true)  :
    (v2 = true) ∧ (Day.ownR 2 x0 x1 = v3 ∧ Day.ownE x0 x1 = v4) := by
  simp only [Day.kOf_block, Day.kOf_watch, Day.kOf_later, Day.kOf_start, Day.kOf_stable, Day.kOf_listen, Day.kOf_cold, Day.timeP] at *
  grind [Day.clampR, Day.upR, Day.downR, Day.sm, Day.i64, Day.u8, Day.u16, Day.u32, Day.right, Day.times, Day.ownE, Day.ownR, Day.idE, Day.freshN, Day.noND, Day.cleanN, Day.wakeN, Day.rightN, Day.ND.i64, Day.waitR, Day.dueR, Day.ofR, Day.ofE, Day.noFr, wrap64, Day.modP, Day.modR, Day.slotP, Day.nextR, Day.atP, Day.atR, Day.aheadP, Day.aheadR, Day.timeP]
theorem bridge_conf_Cold {e : Nat → A} {al more : List A} (hlen : al.length = 2) (he : ∀ j a, (al ++ more)[j]? = some a → e j = a) (hd : ∀ d ∈ g_conf_Cold.defs, d.holds T e) (hp : (t_42 al).1 = true) :
    (∀ x ∈ g_conf_Cold.known, x.holds T e) ∧ (∀ o ∈ g_conf_Cold.obs, (o.ev e).bool = true) ∧ semMany (c_conf_Cold.rs.flatMap (·.2)) (t_42 al).2 = semMany (c_conf_Cold.rs.flatMap (·.2)) ([.var 3, .var 4].map (L.ev e)) := by
  have y0 : gi al 0 = (e 0).int := gi_e he (by omega)
  have y1 : gi al 1 = (e 1).int := gi_e he (by omega)
  obtain ⟨d2, -⟩ : AllHold T e g_conf_Cold.defs := allHold_of hd
  have hpE : (t_42 al).1 = (true) := by simp only [t_42, y0, y1]
  have hp := hpE.symm.trans hp
  have hoE : (t_42 al).2 = [.i (Day.ownR 2 (e 0).int (e 1).int), .i (Day.ownE (e 0).int (e 1).int)] := by simp only [t_42, y0, y1]
  obtain ⟨ho, hr⟩ := pure_conf_Cold (e 0).int (e 1).int (e 2).bool (e 3).int (e 4).int
    (q_pre T_129 d2)
    (q_outI T_129 0 d2 rfl)
    (q_outI T_129 1 d2 rfl)
    hp
  have o0 := ho
  obtain ⟨r0, r1⟩ := hr
  refine ⟨(fun x hx => by cases hx), obs_of (e := e) (l := g_conf_Cold.obs) ⟨o0, trivial⟩, ?_⟩
  rw [hoE]
  show semMany [.int .i64, .int .i64] [.i (Day.ownR 2 (e 0).int (e 1).int), .i (Day.ownE (e 0).int (e 1).int)] = semMany [.int .i64, .int .i64] [L.ev e (.var 3), L.ev e (.var 4)]
  exact (semI r0 (semI r1 rfl))
theorem ctr_conf_Cold : CtrOK Try.prog T c_conf_Cold := by
  intro lits al vs w hok hag hargs hpre
  have hpre : (t_42 al).1 = true := by rw [← T_42]; exact hpre
  obtain ⟨hl, hlen⟩ := args_flat hargs rfl
  have hlen : al.length = 2 := hlen
  exact calls_of_run xok_conf_Cold widths (lits := []) (ns := []) (more := []) rfl run_conf_Cold (by kernel_rfl) (by kernel_rfl) rfl hargs hl (lit_none) (by rw [show c_conf_Cold.f = 42 from rfl, T_42]; rfl)
    fun e he hd => by rw [show c_conf_Cold.f = 42 from rfl, T_42]; exact bridge_conf_Cold hlen he hd hpre
end Rx.S
namespace Rx.S
open Go Rx Go.Proofs
set_option maxRecDepth 100000
set_option linter.unusedVariables false
def c_conf_Listen : Ctr := { f := 41, ps := [.c false [.int .i64], .c false [.int .i64]], rs := [(false, [.int .i64]), (false, [.int .i64])], ok := fun _ => true }
noncomputable def fns_conf_Listen : List (Nat × Func) := [(41, Try.f41), (129, Try.f129)]
theorem fnsOk_conf_Listen : FnsAll Try.prog fns_conf_Listen := ⟨fn41, fn129, trivial⟩
noncomputable def X_conf_Listen : Ctx := { tys := tys, eqs := eqs, fns := fun f => look f fns_conf_Listen, ctr := [(129, c_conf_own)], lim := 30 }
theorem xok_conf_Listen : XOK Try.prog T X_conf_Listen where
  tys := tysOk
  eqs := eqsOk
  mixed := mixed
  ctr := ctrsOK_of ⟨⟨rfl, ctr_conf_own⟩, trivial⟩
  fns := fnsOK_of fnsOk_conf_Listen
def g_conf_Listen : G := { next := 5, defs := [⟨2, (.call 129), [.s [108, 105, 115, 116, 101, 110], .var 0, .var 1]⟩], obs := [.var 2], known := [] }
theorem run_conf_Listen : run X_conf_Listen 2000 41 ([.one (.k (.int .i64 (.var 0))), .one (.k (.int .i64 (.var 1)))]) ([]) 2 [] = some (.tup [.one (.k (.int .i64 (.var 3))), .one (.k (.int .i64 (.var 4)))], [], g_conf_Listen) := by kernel_rfl
theorem pure_conf_Listen (x0 : Int) (x1 : Int) (v2 : Bool) (v3 : Int) (v4 : Int)
    (q2 : v2 = (Day.timeP (⟨([108, 105, 115, 116, 101, 110] : List UInt8).toArray⟩ : ByteArray)))
    (q3 : v3 = (Day.ownR (Day.kOf (⟨([108, 105, 115, 116, 101, 110] : List UInt8).toArray⟩ : ByteArray)) x0 x1))
    (q4 : v4 = (Day.ownE x0 x1))
    (hp : (true) = true)  :
    (v2 = true) ∧ (Day.ownR 4 x0 x1 = v3 ∧ Day.ownE x0 x1 = v4) := by
  simp only [Day.kOf_block, Day.kOf_watch, Day.kOf_later, Day.kOf_start, Day.kOf_stable, Day.kOf_listen, Day.kOf_cold, Day.timeP] at *
  grind [Day.clampR, Day.upR, Day.downR, Day.sm, Day.i64, Day.u8, Day.u16, Day.u32, Day.right, Day.times, Day.ownE, Day.ownR, Day.idE, Day.freshN, Day.noND, Day.cleanN, Day.wakeN, Day.rightN, Day.ND.i64, Day.waitR, Day.dueR, Day.ofR, Day.ofE, Day.noFr, wrap64, Day.modP, Day.modR, Day.slotP, Day.nextR, Day.atP, Day.atR, Day.aheadP, Day.aheadR, Day.timeP]
theorem bridge_conf_Listen {e : Nat → A} {al more : List A} (hlen : al.length = 2) (he : ∀ j a, (al ++ more)[j]? = some a → e j = a) (hd : ∀ d ∈ g_conf_Listen.defs, d.holds T e) (hp : (t_41 al).1 = true) :
    (∀ x ∈ g_conf_Listen.known, x.holds T e) ∧ (∀ o ∈ g_conf_Listen.obs, (o.ev e).bool = true) ∧ semMany (c_conf_Listen.rs.flatMap (·.2)) (t_41 al).2 = semMany (c_conf_Listen.rs.flatMap (·.2)) ([.var 3, .var 4].map (L.ev e)) := by
  have y0 : gi al 0 = (e 0).int := gi_e he (by omega)
  have y1 : gi al 1 = (e 1).int := gi_e he (by omega)
  obtain ⟨d2, -⟩ : AllHold T e g_conf_Listen.defs := allHold_of hd
  have hpE : (t_41 al).1 = (true) := by simp only [t_41, y0, y1]
  have hp := hpE.symm.trans hp
  have hoE : (t_41 al).2 = [.i (Day.ownR 4 (e 0).int (e 1).int), .i (Day.ownE (e 0).int (e 1).int)] := by simp only [t_41, y0, y1]
  obtain ⟨ho, hr⟩ := pure_conf_Listen (e 0).int (e 1).int (e 2).bool (e 3).int (e 4).int
    (q_pre T_129 d2)
    (q_outI T_129 0 d2 rfl)
    (q_outI T_129 1 d2 rfl)
    hp
  have o0 := ho
  obtain ⟨r0, r1⟩ := hr
  refine ⟨(fun x hx => by cases hx), obs_of (e := e) (l := g_conf_Listen.obs) ⟨o0, trivial⟩, ?_⟩
  rw [hoE]
  show semMany [.int .i64, .int .i64] [.i (Day.ownR 4 (e 0).int (e 1).int), .i (Day.ownE (e 0).int (e 1).int)] = semMany [.int .i64, .int .i64] [L.ev e (.var 3), L.ev e (.var 4)]
  exact (semI r0 (semI r1 rfl))
theorem ctr_conf_Listen : CtrOK Try.prog T c_conf_Listen := by
  intro lits al vs w hok hag hargs hpre
  have hpre : (t_41 al).1 = true := by rw [← T_41]; exact hpre
  obtain ⟨hl, hlen⟩ := args_flat hargs rfl
  have hlen : al.length = 2 := hlen
  exact calls_of_run xok_conf_Listen widths (lits := []) (ns := []) (more := []) rfl run_conf_Listen (by kernel_rfl) (by kernel_rfl) rfl hargs hl (lit_none) (by rw [show c_conf_Listen.f = 41 from rfl, T_41]; rfl)
    fun e he hd => by rw [show c_conf_Listen.f = 41 from rfl, T_41]; exact bridge_conf_Listen hlen he hd hpre
end Rx.S
namespace Rx.S
open Go Rx Go.Proofs
set_option maxRecDepth 100000
set_option linter.unusedVariables false
def c_ref03_Right : Ctr := { f := 51, ps := [.c false [.int .i64]], rs := [(false, [.bool])], ok := fun _ => true }
noncomputable def fns_ref03_Right : List (Nat × Func) := [(51, Try.f51)]
theorem fnsOk_ref03_Right : FnsAll Try.prog fns_ref03_Right := ⟨fn51, trivial⟩
noncomputable def X_ref03_Right : Ctx := { tys := tys, eqs := eqs, fns := fun f => look f fns_ref03_Right, ctr := [], lim := 30 }
theorem xok_ref03_Right : XOK Try.prog T X_ref03_Right where
  tys := tysOk
  eqs := eqsOk
  mixed := mixed
  ctr := ctrsOK_of trivial
  fns := fnsOK_of fnsOk_ref03_Right
def g_ref03_Right : G := { next := 4, defs := [⟨3, .iteB, [.var 1, .var 2, .t false]⟩, ⟨2, (.cmp .leq), [.var 0, .n 8]⟩, ⟨1, (.cmp .geq), [.var 0, .n 3]⟩], obs := [], known := [] }
theorem run_ref03_Right : run X_ref03_Right 2000 51 ([.one (.k (.int .i64 (.var 0)))]) ([]) 1 [] = some (.pv (.one (.k (.bool (.var 3)))), [], g_ref03_Right) := by kernel_rfl
theorem pure_ref03_Right (x0 : Int) (v1 : Bool) (v2 : Bool) (v3 : Bool)
    (q1 : v1 = (decide (x0 ≥ (3 : Int))))
    (q2 : v2 = (decide (x0 ≤ (8 : Int))))
    (q3 : v3 = ((if v1 then v2 else false)))
    (hp : (true) = true)  :
    (True) ∧ (Day.right x0 = v3) := by
  grind [Day.clampR, Day.upR, Day.downR, Day.sm, Day.i64, Day.u8, Day.u16, Day.u32, Day.right, Day.times, Day.ownE, Day.ownR, Day.idE, Day.freshN, Day.noND, Day.cleanN, Day.wakeN, Day.rightN, Day.ND.i64, Day.waitR, Day.dueR, Day.ofR, Day.ofE, Day.noFr, wrap64, Day.modP, Day.modR, Day.slotP, Day.nextR, Day.atP, Day.atR, Day.aheadP, Day.aheadR]
theorem bridge_ref03_Right {e : Nat → A} {al more : List A} (hlen : al.length = 1) (he : ∀ j a, (al ++ more)[j]? = some a → e j = a) (hd : ∀ d ∈ g_ref03_Right.defs, d.holds T e) (hp : (t_51 al).1 = true) :
    (∀ x ∈ g_ref03_Right.known, x.holds T e) ∧ (∀ o ∈ g_ref03_Right.obs, (o.ev e).bool = true) ∧ semMany (c_ref03_Right.rs.flatMap (·.2)) (t_51 al).2 = semMany (c_ref03_Right.rs.flatMap (·.2)) ([.var 3].map (L.ev e)) := by
  have y0 : gi al 0 = (e 0).int := gi_e he (by omega)
  obtain ⟨d3, d2, d1, -⟩ : AllHold T e g_ref03_Right.defs := allHold_of hd
  have hpE : (t_51 al).1 = (true) := by simp only [t_51, y0]
  have hp := hpE.symm.trans hp
  have hoE : (t_51 al).2 = [.b (Day.right (e 0).int)] := by simp only [t_51, y0]
  obtain ⟨ho, hr⟩ := pure_ref03_Right (e 0).int (e 1).bool (e 2).bool (e 3).bool
    (q_cmp d1)
    (q_cmp d2)
    (q_iteB d3)
    hp
  have r0 := hr
  refine ⟨(fun x hx => by cases hx), obs_of (e := e) (l := g_ref03_Right.obs) trivial, ?_⟩
  rw [hoE]
  show semMany [.bool] [.b (Day.right (e 0).int)] = semMany [.bool] [L.ev e (.var 3)]
  exact (semB r0 rfl)
theorem ctr_ref03_Right : CtrOK Try.prog T c_ref03_Right := by
  intro lits al vs w hok hag hargs hpre
  have hpre : (t_51 al).1 = true := by rw [← T_51]; exact hpre
  obtain ⟨hl, hlen⟩ := args_flat hargs rfl
  have hlen : al.length = 1 := hlen
  exact calls_of_run xok_ref03_Right widths (lits := []) (ns := []) (more := []) rfl run_ref03_Right (by kernel_rfl) (by kernel_rfl) rfl hargs hl (lit_none) (by rw [show c_ref03_Right.f = 51 from rfl, T_51]; rfl)
    fun e he hd => by rw [show c_ref03_Right.f = 51 from rfl, T_51]; exact bridge_ref03_Right hlen he hd hpre
end Rx.S
namespace Rx.S
open Go Rx Go.Proofs
set_option maxRecDepth 100000
set_option linter.unusedVariables false
def c_conf_Block : Ctr := { f := 44, ps := [.c false [.int .i64]], rs := [(false, [.int .i64])], ok := fun _ => true }
noncomputable def fns_conf_Block : List (Nat × Func) := [(44, Try.f44), (130, Try.f130)]
theorem fnsOk_conf_Block : FnsAll Try.prog fns_conf_Block := ⟨fn44, fn130, trivial⟩
noncomputable def X_conf_Block : Ctx := { tys := tys, eqs := eqs, fns := fun f => look f fns_conf_Block, ctr := [(130, c_conf_time)], lim := 30 }
theorem xok_conf_Block : XOK Try.prog T X_conf_Block where
  tys := tysOk
  eqs := eqsOk
  mixed := mixed
  ctr := ctrsOK_of ⟨⟨rfl, ctr_conf_time⟩, trivial⟩
  fns := fnsOK_of fnsOk_conf_Block
def g_conf_Block : G := { next := 3, defs := [⟨1, (.call 130), [.s [98, 108, 111, 99, 107], .var 0]⟩], obs := [.var 1], known := [] }
theorem run_conf_Block : run X_conf_Block 2000 44 ([.one (.k (.int .i64 (.var 0)))]) ([]) 1 [] = some (.pv (.one (.k (.int .i64 (.var 2)))), [], g_conf_Block) := by kernel_rfl
theorem pure_conf_Block (x0 : Int) (v1 : Bool) (v2 : Int)
    (q1 : v1 = (Day.timeP (⟨([98, 108, 111, 99, 107] : List UInt8).toArray⟩ : ByteArray)))
    (q2 : v2 = (Day.times (Day.kOf (⟨([98, 108, 111, 99, 107] : List UInt8).toArray⟩ : ByteArray)) x0))
    (hp : (true) = true)  :
    (v1 = true) ∧ (Day.times 2 x0 = v2) := by
  simp only [Day.kOf_block, Day.kOf_watch, Day.kOf_later, Day.kOf_start, Day.kOf_stable, Day.kOf_listen, Day.kOf_cold, Day.timeP] at *
  grind [Day.clampR, Day.upR, Day.downR, Day.sm, Day.i64, Day.u8, Day.u16, Day.u32, Day.right, Day.times, Day.ownE, Day.ownR, Day.idE, Day.freshN, Day.noND, Day.cleanN, Day.wakeN, Day.rightN, Day.ND.i64, Day.waitR, Day.dueR, Day.ofR, Day.ofE, Day.noFr, wrap64, Day.modP, Day.modR, Day.slotP, Day.nextR, Day.atP, Day.atR, Day.aheadP, Day.aheadR, Day.timeP]
theorem bridge_conf_Block {e : Nat → A} {al more : List A} (hlen : al.length = 1) (he : ∀ j a, (al ++ more)[j]? = some a → e j = a) (hd : ∀ d ∈ g_conf_Block.defs, d.holds T e) (hp : (t_44 al).1 = true) :
    (∀ x ∈ g_conf_Block.known, x.holds T e) ∧ (∀ o ∈ g_conf_Block.obs, (o.ev e).bool = true) ∧ semMany (c_conf_Block.rs.flatMap (·.2)) (t_44 al).2 = semMany (c_conf_Block.rs.flatMap (·.2)) ([.var 2].map (L.ev e)) := by
  have y0 : gi al 0 = (e 0).int := gi_e he (by omega)
  obtain ⟨d1, -⟩ : AllHold T e g_conf_Block.defs := allHold_of hd
  have hpE : (t_44 al).1 = (true) := by simp only [t_44, y0]
  have hp := hpE.symm.trans hp
  have hoE : (t_44 al).2 = [.i (Day.times 2 (e 0).int)] := by simp only [t_44, y0]
  obtain ⟨ho, hr⟩ := pure_conf_Block (e 0).int (e 1).bool (e 2).int
    (q_pre T_130 d1)
    (q_outI T_130 0 d1 rfl)
    hp
  have o0 := ho
  have r0 := hr
  refine ⟨(fun x hx => by cases hx), obs_of (e := e) (l := g_conf_Block.obs) ⟨o0, trivial⟩, ?_⟩
  rw [hoE]
  show semMany [.int .i64] [.i (Day.times 2 (e 0).int)] = semMany [.int .i64] [L.ev e (.var 2)]
  exact (semI r0 rfl)
theorem ctr_conf_Block : CtrOK Try.prog T c_conf_Block := by
  intro lits al vs w hok hag hargs hpre
  have hpre : (t_44 al).1 = true := by rw [← T_44]; exact hpre
  obtain ⟨hl, hlen⟩ := args_flat hargs rfl
  have hlen : al.length = 1 := hlen
  exact calls_of_run xok_conf_Block widths (lits := []) (ns := []) (more := []) rfl run_conf_Block (by kernel_rfl) (by kernel_rfl) rfl hargs hl (lit_none) (by rw [show c_conf_Block.f = 44 from rfl, T_44]; rfl)
    fun e he hd => by rw [show c_conf_Block.f = 44 from rfl, T_44]; exact bridge_conf_Block hlen he hd hpre
end Rx.S
namespace Rx.S
open Go Rx Go.Proofs
set_option maxRecDepth 100000
set_option linter.unusedVariables false
def c_conf_Later : Ctr := { f := 54, ps := [.c false [.int .i64]], rs := [(false, [.int .i64])], ok := fun _ => true }
noncomputable def fns_conf_Later : List (Nat × Func) := [(54, Try.f54), (130, Try.f130)]
theorem fnsOk_conf_Later : FnsAll Try.prog fns_conf_Later := ⟨fn54, fn130, trivial⟩
noncomputable def X_conf_Later : Ctx := { tys := tys, eqs := eqs, fns := fun f => look f fns_conf_Later, ctr := [(130, c_conf_time)], lim := 30 }
theorem xok_conf_Later : XOK Try.prog T X_conf_Later where
  tys := tysOk
  eqs := eqsOk
  mixed := mixed
  ctr := ctrsOK_of ⟨⟨rfl, ctr_conf_time⟩, trivial⟩
  fns := fnsOK_of fnsOk_conf_Later
def g_conf_Later : G := { next := 3, defs := [⟨1, (.call 130), [.s [108, 97, 116, 101, 114], .var 0]⟩], obs := [.var 1], known := [] }
theorem run_conf_Later : run X_conf_Later 2000 54 ([.one (.k (.int .i64 (.var 0)))]) ([]) 1 [] = some (.pv (.one (.k (.int .i64 (.var 2)))), [], g_conf_Later) := by kernel_rfl
theorem pure_conf_Later (x0 : Int) (v1 : Bool) (v2 : Int)
    (q1 : v1 = (Day.timeP (⟨([108, 97, 116, 101, 114] : List UInt8).toArray⟩ : ByteArray)))
    (q2 : v2 = (Day.times (Day.kOf (⟨([108, 97, 116, 101, 114] : List UInt8).toArray⟩ : ByteArray)) x0))
    (hp : (true) = true)  :
    (v1 = true) ∧ (Day.times 3 x0 = v2) := by
  simp only [Day.kOf_block, Day.kOf_watch, Day.kOf_later, Day.kOf_start, Day.kOf_stable, Day.kOf_listen, Day.kOf_cold, Day.timeP] at *
  grind [Day.clampR, Day.upR, Day.downR, Day.sm, Day.i64, Day.u8, Day.u16, Day.u32, Day.right, Day.times, Day.ownE, Day.ownR, Day.idE, Day.freshN, Day.noND, Day.cleanN, Day.wakeN, Day.rightN, Day.ND.i64, Day.waitR, Day.dueR, Day.ofR, Day.ofE, Day.noFr, wrap64, Day.modP, Day.modR, Day.slotP, Day.nextR, Day.atP, Day.atR, Day.aheadP, Day.aheadR, Day.timeP]
theorem bridge_conf_Later {e : Nat → A} {al more : List A} (hlen : al.length = 1) (he : ∀ j a, (al ++ more)[j]? = some a → e j = a) (hd : ∀ d ∈ g_conf_Later.defs, d.holds T e) (hp : (t_54 al).1 = true) :
    (∀ x ∈ g_conf_Later.known, x.holds T e) ∧ (∀ o ∈ g_conf_Later.obs, (o.ev e).bool = true) ∧ semMany (c_conf_Later.rs.flatMap (·.2)) (t_54 al).2 = semMany (c_conf_Later.rs.flatMap (·.2)) ([.var 2].map (L.ev e)) := by
  have y0 : gi al 0 = (e 0).int := gi_e he (by omega)
  obtain ⟨d1, -⟩ : AllHold T e g_conf_Later.defs := allHold_of hd
  have hpE : (t_54 al).1 = (true) := by simp only [t_54, y0]
  have hp := hpE.symm.trans hp
  have hoE : (t_54 al).2 = [.i (Day.times 3 (e 0).int)] := by simp only [t_54, y0]
  obtain ⟨ho, hr⟩ := pure_conf_Later (e 0).int (e 1).bool (e 2).int
    (q_pre T_130 d1)
    (q_outI T_130 0 d1 rfl)
    hp
  have o0 := ho
  have r0 := hr
  refine ⟨(fun x hx => by cases hx), obs_of (e := e) (l := g_conf_Later.obs) ⟨o0, trivial⟩, ?_⟩
  rw [hoE]
  show semMany [.int .i64] [.i (Day.times 3 (e 0).int)] = semMany [.int .i64] [L.ev e (.var 2)]
  exact (semI r0 rfl)
theorem ctr_conf_Later : CtrOK Try.prog T c_conf_Later := by
  intro lits al vs w hok hag hargs hpre
  have hpre : (t_54 al).1 = true := by rw [← T_54]; exact hpre
  obtain ⟨hl, hlen⟩ := args_flat hargs rfl
  have hlen : al.length = 1 := hlen
  exact calls_of_run xok_conf_Later widths (lits := []) (ns := []) (more := []) rfl run_conf_Later (by kernel_rfl) (by kernel_rfl) rfl hargs hl (lit_none) (by rw [show c_conf_Later.f = 54 from rfl, T_54]; rfl)
    fun e he hd => by rw [show c_conf_Later.f = 54 from rfl, T_54]; exact bridge_conf_Later hlen he hd hpre
end Rx.S
namespace Rx.S
open Go Rx Go.Proofs
set_option maxRecDepth 100000
set_option linter.unusedVariables false
def c_conf_Stable : Ctr := { f := 47, ps := [.c false [.int .i64]], rs := [(false, [.int .i64])], ok := fun _ => true }
noncomputable def fns_conf_Stable : List (Nat × Func) := [(47, Try.f47), (130, Try.f130)]
theorem fnsOk_conf_Stable : FnsAll Try.prog fns_conf_Stable := ⟨fn47, fn130, trivial⟩
noncomputable def X_conf_Stable : Ctx := { tys := tys, eqs := eqs, fns := fun f => look f fns_conf_Stable, ctr := [(130, c_conf_time)], lim := 30 }
theorem xok_conf_Stable : XOK Try.prog T X_conf_Stable where
  tys := tysOk
  eqs := eqsOk
  mixed := mixed
  ctr := ctrsOK_of ⟨⟨rfl, ctr_conf_time⟩, trivial⟩
  fns := fnsOK_of fnsOk_conf_Stable
def g_conf_Stable : G := { next := 3, defs := [⟨1, (.call 130), [.s [115, 116, 97, 98, 108, 101], .var 0]⟩], obs := [.var 1], known := [] }
theorem run_conf_Stable : run X_conf_Stable 2000 47 ([.one (.k (.int .i64 (.var 0)))]) ([]) 1 [] = some (.pv (.one (.k (.int .i64 (.var 2)))), [], g_conf_Stable) := by kernel_rfl
theorem pure_conf_Stable (x0 : Int) (v1 : Bool) (v2 : Int)
    (q1 : v1 = (Day.timeP (⟨([115, 116, 97, 98, 108, 101] : List UInt8).toArray⟩ : ByteArray)))
    (q2 : v2 = (Day.times (Day.kOf (⟨([115, 116, 97, 98, 108, 101] : List UInt8).toArray⟩ : ByteArray)) x0))
    (hp : (true) = true)  :
    (v1 = true) ∧ (Day.times 96 x0 = v2) := by
  simp only [Day.kOf_block, Day.kOf_watch, Day.kOf_later, Day.kOf_start, Day.kOf_stable, Day.kOf_listen, Day.kOf_cold, Day.timeP] at *
  grind [Day.clampR, Day.upR, Day.downR, Day.sm, Day.i64, Day.u8, Day.u16, Day.u32, Day.right, Day.times, Day.ownE, Day.ownR, Day.idE, Day.freshN, Day.noND, Day.cleanN, Day.wakeN, Day.rightN, Day.ND.i64, Day.waitR, Day.dueR, Day.ofR, Day.ofE, Day.noFr, wrap64, Day.modP, Day.modR, Day.slotP, Day.nextR, Day.atP, Day.atR, Day.aheadP, Day.aheadR, Day.timeP]
theorem bridge_conf_Stable {e : Nat → A} {al more : List A} (hlen : al.length = 1) (he : ∀ j a, (al ++ more)[j]? = some a → e j = a) (hd : ∀ d ∈ g_conf_Stable.defs, d.holds T e) (hp : (t_47 al).1 = true) :
    (∀ x ∈ g_conf_Stable.known, x.holds T e) ∧ (∀ o ∈ g_conf_Stable.obs, (o.ev e).bool = true) ∧ semMany (c_conf_Stable.rs.flatMap (·.2)) (t_47 al).2 = semMany (c_conf_Stable.rs.flatMap (·.2)) ([.var 2].map (L.ev e)) := by
  have y0 : gi al 0 = (e 0).int := gi_e he (by omega)
  obtain ⟨d1, -⟩ : AllHold T e g_conf_Stable.defs := allHold_of hd
  have hpE : (t_47 al).1 = (true) := by simp only [t_47, y0]
  have hp := hpE.symm.trans hp
  have hoE : (t_47 al).2 = [.i (Day.times 96 (e 0).int)] := by simp only [t_47, y0]
  obtain ⟨ho, hr⟩ := pure_conf_Stable (e 0).int (e 1).bool (e 2).int
    (q_pre T_130 d1)
    (q_outI T_130 0 d1 rfl)
    hp
  have o0 := ho
  have r0 := hr
  refine ⟨(fun x hx => by cases hx), obs_of (e := e) (l := g_conf_Stable.obs) ⟨o0, trivial⟩, ?_⟩
  rw [hoE]
  show semMany [.int .i64] [.i (Day.times 96 (e 0).int)] = semMany [.int .i64] [L.ev e (.var 2)]
  exact (semI r0 rfl)
theorem ctr_conf_Stable : CtrOK Try.prog T c_conf_Stable := by
  intro lits al vs w hok hag hargs hpre
  have hpre : (t_47 al).1 = true := by rw [← T_47]; exact hpre
  obtain ⟨hl, hlen⟩ := args_flat hargs rfl
  have hlen : al.length = 1 := hlen
  exact calls_of_run xok_conf_Stable widths (lits := []) (ns := []) (more := []) rfl run_conf_Stable (by kernel_rfl) (by kernel_rfl) rfl hargs hl (lit_none) (by rw [show c_conf_Stable.f = 47 from rfl, T_47]; rfl)
    fun e he hd => by rw [show c_conf_Stable.f = 47 from rfl, T_47]; exact bridge_conf_Stable hlen he hd hpre
end Rx.S
namespace Rx.S
open Go Rx Go.Proofs
set_option maxRecDepth 100000
set_option linter.unusedVariables false
def c_conf_Start : Ctr := { f := 46, ps := [.c false [.int .i64]], rs := [(false, [.int .i64])], ok := fun _ => true }
noncomputable def fns_conf_Start : List (Nat × Func) := [(46, Try.f46), (130, Try.f130)]
theorem fnsOk_conf_Start : FnsAll Try.prog fns_conf_Start := ⟨fn46, fn130, trivial⟩
noncomputable def X_conf_Start : Ctx := { tys := tys, eqs := eqs, fns := fun f => look f fns_conf_Start, ctr := [(130, c_conf_time)], lim := 30 }
theorem xok_conf_Start : XOK Try.prog T X_conf_Start where
  tys := tysOk
  eqs := eqsOk
  mixed := mixed
  ctr := ctrsOK_of ⟨⟨rfl, ctr_conf_time⟩, trivial⟩
  fns := fnsOK_of fnsOk_conf_Start
def g_conf_Start : G := { next := 3, defs := [⟨1, (.call 130), [.s [115, 116, 97, 114, 116], .var 0]⟩], obs := [.var 1], known := [] }
theorem run_conf_Start : run X_conf_Start 2000 46 ([.one (.k (.int .i64 (.var 0)))]) ([]) 1 [] = some (.pv (.one (.k (.int .i64 (.var 2)))), [], g_conf_Start) := by kernel_rfl
theorem pure_conf_Start (x0 : Int) (v1 : Bool) (v2 : Int)
    (q1 : v1 = (Day.timeP (⟨([115, 116, 97, 114, 116] : List UInt8).toArray⟩ : ByteArray)))
    (q2 : v2 = (Day.times (Day.kOf (⟨([115, 116, 97, 114, 116] : List UInt8).toArray⟩ : ByteArray)) x0))
    (hp : (true) = true)  :
    (v1 = true) ∧ (Day.times 40 x0 = v2) := by
  simp only [Day.kOf_block, Day.kOf_watch, Day.kOf_later, Day.kOf_start, Day.kOf_stable, Day.kOf_listen, Day.kOf_cold, Day.timeP] at *
  grind [Day.clampR, Day.upR, Day.downR, Day.sm, Day.i64, Day.u8, Day.u16, Day.u32, Day.right, Day.times, Day.ownE, Day.ownR, Day.idE, Day.freshN, Day.noND, Day.cleanN, Day.wakeN, Day.rightN, Day.ND.i64, Day.waitR, Day.dueR, Day.ofR, Day.ofE, Day.noFr, wrap64, Day.modP, Day.modR, Day.slotP, Day.nextR, Day.atP, Day.atR, Day.aheadP, Day.aheadR, Day.timeP]
theorem bridge_conf_Start {e : Nat → A} {al more : List A} (hlen : al.length = 1) (he : ∀ j a, (al ++ more)[j]? = some a → e j = a) (hd : ∀ d ∈ g_conf_Start.defs, d.holds T e) (hp : (t_46 al).1 = true) :
    (∀ x ∈ g_conf_Start.known, x.holds T e) ∧ (∀ o ∈ g_conf_Start.obs, (o.ev e).bool = true) ∧ semMany (c_conf_Start.rs.flatMap (·.2)) (t_46 al).2 = semMany (c_conf_Start.rs.flatMap (·.2)) ([.var 2].map (L.ev e)) := by
  have y0 : gi al 0 = (e 0).int := gi_e he (by omega)
  obtain ⟨d1, -⟩ : AllHold T e g_conf_Start.defs := allHold_of hd
  have hpE : (t_46 al).1 = (true) := by simp only [t_46, y0]
  have hp := hpE.symm.trans hp
  have hoE : (t_46 al).2 = [.i (Day.times 40 (e 0).int)] := by simp only [t_46, y0]
  obtain ⟨ho, hr⟩ := pure_conf_Start (e 0).int (e 1).bool (e 2).int
    (q_pre T_130 d1)
    (q_outI T_130 0 d1 rfl)
    hp
  have o0 := ho
  have r0 := hr
  refine ⟨(fun x hx => by cases hx), obs_of (e := e) (l := g_conf_Start.obs) ⟨o0, trivial⟩, ?_⟩
  rw [hoE]
  show semMany [.int .i64] [.i (Day.times 40 (e 0).int)] = semMany [.int .i64] [L.ev e (.var 2)]
  exact (semI r0 rfl)
theorem ctr_conf_Start : CtrOK Try.prog T c_conf_Start := by
  intro lits al vs w hok hag hargs hpre
  have hpre : (t_46 al).1 = true := by rw [← T_46]; exact hpre
  obtain ⟨hl, hlen⟩ := args_flat hargs rfl
  have hlen : al.length = 1 := hlen
  exact calls_of_run xok_conf_Start widths (lits := []) (ns := []) (more := []) rfl run_conf_Start (by kernel_rfl) (by kernel_rfl) rfl hargs hl (lit_none) (by rw [show c_conf_Start.f = 46 from rfl, T_46]; rfl)
    fun e he hd => by rw [show c_conf_Start.f = 46 from rfl, T_46]; exact bridge_conf_Start hlen he hd hpre
end Rx.S
namespace Rx.S
open Go Rx Go.Proofs
set_option maxRecDepth 100000
set_option linter.unusedVariables false
def c_conf_Watch : Ctr := { f := 45, ps := [.c false [.int .i64]], rs := [(false, [.int .i64])], ok := fun _ => true }
noncomputable def fns_conf_Watch : List (Nat × Func) := [(45, Try.f45), (130, Try.f130)]
theorem fnsOk_conf_Watch : FnsAll Try.prog fns_conf_Watch := ⟨fn45, fn130, trivial⟩
noncomputable def X_conf_Watch : Ctx := { tys := tys, eqs := eqs, fns := fun f => look f fns_conf_Watch, ctr := [(130, c_conf_time)], lim := 30 }
theorem xok_conf_Watch : XOK Try.prog T X_conf_Watch where
  tys := tysOk
  eqs := eqsOk
  mixed := mixed
  ctr := ctrsOK_of ⟨⟨rfl, ctr_conf_time⟩, trivial⟩
  fns := fnsOK_of fnsOk_conf_Watch
def g_conf_Watch : G := { next := 3, defs := [⟨1, (.call 130), [.s [119, 97, 116, 99, 104], .var 0]⟩], obs := [.var 1], known := [] }
theorem run_conf_Watch : run X_conf_Watch 2000 45 ([.one (.k (.int .i64 (.var 0)))]) ([]) 1 [] = some (.pv (.one (.k (.int .i64 (.var 2)))), [], g_conf_Watch) := by kernel_rfl
theorem pure_conf_Watch (x0 : Int) (v1 : Bool) (v2 : Int)
    (q1 : v1 = (Day.timeP (⟨([119, 97, 116, 99, 104] : List UInt8).toArray⟩ : ByteArray)))
    (q2 : v2 = (Day.times (Day.kOf (⟨([119, 97, 116, 99, 104] : List UInt8).toArray⟩ : ByteArray)) x0))
    (hp : (true) = true)  :
    (v1 = true) ∧ (Day.times 8 x0 = v2) := by
  simp only [Day.kOf_block, Day.kOf_watch, Day.kOf_later, Day.kOf_start, Day.kOf_stable, Day.kOf_listen, Day.kOf_cold, Day.timeP] at *
  grind [Day.clampR, Day.upR, Day.downR, Day.sm, Day.i64, Day.u8, Day.u16, Day.u32, Day.right, Day.times, Day.ownE, Day.ownR, Day.idE, Day.freshN, Day.noND, Day.cleanN, Day.wakeN, Day.rightN, Day.ND.i64, Day.waitR, Day.dueR, Day.ofR, Day.ofE, Day.noFr, wrap64, Day.modP, Day.modR, Day.slotP, Day.nextR, Day.atP, Day.atR, Day.aheadP, Day.aheadR, Day.timeP]
theorem bridge_conf_Watch {e : Nat → A} {al more : List A} (hlen : al.length = 1) (he : ∀ j a, (al ++ more)[j]? = some a → e j = a) (hd : ∀ d ∈ g_conf_Watch.defs, d.holds T e) (hp : (t_45 al).1 = true) :
    (∀ x ∈ g_conf_Watch.known, x.holds T e) ∧ (∀ o ∈ g_conf_Watch.obs, (o.ev e).bool = true) ∧ semMany (c_conf_Watch.rs.flatMap (·.2)) (t_45 al).2 = semMany (c_conf_Watch.rs.flatMap (·.2)) ([.var 2].map (L.ev e)) := by
  have y0 : gi al 0 = (e 0).int := gi_e he (by omega)
  obtain ⟨d1, -⟩ : AllHold T e g_conf_Watch.defs := allHold_of hd
  have hpE : (t_45 al).1 = (true) := by simp only [t_45, y0]
  have hp := hpE.symm.trans hp
  have hoE : (t_45 al).2 = [.i (Day.times 8 (e 0).int)] := by simp only [t_45, y0]
  obtain ⟨ho, hr⟩ := pure_conf_Watch (e 0).int (e 1).bool (e 2).int
    (q_pre T_130 d1)
    (q_outI T_130 0 d1 rfl)
    hp
  have o0 := ho
  have r0 := hr
  refine ⟨(fun x hx => by cases hx), obs_of (e := e) (l := g_conf_Watch.obs) ⟨o0, trivial⟩, ?_⟩
  rw [hoE]
  show semMany [.int .i64] [.i (Day.times 8 (e 0).int)] = semMany [.int .i64] [L.ev e (.var 2)]
  exact (semI r0 rfl)
theorem ctr_conf_Watch : CtrOK Try.prog T c_conf_Watch := by
  intro lits al vs w hok hag hargs hpre
  have hpre : (t_45 al).1 = true := by rw [← T_45]; exact hpre
  obtain ⟨hl, hlen⟩ := args_flat hargs rfl
  have hlen : al.length = 1 := hlen
  exact calls_of_run xok_conf_Watch widths (lits := []) (ns := []) (more := []) rfl run_conf_Watch (by kernel_rfl) (by kernel_rfl) rfl hargs hl (lit_none) (by rw [show c_conf_Watch.f = 45 from rfl, T_45]; rfl)
    fun e he hd => by rw [show c_conf_Watch.f = 45 from rfl, T_45]; exact bridge_conf_Watch hlen he hd hpre
end Rx.S
namespace Rx.S
open Go Rx Go.Proofs
set_option maxRecDepth 100000
set_option linter.unusedVariables false
def c_ref03_times : Ctr := { f := 132, ps := [.c false [.int .i64], .c false [.int .i64]], rs := [(false, [.int .i64])], ok := fun _ => true }
noncomputable def fns_ref03_times : List (Nat × Func) := [(51, Try.f51), (132, Try.f132)]
theorem fnsOk_ref03_times : FnsAll Try.prog fns_ref03_times := ⟨fn51, fn132, trivial⟩
noncomputable def X_ref03_times : Ctx := { tys := tys, eqs := eqs, fns := fun f => look f fns_ref03_times, ctr := [(51, c_ref03_Right)], lim := 30 }
theorem xok_ref03_times : XOK Try.prog T X_ref03_times where
  tys := tysOk
  eqs := eqsOk
  mixed := mixed
  ctr := ctrsOK_of ⟨⟨rfl, ctr_ref03_Right⟩, trivial⟩
  fns := fnsOK_of fnsOk_ref03_times
def g_ref03_times : G := { next := 10, defs := [⟨9, .iteB, [.var 5, .var 5, .var 4]⟩, ⟨8, .iteI, [.var 5, .var 6, .n 0]⟩, ⟨7, .not, [.var 5]⟩, ⟨6, (.ar .mul .i64), [.var 0, .var 1]⟩, ⟨5, .not, [.var 4]⟩, ⟨4, .not, [.var 3]⟩, ⟨2, (.call 51), [.var 0]⟩], obs := [.var 2], known := [] }
theorem run_ref03_times : run X_ref03_times 2000 132 ([.one (.k (.int .i64 (.var 0))), .one (.k (.int .i64 (.var 1)))]) ([]) 2 [] = some (.pv (.one (.k (.int .i64 (.var 8)))), [], g_ref03_times) := by kernel_rfl
theorem pure_ref03_times (x0 : Int) (x1 : Int) (v2 : Bool) (v3 : Bool) (v4 : Bool) (v5 : Bool) (v6 : Int) (v7 : Bool) (v8 : Int) (v9 : Bool)
    (q2 : v2 = (true))
    (q3 : v3 = (Day.right x0))
    (q4 : v4 = ((!v3)))
    (q5 : v5 = ((!v4)))
    (q6 : v6 = (IntKind.wrap .i64 (x0 * x1)))
    (q7 : v7 = ((!v5)))
    (q8 : v8 = ((if v5 then v6 else (0 : Int))))
    (q9 : v9 = ((if v5 then v5 else v4)))
    (hp : (Day.u8 x1) = true)  :
    (v2 = true) ∧ (Day.times x1 x0 = v8) := by
  by_cases hr : Day.right x0 = true
  · have hn : 3 ≤ x0 ∧ x0 ≤ 8 := by grind [Day.clampR, Day.upR, Day.downR, Day.sm, Day.i64, Day.u8, Day.u16, Day.u32, Day.right, Day.times, Day.ownE, Day.ownR, Day.idE, Day.freshN, Day.noND, Day.cleanN, Day.wakeN, Day.rightN, Day.ND.i64, Day.waitR, Day.dueR, Day.ofR, Day.ofE, Day.noFr, wrap64, Day.modP, Day.modR, Day.slotP, Day.nextR, Day.atP, Day.atR, Day.aheadP, Day.aheadR]
    have hn2 : x0 = 3 ∨ x0 = 4 ∨ x0 = 5 ∨ x0 = 6 ∨ x0 = 7 ∨ x0 = 8 := by omega
    clear hn
    rcases hn2 with rfl | rfl | rfl | rfl | rfl | rfl <;> grind [Day.clampR, Day.upR, Day.downR, Day.sm, Day.i64, Day.u8, Day.u16, Day.u32, Day.right, Day.times, Day.ownE, Day.ownR, Day.idE, Day.freshN, Day.noND, Day.cleanN, Day.wakeN, Day.rightN, Day.ND.i64, Day.waitR, Day.dueR, Day.ofR, Day.ofE, Day.noFr, wrap64, Day.modP, Day.modR, Day.slotP, Day.nextR, Day.atP, Day.atR, Day.aheadP, Day.aheadR]
  · grind [Day.clampR, Day.upR, Day.downR, Day.sm, Day.i64, Day.u8, Day.u16, Day.u32, Day.right, Day.times, Day.ownE, Day.ownR, Day.idE, Day.freshN, Day.noND, Day.cleanN, Day.wakeN, Day.rightN, Day.ND.i64, Day.waitR, Day.dueR, Day.ofR, Day.ofE, Day.noFr, wrap64, Day.modP, Day.modR, Day.slotP, Day.nextR, Day.atP, Day.atR, Day.aheadP, Day.aheadR]
theorem bridge_ref03_times {e : Nat → A} {al more : List A} (hlen : al.length = 2) (he : ∀ j a, (al ++ more)[j]? = some a → e j = a) (hd : ∀ d ∈ g_ref03_times.defs, d.holds T e) (hp : (t_132 al).1 = true) :
    (∀ x ∈ g_ref03_times.known, x.holds T e) ∧ (∀ o ∈ g_ref03_times.obs, (o.ev e).bool = true) ∧ semMany (c_ref03_times.rs.flatMap (·.2)) (t_132 al).2 = semMany (c_ref03_times.rs.flatMap (·.2)) ([.var 8].map (L.ev e)) := by
  have y0 : gi al 0 = (e 0).int := gi_e he (by omega)
  have y1 : gi al 1 = (e 1).int := gi_e he (by omega)
  obtain ⟨d9, d8, d7, d6, d5, d4, d2, -⟩ : AllHold T e g_ref03_times.defs := allHold_of hd
  have hpE : (t_132 al).1 = (Day.u8 (e 1).int) := by simp only [t_132, y0, y1]
  have hp := hpE.symm.trans hp
  have hoE : (t_132 al).2 = [.i (Day.times (e 1).int (e 0).int)] := by simp only [t_132, y0, y1]
  obtain ⟨ho, hr⟩ := pure_ref03_times (e 0).int (e 1).int (e 2).bool (e 3).bool (e 4).bool (e 5).bool (e 6).int (e 7).bool (e 8).int (e 9).bool
    (q_pre T_51 d2)
    (q_outB T_51 0 d2 rfl)
    (q_not d4)
    (q_not d5)
    (q_ar d6)
    (q_not d7)
    (q_iteI d8)
    (q_iteB d9)
    hp
  have o0 := ho
  have r0 := hr
  refine ⟨(fun x hx => by cases hx), obs_of (e := e) (l := g_ref03_times.obs) ⟨o0, trivial⟩, ?_⟩
  rw [hoE]
  show semMany [.int .i64] [.i (Day.times (e 1).int (e 0).int)] = semMany [.int .i64] [L.ev e (.var 8)]
  exact (semI r0 rfl)
theorem ctr_ref03_times : CtrOK Try.prog T c_ref03_times := by
  intro lits al vs w hok hag hargs hpre
  have hpre : (t_132 al).1 = true := by rw [← T_132]; exact hpre
  obtain ⟨hl, hlen⟩ := args_flat hargs rfl
  have hlen : al.length = 2 := hlen
  exact calls_of_run xok_ref03_times widths (lits := []) (ns := []) (more := []) rfl run_ref03_times (by kernel_rfl) (by kernel_rfl) rfl hargs hl (lit_none) (by rw [show c_ref03_times.f = 132 from rfl, T_132]; rfl)
    fun e he hd => by rw [show c_ref03_times.f = 132 from rfl, T_132]; exact bridge_ref03_times hlen he hd hpre
end Rx.S
namespace Rx.S
open Go Rx Go.Proofs
set_option maxRecDepth 100000
set_option linter.unusedVariables false
def c_ref03_Block : Ctr := { f := 52, ps := [.c false [.int .i64]], rs := [(false, [.int .i64])], ok := fun _ => true }
noncomputable def fns_ref03_Block : List (Nat × Func) := [(52, Try.f52), (132, Try.f132)]
theorem fnsOk_ref03_Block : FnsAll Try.prog fns_ref03_Block := ⟨fn52, fn132, trivial⟩
noncomputable def X_ref03_Block : Ctx := { tys := tys, eqs := eqs, fns := fun f => look f fns_ref03_Block, ctr := [(132, c_ref03_times)], lim := 30 }
theorem xok_ref03_Block : XOK Try.prog T X_ref03_Block where
  tys := tysOk
  eqs := eqsOk
  mixed := mixed
  ctr := ctrsOK_of ⟨⟨rfl, ctr_ref03_times⟩, trivial⟩
  fns := fnsOK_of fnsOk_ref03_Block
def g_ref03_Block : G := { next := 3, defs := [⟨1, (.call 132), [.var 0, .n 2]⟩], obs := [.var 1], known := [] }
theorem run_ref03_Block : run X_ref03_Block 2000 52 ([.one (.k (.int .i64 (.var 0)))]) ([]) 1 [] = some (.pv (.one (.k (.int .i64 (.var 2)))), [], g_ref03_Block) := by kernel_rfl
theorem pure_ref03_Block (x0 : Int) (v1 : Bool) (v2 : Int)
    (q1 : v1 = (Day.u8 (2 : Int)))
    (q2 : v2 = (Day.times (2 : Int) x0))
    (hp : (true) = true)  :
    (v1 = true) ∧ (Day.times 2 x0 = v2) := by
  grind [Day.clampR, Day.upR, Day.downR, Day.sm, Day.i64, Day.u8, Day.u16, Day.u32, Day.right, Day.times, Day.ownE, Day.ownR, Day.idE, Day.freshN, Day.noND, Day.cleanN, Day.wakeN, Day.rightN, Day.ND.i64, Day.waitR, Day.dueR, Day.ofR, Day.ofE, Day.noFr, wrap64, Day.modP, Day.modR, Day.slotP, Day.nextR, Day.atP, Day.atR, Day.aheadP, Day.aheadR]
theorem bridge_ref03_Block {e : Nat → A} {al more : List A} (hlen : al.length = 1) (he : ∀ j a, (al ++ more)[j]? = some a → e j = a) (hd : ∀ d ∈ g_ref03_Block.defs, d.holds T e) (hp : (t_52 al).1 = true) :
    (∀ x ∈ g_ref03_Block.known, x.holds T e) ∧ (∀ o ∈ g_ref03_Block.obs, (o.ev e).bool = true) ∧ semMany (c_ref03_Block.rs.flatMap (·.2)) (t_52 al).2 = semMany (c_ref03_Block.rs.flatMap (·.2)) ([.var 2].map (L.ev e)) := by
  have y0 : gi al 0 = (e 0).int := gi_e he (by omega)
  obtain ⟨d1, -⟩ : AllHold T e g_ref03_Block.defs := allHold_of hd
  have hpE : (t_52 al).1 = (true) := by simp only [t_52, y0]
  have hp := hpE.symm.trans hp
  have hoE : (t_52 al).2 = [.i (Day.times 2 (e 0).int)] := by simp only [t_52, y0]
  obtain ⟨ho, hr⟩ := pure_ref03_Block (e 0).int (e 1).bool (e 2).int
    (q_pre T_132 d1)
    (q_outI T_132 0 d1 rfl)
    hp
  have o0 := ho
  have r0 := hr
  refine ⟨(fun x hx => by cases hx), obs_of (e := e) (l := g_ref03_Block.obs) ⟨o0, trivial⟩, ?_⟩
  rw [hoE]
  show semMany [.int .i64] [.i (Day.times 2 (e 0).int)] = semMany [.int .i64] [L.ev e (.var 2)]
  exact (semI r0 rfl)
theorem ctr_ref03_Block : CtrOK Try.prog T c_ref03_Block := by
  intro lits al vs w hok hag hargs hpre
  have hpre : (t_52 al).1 = true := by rw [← T_52]; exact hpre
  obtain ⟨hl, hlen⟩ := args_flat hargs rfl
  have hlen : al.length = 1 := hlen
  exact calls_of_run xok_ref03_Block widths (lits := []) (ns := []) (more := []) rfl run_ref03_Block (by kernel_rfl) (by kernel_rfl) rfl hargs hl (lit_none) (by rw [show c_ref03_Block.f = 52 from rfl, T_52]; rfl)
    fun e he hd => by rw [show c_ref03_Block.f = 52 from rfl, T_52]; exact bridge_ref03_Block hlen he hd hpre
end Rx.S
namespace Rx.S
open Go Rx Go.Proofs
set_option maxRecDepth 100000
set_option linter.unusedVariables false
def c_ref03_of : Ctr := { f := 131, ps := [.c false [.int .i64], .c false [.int .i64], .c false [.int .i64]], rs := [(false, [.int .i64]), (false, [.int .i64])], ok := fun _ => true }
noncomputable def fns_ref03_of : List (Nat × Func) := [(51, Try.f51), (131, Try.f131)]
theorem fnsOk_ref03_of : FnsAll Try.prog fns_ref03_of := ⟨fn51, fn131, trivial⟩
noncomputable def X_ref03_of : Ctx := { tys := tys, eqs := eqs, fns := fun f => look f fns_ref03_of, ctr := [(51, c_ref03_Right)], lim := 30 }
theorem xok_ref03_of : XOK Try.prog T X_ref03_of where
  tys := tysOk
  eqs := eqsOk
  mixed := mixed
  ctr := ctrsOK_of ⟨⟨rfl, ctr_ref03_Right⟩, trivial⟩
  fns := fnsOK_of fnsOk_ref03_of
def g_ref03_of : G := { next := 32, defs := [⟨31, .iteB, [.var 6, .var 27, .var 5]⟩, ⟨30, .iteI, [.var 6, .var 26, .n 1]⟩, ⟨29, .iteI, [.var 6, .var 25, .n 0]⟩, ⟨28, .not, [.var 6]⟩, ⟨27, .iteB, [.var 20, .var 20, .var 19]⟩, ⟨26, .iteI, [.var 20, .n 0, .n 2]⟩, ⟨25, .iteI, [.var 20, .var 23, .n 0]⟩, ⟨24, .not, [.var 20]⟩, ⟨23, (.ar .add .i64), [.var 22, .var 1]⟩, ⟨22, (.ar .add .i64), [.var 21, .n 1]⟩, ⟨21, (.ar .mul .i64), [.var 2, .var 0]⟩, ⟨20, .and, [.var 16, .var 18]⟩, ⟨19, .and, [.var 15, .var 17]⟩, ⟨18, .and, [.var 6, .var 16]⟩, ⟨17, .and, [.var 6, .var 15]⟩, ⟨16, .not, [.var 15]⟩, ⟨15, .iteB, [.var 7, .t true, .var 14]⟩, ⟨14, (.cmp .geq), [.var 1, .var 0]⟩, ⟨13, .and, [.var 6, .var 12]⟩, ⟨12, .not, [.var 7]⟩, ⟨11, .and, [.var 6, .var 10]⟩, ⟨10, .not, [.var 7]⟩, ⟨9, .and, [.var 6, .var 8]⟩, ⟨8, .not, [.var 7]⟩, ⟨7, (.cmp .lss), [.var 1, .n 0]⟩, ⟨6, .not, [.var 5]⟩, ⟨5, .not, [.var 4]⟩, ⟨3, (.call 51), [.var 0]⟩], obs := [.var 3], known := [] }
theorem run_ref03_of : run X_ref03_of 2000 131 ([.one (.k (.int .i64 (.var 0))), .one (.k (.int .i64 (.var 1))), .one (.k (.int .i64 (.var 2)))]) ([]) 3 [] = some (.tup [.one (.k (.int .i64 (.var 29))), .one (.k (.int .i64 (.var 30)))], [], g_ref03_of) := by kernel_rfl
theorem pure_ref03_of (x0 : Int) (x1 : Int) (x2 : Int) (v3 : Bool) (v4 : Bool) (v5 : Bool) (v6 : Bool) (v7 : Bool) (v8 : Bool) (v9 : Bool) (v10 : Bool) (v11 : Bool) (v12 : Bool) (v13 : Bool) (v14 : Bool) (v15 : Bool) (v16 : Bool) (v17 : Bool) (v18 : Bool) (v19 : Bool) (v20 : Bool) (v21 : Int) (v22 : Int) (v23 : Int) (v24 : Bool) (v25 : Int) (v26 : Int) (v27 : Bool) (v28 : Bool) (v29 : Int) (v30 : Int) (v31 : Bool)
    (q3 : v3 = (true))
    (q4 : v4 = (Day.right x0))
    (q5 : v5 = ((!v4)))
    (q6 : v6 = ((!v5)))
    (q7 : v7 = (decide (x1 < (0 : Int))))
    (q8 : v8 = ((!v7)))
    (q9 : v9 = ((v6 && v8)))
    (q10 : v10 = ((!v7)))
    (q11 : v11 = ((v6 && v10)))
    (q12 : v12 = ((!v7)))
    (q13 : v13 = ((v6 && v12)))
    (q14 : v14 = (decide (x1 ≥ x0)))
    (q15 : v15 = ((if v7 then true else v14)))
    (q16 : v16 = ((!v15)))
    (q17 : v17 = ((v6 && v15)))
    (q18 : v18 = ((v6 && v16)))
    (q19 : v19 = ((v15 && v17)))
    (q20 : v20 = ((v16 && v18)))
    (q21 : v21 = (IntKind.wrap .i64 (x2 * x0)))
    (q22 : v22 = (IntKind.wrap .i64 (v21 + (1 : Int))))
    (q23 : v23 = (IntKind.wrap .i64 (v22 + x1)))
    (q24 : v24 = ((!v20)))
    (q25 : v25 = ((if v20 then v23 else (0 : Int))))
    (q26 : v26 = ((if v20 then (0 : Int) else (2 : Int))))
    (q27 : v27 = ((if v20 then v20 else v19)))
    (q28 : v28 = ((!v6)))
    (q29 : v29 = ((if v6 then v25 else (0 : Int))))
    (q30 : v30 = ((if v6 then v26 else (1 : Int))))
    (q31 : v31 = ((if v6 then v27 else v5)))
    (hp : (Day.u8 x2) = true)  :
    (v3 = true) ∧ (Day.ownR x2 x0 x1 = v29 ∧ Day.ownE x0 x1 = v30) := by
  by_cases hr : Day.right x0 = true
  · have hn : 3 ≤ x0 ∧ x0 ≤ 8 := by grind [Day.clampR, Day.upR, Day.downR, Day.sm, Day.i64, Day.u8, Day.u16, Day.u32, Day.right, Day.times, Day.ownE, Day.ownR, Day.idE, Day.freshN, Day.noND, Day.cleanN, Day.wakeN, Day.rightN, Day.ND.i64, Day.waitR, Day.dueR, Day.ofR, Day.ofE, Day.noFr, wrap64, Day.modP, Day.modR, Day.slotP, Day.nextR, Day.atP, Day.atR, Day.aheadP, Day.aheadR]
    have hn2 : x0 = 3 ∨ x0 = 4 ∨ x0 = 5 ∨ x0 = 6 ∨ x0 = 7 ∨ x0 = 8 := by omega
    clear hn
    rcases hn2 with rfl | rfl | rfl | rfl | rfl | rfl <;> grind [Day.clampR, Day.upR, Day.downR, Day.sm, Day.i64, Day.u8, Day.u16, Day.u32, Day.right, Day.times, Day.ownE, Day.ownR, Day.idE, Day.freshN, Day.noND, Day.cleanN, Day.wakeN, Day.rightN, Day.ND.i64, Day.waitR, Day.dueR, Day.ofR, Day.ofE, Day.noFr, wrap64, Day.modP, Day.modR, Day.slotP, Day.nextR, Day.atP, Day.atR, Day.aheadP, Day.aheadR]
  · grind [Day.clampR, Day.upR, Day.downR, Day.sm, Day.i64, Day.u8, Day.u16, Day.u32, Day.right, Day.times, Day.ownE, Day.ownR, Day.idE, Day.freshN, Day.noND, Day.cleanN, Day.wakeN, Day.rightN, Day.ND.i64, Day.waitR, Day.dueR, Day.ofR, Day.ofE, Day.noFr, wrap64, Day.modP, Day.modR, Day.slotP, Day.nextR, Day.atP, Day.atR, Day.aheadP, Day.aheadR]
theorem bridge_ref03_of {e : Nat → A} {al more : List A} (hlen : al.length = 3) (he : ∀ j a, (al ++ more)[j]? = some a → e j = a) (hd : ∀ d ∈ g_ref03_of.defs, d.holds T e) (hp : (t_131 al).1 = true) :
    (∀ x ∈ g_ref03_of.known, x.holds T e) ∧ (∀ o ∈ g_ref03_of.obs, (o.ev e).bool = true) ∧ semMany (c_ref03_of.rs.flatMap (·.2)) (t_131 al).2 = semMany (c_ref03_of.rs.flatMap (·.2)) ([.var 29, .var 30].map (L.ev e)) := by
  have y0 : gi al 0 = (e 0).int := gi_e he (by omega)
  have y1 : gi al 1 = (e 1).int := gi_e he (by omega)
  have y2 : gi al 2 = (e 2).int := gi_e he (by omega)
  obtain ⟨d31, d30, d29, d28, d27, d26, d25, d24, d23, d22, d21, d20, d19, d18, d17, d16, d15, d14, d13, d12, d11, d10, d9, d8, d7, d6, d5, d3, -⟩ : AllHold T e g_ref03_of.defs := allHold_of hd
  have hpE : (t_131 al).1 = (Day.u8 (e 2).int) := by simp only [t_131, y0, y1, y2]
  have hp := hpE.symm.trans hp
  have hoE : (t_131 al).2 = [.i (Day.ownR (e 2).int (e 0).int (e 1).int), .i (Day.ownE (e 0).int (e 1).int)] := by simp only [t_131, y0, y1, y2]
  obtain ⟨ho, hr⟩ := pure_ref03_of (e 0).int (e 1).int (e 2).int (e 3).bool (e 4).bool (e 5).bool (e 6).bool (e 7).bool (e 8).bool (e 9).bool (e 10).bool (e 11).bool (e 12).bool (e 13).bool (e 14).bool (e 15).bool (e 16).bool (e 17).bool (e 18).bool (e 19).bool (e 20).bool (e 21).int (e 22).int (e 23).int (e 24).bool (e 25).int (e 26).int (e 27).bool (e 28).bool (e 29).int (e 30).int (e 31).bool
    (q_pre T_51 d3)
    (q_outB T_51 0 d3 rfl)
    (q_not d5)
    (q_not d6)
    (q_cmp d7)
    (q_not d8)
    (q_and d9)
    (q_not d10)
    (q_and d11)
    (q_not d12)
    (q_and d13)
    (q_cmp d14)
    (q_iteB d15)
    (q_not d16)
    (q_and d17)
    (q_and d18)
    (q_and d19)
    (q_and d20)
    (q_ar d21)
    (q_ar d22)
    (q_ar d23)
    (q_not d24)
    (q_iteI d25)
    (q_iteI d26)
    (q_iteB d27)
    (q_not d28)
    (q_iteI d29)
    (q_iteI d30)
    (q_iteB d31)
    hp
  have o0 := ho
  obtain ⟨r0, r1⟩ := hr
  refine ⟨(fun x hx => by cases hx), obs_of (e := e) (l := g_ref03_of.obs) ⟨o0, trivial⟩, ?_⟩
  rw [hoE]
  show semMany [.int .i64, .int .i64] [.i (Day.ownR (e 2).int (e 0).int (e 1).int), .i (Day.ownE (e 0).int (e 1).int)] = semMany [.int .i64, .int .i64] [L.ev e (.var 29), L.ev e (.var 30)]
  exact (semI r0 (semI r1 rfl))
theorem ctr_ref03_of : CtrOK Try.prog T c_ref03_of := by
  intro lits al vs w hok hag hargs hpre
  have hpre : (t_131 al).1 = true := by rw [← T_131]; exact hpre
  obtain ⟨hl, hlen⟩ := args_flat hargs rfl
  have hlen : al.length = 3 := hlen
  exact calls_of_run xok_ref03_of widths (lits := []) (ns := []) (more := []) rfl run_ref03_of (by kernel_rfl) (by kernel_rfl) rfl hargs hl (lit_none) (by rw [show c_ref03_of.f = 131 from rfl, T_131]; rfl)
    fun e he hd => by rw [show c_ref03_of.f = 131 from rfl, T_131]; exact bridge_ref03_of hlen he hd hpre
end Rx.S
namespace Rx.S
open Go Rx Go.Proofs
set_option maxRecDepth 100000
set_option linter.unusedVariables false
def c_ref03_Cold : Ctr := { f := 49, ps := [.c false [.int .i64], .c false [.int .i64]], rs := [(false, [.int .i64]), (false, [.int .i64])], ok := fun _ => true }
noncomputable def fns_ref03_Cold : List (Nat × Func) := [(49, Try.f49), (131, Try.f131)]
theorem fnsOk_ref03_Cold : FnsAll Try.prog fns_ref03_Cold := ⟨fn49, fn131, trivial⟩
noncomputable def X_ref03_Cold : Ctx := { tys := tys, eqs := eqs, fns := fun f => look f fns_ref03_Cold, ctr := [(131, c_ref03_of)], lim := 30 }
theorem xok_ref03_Cold : XOK Try.prog T X_ref03_Cold where
  tys := tysOk
  eqs := eqsOk
  mixed := mixed
  ctr := ctrsOK_of ⟨⟨rfl, ctr_ref03_of⟩, trivial⟩
  fns := fnsOK_of fnsOk_ref03_Cold
def g_ref03_Cold : G := { next := 5, defs := [⟨2, (.call 131), [.var 0, .var 1, .n 2]⟩], obs := [.var 2], known := [] }
theorem run_ref03_Cold : run X_ref03_Cold 2000 49 ([.one (.k (.int .i64 (.var 0))), .one (.k (.int .i64 (.var 1)))]) ([]) 2 [] = some (.tup [.one (.k (.int .i64 (.var 3))), .one (.k (.int .i64 (.var 4)))], [], g_ref03_Cold) := by kernel_rfl
theorem pure_ref03_Cold (x0 : Int) (x1 : Int) (v2 : Bool) (v3 : Int) (v4 : Int)
    (q2 : v2 = (Day.u8 (2 : Int)))
    (q3 : v3 = (Day.ownR (2 : Int) x0 x1))
    (q4 : v4 = (Day.ownE x0 x1))
    (hp : (true) = true)  :
    (v2 = true) ∧ (Day.ownR 2 x0 x1 = v3 ∧ Day.ownE x0 x1 = v4) := by
  grind [Day.clampR, Day.upR, Day.downR, Day.sm, Day.i64, Day.u8, Day.u16, Day.u32, Day.right, Day.times, Day.ownE, Day.ownR, Day.idE, Day.freshN, Day.noND, Day.cleanN, Day.wakeN, Day.rightN, Day.ND.i64, Day.waitR, Day.dueR, Day.ofR, Day.ofE, Day.noFr, wrap64, Day.modP, Day.modR, Day.slotP, Day.nextR, Day.atP, Day.atR, Day.aheadP, Day.aheadR]
theorem bridge_ref03_Cold {e : Nat → A} {al more : List A} (hlen : al.length = 2) (he : ∀ j a, (al ++ more)[j]? = some a → e j = a) (hd : ∀ d ∈ g_ref03_Cold.defs, d.holds T e) (hp : (t_49 al).1 = true) :
    (∀ x ∈ g_ref03_Cold.known, x.holds T e) ∧ (∀ o ∈ g_ref03_Cold.obs, (o.ev e).bool = true) ∧ semMany (c_ref03_Cold.rs.flatMap (·.2)) (t_49 al).2 = semMany (c_ref03_Cold.rs.flatMap (·.2)) ([.var 3, .var 4].map (L.ev e)) := by
  have y0 : gi al 0 = (e 0).int := gi_e he (by omega)
  have y1 : gi al 1 = (e 1).int := gi_e he (by omega)
  obtain ⟨d2, -⟩ : AllHold T e g_ref03_Cold.defs := allHold_of hd
  have hpE : (t_49 al).1 = (true) := by simp only [t_49, y0, y1]
  have hp := hpE.symm.trans hp
  have hoE : (t_49 al).2 = [.i (Day.ownR 2 (e 0).int (e 1).int), .i (Day.ownE (e 0).int (e 1).int)] := by simp only [t_49, y0, y1]
  obtain ⟨ho, hr⟩ := pure_ref03_Cold (e 0).int (e 1).int (e 2).bool (e 3).int (e 4).int
    (q_pre T_131 d2)
    (q_outI T_131 0 d2 rfl)
    (q_outI T_131 1 d2 rfl)
    hp
  have o0 := ho
  obtain ⟨r0, r1⟩ := hr
  refine ⟨(fun x hx => by cases hx), obs_of (e := e) (l := g_ref03_Cold.obs) ⟨o0, trivial⟩, ?_⟩
  rw [hoE]
  show semMany [.int .i64, .int .i64] [.i (Day.ownR 2 (e 0).int (e 1).int), .i (Day.ownE (e 0).int (e 1).int)] = semMany [.int .i64, .int .i64] [L.ev e (.var 3), L.ev e (.var 4)]
  exact (semI r0 (semI r1 rfl))
theorem ctr_ref03_Cold : CtrOK Try.prog T c_ref03_Cold := by
  intro lits al vs w hok hag hargs hpre
  have hpre : (t_49 al).1 = true := by rw [← T_49]; exact hpre
  obtain ⟨hl, hlen⟩ := args_flat hargs rfl
  have hlen : al.length = 2 := hlen
  exact calls_of_run xok_ref03_Cold widths (lits := []) (ns := []) (more := []) rfl run_ref03_Cold (by kernel_rfl) (by kernel_rfl) rfl hargs hl (lit_none) (by rw [show c_ref03_Cold.f = 49 from rfl, T_49]; rfl)
    fun e he hd => by rw [show c_ref03_Cold.f = 49 from rfl, T_49]; exact bridge_ref03_Cold hlen he hd hpre
end Rx.S
namespace Rx.S
open Go Rx Go.Proofs
set_option maxRecDepth 100000
set_option linter.unusedVariables false
def c_ref03_Later : Ctr := { f := 55, ps := [.c false [.int .i64]], rs := [(false, [.int .i64])], ok := fun _ => true }
noncomputable def fns_ref03_Later : List (Nat × Func) := [(55, Try.f55), (132, Try.f132)]
theorem fnsOk_ref03_Later : FnsAll Try.prog fns_ref03_Later := ⟨fn55, fn132, trivial⟩
noncomputable def X_ref03_Later : Ctx := { tys := tys, eqs := eqs, fns := fun f => look f fns_ref03_Later, ctr := [(132, c_ref03_times)], lim := 30 }
theorem xok_ref03_Later : XOK Try.prog T X_ref03_Later where
  tys := tysOk
  eqs := eqsOk
  mixed := mixed
  ctr := ctrsOK_of ⟨⟨rfl, ctr_ref03_times⟩, trivial⟩
  fns := fnsOK_of fnsOk_ref03_Later
def g_ref03_Later : G := { next := 3, defs := [⟨1, (.call 132), [.var 0, .n 3]⟩], obs := [.var 1], known := [] }
theorem run_ref03_Later : run X_ref03_Later 2000 55 ([.one (.k (.int .i64 (.var 0)))]) ([]) 1 [] = some (.pv (.one (.k (.int .i64 (.var 2)))), [], g_ref03_Later) := by kernel_rfl
theorem pure_ref03_Later (x0 : Int) (v1 : Bool) (v2 : Int)
    (q1 : v1 = (Day.u8 (3 : Int)))
    (q2 : v2 = (Day.times (3 : Int) x0))
    (hp : (true) = true)  :
    (v1 = true) ∧ (Day.times 3 x0 = v2) := by
  grind [Day.clampR, Day.upR, Day.downR, Day.sm, Day.i64, Day.u8, Day.u16, Day.u32, Day.right, Day.times, Day.ownE, Day.ownR, Day.idE, Day.freshN, Day.noND, Day.cleanN, Day.wakeN, Day.rightN, Day.ND.i64, Day.waitR, Day.dueR, Day.ofR, Day.ofE, Day.noFr, wrap64, Day.modP, Day.modR, Day.slotP, Day.nextR, Day.atP, Day.atR, Day.aheadP, Day.aheadR]
theorem bridge_ref03_Later {e : Nat → A} {al more : List A} (hlen : al.length = 1) (he : ∀ j a, (al ++ more)[j]? = some a → e j = a) (hd : ∀ d ∈ g_ref03_Later.defs, d.holds T e) (hp : (t_55 al).1 = true) :
    (∀ x ∈ g_ref03_Later.known, x.holds T e) ∧ (∀ o ∈ g_ref03_Later.obs, (o.ev e).bool = true) ∧ semMany (c_ref03_Later.rs.flatMap (·.2)) (t_55 al).2 = semMany (c_ref03_Later.rs.flatMap (·.2)) ([.var 2].map (L.ev e)) := by
  have y0 : gi al 0 = (e 0).int := gi_e he (by omega)
  obtain ⟨d1, -⟩ : AllHold T e g_ref03_Later.defs := allHold_of hd
  have hpE : (t_55 al).1 = (true) := by simp only [t_55, y0]
  have hp := hpE.symm.trans hp
  have hoE : (t_55 al).2 = [.i (Day.times 3 (e 0).int)] := by simp only [t_55, y0]
  obtain ⟨ho, hr⟩ := pure_ref03_Later (e 0).int (e 1).bool (e 2).int
    (q_pre T_132 d1)
    (q_outI T_132 0 d1 rfl)
    hp
  have o0 := ho
  have r0 := hr
  refine ⟨(fun x hx => by cases hx), obs_of (e := e) (l := g_ref03_Later.obs) ⟨o0, trivial⟩, ?_⟩
  rw [hoE]
  show semMany [.int .i64] [.i (Day.times 3 (e 0).int)] = semMany [.int .i64] [L.ev e (.var 2)]
  exact (semI r0 rfl)
theorem ctr_ref03_Later : CtrOK Try.prog T c_ref03_Later := by
  intro lits al vs w hok hag hargs hpre
  have hpre : (t_55 al).1 = true := by rw [← T_55]; exact hpre
  obtain ⟨hl, hlen⟩ := args_flat hargs rfl
  have hlen : al.length = 1 := hlen
  exact calls_of_run xok_ref03_Later widths (lits := []) (ns := []) (more := []) rfl run_ref03_Later (by kernel_rfl) (by kernel_rfl) rfl hargs hl (lit_none) (by rw [show c_ref03_Later.f = 55 from rfl, T_55]; rfl)
    fun e he hd => by rw [show c_ref03_Later.f = 55 from rfl, T_55]; exact bridge_ref03_Later hlen he hd hpre
end Rx.S
namespace Rx.S
open Go Rx Go.Proofs
set_option maxRecDepth 100000
set_option linter.unusedVariables false
def c_ref03_Listen : Ctr := { f := 48, ps := [.c false [.int .i64], .c false [.int .i64]], rs := [(false, [.int .i64]), (false, [.int .i64])], ok := fun _ => true }
noncomputable def fns_ref03_Listen : List (Nat × Func) := [(48, Try.f48), (131, Try.f131)]
theorem fnsOk_ref03_Listen : FnsAll Try.prog fns_ref03_Listen := ⟨fn48, fn131, trivial⟩
noncomputable def X_ref03_Listen : Ctx := { tys := tys, eqs := eqs, fns := fun f => look f fns_ref03_Listen, ctr := [(131, c_ref03_of)], lim := 30 }
theorem xok_ref03_Listen : XOK Try.prog T X_ref03_Listen where
  tys := tysOk
  eqs := eqsOk
  mixed := mixed
  ctr := ctrsOK_of ⟨⟨rfl, ctr_ref03_of⟩, trivial⟩
  fns := fnsOK_of fnsOk_ref03_Listen
def g_ref03_Listen : G := { next := 5, defs := [⟨2, (.call 131), [.var 0, .var 1, .n 4]⟩], obs := [.var 2], known := [] }
theorem run_ref03_Listen : run X_ref03_Listen 2000 48 ([.one (.k (.int .i64 (.var 0))), .one (.k (.int .i64 (.var 1)))]) ([]) 2 [] = some (.tup [.one (.k (.int .i64 (.var 3))), .one (.k (.int .i64 (.var 4)))], [], g_ref03_Listen) := by kernel_rfl
theorem pure_ref03_Listen (x0 : Int) (x1 : Int) (v2 : Bool) (v3 : Int) (v4 : Int)
    (q2 : v2 = (Day.u8 (4 : Int)))
    (q3 : v3 = (Day.ownR (4 : Int) x0 x1))
    (q4 : v4 = (Day.ownE x0 x1))
    (hp : (true) = true)  :
    (v2 = true) ∧ (Day.ownR 4 x0 x1 = v3 ∧ Day.ownE x0 x1 = v4) := by
  grind [Day.clampR, Day.upR, Day.downR, Day.sm, Day.i64, Day.u8, Day.u16, Day.u32, Day.right, Day.times, Day.ownE, Day.ownR, Day.idE, Day.freshN, Day.noND, Day.cleanN, Day.wakeN, Day.rightN, Day.ND.i64, Day.waitR, Day.dueR, Day.ofR, Day.ofE, Day.noFr, wrap64, Day.modP, Day.modR, Day.slotP, Day.nextR, Day.atP, Day.atR, Day.aheadP, Day.aheadR]
theorem bridge_ref03_Listen {e : Nat → A} {al more : List A} (hlen : al.length = 2) (he : ∀ j a, (al ++ more)[j]? = some a → e j = a) (hd : ∀ d ∈ g_ref03_Listen.defs, d.holds T e) (hp : (t_48 al).1 = true) :
    (∀ x ∈ g_ref03_Listen.known, x.holds T e) ∧ (∀ o ∈ g_ref03_Listen.obs, (o.ev e).bool = true) ∧ semMany (c_ref03_Listen.rs.flatMap (·.2)) (t_48 al).2 = semMany (c_ref03_Listen.rs.flatMap (·.2)) ([.var 3, .var 4].map (L.ev e)) := by
  have y0 : gi al 0 = (e 0).int := gi_e he (by omega)
  have y1 : gi al 1 = (e 1).int := gi_e he (by omega)
  obtain ⟨d2, -⟩ : AllHold T e g_ref03_Listen.defs := allHold_of hd
  have hpE : (t_48 al).1 = (true) := by simp only [t_48, y0, y1]
  have hp := hpE.symm.trans hp
  have hoE : (t_48 al).2 = [.i (Day.ownR 4 (e 0).int (e 1).int), .i (Day.ownE (e 0).int (e 1).int)] := by simp only [t_48, y0, y1]
  obtain ⟨ho, hr⟩ := pure_ref03_Listen (e 0).int (e 1).int (e 2).bool (e 3).int (e 4).int
    (q_pre T_131 d2)
    (q_outI T_131 0 d2 rfl)
    (q_outI T_131 1 d2 rfl)
    hp
  have o0 := ho
  obtain ⟨r0, r1⟩ := hr
  refine ⟨(fun x hx => by cases hx), obs_of (e := e) (l := g_ref03_Listen.obs) ⟨o0, trivial⟩, ?_⟩
  rw [hoE]
  show semMany [.int .i64, .int .i64] [.i (Day.ownR 4 (e 0).int (e 1).int), .i (Day.ownE (e 0).int (e 1).int)] = semMany [.int .i64, .int .i64] [L.ev e (.var 3), L.ev e (.var 4)]
  exact (semI r0 (semI r1 rfl))
theorem ctr_ref03_Listen : CtrOK Try.prog T c_ref03_Listen := by
  intro lits al vs w hok hag hargs hpre
  have hpre : (t_48 al).1 = true := by rw [← T_48]; exact hpre
  obtain ⟨hl, hlen⟩ := args_flat hargs rfl
  have hlen : al.length = 2 := hlen
  exact calls_of_run xok_ref03_Listen widths (lits := []) (ns := []) (more := []) rfl run_ref03_Listen (by kernel_rfl) (by kernel_rfl) rfl hargs hl (lit_none) (by rw [show c_ref03_Listen.f = 48 from rfl, T_48]; rfl)
    fun e he hd => by rw [show c_ref03_Listen.f = 48 from rfl, T_48]; exact bridge_ref03_Listen hlen he hd hpre
end Rx.S
namespace Rx.S
open Go Rx Go.Proofs
set_option maxRecDepth 100000
set_option linter.unusedVariables false
def c_ref03_Stable : Ctr := { f := 57, ps := [.c false [.int .i64]], rs := [(false, [.int .i64])], ok := fun _ => true }
noncomputable def fns_ref03_Stable : List (Nat × Func) := [(57, Try.f57), (132, Try.f132)]
theorem fnsOk_ref03_Stable : FnsAll Try.prog fns_ref03_Stable := ⟨fn57, fn132, trivial⟩
noncomputable def X_ref03_Stable : Ctx := { tys := tys, eqs := eqs, fns := fun f => look f fns_ref03_Stable, ctr := [(132, c_ref03_times)], lim := 30 }
theorem xok_ref03_Stable : XOK Try.prog T X_ref03_Stable where
  tys := tysOk
  eqs := eqsOk
  mixed := mixed
  ctr := ctrsOK_of ⟨⟨rfl, ctr_ref03_times⟩, trivial⟩
  fns := fnsOK_of fnsOk_ref03_Stable
def g_ref03_Stable : G := { next := 3, defs := [⟨1, (.call 132), [.var 0, .n 96]⟩], obs := [.var 1], known := [] }
theorem run_ref03_Stable : run X_ref03_Stable 2000 57 ([.one (.k (.int .i64 (.var 0)))]) ([]) 1 [] = some (.pv (.one (.k (.int .i64 (.var 2)))), [], g_ref03_Stable) := by kernel_rfl
theorem pure_ref03_Stable (x0 : Int) (v1 : Bool) (v2 : Int)
    (q1 : v1 = (Day.u8 (96 : Int)))
    (q2 : v2 = (Day.times (96 : Int) x0))
    (hp : (true) = true)  :
    (v1 = true) ∧ (Day.times 96 x0 = v2) := by
  grind [Day.clampR, Day.upR, Day.downR, Day.sm, Day.i64, Day.u8, Day.u16, Day.u32, Day.right, Day.times, Day.ownE, Day.ownR, Day.idE, Day.freshN, Day.noND, Day.cleanN, Day.wakeN, Day.rightN, Day.ND.i64, Day.waitR, Day.dueR, Day.ofR, Day.ofE, Day.noFr, wrap64, Day.modP, Day.modR, Day.slotP, Day.nextR, Day.atP, Day.atR, Day.aheadP, Day.aheadR]
theorem bridge_ref03_Stable {e : Nat → A} {al more : List A} (hlen : al.length = 1) (he : ∀ j a, (al ++ more)[j]? = some a → e j = a) (hd : ∀ d ∈ g_ref03_Stable.defs, d.holds T e) (hp : (t_57 al).1 = true) :
    (∀ x ∈ g_ref03_Stable.known, x.holds T e) ∧ (∀ o ∈ g_ref03_Stable.obs, (o.ev e).bool = true) ∧ semMany (c_ref03_Stable.rs.flatMap (·.2)) (t_57 al).2 = semMany (c_ref03_Stable.rs.flatMap (·.2)) ([.var 2].map (L.ev e)) := by
  have y0 : gi al 0 = (e 0).int := gi_e he (by omega)
  obtain ⟨d1, -⟩ : AllHold T e g_ref03_Stable.defs := allHold_of hd
  have hpE : (t_57 al).1 = (true) := by simp only [t_57, y0]
  have hp := hpE.symm.trans hp
  have hoE : (t_57 al).2 = [.i (Day.times 96 (e 0).int)] := by simp only [t_57, y0]
  obtain ⟨ho, hr⟩ := pure_ref03_Stable (e 0).int (e 1).bool (e 2).int
    (q_pre T_132 d1)
    (q_outI T_132 0 d1 rfl)
    hp
  have o0 := ho
  have r0 := hr
  refine ⟨(fun x hx => by cases hx), obs_of (e := e) (l := g_ref03_Stable.obs) ⟨o0, trivial⟩, ?_⟩
  rw [hoE]
  show semMany [.int .i64] [.i (Day.times 96 (e 0).int)] = semMany [.int .i64] [L.ev e (.var 2)]
  exact (semI r0 rfl)
theorem ctr_ref03_Stable : CtrOK Try.prog T c_ref03_Stable := by
  intro lits al vs w hok hag hargs hpre
  have hpre : (t_57 al).1 = true := by rw [← T_57]; exact hpre
  obtain ⟨hl, hlen⟩ := args_flat hargs rfl
  have hlen : al.length = 1 := hlen
  exact calls_of_run xok_ref03_Stable widths (lits := []) (ns := []) (more := []) rfl run_ref03_Stable (by kernel_rfl) (by kernel_rfl) rfl hargs hl (lit_none) (by rw [show c_ref03_Stable.f = 57 from rfl, T_57]; rfl)
    fun e he hd => by rw [show c_ref03_Stable.f = 57 from rfl, T_57]; exact bridge_ref03_Stable hlen he hd hpre
end Rx.S
namespace Rx.S
open Go Rx Go.Proofs
set_option maxRecDepth 100000
set_option linter.unusedVariables false
def c_ref03_Start : Ctr := { f := 56, ps := [.c false [.int .i64]], rs := [(false, [.int .i64])], ok := fun _ => true }
noncomputable def fns_ref03_Start : List (Nat × Func) := [(56, Try.f56), (132, Try.f132)]
theorem fnsOk_ref03_Start : FnsAll Try.prog fns_ref03_Start := ⟨fn56, fn132, trivial⟩
noncomputable def X_ref03_Start : Ctx := { tys := tys, eqs := eqs, fns := fun f => look f fns_ref03_Start, ctr := [(132, c_ref03_times)], lim := 30 }
theorem xok_ref03_Start : XOK Try.prog T X_ref03_Start where
  tys := tysOk
  eqs := eqsOk
  mixed := mixed
  ctr := ctrsOK_of ⟨⟨rfl, ctr_ref03_times⟩, trivial⟩
  fns := fnsOK_of fnsOk_ref03_Start
def g_ref03_Start : G := { next := 3, defs := [⟨1, (.call 132), [.var 0, .n 40]⟩], obs := [.var 1], known := [] }
theorem run_ref03_Start : run X_ref03_Start 2000 56 ([.one (.k (.int .i64 (.var 0)))]) ([]) 1 [] = some (.pv (.one (.k (.int .i64 (.var 2)))), [], g_ref03_Start) := by kernel_rfl
theorem pure_ref03_Start (x0 : Int) (v1 : Bool) (v2 : Int)
    (q1 : v1 = (Day.u8 (40 : Int)))
    (q2 : v2 = (Day.times (40 : Int) x0))
    (hp : (true) = true)  :
    (v1 = true) ∧ (Day.times 40 x0 = v2) := by
  grind [Day.clampR, Day.upR, Day.downR, Day.sm, Day.i64, Day.u8, Day.u16, Day.u32, Day.right, Day.times, Day.ownE, Day.ownR, Day.idE, Day.freshN, Day.noND, Day.cleanN, Day.wakeN, Day.rightN, Day.ND.i64, Day.waitR, Day.dueR, Day.ofR, Day.ofE, Day.noFr, wrap64, Day.modP, Day.modR, Day.slotP, Day.nextR, Day.atP, Day.atR, Day.aheadP, Day.aheadR]
theorem bridge_ref03_Start {e : Nat → A} {al more : List A} (hlen : al.length = 1) (he : ∀ j a, (al ++ more)[j]? = some a → e j = a) (hd : ∀ d ∈ g_ref03_Start.defs, d.holds T e) (hp : (t_56 al).1 = true) :
    (∀ x ∈ g_ref03_Start.known, x.holds T e) ∧ (∀ o ∈ g_ref03_Start.obs, (o.ev e).bool = true) ∧ semMany (c_ref03_Start.rs.flatMap (·.2)) (t_56 al).2 = semMany (c_ref03_Start.rs.flatMap (·.2)) ([.var 2].map (L.ev e)) := by
  have y0 : gi al 0 = (e 0).int := gi_e he (by omega)
  obtain ⟨d1, -⟩ : AllHold T e g_ref03_Start.defs := allHold_of hd
  have hpE : (t_56 al).1 = (true) := by simp only [t_56, y0]
  have hp := hpE.symm.trans hp
  have hoE : (t_56 al).2 = [.i (Day.times 40 (e 0).int)] := by simp only [t_56, y0]
  obtain ⟨ho, hr⟩ := pure_ref03_Start (e 0).int (e 1).bool (e 2).int
    (q_pre T_132 d1)
    (q_outI T_132 0 d1 rfl)
    hp
  have o0 := ho
  have r0 := hr
  refine ⟨(fun x hx => by cases hx), obs_of (e := e) (l := g_ref03_Start.obs) ⟨o0, trivial⟩, ?_⟩
  rw [hoE]
  show semMany [.int .i64] [.i (Day.times 40 (e 0).int)] = semMany [.int .i64] [L.ev e (.var 2)]
  exact (semI r0 rfl)
theorem ctr_ref03_Start : CtrOK Try.prog T c_ref03_Start := by
  intro lits al vs w hok hag hargs hpre
  have hpre : (t_56 al).1 = true := by rw [← T_56]; exact hpre
  obtain ⟨hl, hlen⟩ := args_flat hargs rfl
  have hlen : al.length = 1 := hlen
  exact calls_of_run xok_ref03_Start widths (lits := []) (ns := []) (more := []) rfl run_ref03_Start (by kernel_rfl) (by kernel_rfl) rfl hargs hl (lit_none) (by rw [show c_ref03_Start.f = 56 from rfl, T_56]; rfl)
    fun e he hd => by rw [show c_ref03_Start.f = 56 from rfl, T_56]; exact bridge_ref03_Start hlen he hd hpre
end Rx.S
namespace Rx.S
open Go Rx Go.Proofs
set_option maxRecDepth 100000
set_option linter.unusedVariables false
def c_ref03_Watch : Ctr := { f := 53, ps := [.c false [.int .i64]], rs := [(false, [.int .i64])], ok := fun _ => true }
noncomputable def fns_ref03_Watch : List (Nat × Func) := [(53, Try.f53), (132, Try.f132)]
theorem fnsOk_ref03_Watch : FnsAll Try.prog fns_ref03_Watch := ⟨fn53, fn132, trivial⟩
noncomputable def X_ref03_Watch : Ctx := { tys := tys, eqs := eqs, fns := fun f => look f fns_ref03_Watch, ctr := [(132, c_ref03_times)], lim := 30 }
theorem xok_ref03_Watch : XOK Try.prog T X_ref03_Watch where
  tys := tysOk
  eqs := eqsOk
  mixed := mixed
  ctr := ctrsOK_of ⟨⟨rfl, ctr_ref03_times⟩, trivial⟩
  fns := fnsOK_of fnsOk_ref03_Watch
def g_ref03_Watch : G := { next := 3, defs := [⟨1, (.call 132), [.var 0, .n 8]⟩], obs := [.var 1], known := [] }
theorem run_ref03_Watch : run X_ref03_Watch 2000 53 ([.one (.k (.int .i64 (.var 0)))]) ([]) 1 [] = some (.pv (.one (.k (.int .i64 (.var 2)))), [], g_ref03_Watch) := by kernel_rfl
theorem pure_ref03_Watch (x0 : Int) (v1 : Bool) (v2 : Int)
    (q1 : v1 = (Day.u8 (8 : Int)))
    (q2 : v2 = (Day.times (8 : Int) x0))
    (hp : (true) = true)  :
    (v1 = true) ∧ (Day.times 8 x0 = v2) := by
  grind [Day.clampR, Day.upR, Day.downR, Day.sm, Day.i64, Day.u8, Day.u16, Day.u32, Day.right, Day.times, Day.ownE, Day.ownR, Day.idE, Day.freshN, Day.noND, Day.cleanN, Day.wakeN, Day.rightN, Day.ND.i64, Day.waitR, Day.dueR, Day.ofR, Day.ofE, Day.noFr, wrap64, Day.modP, Day.modR, Day.slotP, Day.nextR, Day.atP, Day.atR, Day.aheadP, Day.aheadR]
theorem bridge_ref03_Watch {e : Nat → A} {al more : List A} (hlen : al.length = 1) (he : ∀ j a, (al ++ more)[j]? = some a → e j = a) (hd : ∀ d ∈ g_ref03_Watch.defs, d.holds T e) (hp : (t_53 al).1 = true) :
    (∀ x ∈ g_ref03_Watch.known, x.holds T e) ∧ (∀ o ∈ g_ref03_Watch.obs, (o.ev e).bool = true) ∧ semMany (c_ref03_Watch.rs.flatMap (·.2)) (t_53 al).2 = semMany (c_ref03_Watch.rs.flatMap (·.2)) ([.var 2].map (L.ev e)) := by
  have y0 : gi al 0 = (e 0).int := gi_e he (by omega)
  obtain ⟨d1, -⟩ : AllHold T e g_ref03_Watch.defs := allHold_of hd
  have hpE : (t_53 al).1 = (true) := by simp only [t_53, y0]
  have hp := hpE.symm.trans hp
  have hoE : (t_53 al).2 = [.i (Day.times 8 (e 0).int)] := by simp only [t_53, y0]
  obtain ⟨ho, hr⟩ := pure_ref03_Watch (e 0).int (e 1).bool (e 2).int
    (q_pre T_132 d1)
    (q_outI T_132 0 d1 rfl)
    hp
  have o0 := ho
  have r0 := hr
  refine ⟨(fun x hx => by cases hx), obs_of (e := e) (l := g_ref03_Watch.obs) ⟨o0, trivial⟩, ?_⟩
  rw [hoE]
  show semMany [.int .i64] [.i (Day.times 8 (e 0).int)] = semMany [.int .i64] [L.ev e (.var 2)]
  exact (semI r0 rfl)
theorem ctr_ref03_Watch : CtrOK Try.prog T c_ref03_Watch := by
  intro lits al vs w hok hag hargs hpre
  have hpre : (t_53 al).1 = true := by rw [← T_53]; exact hpre
  obtain ⟨hl, hlen⟩ := args_flat hargs rfl
  have hlen : al.length = 1 := hlen
  exact calls_of_run xok_ref03_Watch widths (lits := []) (ns := []) (more := []) rfl run_ref03_Watch (by kernel_rfl) (by kernel_rfl) rfl hargs hl (lit_none) (by rw [show c_ref03_Watch.f = 53 from rfl, T_53]; rfl)
    fun e he hd => by rw [show c_ref03_Watch.f = 53 from rfl, T_53]; exact bridge_ref03_Watch hlen he hd hpre
end Rx.S
