import Derived.Test.YtjipnabidebgbaaXe
import Derived.Test.YtjipnabidebgbaaXm
import Derived.Test.YtjipnabidebgbaaXt
import Derived.Test.YtjipnabidebgbaaYconf
set_option linter.unusedVariables false
set_option linter.unusedSimpArgs false
namespace Rx.S
open Go Rx Go.Proofs
set_option maxRecDepth 100000
set_option maxHeartbeats 4000000
set_option linter.unusedVariables false
def c_conf_Right : Ctr := { f := 50, ps := [.c false [.int .i64]], rs := [(false, [.bool])], ok := fun _ => true }
noncomputable def fns_conf_Right : List (Nat × Func) := [(50, Try.f50)]
theorem fnsOk_conf_Right : FnsAll Try.prog fns_conf_Right := ⟨fn50, trivial⟩
noncomputable def X_conf_Right : Ctx := { tys := tys, eqs := eqs, fns := fun f => look f fns_conf_Right, ctr := [], lim := 30, big := [], lps := [] }
theorem xok_conf_Right : XL Try.prog T X_conf_Right where
  tys := tysOk
  eqs := eqsOk
  mixed := mixed
  ctr := ctrsOK_of trivial
  fns := fnsOK_of fnsOk_conf_Right
  big := bigsOK_of trivial
  lps := lps_nil rfl
theorem ctr_conf_Right : CtrOK Try.prog T c_conf_Right := ctr_of xok_conf_Right widths (g := g_conf_Right) (ls := [V 3]) (by kernel_rfl) (fun aq => by rw [show c_conf_Right.f = 50 from rfl, T_50]; rfl) fun aq e h1 h2 h3 => by
  subst h1
  rw [show c_conf_Right.f = 50 from rfl, T_50] at h2 ⊢
  obtain ⟨ho, hr⟩ := pure_conf_Right e h3 h2
  have r0 := hr
  refine ⟨trivial, ?_⟩
  show semMany [.bool] (t_50 _).2 = semMany [.bool] [L.ev e (V 3)]
  exact (semB r0 rfl)
end Rx.S
namespace Rx.S
open Go Rx Go.Proofs Go.RowKit
set_option maxRecDepth 100000
def kb (l : List UInt8) (n : Int) (c : Nat) : MapEntry := { key := .string ⟨l.toArray⟩, val := .int .i64 n, born := c }
def ES : Array MapEntry := #[kb [98, 108, 111, 99, 107] 2 0, kb [119, 97, 116, 99, 104] 8 1, kb [108, 97, 116, 101, 114] 3 2, kb [115, 116, 97, 114, 116] 40 3, kb [115, 116, 97, 98, 108, 101] 96 4, kb [108, 105, 115, 116, 101, 110] 4 5, kb [99, 111, 108, 100] 2 6]
theorem ins0 (w : World) : (Instr.mapUpdate 166 (.map (some w.heap.size)) (.string { data := #[98, 108, 111, 99, 107] }) (.int .i64 2)).run Try.prog (w.alloc (.map #[] 0)) = .ok () (w.alloc (.map #[kb [98, 108, 111, 99, 107] 2 0] 1)) :=
  run_insert_new w (t := 166) (k := 9) (e := 3) Try.underlying166 #[] 0 _ _ Try.underlying9 trivial (by kernel_rfl)
theorem ins1 (w : World) : (Instr.mapUpdate 166 (.map (some w.heap.size)) (.string { data := #[119, 97, 116, 99, 104] }) (.int .i64 8)).run Try.prog (w.alloc (.map #[kb [98, 108, 111, 99, 107] 2 0] 1)) = .ok () (w.alloc (.map #[kb [98, 108, 111, 99, 107] 2 0, kb [119, 97, 116, 99, 104] 8 1] 2)) :=
  run_insert_new w (t := 166) (k := 9) (e := 3) Try.underlying166 #[kb [98, 108, 111, 99, 107] 2 0] 1 _ _ Try.underlying9 trivial (by kernel_rfl)
theorem ins2 (w : World) : (Instr.mapUpdate 166 (.map (some w.heap.size)) (.string { data := #[108, 97, 116, 101, 114] }) (.int .i64 3)).run Try.prog (w.alloc (.map #[kb [98, 108, 111, 99, 107] 2 0, kb [119, 97, 116, 99, 104] 8 1] 2)) = .ok () (w.alloc (.map #[kb [98, 108, 111, 99, 107] 2 0, kb [119, 97, 116, 99, 104] 8 1, kb [108, 97, 116, 101, 114] 3 2] 3)) :=
  run_insert_new w (t := 166) (k := 9) (e := 3) Try.underlying166 #[kb [98, 108, 111, 99, 107] 2 0, kb [119, 97, 116, 99, 104] 8 1] 2 _ _ Try.underlying9 trivial (by kernel_rfl)
theorem ins3 (w : World) : (Instr.mapUpdate 166 (.map (some w.heap.size)) (.string { data := #[115, 116, 97, 114, 116] }) (.int .i64 40)).run Try.prog (w.alloc (.map #[kb [98, 108, 111, 99, 107] 2 0, kb [119, 97, 116, 99, 104] 8 1, kb [108, 97, 116, 101, 114] 3 2] 3)) = .ok () (w.alloc (.map #[kb [98, 108, 111, 99, 107] 2 0, kb [119, 97, 116, 99, 104] 8 1, kb [108, 97, 116, 101, 114] 3 2, kb [115, 116, 97, 114, 116] 40 3] 4)) :=
  run_insert_new w (t := 166) (k := 9) (e := 3) Try.underlying166 #[kb [98, 108, 111, 99, 107] 2 0, kb [119, 97, 116, 99, 104] 8 1, kb [108, 97, 116, 101, 114] 3 2] 3 _ _ Try.underlying9 trivial (by kernel_rfl)
theorem ins4 (w : World) : (Instr.mapUpdate 166 (.map (some w.heap.size)) (.string { data := #[115, 116, 97, 98, 108, 101] }) (.int .i64 96)).run Try.prog (w.alloc (.map #[kb [98, 108, 111, 99, 107] 2 0, kb [119, 97, 116, 99, 104] 8 1, kb [108, 97, 116, 101, 114] 3 2, kb [115, 116, 97, 114, 116] 40 3] 4)) = .ok () (w.alloc (.map #[kb [98, 108, 111, 99, 107] 2 0, kb [119, 97, 116, 99, 104] 8 1, kb [108, 97, 116, 101, 114] 3 2, kb [115, 116, 97, 114, 116] 40 3, kb [115, 116, 97, 98, 108, 101] 96 4] 5)) :=
  run_insert_new w (t := 166) (k := 9) (e := 3) Try.underlying166 #[kb [98, 108, 111, 99, 107] 2 0, kb [119, 97, 116, 99, 104] 8 1, kb [108, 97, 116, 101, 114] 3 2, kb [115, 116, 97, 114, 116] 40 3] 4 _ _ Try.underlying9 trivial (by kernel_rfl)
theorem ins5 (w : World) : (Instr.mapUpdate 166 (.map (some w.heap.size)) (.string { data := #[108, 105, 115, 116, 101, 110] }) (.int .i64 4)).run Try.prog (w.alloc (.map #[kb [98, 108, 111, 99, 107] 2 0, kb [119, 97, 116, 99, 104] 8 1, kb [108, 97, 116, 101, 114] 3 2, kb [115, 116, 97, 114, 116] 40 3, kb [115, 116, 97, 98, 108, 101] 96 4] 5)) = .ok () (w.alloc (.map #[kb [98, 108, 111, 99, 107] 2 0, kb [119, 97, 116, 99, 104] 8 1, kb [108, 97, 116, 101, 114] 3 2, kb [115, 116, 97, 114, 116] 40 3, kb [115, 116, 97, 98, 108, 101] 96 4, kb [108, 105, 115, 116, 101, 110] 4 5] 6)) :=
  run_insert_new w (t := 166) (k := 9) (e := 3) Try.underlying166 #[kb [98, 108, 111, 99, 107] 2 0, kb [119, 97, 116, 99, 104] 8 1, kb [108, 97, 116, 101, 114] 3 2, kb [115, 116, 97, 114, 116] 40 3, kb [115, 116, 97, 98, 108, 101] 96 4] 5 _ _ Try.underlying9 trivial (by kernel_rfl)
theorem ins6 (w : World) : (Instr.mapUpdate 166 (.map (some w.heap.size)) (.string { data := #[99, 111, 108, 100] }) (.int .i64 2)).run Try.prog (w.alloc (.map #[kb [98, 108, 111, 99, 107] 2 0, kb [119, 97, 116, 99, 104] 8 1, kb [108, 97, 116, 101, 114] 3 2, kb [115, 116, 97, 114, 116] 40 3, kb [115, 116, 97, 98, 108, 101] 96 4, kb [108, 105, 115, 116, 101, 110] 4 5] 6)) = .ok () (w.alloc (.map #[kb [98, 108, 111, 99, 107] 2 0, kb [119, 97, 116, 99, 104] 8 1, kb [108, 97, 116, 101, 114] 3 2, kb [115, 116, 97, 114, 116] 40 3, kb [115, 116, 97, 98, 108, 101] 96 4, kb [108, 105, 115, 116, 101, 110] 4 5, kb [99, 111, 108, 100] 2 6] 7)) :=
  run_insert_new w (t := 166) (k := 9) (e := 3) Try.underlying166 #[kb [98, 108, 111, 99, 107] 2 0, kb [119, 97, 116, 99, 104] 8 1, kb [108, 97, 116, 101, 114] 3 2, kb [115, 116, 97, 114, 116] 40 3, kb [115, 116, 97, 98, 108, 101] 96 4, kb [108, 105, 115, 116, 101, 110] 4 5] 6 _ _ Try.underlying9 trivial (by kernel_rfl)
theorem rounds_calls (w : World) : Calls Try.prog 163 #[] w fun e w' => e = .returned (.map (some w.heap.size)) ∧ w' = w.alloc (.map ES 7) := by
  have hmm := @run_makeMap Try.prog
  have h0 := ins0 w
  have h1 := ins1 w
  have h2 := ins2 w
  have h3 := ins3 w
  have h4 := ins4 w
  have h5 := ins5 w
  have h6 := ins6 w
  go_enter Try.func163, Try.ntmps163
  go_wp2
  go_ret
  exact ⟨rfl, rfl⟩
end Rx.S
namespace Rx.S
open Go Rx Go.Proofs Go.RowKit
set_option maxRecDepth 100000
def c_conf_time : Ctr := { f := 130, ps := [.c false [.str], .c false [.int .i64]], rs := [(false, [.int .i64])], ok := fun _ => true }
theorem right_calls (n : Int) (w : World) : Calls Try.prog 50 #[.int .i64 n] w fun e w' => e = .returned (.bool (Day.right n)) ∧ w' = w := by
  by_cases h1 : 3 ≤ n
  · have c1 : decide (n ≥ 3) = true := decide_eq_true h1
    by_cases h2 : n ≤ 8
    · have c2 : decide (n ≤ 8) = true := decide_eq_true h2
      go_enter Try.func50, Try.ntmps50
      go_wp2
      go_ret
      exact ⟨by simp [Day.right, h1, h2], rfl⟩
    · have c2 : decide (n ≤ 8) = false := decide_eq_false h2
      go_enter Try.func50, Try.ntmps50
      go_wp2
      go_ret
      exact ⟨by simp [Day.right, h1, h2], rfl⟩
  · have c1 : decide (n ≥ 3) = false := decide_eq_false h1
    go_enter Try.func50, Try.ntmps50
    go_wp2
    go_ret
    exact ⟨by simp [Day.right]; omega, rfl⟩
theorem find_name (s : ByteArray) (h : Day.kOf s ≠ 0) : ∃ i, Instr.findNow .string (.string s) ES.toList 0 = some (some (i, .int .i64 (Day.kOf s))) := by
  obtain ⟨⟨l⟩⟩ := s
  unfold Day.kOf at h ⊢
  simp only at h ⊢
  by_cases h1 : l = [98, 108, 111, 99, 107]
  · subst h1; exact ⟨0, by kernel_rfl⟩
  by_cases h2 : l = [119, 97, 116, 99, 104]
  · subst h2; exact ⟨1, by kernel_rfl⟩
  by_cases h3 : l = [108, 97, 116, 101, 114]
  · subst h3; exact ⟨2, by kernel_rfl⟩
  by_cases h4 : l = [115, 116, 97, 114, 116]
  · subst h4; exact ⟨3, by kernel_rfl⟩
  by_cases h5 : l = [115, 116, 97, 98, 108, 101]
  · subst h5; exact ⟨4, by kernel_rfl⟩
  by_cases h6 : l = [108, 105, 115, 116, 101, 110]
  · subst h6; exact ⟨5, by kernel_rfl⟩
  by_cases h7 : l = [99, 111, 108, 100]
  · subst h7; exact ⟨6, by kernel_rfl⟩
  · exact absurd (by rw [if_neg h1, if_neg h2, if_neg h3, if_neg h4, if_neg h5, if_neg h6, if_neg h7]) h
theorem time_calls (s : ByteArray) (n : Int) (hs : Day.kOf s ≠ 0) (w : World) : Calls Try.prog 130 #[.string s, .int .i64 n] w fun e w' => e = .returned (.int .i64 (Day.times (Day.kOf s) n)) ∧ Below w.heap.size w w' := by
  obtain ⟨i, hi⟩ := find_name s hs
  have hl := run_lookup_hit (P := Try.prog) (w.alloc (.map ES 7)) (t := 166) (k := 9) (e := 3) Try.underlying166 (alloc_last w (.map ES 7)) (.string s) Try.underlying9 trivial hi false
  have hk := Day.kOf_range s
  cases hr : Day.right n with
  | false =>
    have ht : Day.times (Day.kOf s) n = 0 := by simp [Day.times, hr]
    rw [ht]
    have hc := right_calls n w
    rw [hr] at hc
    clear hl hi
    go_enter Try.func130, Try.ntmps130
    go_wp2_with (go_at_call 50; refine hc.mono ?_; rintro e w' ⟨rfl, rfl⟩)
    go_ret
    exact ⟨rfl, Below.refl _ _⟩
  | true =>
    have ht : IntKind.wrap .i64 (Day.kOf s * n) = Day.times (Day.kOf s) n := by
      simp only [Day.times, hr, if_true]
      have : 3 ≤ n ∧ n ≤ 8 := by simpa [Day.right] using hr
      have hn2 : n = 3 ∨ n = 4 ∨ n = 5 ∨ n = 6 ∨ n = 7 ∨ n = 8 := by omega
      rcases hn2 with rfl | rfl | rfl | rfl | rfl | rfl <;> exact wrap64 (by omega) (by omega)
    rw [← ht, IntWalk.i64_left]
    have hc := right_calls n w
    rw [hr] at hc
    simp only [Bool.false_eq_true, if_false] at hl
    clear hi ht
    go_enter Try.func130, Try.ntmps130
    go_wp2_with (first | (go_at_call 50; refine hc.mono ?_; rintro e w' ⟨rfl, rfl⟩) | (go_at_call 163; refine (rounds_calls _).mono ?_; rintro e w' ⟨rfl, rfl⟩))
    go_ret
    exact ⟨rfl, (Below.refl _ _).alloc (Nat.le_refl _) _⟩
theorem ctr_conf_time : CtrOK Try.prog T c_conf_time := by
  intro lits al vs w hok hag hargs hpre
  have hpre : (t_130 al).1 = true := by rw [← T_130]; exact hpre
  obtain ⟨v, vr, a1, a2, rfl, rfl, o1, v', vr', a3, a4, rfl, rfl, o2, hnil⟩ := hargs
  obtain ⟨rfl, rfl⟩ := hnil
  obtain ⟨l1, o1⟩ := o1
  obtain ⟨l2, o2⟩ := o2
  rw [if_neg (by simp)] at o1 o2
  obtain ⟨s1, b1, e1, rfl, rfl⟩ := o1
  obtain ⟨s2, b2, e2, rfl, rfl⟩ := o2
  simp only [List.cons.injEq, and_true] at e1 e2
  subst e1 e2
  have hk : Day.kOf b1.str ≠ 0 := of_decide_eq_true hpre
  refine (time_calls b1.str b2.int hk w).mono ?_
  rintro e w' ⟨rfl, hb⟩
  refine ⟨_, rfl, ?_, hb⟩
  rw [show c_conf_time.f = 130 from rfl, T_130]
  exact ⟨_, ⟨_, _, [_], [], rfl, rfl, ⟨rfl, by rw [if_neg (by simp)]; exact ⟨_, _, rfl, rfl, rfl⟩⟩, rfl, rfl⟩, rfl⟩
end Rx.S
namespace Rx.S
open Go Rx Go.Proofs
set_option maxRecDepth 100000
set_option maxHeartbeats 4000000
set_option linter.unusedVariables false
def c_conf_Block : Ctr := { f := 44, ps := [.c false [.int .i64]], rs := [(false, [.int .i64])], ok := fun _ => true }
noncomputable def fns_conf_Block : List (Nat × Func) := [(44, Try.f44), (130, Try.f130)]
theorem fnsOk_conf_Block : FnsAll Try.prog fns_conf_Block := ⟨fn44, fn130, trivial⟩
noncomputable def X_conf_Block : Ctx := { tys := tys, eqs := eqs, fns := fun f => look f fns_conf_Block, ctr := [(130, c_conf_time)], lim := 30, big := [], lps := [] }
theorem xok_conf_Block : XL Try.prog T X_conf_Block where
  tys := tysOk
  eqs := eqsOk
  mixed := mixed
  ctr := ctrsOK_of ⟨⟨rfl, ctr_conf_time⟩, trivial⟩
  fns := fnsOK_of fnsOk_conf_Block
  big := bigsOK_of trivial
  lps := lps_nil rfl
theorem ctr_conf_Block : CtrOK Try.prog T c_conf_Block := ctr_of xok_conf_Block widths (g := g_conf_Block) (ls := [V 2]) (by kernel_rfl) (fun aq => by rw [show c_conf_Block.f = 44 from rfl, T_44]; rfl) fun aq e h1 h2 h3 => by
  subst h1
  rw [show c_conf_Block.f = 44 from rfl, T_44] at h2 ⊢
  obtain ⟨ho, hr⟩ := pure_conf_Block e h3 h2
  have r0 := hr
  refine ⟨⟨ho, trivial⟩, ?_⟩
  show semMany [.int .i64] (t_44 _).2 = semMany [.int .i64] [L.ev e (V 2)]
  exact (semI r0 rfl)
end Rx.S
namespace Rx.S
open Go Rx Go.Proofs
set_option maxRecDepth 100000
set_option maxHeartbeats 4000000
set_option linter.unusedVariables false
def c_conf_own : Ctr := { f := 129, ps := [.c false [.str], .c false [.int .i64], .c false [.int .i64]], rs := [(false, [.int .i64]), (false, [.int .i64])], ok := fun _ => true }
noncomputable def fns_conf_own : List (Nat × Func) := [(129, Try.f129), (50, Try.f50), (130, Try.f130)]
theorem fnsOk_conf_own : FnsAll Try.prog fns_conf_own := ⟨fn129, fn50, fn130, trivial⟩
noncomputable def X_conf_own : Ctx := { tys := tys, eqs := eqs, fns := fun f => look f fns_conf_own, ctr := [(50, c_conf_Right), (130, c_conf_time)], lim := 30, big := [], lps := [] }
theorem xok_conf_own : XL Try.prog T X_conf_own where
  tys := tysOk
  eqs := eqsOk
  mixed := mixed
  ctr := ctrsOK_of ⟨⟨rfl, ctr_conf_Right⟩, ⟨rfl, ctr_conf_time⟩, trivial⟩
  fns := fnsOK_of fnsOk_conf_own
  big := bigsOK_of trivial
  lps := lps_nil rfl
theorem ctr_conf_own : CtrOK Try.prog T c_conf_own := ctr_of xok_conf_own widths (g := g_conf_own) (ls := [V 26, V 27]) (by kernel_rfl) (fun aq => by rw [show c_conf_own.f = 129 from rfl, T_129]; rfl) fun aq e h1 h2 h3 => by
  subst h1
  rw [show c_conf_own.f = 129 from rfl, T_129] at h2 ⊢
  obtain ⟨ho, hr⟩ := pure_conf_own e h3 h2
  obtain ⟨r0, r1⟩ := hr
  refine ⟨⟨ho.1, ho.2, trivial⟩, ?_⟩
  show semMany [.int .i64, .int .i64] (t_129 _).2 = semMany [.int .i64, .int .i64] [L.ev e (V 26), L.ev e (V 27)]
  exact (semI r0 (semI r1 rfl))
end Rx.S
namespace Rx.S
open Go Rx Go.Proofs
set_option maxRecDepth 100000
set_option maxHeartbeats 4000000
set_option linter.unusedVariables false
def c_conf_Cold : Ctr := { f := 42, ps := [.c false [.int .i64], .c false [.int .i64]], rs := [(false, [.int .i64]), (false, [.int .i64])], ok := fun _ => true }
noncomputable def fns_conf_Cold : List (Nat × Func) := [(42, Try.f42), (129, Try.f129)]
theorem fnsOk_conf_Cold : FnsAll Try.prog fns_conf_Cold := ⟨fn42, fn129, trivial⟩
noncomputable def X_conf_Cold : Ctx := { tys := tys, eqs := eqs, fns := fun f => look f fns_conf_Cold, ctr := [(129, c_conf_own)], lim := 30, big := [], lps := [] }
theorem xok_conf_Cold : XL Try.prog T X_conf_Cold where
  tys := tysOk
  eqs := eqsOk
  mixed := mixed
  ctr := ctrsOK_of ⟨⟨rfl, ctr_conf_own⟩, trivial⟩
  fns := fnsOK_of fnsOk_conf_Cold
  big := bigsOK_of trivial
  lps := lps_nil rfl
theorem ctr_conf_Cold : CtrOK Try.prog T c_conf_Cold := ctr_of xok_conf_Cold widths (g := g_conf_Cold) (ls := [V 3, V 4]) (by kernel_rfl) (fun aq => by rw [show c_conf_Cold.f = 42 from rfl, T_42]; rfl) fun aq e h1 h2 h3 => by
  subst h1
  rw [show c_conf_Cold.f = 42 from rfl, T_42] at h2 ⊢
  obtain ⟨ho, hr⟩ := pure_conf_Cold e h3 h2
  obtain ⟨r0, r1⟩ := hr
  refine ⟨⟨ho, trivial⟩, ?_⟩
  show semMany [.int .i64, .int .i64] (t_42 _).2 = semMany [.int .i64, .int .i64] [L.ev e (V 3), L.ev e (V 4)]
  exact (semI r0 (semI r1 rfl))
end Rx.S
namespace Rx.S
open Go Rx Go.Proofs
set_option maxRecDepth 100000
set_option maxHeartbeats 4000000
set_option linter.unusedVariables false
def c_conf_Later : Ctr := { f := 54, ps := [.c false [.int .i64]], rs := [(false, [.int .i64])], ok := fun _ => true }
noncomputable def fns_conf_Later : List (Nat × Func) := [(54, Try.f54), (130, Try.f130)]
theorem fnsOk_conf_Later : FnsAll Try.prog fns_conf_Later := ⟨fn54, fn130, trivial⟩
noncomputable def X_conf_Later : Ctx := { tys := tys, eqs := eqs, fns := fun f => look f fns_conf_Later, ctr := [(130, c_conf_time)], lim := 30, big := [], lps := [] }
theorem xok_conf_Later : XL Try.prog T X_conf_Later where
  tys := tysOk
  eqs := eqsOk
  mixed := mixed
  ctr := ctrsOK_of ⟨⟨rfl, ctr_conf_time⟩, trivial⟩
  fns := fnsOK_of fnsOk_conf_Later
  big := bigsOK_of trivial
  lps := lps_nil rfl
theorem ctr_conf_Later : CtrOK Try.prog T c_conf_Later := ctr_of xok_conf_Later widths (g := g_conf_Later) (ls := [V 2]) (by kernel_rfl) (fun aq => by rw [show c_conf_Later.f = 54 from rfl, T_54]; rfl) fun aq e h1 h2 h3 => by
  subst h1
  rw [show c_conf_Later.f = 54 from rfl, T_54] at h2 ⊢
  obtain ⟨ho, hr⟩ := pure_conf_Later e h3 h2
  have r0 := hr
  refine ⟨⟨ho, trivial⟩, ?_⟩
  show semMany [.int .i64] (t_54 _).2 = semMany [.int .i64] [L.ev e (V 2)]
  exact (semI r0 rfl)
end Rx.S
namespace Rx.S
open Go Rx Go.Proofs
set_option maxRecDepth 100000
set_option maxHeartbeats 4000000
set_option linter.unusedVariables false
def c_conf_Listen : Ctr := { f := 41, ps := [.c false [.int .i64], .c false [.int .i64]], rs := [(false, [.int .i64]), (false, [.int .i64])], ok := fun _ => true }
noncomputable def fns_conf_Listen : List (Nat × Func) := [(41, Try.f41), (129, Try.f129)]
theorem fnsOk_conf_Listen : FnsAll Try.prog fns_conf_Listen := ⟨fn41, fn129, trivial⟩
noncomputable def X_conf_Listen : Ctx := { tys := tys, eqs := eqs, fns := fun f => look f fns_conf_Listen, ctr := [(129, c_conf_own)], lim := 30, big := [], lps := [] }
theorem xok_conf_Listen : XL Try.prog T X_conf_Listen where
  tys := tysOk
  eqs := eqsOk
  mixed := mixed
  ctr := ctrsOK_of ⟨⟨rfl, ctr_conf_own⟩, trivial⟩
  fns := fnsOK_of fnsOk_conf_Listen
  big := bigsOK_of trivial
  lps := lps_nil rfl
theorem ctr_conf_Listen : CtrOK Try.prog T c_conf_Listen := ctr_of xok_conf_Listen widths (g := g_conf_Listen) (ls := [V 3, V 4]) (by kernel_rfl) (fun aq => by rw [show c_conf_Listen.f = 41 from rfl, T_41]; rfl) fun aq e h1 h2 h3 => by
  subst h1
  rw [show c_conf_Listen.f = 41 from rfl, T_41] at h2 ⊢
  obtain ⟨ho, hr⟩ := pure_conf_Listen e h3 h2
  obtain ⟨r0, r1⟩ := hr
  refine ⟨⟨ho, trivial⟩, ?_⟩
  show semMany [.int .i64, .int .i64] (t_41 _).2 = semMany [.int .i64, .int .i64] [L.ev e (V 3), L.ev e (V 4)]
  exact (semI r0 (semI r1 rfl))
end Rx.S
namespace Rx.S
open Go Rx Go.Proofs
set_option maxRecDepth 100000
set_option maxHeartbeats 4000000
set_option linter.unusedVariables false
def c_conf_Stable : Ctr := { f := 47, ps := [.c false [.int .i64]], rs := [(false, [.int .i64])], ok := fun _ => true }
noncomputable def fns_conf_Stable : List (Nat × Func) := [(47, Try.f47), (130, Try.f130)]
theorem fnsOk_conf_Stable : FnsAll Try.prog fns_conf_Stable := ⟨fn47, fn130, trivial⟩
noncomputable def X_conf_Stable : Ctx := { tys := tys, eqs := eqs, fns := fun f => look f fns_conf_Stable, ctr := [(130, c_conf_time)], lim := 30, big := [], lps := [] }
theorem xok_conf_Stable : XL Try.prog T X_conf_Stable where
  tys := tysOk
  eqs := eqsOk
  mixed := mixed
  ctr := ctrsOK_of ⟨⟨rfl, ctr_conf_time⟩, trivial⟩
  fns := fnsOK_of fnsOk_conf_Stable
  big := bigsOK_of trivial
  lps := lps_nil rfl
theorem ctr_conf_Stable : CtrOK Try.prog T c_conf_Stable := ctr_of xok_conf_Stable widths (g := g_conf_Stable) (ls := [V 2]) (by kernel_rfl) (fun aq => by rw [show c_conf_Stable.f = 47 from rfl, T_47]; rfl) fun aq e h1 h2 h3 => by
  subst h1
  rw [show c_conf_Stable.f = 47 from rfl, T_47] at h2 ⊢
  obtain ⟨ho, hr⟩ := pure_conf_Stable e h3 h2
  have r0 := hr
  refine ⟨⟨ho, trivial⟩, ?_⟩
  show semMany [.int .i64] (t_47 _).2 = semMany [.int .i64] [L.ev e (V 2)]
  exact (semI r0 rfl)
end Rx.S
namespace Rx.S
open Go Rx Go.Proofs
set_option maxRecDepth 100000
set_option maxHeartbeats 4000000
set_option linter.unusedVariables false
def c_conf_Start : Ctr := { f := 46, ps := [.c false [.int .i64]], rs := [(false, [.int .i64])], ok := fun _ => true }
noncomputable def fns_conf_Start : List (Nat × Func) := [(46, Try.f46), (130, Try.f130)]
theorem fnsOk_conf_Start : FnsAll Try.prog fns_conf_Start := ⟨fn46, fn130, trivial⟩
noncomputable def X_conf_Start : Ctx := { tys := tys, eqs := eqs, fns := fun f => look f fns_conf_Start, ctr := [(130, c_conf_time)], lim := 30, big := [], lps := [] }
theorem xok_conf_Start : XL Try.prog T X_conf_Start where
  tys := tysOk
  eqs := eqsOk
  mixed := mixed
  ctr := ctrsOK_of ⟨⟨rfl, ctr_conf_time⟩, trivial⟩
  fns := fnsOK_of fnsOk_conf_Start
  big := bigsOK_of trivial
  lps := lps_nil rfl
theorem ctr_conf_Start : CtrOK Try.prog T c_conf_Start := ctr_of xok_conf_Start widths (g := g_conf_Start) (ls := [V 2]) (by kernel_rfl) (fun aq => by rw [show c_conf_Start.f = 46 from rfl, T_46]; rfl) fun aq e h1 h2 h3 => by
  subst h1
  rw [show c_conf_Start.f = 46 from rfl, T_46] at h2 ⊢
  obtain ⟨ho, hr⟩ := pure_conf_Start e h3 h2
  have r0 := hr
  refine ⟨⟨ho, trivial⟩, ?_⟩
  show semMany [.int .i64] (t_46 _).2 = semMany [.int .i64] [L.ev e (V 2)]
  exact (semI r0 rfl)
end Rx.S
namespace Rx.S
open Go Rx Go.Proofs
set_option maxRecDepth 100000
set_option maxHeartbeats 4000000
set_option linter.unusedVariables false
def c_conf_Watch : Ctr := { f := 45, ps := [.c false [.int .i64]], rs := [(false, [.int .i64])], ok := fun _ => true }
noncomputable def fns_conf_Watch : List (Nat × Func) := [(45, Try.f45), (130, Try.f130)]
theorem fnsOk_conf_Watch : FnsAll Try.prog fns_conf_Watch := ⟨fn45, fn130, trivial⟩
noncomputable def X_conf_Watch : Ctx := { tys := tys, eqs := eqs, fns := fun f => look f fns_conf_Watch, ctr := [(130, c_conf_time)], lim := 30, big := [], lps := [] }
theorem xok_conf_Watch : XL Try.prog T X_conf_Watch where
  tys := tysOk
  eqs := eqsOk
  mixed := mixed
  ctr := ctrsOK_of ⟨⟨rfl, ctr_conf_time⟩, trivial⟩
  fns := fnsOK_of fnsOk_conf_Watch
  big := bigsOK_of trivial
  lps := lps_nil rfl
theorem ctr_conf_Watch : CtrOK Try.prog T c_conf_Watch := ctr_of xok_conf_Watch widths (g := g_conf_Watch) (ls := [V 2]) (by kernel_rfl) (fun aq => by rw [show c_conf_Watch.f = 45 from rfl, T_45]; rfl) fun aq e h1 h2 h3 => by
  subst h1
  rw [show c_conf_Watch.f = 45 from rfl, T_45] at h2 ⊢
  obtain ⟨ho, hr⟩ := pure_conf_Watch e h3 h2
  have r0 := hr
  refine ⟨⟨ho, trivial⟩, ?_⟩
  show semMany [.int .i64] (t_45 _).2 = semMany [.int .i64] [L.ev e (V 2)]
  exact (semI r0 rfl)
end Rx.S
namespace Rx.S
open Go Rx Go.Proofs
set_option maxRecDepth 100000
set_option maxHeartbeats 4000000
set_option linter.unusedVariables false
def c_ref03_Right : Ctr := { f := 51, ps := [.c false [.int .i64]], rs := [(false, [.bool])], ok := fun _ => true }
noncomputable def fns_ref03_Right : List (Nat × Func) := [(51, Try.f51)]
theorem fnsOk_ref03_Right : FnsAll Try.prog fns_ref03_Right := ⟨fn51, trivial⟩
noncomputable def X_ref03_Right : Ctx := { tys := tys, eqs := eqs, fns := fun f => look f fns_ref03_Right, ctr := [], lim := 30, big := [], lps := [] }
theorem xok_ref03_Right : XL Try.prog T X_ref03_Right where
  tys := tysOk
  eqs := eqsOk
  mixed := mixed
  ctr := ctrsOK_of trivial
  fns := fnsOK_of fnsOk_ref03_Right
  big := bigsOK_of trivial
  lps := lps_nil rfl
theorem ctr_ref03_Right : CtrOK Try.prog T c_ref03_Right := ctr_of xok_ref03_Right widths (g := g_ref03_Right) (ls := [V 3]) (by kernel_rfl) (fun aq => by rw [show c_ref03_Right.f = 51 from rfl, T_51]; rfl) fun aq e h1 h2 h3 => by
  subst h1
  rw [show c_ref03_Right.f = 51 from rfl, T_51] at h2 ⊢
  obtain ⟨ho, hr⟩ := pure_ref03_Right e h3 h2
  have r0 := hr
  refine ⟨trivial, ?_⟩
  show semMany [.bool] (t_51 _).2 = semMany [.bool] [L.ev e (V 3)]
  exact (semB r0 rfl)
end Rx.S
namespace Rx.S
open Go Rx Go.Proofs
set_option maxRecDepth 100000
set_option maxHeartbeats 4000000
set_option linter.unusedVariables false
def c_ref03_times : Ctr := { f := 132, ps := [.c false [.int .i64], .c false [.int .i64]], rs := [(false, [.int .i64])], ok := fun _ => true }
noncomputable def fns_ref03_times : List (Nat × Func) := [(132, Try.f132), (51, Try.f51)]
theorem fnsOk_ref03_times : FnsAll Try.prog fns_ref03_times := ⟨fn132, fn51, trivial⟩
noncomputable def X_ref03_times : Ctx := { tys := tys, eqs := eqs, fns := fun f => look f fns_ref03_times, ctr := [(51, c_ref03_Right)], lim := 30, big := [], lps := [] }
theorem xok_ref03_times : XL Try.prog T X_ref03_times where
  tys := tysOk
  eqs := eqsOk
  mixed := mixed
  ctr := ctrsOK_of ⟨⟨rfl, ctr_ref03_Right⟩, trivial⟩
  fns := fnsOK_of fnsOk_ref03_times
  big := bigsOK_of trivial
  lps := lps_nil rfl
theorem ctr_ref03_times : CtrOK Try.prog T c_ref03_times := ctr_of xok_ref03_times widths (g := g_ref03_times) (ls := [V 8]) (by kernel_rfl) (fun aq => by rw [show c_ref03_times.f = 132 from rfl, T_132]; rfl) fun aq e h1 h2 h3 => by
  subst h1
  rw [show c_ref03_times.f = 132 from rfl, T_132] at h2 ⊢
  obtain ⟨ho, hr⟩ := pure_ref03_times e h3 h2
  have r0 := hr
  refine ⟨⟨ho, trivial⟩, ?_⟩
  show semMany [.int .i64] (t_132 _).2 = semMany [.int .i64] [L.ev e (V 8)]
  exact (semI r0 rfl)
end Rx.S
namespace Rx.S
open Go Rx Go.Proofs
set_option maxRecDepth 100000
set_option maxHeartbeats 4000000
set_option linter.unusedVariables false
def c_ref03_Block : Ctr := { f := 52, ps := [.c false [.int .i64]], rs := [(false, [.int .i64])], ok := fun _ => true }
noncomputable def fns_ref03_Block : List (Nat × Func) := [(52, Try.f52), (132, Try.f132)]
theorem fnsOk_ref03_Block : FnsAll Try.prog fns_ref03_Block := ⟨fn52, fn132, trivial⟩
noncomputable def X_ref03_Block : Ctx := { tys := tys, eqs := eqs, fns := fun f => look f fns_ref03_Block, ctr := [(132, c_ref03_times)], lim := 30, big := [], lps := [] }
theorem xok_ref03_Block : XL Try.prog T X_ref03_Block where
  tys := tysOk
  eqs := eqsOk
  mixed := mixed
  ctr := ctrsOK_of ⟨⟨rfl, ctr_ref03_times⟩, trivial⟩
  fns := fnsOK_of fnsOk_ref03_Block
  big := bigsOK_of trivial
  lps := lps_nil rfl
theorem ctr_ref03_Block : CtrOK Try.prog T c_ref03_Block := ctr_of xok_ref03_Block widths (g := g_ref03_Block) (ls := [V 2]) (by kernel_rfl) (fun aq => by rw [show c_ref03_Block.f = 52 from rfl, T_52]; rfl) fun aq e h1 h2 h3 => by
  subst h1
  rw [show c_ref03_Block.f = 52 from rfl, T_52] at h2 ⊢
  obtain ⟨ho, hr⟩ := pure_ref03_Block e h3 h2
  have r0 := hr
  refine ⟨⟨ho, trivial⟩, ?_⟩
  show semMany [.int .i64] (t_52 _).2 = semMany [.int .i64] [L.ev e (V 2)]
  exact (semI r0 rfl)
end Rx.S
namespace Rx.S
open Go Rx Go.Proofs
set_option maxRecDepth 100000
set_option maxHeartbeats 4000000
set_option linter.unusedVariables false
def c_ref03_of : Ctr := { f := 131, ps := [.c false [.int .i64], .c false [.int .i64], .c false [.int .i64]], rs := [(false, [.int .i64]), (false, [.int .i64])], ok := fun _ => true }
noncomputable def fns_ref03_of : List (Nat × Func) := [(131, Try.f131), (51, Try.f51)]
theorem fnsOk_ref03_of : FnsAll Try.prog fns_ref03_of := ⟨fn131, fn51, trivial⟩
noncomputable def X_ref03_of : Ctx := { tys := tys, eqs := eqs, fns := fun f => look f fns_ref03_of, ctr := [(51, c_ref03_Right)], lim := 30, big := [], lps := [] }
theorem xok_ref03_of : XL Try.prog T X_ref03_of where
  tys := tysOk
  eqs := eqsOk
  mixed := mixed
  ctr := ctrsOK_of ⟨⟨rfl, ctr_ref03_Right⟩, trivial⟩
  fns := fnsOK_of fnsOk_ref03_of
  big := bigsOK_of trivial
  lps := lps_nil rfl
theorem ctr_ref03_of : CtrOK Try.prog T c_ref03_of := ctr_of xok_ref03_of widths (g := g_ref03_of) (ls := [V 25, V 26]) (by kernel_rfl) (fun aq => by rw [show c_ref03_of.f = 131 from rfl, T_131]; rfl) fun aq e h1 h2 h3 => by
  subst h1
  rw [show c_ref03_of.f = 131 from rfl, T_131] at h2 ⊢
  obtain ⟨ho, hr⟩ := pure_ref03_of e h3 h2
  obtain ⟨r0, r1⟩ := hr
  refine ⟨⟨ho, trivial⟩, ?_⟩
  show semMany [.int .i64, .int .i64] (t_131 _).2 = semMany [.int .i64, .int .i64] [L.ev e (V 25), L.ev e (V 26)]
  exact (semI r0 (semI r1 rfl))
end Rx.S
namespace Rx.S
open Go Rx Go.Proofs
set_option maxRecDepth 100000
set_option maxHeartbeats 4000000
set_option linter.unusedVariables false
def c_ref03_Cold : Ctr := { f := 49, ps := [.c false [.int .i64], .c false [.int .i64]], rs := [(false, [.int .i64]), (false, [.int .i64])], ok := fun _ => true }
noncomputable def fns_ref03_Cold : List (Nat × Func) := [(49, Try.f49), (131, Try.f131)]
theorem fnsOk_ref03_Cold : FnsAll Try.prog fns_ref03_Cold := ⟨fn49, fn131, trivial⟩
noncomputable def X_ref03_Cold : Ctx := { tys := tys, eqs := eqs, fns := fun f => look f fns_ref03_Cold, ctr := [(131, c_ref03_of)], lim := 30, big := [], lps := [] }
theorem xok_ref03_Cold : XL Try.prog T X_ref03_Cold where
  tys := tysOk
  eqs := eqsOk
  mixed := mixed
  ctr := ctrsOK_of ⟨⟨rfl, ctr_ref03_of⟩, trivial⟩
  fns := fnsOK_of fnsOk_ref03_Cold
  big := bigsOK_of trivial
  lps := lps_nil rfl
theorem ctr_ref03_Cold : CtrOK Try.prog T c_ref03_Cold := ctr_of xok_ref03_Cold widths (g := g_ref03_Cold) (ls := [V 3, V 4]) (by kernel_rfl) (fun aq => by rw [show c_ref03_Cold.f = 49 from rfl, T_49]; rfl) fun aq e h1 h2 h3 => by
  subst h1
  rw [show c_ref03_Cold.f = 49 from rfl, T_49] at h2 ⊢
  obtain ⟨ho, hr⟩ := pure_ref03_Cold e h3 h2
  obtain ⟨r0, r1⟩ := hr
  refine ⟨⟨ho, trivial⟩, ?_⟩
  show semMany [.int .i64, .int .i64] (t_49 _).2 = semMany [.int .i64, .int .i64] [L.ev e (V 3), L.ev e (V 4)]
  exact (semI r0 (semI r1 rfl))
end Rx.S
namespace Rx.S
open Go Rx Go.Proofs
set_option maxRecDepth 100000
set_option maxHeartbeats 4000000
set_option linter.unusedVariables false
def c_ref03_Later : Ctr := { f := 55, ps := [.c false [.int .i64]], rs := [(false, [.int .i64])], ok := fun _ => true }
noncomputable def fns_ref03_Later : List (Nat × Func) := [(55, Try.f55), (132, Try.f132)]
theorem fnsOk_ref03_Later : FnsAll Try.prog fns_ref03_Later := ⟨fn55, fn132, trivial⟩
noncomputable def X_ref03_Later : Ctx := { tys := tys, eqs := eqs, fns := fun f => look f fns_ref03_Later, ctr := [(132, c_ref03_times)], lim := 30, big := [], lps := [] }
theorem xok_ref03_Later : XL Try.prog T X_ref03_Later where
  tys := tysOk
  eqs := eqsOk
  mixed := mixed
  ctr := ctrsOK_of ⟨⟨rfl, ctr_ref03_times⟩, trivial⟩
  fns := fnsOK_of fnsOk_ref03_Later
  big := bigsOK_of trivial
  lps := lps_nil rfl
theorem ctr_ref03_Later : CtrOK Try.prog T c_ref03_Later := ctr_of xok_ref03_Later widths (g := g_ref03_Later) (ls := [V 2]) (by kernel_rfl) (fun aq => by rw [show c_ref03_Later.f = 55 from rfl, T_55]; rfl) fun aq e h1 h2 h3 => by
  subst h1
  rw [show c_ref03_Later.f = 55 from rfl, T_55] at h2 ⊢
  obtain ⟨ho, hr⟩ := pure_ref03_Later e h3 h2
  have r0 := hr
  refine ⟨⟨ho, trivial⟩, ?_⟩
  show semMany [.int .i64] (t_55 _).2 = semMany [.int .i64] [L.ev e (V 2)]
  exact (semI r0 rfl)
end Rx.S
namespace Rx.S
open Go Rx Go.Proofs
set_option maxRecDepth 100000
set_option maxHeartbeats 4000000
set_option linter.unusedVariables false
def c_ref03_Listen : Ctr := { f := 48, ps := [.c false [.int .i64], .c false [.int .i64]], rs := [(false, [.int .i64]), (false, [.int .i64])], ok := fun _ => true }
noncomputable def fns_ref03_Listen : List (Nat × Func) := [(48, Try.f48), (131, Try.f131)]
theorem fnsOk_ref03_Listen : FnsAll Try.prog fns_ref03_Listen := ⟨fn48, fn131, trivial⟩
noncomputable def X_ref03_Listen : Ctx := { tys := tys, eqs := eqs, fns := fun f => look f fns_ref03_Listen, ctr := [(131, c_ref03_of)], lim := 30, big := [], lps := [] }
theorem xok_ref03_Listen : XL Try.prog T X_ref03_Listen where
  tys := tysOk
  eqs := eqsOk
  mixed := mixed
  ctr := ctrsOK_of ⟨⟨rfl, ctr_ref03_of⟩, trivial⟩
  fns := fnsOK_of fnsOk_ref03_Listen
  big := bigsOK_of trivial
  lps := lps_nil rfl
theorem ctr_ref03_Listen : CtrOK Try.prog T c_ref03_Listen := ctr_of xok_ref03_Listen widths (g := g_ref03_Listen) (ls := [V 3, V 4]) (by kernel_rfl) (fun aq => by rw [show c_ref03_Listen.f = 48 from rfl, T_48]; rfl) fun aq e h1 h2 h3 => by
  subst h1
  rw [show c_ref03_Listen.f = 48 from rfl, T_48] at h2 ⊢
  obtain ⟨ho, hr⟩ := pure_ref03_Listen e h3 h2
  obtain ⟨r0, r1⟩ := hr
  refine ⟨⟨ho, trivial⟩, ?_⟩
  show semMany [.int .i64, .int .i64] (t_48 _).2 = semMany [.int .i64, .int .i64] [L.ev e (V 3), L.ev e (V 4)]
  exact (semI r0 (semI r1 rfl))
end Rx.S
namespace Rx.S
open Go Rx Go.Proofs
set_option maxRecDepth 100000
set_option maxHeartbeats 4000000
set_option linter.unusedVariables false
def c_ref03_Stable : Ctr := { f := 57, ps := [.c false [.int .i64]], rs := [(false, [.int .i64])], ok := fun _ => true }
noncomputable def fns_ref03_Stable : List (Nat × Func) := [(57, Try.f57), (132, Try.f132)]
theorem fnsOk_ref03_Stable : FnsAll Try.prog fns_ref03_Stable := ⟨fn57, fn132, trivial⟩
noncomputable def X_ref03_Stable : Ctx := { tys := tys, eqs := eqs, fns := fun f => look f fns_ref03_Stable, ctr := [(132, c_ref03_times)], lim := 30, big := [], lps := [] }
theorem xok_ref03_Stable : XL Try.prog T X_ref03_Stable where
  tys := tysOk
  eqs := eqsOk
  mixed := mixed
  ctr := ctrsOK_of ⟨⟨rfl, ctr_ref03_times⟩, trivial⟩
  fns := fnsOK_of fnsOk_ref03_Stable
  big := bigsOK_of trivial
  lps := lps_nil rfl
theorem ctr_ref03_Stable : CtrOK Try.prog T c_ref03_Stable := ctr_of xok_ref03_Stable widths (g := g_ref03_Stable) (ls := [V 2]) (by kernel_rfl) (fun aq => by rw [show c_ref03_Stable.f = 57 from rfl, T_57]; rfl) fun aq e h1 h2 h3 => by
  subst h1
  rw [show c_ref03_Stable.f = 57 from rfl, T_57] at h2 ⊢
  obtain ⟨ho, hr⟩ := pure_ref03_Stable e h3 h2
  have r0 := hr
  refine ⟨⟨ho, trivial⟩, ?_⟩
  show semMany [.int .i64] (t_57 _).2 = semMany [.int .i64] [L.ev e (V 2)]
  exact (semI r0 rfl)
end Rx.S
namespace Rx.S
open Go Rx Go.Proofs
set_option maxRecDepth 100000
set_option maxHeartbeats 4000000
set_option linter.unusedVariables false
def c_ref03_Start : Ctr := { f := 56, ps := [.c false [.int .i64]], rs := [(false, [.int .i64])], ok := fun _ => true }
noncomputable def fns_ref03_Start : List (Nat × Func) := [(56, Try.f56), (132, Try.f132)]
theorem fnsOk_ref03_Start : FnsAll Try.prog fns_ref03_Start := ⟨fn56, fn132, trivial⟩
noncomputable def X_ref03_Start : Ctx := { tys := tys, eqs := eqs, fns := fun f => look f fns_ref03_Start, ctr := [(132, c_ref03_times)], lim := 30, big := [], lps := [] }
theorem xok_ref03_Start : XL Try.prog T X_ref03_Start where
  tys := tysOk
  eqs := eqsOk
  mixed := mixed
  ctr := ctrsOK_of ⟨⟨rfl, ctr_ref03_times⟩, trivial⟩
  fns := fnsOK_of fnsOk_ref03_Start
  big := bigsOK_of trivial
  lps := lps_nil rfl
theorem ctr_ref03_Start : CtrOK Try.prog T c_ref03_Start := ctr_of xok_ref03_Start widths (g := g_ref03_Start) (ls := [V 2]) (by kernel_rfl) (fun aq => by rw [show c_ref03_Start.f = 56 from rfl, T_56]; rfl) fun aq e h1 h2 h3 => by
  subst h1
  rw [show c_ref03_Start.f = 56 from rfl, T_56] at h2 ⊢
  obtain ⟨ho, hr⟩ := pure_ref03_Start e h3 h2
  have r0 := hr
  refine ⟨⟨ho, trivial⟩, ?_⟩
  show semMany [.int .i64] (t_56 _).2 = semMany [.int .i64] [L.ev e (V 2)]
  exact (semI r0 rfl)
end Rx.S
namespace Rx.S
open Go Rx Go.Proofs
set_option maxRecDepth 100000
set_option maxHeartbeats 4000000
set_option linter.unusedVariables false
def c_ref03_Watch : Ctr := { f := 53, ps := [.c false [.int .i64]], rs := [(false, [.int .i64])], ok := fun _ => true }
noncomputable def fns_ref03_Watch : List (Nat × Func) := [(53, Try.f53), (132, Try.f132)]
theorem fnsOk_ref03_Watch : FnsAll Try.prog fns_ref03_Watch := ⟨fn53, fn132, trivial⟩
noncomputable def X_ref03_Watch : Ctx := { tys := tys, eqs := eqs, fns := fun f => look f fns_ref03_Watch, ctr := [(132, c_ref03_times)], lim := 30, big := [], lps := [] }
theorem xok_ref03_Watch : XL Try.prog T X_ref03_Watch where
  tys := tysOk
  eqs := eqsOk
  mixed := mixed
  ctr := ctrsOK_of ⟨⟨rfl, ctr_ref03_times⟩, trivial⟩
  fns := fnsOK_of fnsOk_ref03_Watch
  big := bigsOK_of trivial
  lps := lps_nil rfl
theorem ctr_ref03_Watch : CtrOK Try.prog T c_ref03_Watch := ctr_of xok_ref03_Watch widths (g := g_ref03_Watch) (ls := [V 2]) (by kernel_rfl) (fun aq => by rw [show c_ref03_Watch.f = 53 from rfl, T_53]; rfl) fun aq e h1 h2 h3 => by
  subst h1
  rw [show c_ref03_Watch.f = 53 from rfl, T_53] at h2 ⊢
  obtain ⟨ho, hr⟩ := pure_ref03_Watch e h3 h2
  have r0 := hr
  refine ⟨⟨ho, trivial⟩, ?_⟩
  show semMany [.int .i64] (t_53 _).2 = semMany [.int .i64] [L.ev e (V 2)]
  exact (semI r0 rfl)
end Rx.S
