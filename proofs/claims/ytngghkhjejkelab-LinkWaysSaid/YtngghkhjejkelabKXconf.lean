import Derived.Test.YtngghkhjejkelabKXe
import Derived.Test.YtngghkhjejkelabKXm
import Derived.Test.YtngghkhjejkelabKXt
import Derived.Test.YtngghkhjejkelabKYconf
set_option linter.unusedVariables false
set_option linter.unusedSimpArgs false
namespace Rx.S
open Go Rx Go.Proofs
set_option maxRecDepth 100000
set_option maxHeartbeats 4000000
def c_ref03_Right : Ctr := { f := 18, ps := [.c false [.int .i64]], rs := [(false, [.bool])], ok := fun _ => true }
noncomputable def fns_ref03_Right : List (Nat × Func) := [(18, Try.f18)]
theorem fnsOk_ref03_Right : FnsAll Try.prog fns_ref03_Right := ⟨fn18, trivial⟩
noncomputable def X_ref03_Right : Ctx := { tys := tys, eqs := eqs, fns := fun f => look f fns_ref03_Right, ctr := [], lim := 30, big := [], lps := [] }
theorem xok_ref03_Right : XL Try.prog T X_ref03_Right where
 tys := tysOk
 eqs := eqsOk
 mixed := mixed
 ctr := ctrsOK_of trivial
 fns := fnsOK_of fnsOk_ref03_Right
 big := bigsOK_of trivial
 lps := lps_nil rfl
theorem ctr_ref03_Right : CtrOK Try.prog T c_ref03_Right := ctr_of xok_ref03_Right widths (g := g_ref03_Right) (ls := [V 3]) (by kernel_rfl) (fun aq => by rw [show c_ref03_Right.f = 18 from rfl, T_18]; rfl) fun aq e h1 h2 h3 => by
 subst h1
 rw [show c_ref03_Right.f = 18 from rfl, T_18] at h2 ⊢
 obtain ⟨ho, hr⟩ := pure_ref03_Right e h3 h2
 have r0 := hr
 refine ⟨trivial, ?_⟩
 show semMany [.bool] (t_18 _).2 = semMany [.bool] [L.ev e (V 3)]
 exact (semB r0 rfl)
def c_ref03_times : Ctr := { f := 32, ps := [.c false [.int .i64], .c false [.int .i64]], rs := [(false, [.int .i64])], ok := fun _ => true }
noncomputable def fns_ref03_times : List (Nat × Func) := [(32, Try.f32), (18, Try.f18)]
theorem fnsOk_ref03_times : FnsAll Try.prog fns_ref03_times := ⟨fn32, fn18, trivial⟩
noncomputable def X_ref03_times : Ctx := { tys := tys, eqs := eqs, fns := fun f => look f fns_ref03_times, ctr := [(18, c_ref03_Right)], lim := 30, big := [], lps := [] }
theorem xok_ref03_times : XL Try.prog T X_ref03_times where
 tys := tysOk
 eqs := eqsOk
 mixed := mixed
 ctr := ctrsOK_of ⟨⟨rfl, ctr_ref03_Right⟩, trivial⟩
 fns := fnsOK_of fnsOk_ref03_times
 big := bigsOK_of trivial
 lps := lps_nil rfl
theorem ctr_ref03_times : CtrOK Try.prog T c_ref03_times := ctr_of xok_ref03_times widths (g := g_ref03_times) (ls := [V 8]) (by kernel_rfl) (fun aq => by rw [show c_ref03_times.f = 32 from rfl, T_32]; rfl) fun aq e h1 h2 h3 => by
 subst h1
 rw [show c_ref03_times.f = 32 from rfl, T_32] at h2 ⊢
 obtain ⟨ho, hr⟩ := pure_ref03_times e h3 h2
 have r0 := hr
 refine ⟨⟨ho, trivial⟩, ?_⟩
 show semMany [.int .i64] (t_32 _).2 = semMany [.int .i64] [L.ev e (V 8)]
 exact (semI r0 rfl)
def c_ref03_Block : Ctr := { f := 20, ps := [.c false [.int .i64]], rs := [(false, [.int .i64])], ok := fun _ => true }
noncomputable def fns_ref03_Block : List (Nat × Func) := [(20, Try.f20), (32, Try.f32)]
theorem fnsOk_ref03_Block : FnsAll Try.prog fns_ref03_Block := ⟨fn20, fn32, trivial⟩
noncomputable def X_ref03_Block : Ctx := { tys := tys, eqs := eqs, fns := fun f => look f fns_ref03_Block, ctr := [(32, c_ref03_times)], lim := 30, big := [], lps := [] }
theorem xok_ref03_Block : XL Try.prog T X_ref03_Block where
 tys := tysOk
 eqs := eqsOk
 mixed := mixed
 ctr := ctrsOK_of ⟨⟨rfl, ctr_ref03_times⟩, trivial⟩
 fns := fnsOK_of fnsOk_ref03_Block
 big := bigsOK_of trivial
 lps := lps_nil rfl
theorem ctr_ref03_Block : CtrOK Try.prog T c_ref03_Block := ctr_of xok_ref03_Block widths (g := g_ref03_Block) (ls := [V 2]) (by kernel_rfl) (fun aq => by rw [show c_ref03_Block.f = 20 from rfl, T_20]; rfl) fun aq e h1 h2 h3 => by
 subst h1
 rw [show c_ref03_Block.f = 20 from rfl, T_20] at h2 ⊢
 obtain ⟨ho, hr⟩ := pure_ref03_Block e h3 h2
 have r0 := hr
 refine ⟨⟨ho, trivial⟩, ?_⟩
 show semMany [.int .i64] (t_20 _).2 = semMany [.int .i64] [L.ev e (V 2)]
 exact (semI r0 rfl)
end Rx.S
namespace Rx.S
open Go Rx Go.Proofs Go.RowKit
set_option maxRecDepth 100000
def kb (l : List UInt8) (n : Int) (c : Nat) : MapEntry := { key := .string ⟨l.toArray⟩, val := .int .i64 n, born := c }
def ES : Array MapEntry := #[kb [98, 108, 111, 99, 107] 2 0, kb [119, 97, 116, 99, 104] 8 1, kb [108, 97, 116, 101, 114] 3 2, kb [115, 116, 97, 114, 116] 40 3, kb [115, 116, 97, 98, 108, 101] 96 4, kb [108, 105, 115, 116, 101, 110] 4 5, kb [99, 111, 108, 100] 2 6]
theorem ins0 (w : World) : (Instr.mapUpdate 83 (.map (some w.heap.size)) (.string { data := #[98, 108, 111, 99, 107] }) (.int .i64 2)).run Try.prog (w.alloc (.map #[] 0)) = .ok () (w.alloc (.map #[kb [98, 108, 111, 99, 107] 2 0] 1)) :=
 run_insert_new w (t := 83) (k := 9) (e := 3) Try.underlying83 #[] 0 _ _ Try.underlying9 trivial (by kernel_rfl)
theorem ins1 (w : World) : (Instr.mapUpdate 83 (.map (some w.heap.size)) (.string { data := #[119, 97, 116, 99, 104] }) (.int .i64 8)).run Try.prog (w.alloc (.map #[kb [98, 108, 111, 99, 107] 2 0] 1)) = .ok () (w.alloc (.map #[kb [98, 108, 111, 99, 107] 2 0, kb [119, 97, 116, 99, 104] 8 1] 2)) :=
 run_insert_new w (t := 83) (k := 9) (e := 3) Try.underlying83 #[kb [98, 108, 111, 99, 107] 2 0] 1 _ _ Try.underlying9 trivial (by kernel_rfl)
theorem ins2 (w : World) : (Instr.mapUpdate 83 (.map (some w.heap.size)) (.string { data := #[108, 97, 116, 101, 114] }) (.int .i64 3)).run Try.prog (w.alloc (.map #[kb [98, 108, 111, 99, 107] 2 0, kb [119, 97, 116, 99, 104] 8 1] 2)) = .ok () (w.alloc (.map #[kb [98, 108, 111, 99, 107] 2 0, kb [119, 97, 116, 99, 104] 8 1, kb [108, 97, 116, 101, 114] 3 2] 3)) :=
 run_insert_new w (t := 83) (k := 9) (e := 3) Try.underlying83 #[kb [98, 108, 111, 99, 107] 2 0, kb [119, 97, 116, 99, 104] 8 1] 2 _ _ Try.underlying9 trivial (by kernel_rfl)
theorem ins3 (w : World) : (Instr.mapUpdate 83 (.map (some w.heap.size)) (.string { data := #[115, 116, 97, 114, 116] }) (.int .i64 40)).run Try.prog (w.alloc (.map #[kb [98, 108, 111, 99, 107] 2 0, kb [119, 97, 116, 99, 104] 8 1, kb [108, 97, 116, 101, 114] 3 2] 3)) = .ok () (w.alloc (.map #[kb [98, 108, 111, 99, 107] 2 0, kb [119, 97, 116, 99, 104] 8 1, kb [108, 97, 116, 101, 114] 3 2, kb [115, 116, 97, 114, 116] 40 3] 4)) :=
 run_insert_new w (t := 83) (k := 9) (e := 3) Try.underlying83 #[kb [98, 108, 111, 99, 107] 2 0, kb [119, 97, 116, 99, 104] 8 1, kb [108, 97, 116, 101, 114] 3 2] 3 _ _ Try.underlying9 trivial (by kernel_rfl)
theorem ins4 (w : World) : (Instr.mapUpdate 83 (.map (some w.heap.size)) (.string { data := #[115, 116, 97, 98, 108, 101] }) (.int .i64 96)).run Try.prog (w.alloc (.map #[kb [98, 108, 111, 99, 107] 2 0, kb [119, 97, 116, 99, 104] 8 1, kb [108, 97, 116, 101, 114] 3 2, kb [115, 116, 97, 114, 116] 40 3] 4)) = .ok () (w.alloc (.map #[kb [98, 108, 111, 99, 107] 2 0, kb [119, 97, 116, 99, 104] 8 1, kb [108, 97, 116, 101, 114] 3 2, kb [115, 116, 97, 114, 116] 40 3, kb [115, 116, 97, 98, 108, 101] 96 4] 5)) :=
 run_insert_new w (t := 83) (k := 9) (e := 3) Try.underlying83 #[kb [98, 108, 111, 99, 107] 2 0, kb [119, 97, 116, 99, 104] 8 1, kb [108, 97, 116, 101, 114] 3 2, kb [115, 116, 97, 114, 116] 40 3] 4 _ _ Try.underlying9 trivial (by kernel_rfl)
theorem ins5 (w : World) : (Instr.mapUpdate 83 (.map (some w.heap.size)) (.string { data := #[108, 105, 115, 116, 101, 110] }) (.int .i64 4)).run Try.prog (w.alloc (.map #[kb [98, 108, 111, 99, 107] 2 0, kb [119, 97, 116, 99, 104] 8 1, kb [108, 97, 116, 101, 114] 3 2, kb [115, 116, 97, 114, 116] 40 3, kb [115, 116, 97, 98, 108, 101] 96 4] 5)) = .ok () (w.alloc (.map #[kb [98, 108, 111, 99, 107] 2 0, kb [119, 97, 116, 99, 104] 8 1, kb [108, 97, 116, 101, 114] 3 2, kb [115, 116, 97, 114, 116] 40 3, kb [115, 116, 97, 98, 108, 101] 96 4, kb [108, 105, 115, 116, 101, 110] 4 5] 6)) :=
 run_insert_new w (t := 83) (k := 9) (e := 3) Try.underlying83 #[kb [98, 108, 111, 99, 107] 2 0, kb [119, 97, 116, 99, 104] 8 1, kb [108, 97, 116, 101, 114] 3 2, kb [115, 116, 97, 114, 116] 40 3, kb [115, 116, 97, 98, 108, 101] 96 4] 5 _ _ Try.underlying9 trivial (by kernel_rfl)
theorem ins6 (w : World) : (Instr.mapUpdate 83 (.map (some w.heap.size)) (.string { data := #[99, 111, 108, 100] }) (.int .i64 2)).run Try.prog (w.alloc (.map #[kb [98, 108, 111, 99, 107] 2 0, kb [119, 97, 116, 99, 104] 8 1, kb [108, 97, 116, 101, 114] 3 2, kb [115, 116, 97, 114, 116] 40 3, kb [115, 116, 97, 98, 108, 101] 96 4, kb [108, 105, 115, 116, 101, 110] 4 5] 6)) = .ok () (w.alloc (.map #[kb [98, 108, 111, 99, 107] 2 0, kb [119, 97, 116, 99, 104] 8 1, kb [108, 97, 116, 101, 114] 3 2, kb [115, 116, 97, 114, 116] 40 3, kb [115, 116, 97, 98, 108, 101] 96 4, kb [108, 105, 115, 116, 101, 110] 4 5, kb [99, 111, 108, 100] 2 6] 7)) :=
 run_insert_new w (t := 83) (k := 9) (e := 3) Try.underlying83 #[kb [98, 108, 111, 99, 107] 2 0, kb [119, 97, 116, 99, 104] 8 1, kb [108, 97, 116, 101, 114] 3 2, kb [115, 116, 97, 114, 116] 40 3, kb [115, 116, 97, 98, 108, 101] 96 4, kb [108, 105, 115, 116, 101, 110] 4 5] 6 _ _ Try.underlying9 trivial (by kernel_rfl)
theorem rounds_calls (w : World) : Calls Try.prog 67 #[] w fun e w' => e = .returned (.map (some w.heap.size)) ∧ w' = w.alloc (.map ES 7) := by
 have hmm := @run_makeMap Try.prog
 have h0 := ins0 w
 have h1 := ins1 w
 have h2 := ins2 w
 have h3 := ins3 w
 have h4 := ins4 w
 have h5 := ins5 w
 have h6 := ins6 w
 go_enter Try.func67, Try.ntmps67
 go_wp2
 go_ret
 exact ⟨rfl, rfl⟩
def c_conf_time : Ctr := { f := 56, ps := [.c false [.str], .c false [.int .i64]], rs := [(false, [.int .i64])], ok := fun _ => true }
theorem right_calls (n : Int) (w : World) : Calls Try.prog 43 #[.int .i64 n] w fun e w' => e = .returned (.bool (Day.right n)) ∧ w' = w := by
 by_cases h1 : 3 ≤ n
 ·have c1 : decide (n ≥ 3) = true := decide_eq_true h1
  by_cases h2 : n ≤ 8
  ·have c2 : decide (n ≤ 8) = true := decide_eq_true h2
   go_enter Try.func43, Try.ntmps43
   go_wp2
   go_ret
   exact ⟨by simp [Day.right, h1, h2], rfl⟩
  ·have c2 : decide (n ≤ 8) = false := decide_eq_false h2
   go_enter Try.func43, Try.ntmps43
   go_wp2
   go_ret
   exact ⟨by simp [Day.right, h1, h2], rfl⟩
 ·have c1 : decide (n ≥ 3) = false := decide_eq_false h1
  go_enter Try.func43, Try.ntmps43
  go_wp2
  go_ret
  exact ⟨by simp [Day.right]; omega, rfl⟩
theorem find_name (s : ByteArray) (h : Day.kOf s ≠ 0) : ∃ i, Instr.findNow .string (.string s) ES.toList 0 = some (some (i, .int .i64 (Day.kOf s))) := by
 obtain ⟨⟨l⟩⟩ := s
 unfold Day.kOf at h ⊢
 simp only at h ⊢
 by_cases h1 : l = [98, 108, 111, 99, 107]
 ·subst h1; exact ⟨0, by kernel_rfl⟩
 by_cases h2 : l = [119, 97, 116, 99, 104]
 ·subst h2; exact ⟨1, by kernel_rfl⟩
 by_cases h3 : l = [108, 97, 116, 101, 114]
 ·subst h3; exact ⟨2, by kernel_rfl⟩
 by_cases h4 : l = [115, 116, 97, 114, 116]
 ·subst h4; exact ⟨3, by kernel_rfl⟩
 by_cases h5 : l = [115, 116, 97, 98, 108, 101]
 ·subst h5; exact ⟨4, by kernel_rfl⟩
 by_cases h6 : l = [108, 105, 115, 116, 101, 110]
 ·subst h6; exact ⟨5, by kernel_rfl⟩
 by_cases h7 : l = [99, 111, 108, 100]
 ·subst h7; exact ⟨6, by kernel_rfl⟩
 ·exact absurd (by rw [if_neg h1, if_neg h2, if_neg h3, if_neg h4, if_neg h5, if_neg h6, if_neg h7]) h
theorem time_calls (s : ByteArray) (n : Int) (hs : Day.kOf s ≠ 0) (w : World) : Calls Try.prog 56 #[.string s, .int .i64 n] w fun e w' => e = .returned (.int .i64 (Day.times (Day.kOf s) n)) ∧ Below w.heap.size w w' := by
 obtain ⟨i, hi⟩ := find_name s hs
 have hl := run_lookup_hit (P := Try.prog) (w.alloc (.map ES 7)) (t := 83) (k := 9) (e := 3) Try.underlying83 (alloc_last w (.map ES 7)) (.string s) Try.underlying9 trivial hi false
 have hk := Day.kOf_range s
 cases hr : Day.right n with
 | false =>
  have ht : Day.times (Day.kOf s) n = 0 := by simp [Day.times, hr]
  rw [ht]
  have hc := right_calls n w
  rw [hr] at hc
  clear hl hi
  go_enter Try.func56, Try.ntmps56
  go_wp2_with (go_at_call 43; refine hc.mono ?_; rintro e w' ⟨rfl, rfl⟩)
  go_ret
  exact ⟨rfl, Below.refl _ _⟩
 | true =>
  have ht : IntKind.wrap .i64 (Day.kOf s * n) = Day.times (Day.kOf s) n := by
   simp only [Day.times, hr, if_true]
   have : 3 ≤ n ∧ n ≤ 8 := by simpa [Day.right] using hr
   have hn2 : n = 3 ∨ n = 4 ∨ n = 5 ∨ n = 6 ∨ n = 7 ∨ n = 8 := by omega
   rcases hn2 with rfl | rfl | rfl | rfl | rfl | rfl <;> exact wrap64 (by omega) (by omega)
  rw [← ht, IntWalk.i64_left]
  have hc := right_calls n w
  rw [hr] at hc
  simp only [Bool.false_eq_true, if_false] at hl
  clear hi ht
  go_enter Try.func56, Try.ntmps56
  go_wp2_with (first | (go_at_call 43; refine hc.mono ?_; rintro e w' ⟨rfl, rfl⟩) | (go_at_call 67; refine (rounds_calls _).mono ?_; rintro e w' ⟨rfl, rfl⟩))
  go_ret
  exact ⟨rfl, (Below.refl _ _).alloc (Nat.le_refl _) _⟩
theorem ctr_conf_time : CtrOK Try.prog T c_conf_time := by
 intro lits al vs w hok hag hargs hpre
 have hpre : (t_56 al).1 = true := by rw [← T_56]; exact hpre
 obtain ⟨v, vr, a1, a2, rfl, rfl, o1, v', vr', a3, a4, rfl, rfl, o2, hnil⟩ := hargs
 obtain ⟨rfl, rfl⟩ := hnil
 obtain ⟨l1, o1⟩ := o1
 obtain ⟨l2, o2⟩ := o2
 rw [if_neg (by simp)] at o1 o2
 obtain ⟨s1, b1, e1, rfl, rfl⟩ := o1
 obtain ⟨s2, b2, e2, rfl, rfl⟩ := o2
 simp only [List.cons.injEq, and_true] at e1 e2
 subst e1 e2
 have hk : Day.kOf b1.str ≠ 0 := of_decide_eq_true hpre
 refine (time_calls b1.str b2.int hk w).mono ?_
 rintro e w' ⟨rfl, hb⟩
 refine ⟨_, rfl, ?_, hb⟩
 rw [show c_conf_time.f = 56 from rfl, T_56]
 exact ⟨_, ⟨_, _, [_], [], rfl, rfl, ⟨rfl, by rw [if_neg (by simp)]; exact ⟨_, _, rfl, rfl, rfl⟩⟩, rfl, rfl⟩, rfl⟩
end Rx.S
namespace Rx.S
open Go Rx Go.Proofs
set_option maxRecDepth 100000
set_option maxHeartbeats 4000000
def c_conf_Block : Ctr := { f := 40, ps := [.c false [.int .i64]], rs := [(false, [.int .i64])], ok := fun _ => true }
noncomputable def fns_conf_Block : List (Nat × Func) := [(40, Try.f40), (56, Try.f56)]
theorem fnsOk_conf_Block : FnsAll Try.prog fns_conf_Block := ⟨fn40, fn56, trivial⟩
noncomputable def X_conf_Block : Ctx := { tys := tys, eqs := eqs, fns := fun f => look f fns_conf_Block, ctr := [(56, c_conf_time)], lim := 30, big := [], lps := [] }
theorem xok_conf_Block : XL Try.prog T X_conf_Block where
 tys := tysOk
 eqs := eqsOk
 mixed := mixed
 ctr := ctrsOK_of ⟨⟨rfl, ctr_conf_time⟩, trivial⟩
 fns := fnsOK_of fnsOk_conf_Block
 big := bigsOK_of trivial
 lps := lps_nil rfl
theorem ctr_conf_Block : CtrOK Try.prog T c_conf_Block := ctr_of xok_conf_Block widths (g := g_conf_Block) (ls := [V 2]) (by kernel_rfl) (fun aq => by rw [show c_conf_Block.f = 40 from rfl, T_40]; rfl) fun aq e h1 h2 h3 => by
 subst h1
 rw [show c_conf_Block.f = 40 from rfl, T_40] at h2 ⊢
 obtain ⟨ho, hr⟩ := pure_conf_Block e h3 h2
 have r0 := hr
 refine ⟨⟨ho, trivial⟩, ?_⟩
 show semMany [.int .i64] (t_40 _).2 = semMany [.int .i64] [L.ev e (V 2)]
 exact (semI r0 rfl)
def c_conf_Right : Ctr := { f := 43, ps := [.c false [.int .i64]], rs := [(false, [.bool])], ok := fun _ => true }
noncomputable def fns_conf_Right : List (Nat × Func) := [(43, Try.f43)]
theorem fnsOk_conf_Right : FnsAll Try.prog fns_conf_Right := ⟨fn43, trivial⟩
noncomputable def X_conf_Right : Ctx := { tys := tys, eqs := eqs, fns := fun f => look f fns_conf_Right, ctr := [], lim := 30, big := [], lps := [] }
theorem xok_conf_Right : XL Try.prog T X_conf_Right where
 tys := tysOk
 eqs := eqsOk
 mixed := mixed
 ctr := ctrsOK_of trivial
 fns := fnsOK_of fnsOk_conf_Right
 big := bigsOK_of trivial
 lps := lps_nil rfl
theorem ctr_conf_Right : CtrOK Try.prog T c_conf_Right := ctr_of xok_conf_Right widths (g := g_conf_Right) (ls := [V 3]) (by kernel_rfl) (fun aq => by rw [show c_conf_Right.f = 43 from rfl, T_43]; rfl) fun aq e h1 h2 h3 => by
 subst h1
 rw [show c_conf_Right.f = 43 from rfl, T_43] at h2 ⊢
 obtain ⟨ho, hr⟩ := pure_conf_Right e h3 h2
 have r0 := hr
 refine ⟨trivial, ?_⟩
 show semMany [.bool] (t_43 _).2 = semMany [.bool] [L.ev e (V 3)]
 exact (semB r0 rfl)
end Rx.S
