import Derived.Test.YtngghkhjejkelabMXe
import Derived.Test.YtngghkhjejkelabMXm
import Derived.Test.YtngghkhjejkelabMXt
import Derived.Test.YtngghkhjejkelabMYconf
set_option linter.unusedVariables false
set_option linter.unusedSimpArgs false
namespace Rx.S
open Go Rx Go.Proofs
set_option maxRecDepth 100000
set_option maxHeartbeats 4000000
def DD : DR := { f := 43, ps := [.c false [.int .i64]], rs := [(false, [.bool])], ok := fun _ => true }
noncomputable def KP : List (Nat × Func) := [(43, Try.f43)]
theorem O1 : AG Try.prog KP := ⟨Agq, trivial⟩
noncomputable def W8 : Ctx := { At := At, eqs := eqs, fns := fun f => look f KP, ctr := [], lim := 30, big := [], lps := [] }
theorem Tn : XL Try.prog T W8 where
 At := AL
 eqs := AP
 mixed := mixed
 ctr := Af trivial
 fns := Am O1
 big := Ag trivial
 lps := Ax rfl
theorem Gs : A2 Try.prog T DD := AR Tn Aw (g := IT) (ls := [V 3]) (by kernel_rfl) (fun aq => by rw [show DD.f = 43 from rfl, AdW]; rfl) fun aq e h1 h2 h3 => by
 subst h1
 rw [show DD.f = 43 from rfl, AdW] at h2 ⊢
 obtain ⟨ho, hr⟩ := Qr e h3 h2
 have r0 := hr
 refine ⟨trivial, ?_⟩
 show Aa [.bool] (Aff _).2 = Aa [.bool] [L.ev e (V 3)]
 exact (Uz r0 rfl)
end Rx.S
namespace Rx.S
open Go Rx Go.Proofs Go.RowKit
set_option maxRecDepth 100000
def kb (l : List UInt8) (n : Int) (c : Nat) : MapEntry := { key := .string ⟨l.toArray⟩, val := .int .i64 n, born := c }
def ES : Array MapEntry := #[kb [98, 108, 111, 99, 107] 2 0, kb [119, 97, 116, 99, 104] 8 1, kb [108, 97, 116, 101, 114] 3 2, kb [115, 116, 97, 114, 116] 40 3, kb [115, 116, 97, 98, 108, 101] 96 4, kb [108, 105, 115, 116, 101, 110] 4 5, kb [99, 111, 108, 100] 2 6]
theorem AhV (w : World) : (Instr.mapUpdate 83 (.map (some w.heap.size)) (.string { data := #[98, 108, 111, 99, 107] }) (.int .i64 2)).run Try.prog (w.alloc (.map #[] 0)) = .ok () (w.alloc (.map #[kb [98, 108, 111, 99, 107] 2 0] 1)) :=
 Cq w (t := 83) (k := 9) (e := 3) Try.underlying83 #[] 0 _ _ Try.underlying9 trivial (by kernel_rfl)
theorem AhW (w : World) : (Instr.mapUpdate 83 (.map (some w.heap.size)) (.string { data := #[119, 97, 116, 99, 104] }) (.int .i64 8)).run Try.prog (w.alloc (.map #[kb [98, 108, 111, 99, 107] 2 0] 1)) = .ok () (w.alloc (.map #[kb [98, 108, 111, 99, 107] 2 0, kb [119, 97, 116, 99, 104] 8 1] 2)) :=
 Cq w (t := 83) (k := 9) (e := 3) Try.underlying83 #[kb [98, 108, 111, 99, 107] 2 0] 1 _ _ Try.underlying9 trivial (by kernel_rfl)
theorem AhX (w : World) : (Instr.mapUpdate 83 (.map (some w.heap.size)) (.string { data := #[108, 97, 116, 101, 114] }) (.int .i64 3)).run Try.prog (w.alloc (.map #[kb [98, 108, 111, 99, 107] 2 0, kb [119, 97, 116, 99, 104] 8 1] 2)) = .ok () (w.alloc (.map #[kb [98, 108, 111, 99, 107] 2 0, kb [119, 97, 116, 99, 104] 8 1, kb [108, 97, 116, 101, 114] 3 2] 3)) :=
 Cq w (t := 83) (k := 9) (e := 3) Try.underlying83 #[kb [98, 108, 111, 99, 107] 2 0, kb [119, 97, 116, 99, 104] 8 1] 2 _ _ Try.underlying9 trivial (by kernel_rfl)
theorem AhY (w : World) : (Instr.mapUpdate 83 (.map (some w.heap.size)) (.string { data := #[115, 116, 97, 114, 116] }) (.int .i64 40)).run Try.prog (w.alloc (.map #[kb [98, 108, 111, 99, 107] 2 0, kb [119, 97, 116, 99, 104] 8 1, kb [108, 97, 116, 101, 114] 3 2] 3)) = .ok () (w.alloc (.map #[kb [98, 108, 111, 99, 107] 2 0, kb [119, 97, 116, 99, 104] 8 1, kb [108, 97, 116, 101, 114] 3 2, kb [115, 116, 97, 114, 116] 40 3] 4)) :=
 Cq w (t := 83) (k := 9) (e := 3) Try.underlying83 #[kb [98, 108, 111, 99, 107] 2 0, kb [119, 97, 116, 99, 104] 8 1, kb [108, 97, 116, 101, 114] 3 2] 3 _ _ Try.underlying9 trivial (by kernel_rfl)
theorem AhZ (w : World) : (Instr.mapUpdate 83 (.map (some w.heap.size)) (.string { data := #[115, 116, 97, 98, 108, 101] }) (.int .i64 96)).run Try.prog (w.alloc (.map #[kb [98, 108, 111, 99, 107] 2 0, kb [119, 97, 116, 99, 104] 8 1, kb [108, 97, 116, 101, 114] 3 2, kb [115, 116, 97, 114, 116] 40 3] 4)) = .ok () (w.alloc (.map #[kb [98, 108, 111, 99, 107] 2 0, kb [119, 97, 116, 99, 104] 8 1, kb [108, 97, 116, 101, 114] 3 2, kb [115, 116, 97, 114, 116] 40 3, kb [115, 116, 97, 98, 108, 101] 96 4] 5)) :=
 Cq w (t := 83) (k := 9) (e := 3) Try.underlying83 #[kb [98, 108, 111, 99, 107] 2 0, kb [119, 97, 116, 99, 104] 8 1, kb [108, 97, 116, 101, 114] 3 2, kb [115, 116, 97, 114, 116] 40 3] 4 _ _ Try.underlying9 trivial (by kernel_rfl)
theorem Ah0 (w : World) : (Instr.mapUpdate 83 (.map (some w.heap.size)) (.string { data := #[108, 105, 115, 116, 101, 110] }) (.int .i64 4)).run Try.prog (w.alloc (.map #[kb [98, 108, 111, 99, 107] 2 0, kb [119, 97, 116, 99, 104] 8 1, kb [108, 97, 116, 101, 114] 3 2, kb [115, 116, 97, 114, 116] 40 3, kb [115, 116, 97, 98, 108, 101] 96 4] 5)) = .ok () (w.alloc (.map #[kb [98, 108, 111, 99, 107] 2 0, kb [119, 97, 116, 99, 104] 8 1, kb [108, 97, 116, 101, 114] 3 2, kb [115, 116, 97, 114, 116] 40 3, kb [115, 116, 97, 98, 108, 101] 96 4, kb [108, 105, 115, 116, 101, 110] 4 5] 6)) :=
 Cq w (t := 83) (k := 9) (e := 3) Try.underlying83 #[kb [98, 108, 111, 99, 107] 2 0, kb [119, 97, 116, 99, 104] 8 1, kb [108, 97, 116, 101, 114] 3 2, kb [115, 116, 97, 114, 116] 40 3, kb [115, 116, 97, 98, 108, 101] 96 4] 5 _ _ Try.underlying9 trivial (by kernel_rfl)
theorem Ah1 (w : World) : (Instr.mapUpdate 83 (.map (some w.heap.size)) (.string { data := #[99, 111, 108, 100] }) (.int .i64 2)).run Try.prog (w.alloc (.map #[kb [98, 108, 111, 99, 107] 2 0, kb [119, 97, 116, 99, 104] 8 1, kb [108, 97, 116, 101, 114] 3 2, kb [115, 116, 97, 114, 116] 40 3, kb [115, 116, 97, 98, 108, 101] 96 4, kb [108, 105, 115, 116, 101, 110] 4 5] 6)) = .ok () (w.alloc (.map #[kb [98, 108, 111, 99, 107] 2 0, kb [119, 97, 116, 99, 104] 8 1, kb [108, 97, 116, 101, 114] 3 2, kb [115, 116, 97, 114, 116] 40 3, kb [115, 116, 97, 98, 108, 101] 96 4, kb [108, 105, 115, 116, 101, 110] 4 5, kb [99, 111, 108, 100] 2 6] 7)) :=
 Cq w (t := 83) (k := 9) (e := 3) Try.underlying83 #[kb [98, 108, 111, 99, 107] 2 0, kb [119, 97, 116, 99, 104] 8 1, kb [108, 97, 116, 101, 114] 3 2, kb [115, 116, 97, 114, 116] 40 3, kb [115, 116, 97, 98, 108, 101] 96 4, kb [108, 105, 115, 116, 101, 110] 4 5] 6 _ _ Try.underlying9 trivial (by kernel_rfl)
theorem W9 (w : World) : Calls Try.prog 67 #[] w fun e w' => e = .returned (.map (some w.heap.size)) ∧ w' = w.alloc (.map ES 7) := by
 have hmm := @run_makeMap Try.prog
 have h0 := AhV w
 have h1 := AhW w
 have h2 := AhX w
 have h3 := AhY w
 have h4 := AhZ w
 have h5 := Ah0 w
 have h6 := Ah1 w
 go_enter Try.func67, Try.ntmps67
 go_wp2
 go_ret
 exact ⟨rfl, rfl⟩
def KQ : DR := { f := 56, ps := [.c false [.str], .c false [.int .i64]], rs := [(false, [.int .i64])], ok := fun _ => true }
theorem P6 (n : Int) (w : World) : Calls Try.prog 43 #[.int .i64 n] w fun e w' => e = .returned (.bool (Day.right n)) ∧ w' = w := by
 by_cases h1 : 3 ≤ n
 ·have c1 : decide (n ≥ 3) = true := decide_eq_true h1
  by_cases h2 : n ≤ 8
  ·have c2 : decide (n ≤ 8) = true := decide_eq_true h2
   go_enter Try.func43, Try.ntmps43
   go_wp2
   go_ret
   exact ⟨by simp [Day.right, h1, h2], rfl⟩
  ·have c2 : decide (n ≤ 8) = false := decide_eq_false h2
   go_enter Try.func43, Try.ntmps43
   go_wp2
   go_ret
   exact ⟨by simp [Day.right, h1, h2], rfl⟩
 ·have c1 : decide (n ≥ 3) = false := decide_eq_false h1
  go_enter Try.func43, Try.ntmps43
  go_wp2
  go_ret
  exact ⟨by simp [Day.right]; omega, rfl⟩
theorem Aci (s : ByteArray) (h : Day.Ug s ≠ 0) : ∃ i, Instr.findNow .string (.string s) ES.toList 0 = some (some (i, .int .i64 (Day.Ug s))) := by
 obtain ⟨⟨l⟩⟩ := s
 unfold Day.Ug at h ⊢
 simp only at h ⊢
 by_cases h1 : l = [98, 108, 111, 99, 107]
 ·subst h1; exact ⟨0, by kernel_rfl⟩
 by_cases h2 : l = [119, 97, 116, 99, 104]
 ·subst h2; exact ⟨1, by kernel_rfl⟩
 by_cases h3 : l = [108, 97, 116, 101, 114]
 ·subst h3; exact ⟨2, by kernel_rfl⟩
 by_cases h4 : l = [115, 116, 97, 114, 116]
 ·subst h4; exact ⟨3, by kernel_rfl⟩
 by_cases h5 : l = [115, 116, 97, 98, 108, 101]
 ·subst h5; exact ⟨4, by kernel_rfl⟩
 by_cases h6 : l = [108, 105, 115, 116, 101, 110]
 ·subst h6; exact ⟨5, by kernel_rfl⟩
 by_cases h7 : l = [99, 111, 108, 100]
 ·subst h7; exact ⟨6, by kernel_rfl⟩
 ·exact absurd (by rw [if_neg h1, if_neg h2, if_neg h3, if_neg h4, if_neg h5, if_neg h6, if_neg h7]) h
theorem ZZ (s : ByteArray) (n : Int) (hs : Day.Ug s ≠ 0) (w : World) : Calls Try.prog 56 #[.string s, .int .i64 n] w fun e w' => e = .returned (.int .i64 (Day.times (Day.Ug s) n)) ∧ Below w.heap.size w w' := by
 obtain ⟨i, hi⟩ := Aci s hs
 have hl := Tp (P := Try.prog) (w.alloc (.map ES 7)) (t := 83) (k := 9) (e := 3) Try.underlying83 (To w (.map ES 7)) (.string s) Try.underlying9 trivial hi false
 have hk := Day.AbO s
 cases hr : Day.right n with
 | false =>
  have ht : Day.times (Day.Ug s) n = 0 := by simp [Day.times, hr]
  rw [ht]
  have hc := P6 n w
  rw [hr] at hc
  clear hl hi
  go_enter Try.func56, Try.ntmps56
  go_wp2_with (go_at_call 43; refine hc.mono ?_; rintro e w' ⟨rfl, rfl⟩)
  go_ret
  exact ⟨rfl, Below.refl _ _⟩
 | true =>
  have ht : IntKind.wrap .i64 (Day.Ug s * n) = Day.times (Day.Ug s) n := by
   simp only [Day.times, hr, if_true]
   have : 3 ≤ n ∧ n ≤ 8 := by simpa [Day.right] using hr
   have hn2 : n = 3 ∨ n = 4 ∨ n = 5 ∨ n = 6 ∨ n = 7 ∨ n = 8 := by omega
   rcases hn2 with rfl | rfl | rfl | rfl | rfl | rfl <;> exact wrap64 (by omega) (by omega)
  rw [← ht, IntWalk.i64_left]
  have hc := P6 n w
  rw [hr] at hc
  simp only [Bool.false_eq_true, if_false] at hl
  clear hi ht
  go_enter Try.func56, Try.ntmps56
  go_wp2_with (first | (go_at_call 43; refine hc.mono ?_; rintro e w' ⟨rfl, rfl⟩) | (go_at_call 67; refine (W9 _).mono ?_; rintro e w' ⟨rfl, rfl⟩))
  go_ret
  exact ⟨rfl, (Below.refl _ _).alloc (Nat.le_refl _) _⟩
theorem UL : A2 Try.prog T KQ := by
 intro lits al vs w hok hag hargs hpre
 have hpre : (Afh al).1 = true := by rw [← AdY]; exact hpre
 obtain ⟨v, vr, a1, a2, rfl, rfl, o1, v', vr', a3, a4, rfl, rfl, o2, hnil⟩ := hargs
 obtain ⟨rfl, rfl⟩ := hnil
 obtain ⟨l1, o1⟩ := o1
 obtain ⟨l2, o2⟩ := o2
 rw [if_neg (by simp)] at o1 o2
 obtain ⟨s1, b1, e1, rfl, rfl⟩ := o1
 obtain ⟨s2, b2, e2, rfl, rfl⟩ := o2
 simp only [List.cons.injEq, and_true] at e1 e2
 subst e1 e2
 have hk : Day.Ug b1.str ≠ 0 := of_decide_eq_true hpre
 refine (ZZ b1.str b2.int hk w).mono ?_
 rintro e w' ⟨rfl, hb⟩
 refine ⟨_, rfl, ?_, hb⟩
 rw [show KQ.f = 56 from rfl, AdY]
 exact ⟨_, ⟨_, _, [_], [], rfl, rfl, ⟨rfl, by rw [if_neg (by simp)]; exact ⟨_, _, rfl, rfl, rfl⟩⟩, rfl, rfl⟩, rfl⟩
end Rx.S
namespace Rx.S
open Go Rx Go.Proofs
set_option maxRecDepth 100000
set_option maxHeartbeats 4000000
def Bz : DR := { f := 40, ps := [.c false [.int .i64]], rs := [(false, [.int .i64])], ok := fun _ => true }
noncomputable def KR : List (Nat × Func) := [(40, Try.f40), (56, Try.f56)]
theorem O2 : AG Try.prog KR := ⟨ZN, AhQ, trivial⟩
noncomputable def Xa : Ctx := { At := At, eqs := eqs, fns := fun f => look f KR, ctr := [(56, KQ)], lim := 30, big := [], lps := [] }
theorem Tq : XL Try.prog T Xa where
 At := AL
 eqs := AP
 mixed := mixed
 ctr := Af ⟨⟨rfl, UL⟩, trivial⟩
 fns := Am O2
 big := Ag trivial
 lps := Ax rfl
theorem BL : A2 Try.prog T Bz := AR Tq Aw (g := IU) (ls := [V 2]) (by kernel_rfl) (fun aq => by rw [show Bz.f = 40 from rfl, Ad0]; rfl) fun aq e h1 h2 h3 => by
 subst h1
 rw [show Bz.f = 40 from rfl, Ad0] at h2 ⊢
 obtain ⟨ho, hr⟩ := Qs e h3 h2
 have r0 := hr
 refine ⟨⟨ho, trivial⟩, ?_⟩
 show Aa [.int .i64] (Afj _).2 = Aa [.int .i64] [L.ev e (V 2)]
 exact (Ab r0 rfl)
def Bv : DR := { f := 18, ps := [.c false [.int .i64]], rs := [(false, [.bool])], ok := fun _ => true }
noncomputable def JN : List (Nat × Func) := [(18, Try.f18)]
theorem NW : AG Try.prog JN := ⟨AbJ, trivial⟩
noncomputable def U4 : Ctx := { At := At, eqs := eqs, fns := fun f => look f JN, ctr := [], lim := 30, big := [], lps := [] }
theorem QM : XL Try.prog T U4 where
 At := AL
 eqs := AP
 mixed := mixed
 ctr := Af trivial
 fns := Am NW
 big := Ag trivial
 lps := Ax rfl
theorem BN : A2 Try.prog T Bv := AR QM Aw (g := Ht) (ls := [V 3]) (by kernel_rfl) (fun aq => by rw [show Bv.f = 18 from rfl, AdX]; rfl) fun aq e h1 h2 h3 => by
 subst h1
 rw [show Bv.f = 18 from rfl, AdX] at h2 ⊢
 obtain ⟨ho, hr⟩ := Ph e h3 h2
 have r0 := hr
 refine ⟨trivial, ?_⟩
 show Aa [.bool] (Afg _).2 = Aa [.bool] [L.ev e (V 3)]
 exact (Uz r0 rfl)
def EV : DR := { f := 32, ps := [.c false [.int .i64], .c false [.int .i64]], rs := [(false, [.int .i64])], ok := fun _ => true }
noncomputable def JO : List (Nat × Func) := [(32, Try.f32), (18, Try.f18)]
theorem NX : AG Try.prog JO := ⟨Ag7, AbJ, trivial⟩
noncomputable def U5 : Ctx := { At := At, eqs := eqs, fns := fun f => look f JO, ctr := [(18, Bv)], lim := 30, big := [], lps := [] }
theorem QN : XL Try.prog T U5 where
 At := AL
 eqs := AP
 mixed := mixed
 ctr := Af ⟨⟨rfl, BN⟩, trivial⟩
 fns := Am NX
 big := Ag trivial
 lps := Ax rfl
theorem QO : A2 Try.prog T EV := AR QN Aw (g := Hv) (ls := [V 8]) (by kernel_rfl) (fun aq => by rw [show EV.f = 32 from rfl, AdZ]; rfl) fun aq e h1 h2 h3 => by
 subst h1
 rw [show EV.f = 32 from rfl, AdZ] at h2 ⊢
 obtain ⟨ho, hr⟩ := Pk e h3 h2
 have r0 := hr
 refine ⟨⟨ho, trivial⟩, ?_⟩
 show Aa [.int .i64] (Afi _).2 = Aa [.int .i64] [L.ev e (V 8)]
 exact (Ab r0 rfl)
def A6 : DR := { f := 20, ps := [.c false [.int .i64]], rs := [(false, [.int .i64])], ok := fun _ => true }
noncomputable def JP : List (Nat × Func) := [(20, Try.f20), (32, Try.f32)]
theorem NY : AG Try.prog JP := ⟨Yp, Ag7, trivial⟩
noncomputable def U6 : Ctx := { At := At, eqs := eqs, fns := fun f => look f JP, ctr := [(32, EV)], lim := 30, big := [], lps := [] }
theorem QP : XL Try.prog T U6 where
 At := AL
 eqs := AP
 mixed := mixed
 ctr := Af ⟨⟨rfl, QO⟩, trivial⟩
 fns := Am NY
 big := Ag trivial
 lps := Ax rfl
theorem A8 : A2 Try.prog T A6 := AR QP Aw (g := Hu) (ls := [V 2]) (by kernel_rfl) (fun aq => by rw [show A6.f = 20 from rfl, Ad1]; rfl) fun aq e h1 h2 h3 => by
 subst h1
 rw [show A6.f = 20 from rfl, Ad1] at h2 ⊢
 obtain ⟨ho, hr⟩ := Pj e h3 h2
 have r0 := hr
 refine ⟨⟨ho, trivial⟩, ?_⟩
 show Aa [.int .i64] (Afk _).2 = Aa [.int .i64] [L.ev e (V 2)]
 exact (Ab r0 rfl)
end Rx.S
