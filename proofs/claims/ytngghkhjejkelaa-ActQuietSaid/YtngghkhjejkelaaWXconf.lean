import Derived.Test.YtngghkhjejkelaaWXe
import Derived.Test.YtngghkhjejkelaaWXm
import Derived.Test.YtngghkhjejkelaaWXt
import Derived.Test.YtngghkhjejkelaaWYconf
set_option linter.unusedVariables false
set_option linter.unusedSimpArgs false
namespace Rx.S
open Go Rx Go.Proofs
set_option maxRecDepth 100000
set_option maxHeartbeats 4000000
def C0 : GF := { f := 37, ps := [.c false [.int .i64]], rs := [(false, [.bool])], ok := fun _ => true }
noncomputable def G8 : List (Nat × Func) := [(37, Try.f37)]
theorem Kv : A1 Try.prog G8 := ⟨Vs, trivial⟩
noncomputable def Pt : Ctx := { Aw := Aw, eqs := eqs, fns := fun f => look f G8, ctr := [], lim := 30, big := [], lps := [] }
theorem MY : XL Try.prog T Pt where
 Aw := BC
 eqs := BM
 mixed := mixed
 ctr := Au trivial
 fns := AB Kv
 big := Av trivial
 lps := AR rfl
theorem G9 : Bz Try.prog T C0 := BA MY Bj (g := Ga) (ls := [V 3]) (by kernel_rfl) (fun aq => by rw [show C0.f = 37 from rfl, TR]; rfl) fun aq e h1 h2 h3 => by
 subst h1
 rw [show C0.f = 37 from rfl, TR] at h2 ⊢
 obtain ⟨ho, hr⟩ := Lh e h3 h2
 have r0 := hr
 refine ⟨trivial, ?_⟩
 show Ab [.bool] (UH _).2 = Ab [.bool] [L.ev e (V 3)]
 exact (Qk r0 rfl)
end Rx.S
namespace Rx.S
open Go Rx Go.Proofs Go.RowKit
set_option maxRecDepth 100000
def kb (l : List UInt8) (n : Int) (c : Nat) : MapEntry := { key := .string ⟨l.toArray⟩, val := .int .i64 n, born := c }
def ES : Array MapEntry := #[kb [98, 108, 111, 99, 107] 2 0, kb [119, 97, 116, 99, 104] 8 1, kb [108, 97, 116, 101, 114] 3 2, kb [115, 116, 97, 114, 116] 40 3, kb [115, 116, 97, 98, 108, 101] 96 4, kb [108, 105, 115, 116, 101, 110] 4 5, kb [99, 111, 108, 100] 2 6]
theorem WR (w : World) : (Instr.mapUpdate 104 (.map (some w.heap.size)) (.string { data := #[98, 108, 111, 99, 107] }) (.int .i64 2)).run Try.prog (w.alloc (.map #[] 0)) = .ok () (w.alloc (.map #[kb [98, 108, 111, 99, 107] 2 0] 1)) :=
 AM w (t := 104) (k := 9) (e := 3) Try.underlying104 #[] 0 _ _ Try.underlying9 trivial (by kernel_rfl)
theorem WS (w : World) : (Instr.mapUpdate 104 (.map (some w.heap.size)) (.string { data := #[119, 97, 116, 99, 104] }) (.int .i64 8)).run Try.prog (w.alloc (.map #[kb [98, 108, 111, 99, 107] 2 0] 1)) = .ok () (w.alloc (.map #[kb [98, 108, 111, 99, 107] 2 0, kb [119, 97, 116, 99, 104] 8 1] 2)) :=
 AM w (t := 104) (k := 9) (e := 3) Try.underlying104 #[kb [98, 108, 111, 99, 107] 2 0] 1 _ _ Try.underlying9 trivial (by kernel_rfl)
theorem WT (w : World) : (Instr.mapUpdate 104 (.map (some w.heap.size)) (.string { data := #[108, 97, 116, 101, 114] }) (.int .i64 3)).run Try.prog (w.alloc (.map #[kb [98, 108, 111, 99, 107] 2 0, kb [119, 97, 116, 99, 104] 8 1] 2)) = .ok () (w.alloc (.map #[kb [98, 108, 111, 99, 107] 2 0, kb [119, 97, 116, 99, 104] 8 1, kb [108, 97, 116, 101, 114] 3 2] 3)) :=
 AM w (t := 104) (k := 9) (e := 3) Try.underlying104 #[kb [98, 108, 111, 99, 107] 2 0, kb [119, 97, 116, 99, 104] 8 1] 2 _ _ Try.underlying9 trivial (by kernel_rfl)
theorem WU (w : World) : (Instr.mapUpdate 104 (.map (some w.heap.size)) (.string { data := #[115, 116, 97, 114, 116] }) (.int .i64 40)).run Try.prog (w.alloc (.map #[kb [98, 108, 111, 99, 107] 2 0, kb [119, 97, 116, 99, 104] 8 1, kb [108, 97, 116, 101, 114] 3 2] 3)) = .ok () (w.alloc (.map #[kb [98, 108, 111, 99, 107] 2 0, kb [119, 97, 116, 99, 104] 8 1, kb [108, 97, 116, 101, 114] 3 2, kb [115, 116, 97, 114, 116] 40 3] 4)) :=
 AM w (t := 104) (k := 9) (e := 3) Try.underlying104 #[kb [98, 108, 111, 99, 107] 2 0, kb [119, 97, 116, 99, 104] 8 1, kb [108, 97, 116, 101, 114] 3 2] 3 _ _ Try.underlying9 trivial (by kernel_rfl)
theorem WV (w : World) : (Instr.mapUpdate 104 (.map (some w.heap.size)) (.string { data := #[115, 116, 97, 98, 108, 101] }) (.int .i64 96)).run Try.prog (w.alloc (.map #[kb [98, 108, 111, 99, 107] 2 0, kb [119, 97, 116, 99, 104] 8 1, kb [108, 97, 116, 101, 114] 3 2, kb [115, 116, 97, 114, 116] 40 3] 4)) = .ok () (w.alloc (.map #[kb [98, 108, 111, 99, 107] 2 0, kb [119, 97, 116, 99, 104] 8 1, kb [108, 97, 116, 101, 114] 3 2, kb [115, 116, 97, 114, 116] 40 3, kb [115, 116, 97, 98, 108, 101] 96 4] 5)) :=
 AM w (t := 104) (k := 9) (e := 3) Try.underlying104 #[kb [98, 108, 111, 99, 107] 2 0, kb [119, 97, 116, 99, 104] 8 1, kb [108, 97, 116, 101, 114] 3 2, kb [115, 116, 97, 114, 116] 40 3] 4 _ _ Try.underlying9 trivial (by kernel_rfl)
theorem WW (w : World) : (Instr.mapUpdate 104 (.map (some w.heap.size)) (.string { data := #[108, 105, 115, 116, 101, 110] }) (.int .i64 4)).run Try.prog (w.alloc (.map #[kb [98, 108, 111, 99, 107] 2 0, kb [119, 97, 116, 99, 104] 8 1, kb [108, 97, 116, 101, 114] 3 2, kb [115, 116, 97, 114, 116] 40 3, kb [115, 116, 97, 98, 108, 101] 96 4] 5)) = .ok () (w.alloc (.map #[kb [98, 108, 111, 99, 107] 2 0, kb [119, 97, 116, 99, 104] 8 1, kb [108, 97, 116, 101, 114] 3 2, kb [115, 116, 97, 114, 116] 40 3, kb [115, 116, 97, 98, 108, 101] 96 4, kb [108, 105, 115, 116, 101, 110] 4 5] 6)) :=
 AM w (t := 104) (k := 9) (e := 3) Try.underlying104 #[kb [98, 108, 111, 99, 107] 2 0, kb [119, 97, 116, 99, 104] 8 1, kb [108, 97, 116, 101, 114] 3 2, kb [115, 116, 97, 114, 116] 40 3, kb [115, 116, 97, 98, 108, 101] 96 4] 5 _ _ Try.underlying9 trivial (by kernel_rfl)
theorem WX (w : World) : (Instr.mapUpdate 104 (.map (some w.heap.size)) (.string { data := #[99, 111, 108, 100] }) (.int .i64 2)).run Try.prog (w.alloc (.map #[kb [98, 108, 111, 99, 107] 2 0, kb [119, 97, 116, 99, 104] 8 1, kb [108, 97, 116, 101, 114] 3 2, kb [115, 116, 97, 114, 116] 40 3, kb [115, 116, 97, 98, 108, 101] 96 4, kb [108, 105, 115, 116, 101, 110] 4 5] 6)) = .ok () (w.alloc (.map #[kb [98, 108, 111, 99, 107] 2 0, kb [119, 97, 116, 99, 104] 8 1, kb [108, 97, 116, 101, 114] 3 2, kb [115, 116, 97, 114, 116] 40 3, kb [115, 116, 97, 98, 108, 101] 96 4, kb [108, 105, 115, 116, 101, 110] 4 5, kb [99, 111, 108, 100] 2 6] 7)) :=
 AM w (t := 104) (k := 9) (e := 3) Try.underlying104 #[kb [98, 108, 111, 99, 107] 2 0, kb [119, 97, 116, 99, 104] 8 1, kb [108, 97, 116, 101, 114] 3 2, kb [115, 116, 97, 114, 116] 40 3, kb [115, 116, 97, 98, 108, 101] 96 4, kb [108, 105, 115, 116, 101, 110] 4 5] 6 _ _ Try.underlying9 trivial (by kernel_rfl)
theorem Pw (w : World) : Calls Try.prog 94 #[] w fun e w' => e = .returned (.map (some w.heap.size)) ∧ w' = w.alloc (.map ES 7) := by
 have hmm := @run_makeMap Try.prog
 have h0 := WR w
 have h1 := WS w
 have h2 := WT w
 have h3 := WU w
 have h4 := WV w
 have h5 := WW w
 have h6 := WX w
 go_enter Try.func94, Try.ntmps94
 go_wp2
 go_ret
 exact ⟨rfl, rfl⟩
def EI : GF := { f := 89, ps := [.c false [.str], .c false [.int .i64]], rs := [(false, [.int .i64])], ok := fun _ => true }
theorem K2 (n : Int) (w : World) : Calls Try.prog 37 #[.int .i64 n] w fun e w' => e = .returned (.bool (Day.right n)) ∧ w' = w := by
 by_cases h1 : 3 ≤ n
 ·have c1 : decide (n ≥ 3) = true := decide_eq_true h1
  by_cases h2 : n ≤ 8
  ·have c2 : decide (n ≤ 8) = true := decide_eq_true h2
   go_enter Try.func37, Try.ntmps37
   go_wp2
   go_ret
   exact ⟨by simp [Day.right, h1, h2], rfl⟩
  ·have c2 : decide (n ≤ 8) = false := decide_eq_false h2
   go_enter Try.func37, Try.ntmps37
   go_wp2
   go_ret
   exact ⟨by simp [Day.right, h1, h2], rfl⟩
 ·have c1 : decide (n ≥ 3) = false := decide_eq_false h1
  go_enter Try.func37, Try.ntmps37
  go_wp2
  go_ret
  exact ⟨by simp [Day.right]; omega, rfl⟩
theorem Sz (s : ByteArray) (h : Day.K8 s ≠ 0) : ∃ i, Instr.findNow .string (.string s) ES.toList 0 = some (some (i, .int .i64 (Day.K8 s))) := by
 obtain ⟨⟨l⟩⟩ := s
 unfold Day.K8 at h ⊢
 simp only at h ⊢
 by_cases h1 : l = [98, 108, 111, 99, 107]
 ·subst h1; exact ⟨0, by kernel_rfl⟩
 by_cases h2 : l = [119, 97, 116, 99, 104]
 ·subst h2; exact ⟨1, by kernel_rfl⟩
 by_cases h3 : l = [108, 97, 116, 101, 114]
 ·subst h3; exact ⟨2, by kernel_rfl⟩
 by_cases h4 : l = [115, 116, 97, 114, 116]
 ·subst h4; exact ⟨3, by kernel_rfl⟩
 by_cases h5 : l = [115, 116, 97, 98, 108, 101]
 ·subst h5; exact ⟨4, by kernel_rfl⟩
 by_cases h6 : l = [108, 105, 115, 116, 101, 110]
 ·subst h6; exact ⟨5, by kernel_rfl⟩
 by_cases h7 : l = [99, 111, 108, 100]
 ·subst h7; exact ⟨6, by kernel_rfl⟩
 ·exact absurd (by rw [if_neg h1, if_neg h2, if_neg h3, if_neg h4, if_neg h5, if_neg h6, if_neg h7]) h
theorem Rh (s : ByteArray) (n : Int) (hs : Day.K8 s ≠ 0) (w : World) : Calls Try.prog 89 #[.string s, .int .i64 n] w fun e w' => e = .returned (.int .i64 (Day.times (Day.K8 s) n)) ∧ Below w.heap.size w w' := by
 obtain ⟨i, hi⟩ := Sz s hs
 have hl := Hc (P := Try.prog) (w.alloc (.map ES 7)) (t := 104) (k := 9) (e := 3) Try.underlying104 (Gb w (.map ES 7)) (.string s) Try.underlying9 trivial hi false
 have hk := Day.OA s
 cases hr : Day.right n with
 | false =>
  have ht : Day.times (Day.K8 s) n = 0 := by simp [Day.times, hr]
  rw [ht]
  have hc := K2 n w
  rw [hr] at hc
  clear hl hi
  go_enter Try.func89, Try.ntmps89
  go_wp2_with (go_at_call 37; refine hc.mono ?_; rintro e w' ⟨rfl, rfl⟩)
  go_ret
  exact ⟨rfl, Below.refl _ _⟩
 | true =>
  have ht : IntKind.wrap .i64 (Day.K8 s * n) = Day.times (Day.K8 s) n := by
   simp only [Day.times, hr, if_true]
   have : 3 ≤ n ∧ n ≤ 8 := by simpa [Day.right] using hr
   have hn2 : n = 3 ∨ n = 4 ∨ n = 5 ∨ n = 6 ∨ n = 7 ∨ n = 8 := by omega
   rcases hn2 with rfl | rfl | rfl | rfl | rfl | rfl <;> exact wrap64 (by omega) (by omega)
  rw [← ht, IntWalk.i64_left]
  have hc := K2 n w
  rw [hr] at hc
  simp only [Bool.false_eq_true, if_false] at hl
  clear hi ht
  go_enter Try.func89, Try.ntmps89
  go_wp2_with (first | (go_at_call 37; refine hc.mono ?_; rintro e w' ⟨rfl, rfl⟩) | (go_at_call 94; refine (Pw _).mono ?_; rintro e w' ⟨rfl, rfl⟩))
  go_ret
  exact ⟨rfl, (Below.refl _ _).alloc (Nat.le_refl _) _⟩
theorem Il : Bz Try.prog T EI := by
 intro lits al vs w hok hag hargs hpre
 have hpre : (UI al).1 = true := by rw [← TS]; exact hpre
 obtain ⟨v, vr, a1, a2, rfl, rfl, o1, v', vr', a3, a4, rfl, rfl, o2, hnil⟩ := hargs
 obtain ⟨rfl, rfl⟩ := hnil
 obtain ⟨l1, o1⟩ := o1
 obtain ⟨l2, o2⟩ := o2
 rw [if_neg (by simp)] at o1 o2
 obtain ⟨s1, b1, e1, rfl, rfl⟩ := o1
 obtain ⟨s2, b2, e2, rfl, rfl⟩ := o2
 simp only [List.cons.injEq, and_true] at e1 e2
 subst e1 e2
 have hk : Day.K8 b1.str ≠ 0 := of_decide_eq_true hpre
 refine (Rh b1.str b2.int hk w).mono ?_
 rintro e w' ⟨rfl, hb⟩
 refine ⟨_, rfl, ?_, hb⟩
 rw [show EI.f = 89 from rfl, TS]
 exact ⟨_, ⟨_, _, [_], [], rfl, rfl, ⟨rfl, by rw [if_neg (by simp)]; exact ⟨_, _, rfl, rfl, rfl⟩⟩, rfl, rfl⟩, rfl⟩
end Rx.S
namespace Rx.S
open Go Rx Go.Proofs
set_option maxRecDepth 100000
set_option maxHeartbeats 4000000
def Eh : GF := { f := 90, ps := [.c false [.str], .c false [.int .i64], .c false [.int .i64]], rs := [(false, [.int .i64]), (false, [.int .i64])], ok := fun _ => true }
noncomputable def JL : List (Nat × Func) := [(90, Try.f90), (37, Try.f37), (89, Try.f89)]
theorem M4 : A1 Try.prog JL := ⟨Vx, Vs, V7, trivial⟩
noncomputable def Ri : Ctx := { Aw := Aw, eqs := eqs, fns := fun f => look f JL, ctr := [(37, C0), (89, EI)], lim := 30, big := [], lps := [] }
theorem Px : XL Try.prog T Ri where
 Aw := BC
 eqs := BM
 mixed := mixed
 ctr := Au ⟨⟨rfl, G9⟩, ⟨rfl, Il⟩, trivial⟩
 fns := AB M4
 big := Av trivial
 lps := AR rfl
theorem JM : Bz Try.prog T Eh := BA Px Bj (g := I3) (ls := [V 26, V 27]) (by kernel_rfl) (fun aq => by rw [show Eh.f = 90 from rfl, TU]; rfl) fun aq e h1 h2 h3 => by
 subst h1
 rw [show Eh.f = 90 from rfl, TU] at h2 ⊢
 obtain ⟨ho, hr⟩ := NK e h3 h2
 obtain ⟨r0, r1⟩ := hr
 refine ⟨⟨ho.1, ho.2, trivial⟩, ?_⟩
 show Ab [.int .i64, .int .i64] (UK _).2 = Ab [.int .i64, .int .i64] [L.ev e (V 26), L.ev e (V 27)]
 exact (Bg r0 (Bg r1 rfl))
def Dg : GF := { f := 78, ps := [.c false [.int .i64], .c false [.int .i64]], rs := [(false, [.int .i64]), (false, [.int .i64])], ok := fun _ => true }
noncomputable def Gs : List (Nat × Func) := [(78, Try.f78), (90, Try.f90)]
theorem JN : A1 Try.prog Gs := ⟨V6, Vx, trivial⟩
noncomputable def NL : Ctx := { Aw := Aw, eqs := eqs, fns := fun f => look f Gs, ctr := [(90, Eh)], lim := 30, big := [], lps := [] }
theorem Lj : XL Try.prog T NL where
 Aw := BC
 eqs := BM
 mixed := mixed
 ctr := Au ⟨⟨rfl, JM⟩, trivial⟩
 fns := AB JN
 big := Av trivial
 lps := AR rfl
theorem Lk : Bz Try.prog T Dg := BA Lj Bj (g := E6) (ls := [V 3, V 4]) (by kernel_rfl) (fun aq => by rw [show Dg.f = 78 from rfl, TV]; rfl) fun aq e h1 h2 h3 => by
 subst h1
 rw [show Dg.f = 78 from rfl, TV] at h2 ⊢
 obtain ⟨ho, hr⟩ := Ky e h3 h2
 obtain ⟨r0, r1⟩ := hr
 refine ⟨⟨ho, trivial⟩, ?_⟩
 show Ab [.int .i64, .int .i64] (UL _).2 = Ab [.int .i64, .int .i64] [L.ev e (V 3), L.ev e (V 4)]
 exact (Bg r0 (Bg r1 rfl))
def EJ : GF := { f := 77, ps := [.c false [.int .i64], .c false [.int .i64]], rs := [(false, [.int .i64]), (false, [.int .i64])], ok := fun _ => true }
noncomputable def Im : List (Nat × Func) := [(77, Try.f77), (90, Try.f90)]
theorem Ll : A1 Try.prog Im := ⟨V5, Vx, trivial⟩
noncomputable def Qr : Ctx := { Aw := Aw, eqs := eqs, fns := fun f => look f Im, ctr := [(90, Eh)], lim := 30, big := [], lps := [] }
theorem NM : XL Try.prog T Qr where
 Aw := BC
 eqs := BM
 mixed := mixed
 ctr := Au ⟨⟨rfl, JM⟩, trivial⟩
 fns := AB Ll
 big := Av trivial
 lps := AR rfl
theorem NN : Bz Try.prog T EJ := BA NM Bj (g := Hd) (ls := [V 3, V 4]) (by kernel_rfl) (fun aq => by rw [show EJ.f = 77 from rfl, TW]; rfl) fun aq e h1 h2 h3 => by
 subst h1
 rw [show EJ.f = 77 from rfl, TW] at h2 ⊢
 obtain ⟨ho, hr⟩ := M5 e h3 h2
 obtain ⟨r0, r1⟩ := hr
 refine ⟨⟨ho, trivial⟩, ?_⟩
 show Ab [.int .i64, .int .i64] (UM _).2 = Ab [.int .i64, .int .i64] [L.ev e (V 3), L.ev e (V 4)]
 exact (Bg r0 (Bg r1 rfl))
def DO : GF := { f := 76, ps := [.c false [.int .i64]], rs := [(false, [.int .i64])], ok := fun _ => true }
noncomputable def Hh : List (Nat × Func) := [(76, Try.f76), (89, Try.f89)]
theorem KB : A1 Try.prog Hh := ⟨V4, V7, trivial⟩
noncomputable def PC : Ctx := { Aw := Aw, eqs := eqs, fns := fun f => look f Hh, ctr := [(89, EI)], lim := 30, big := [], lps := [] }
theorem Na : XL Try.prog T PC where
 Aw := BC
 eqs := BM
 mixed := mixed
 ctr := Au ⟨⟨rfl, Il⟩, trivial⟩
 fns := AB KB
 big := Av trivial
 lps := AR rfl
theorem Nb : Bz Try.prog T DO := BA Na Bj (g := Gf) (ls := [V 2]) (by kernel_rfl) (fun aq => by rw [show DO.f = 76 from rfl, TT]; rfl) fun aq e h1 h2 h3 => by
 subst h1
 rw [show DO.f = 76 from rfl, TT] at h2 ⊢
 obtain ⟨ho, hr⟩ := Lo e h3 h2
 have r0 := hr
 refine ⟨⟨ho, trivial⟩, ?_⟩
 show Ab [.int .i64] (UJ _).2 = Ab [.int .i64] [L.ev e (V 2)]
 exact (Bg r0 rfl)
end Rx.S
