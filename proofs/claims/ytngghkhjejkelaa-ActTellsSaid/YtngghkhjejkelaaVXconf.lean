import Derived.Test.YtngghkhjejkelaaVXe
import Derived.Test.YtngghkhjejkelaaVXm
import Derived.Test.YtngghkhjejkelaaVXt
import Derived.Test.YtngghkhjejkelaaVYconf
set_option linter.unusedVariables false
set_option linter.unusedSimpArgs false
namespace Rx.S
open Go Rx Go.Proofs
set_option maxRecDepth 100000
set_option maxHeartbeats 4000000
def Cx : DD := { f := 38, ps := [.c false [.int .i64]], rs := [(false, [.bool])], ok := fun _ => true }
noncomputable def HH : List (Nat × Func) := [(38, Try.f38)]
theorem Lt : AD Try.prog HH := ⟨Yz, trivial⟩
noncomputable def QP : Ctx := { As := As, eqs := eqs, fns := fun f => look f HH, ctr := [], lim := 30, big := [], lps := [] }
theorem NS : XL Try.prog T QP where
 As := AM
 eqs := AY
 mixed := mixed
 ctr := Ak trivial
 fns := An Lt
 big := Al trivial
 lps := Av rfl
theorem El : AW Try.prog T Cx := AJ NS AH (g := F4) (ls := [V 3]) (by kernel_rfl) (fun aq => by rw [show Cx.f = 38 from rfl, XC]; rfl) fun aq e h1 h2 h3 => by
 subst h1
 rw [show Cx.f = 38 from rfl, XC] at h2 ⊢
 obtain ⟨ho, hr⟩ := MG e h3 h2
 have r0 := hr
 refine ⟨trivial, ?_⟩
 show Aa [.bool] (YQ _).2 = Aa [.bool] [L.ev e (V 3)]
 exact (Iu r0 rfl)
def Dz : DD := { f := 37, ps := [.c false [.int .i64]], rs := [(false, [.bool])], ok := fun _ => true }
noncomputable def ID : List (Nat × Func) := [(37, Try.f37)]
theorem MI : AD Try.prog ID := ⟨ZS, trivial⟩
noncomputable def SS : Ctx := { As := As, eqs := eqs, fns := fun f => look f ID, ctr := [], lim := 30, big := [], lps := [] }
theorem PY : XL Try.prog T SS where
 As := AM
 eqs := AY
 mixed := mixed
 ctr := Ak trivial
 fns := An MI
 big := Al trivial
 lps := Av rfl
theorem IE : AW Try.prog T Dz := AJ PY AH (g := Hj) (ls := [V 3]) (by kernel_rfl) (fun aq => by rw [show Dz.f = 37 from rfl, XB]; rfl) fun aq e h1 h2 h3 => by
 subst h1
 rw [show Dz.f = 37 from rfl, XB] at h2 ⊢
 obtain ⟨ho, hr⟩ := NZ e h3 h2
 have r0 := hr
 refine ⟨trivial, ?_⟩
 show Aa [.bool] (YP _).2 = Aa [.bool] [L.ev e (V 3)]
 exact (Iu r0 rfl)
end Rx.S
namespace Rx.S
open Go Rx Go.Proofs Go.RowKit
set_option maxRecDepth 100000
def kb (l : List UInt8) (n : Int) (c : Nat) : MapEntry := { key := .string ⟨l.toArray⟩, val := .int .i64 n, born := c }
def ES : Array MapEntry := #[kb [98, 108, 111, 99, 107] 2 0, kb [119, 97, 116, 99, 104] 8 1, kb [108, 97, 116, 101, 114] 3 2, kb [115, 116, 97, 114, 116] 40 3, kb [115, 116, 97, 98, 108, 101] 96 4, kb [108, 105, 115, 116, 101, 110] 4 5, kb [99, 111, 108, 100] 2 6]
theorem Abe (w : World) : (Instr.mapUpdate 104 (.map (some w.heap.size)) (.string { data := #[98, 108, 111, 99, 107] }) (.int .i64 2)).run Try.prog (w.alloc (.map #[] 0)) = .ok () (w.alloc (.map #[kb [98, 108, 111, 99, 107] 2 0] 1)) :=
 Bb w (t := 104) (k := 9) (e := 3) Try.underlying104 #[] 0 _ _ Try.underlying9 trivial (by kernel_rfl)
theorem Abf (w : World) : (Instr.mapUpdate 104 (.map (some w.heap.size)) (.string { data := #[119, 97, 116, 99, 104] }) (.int .i64 8)).run Try.prog (w.alloc (.map #[kb [98, 108, 111, 99, 107] 2 0] 1)) = .ok () (w.alloc (.map #[kb [98, 108, 111, 99, 107] 2 0, kb [119, 97, 116, 99, 104] 8 1] 2)) :=
 Bb w (t := 104) (k := 9) (e := 3) Try.underlying104 #[kb [98, 108, 111, 99, 107] 2 0] 1 _ _ Try.underlying9 trivial (by kernel_rfl)
theorem Abg (w : World) : (Instr.mapUpdate 104 (.map (some w.heap.size)) (.string { data := #[108, 97, 116, 101, 114] }) (.int .i64 3)).run Try.prog (w.alloc (.map #[kb [98, 108, 111, 99, 107] 2 0, kb [119, 97, 116, 99, 104] 8 1] 2)) = .ok () (w.alloc (.map #[kb [98, 108, 111, 99, 107] 2 0, kb [119, 97, 116, 99, 104] 8 1, kb [108, 97, 116, 101, 114] 3 2] 3)) :=
 Bb w (t := 104) (k := 9) (e := 3) Try.underlying104 #[kb [98, 108, 111, 99, 107] 2 0, kb [119, 97, 116, 99, 104] 8 1] 2 _ _ Try.underlying9 trivial (by kernel_rfl)
theorem Abh (w : World) : (Instr.mapUpdate 104 (.map (some w.heap.size)) (.string { data := #[115, 116, 97, 114, 116] }) (.int .i64 40)).run Try.prog (w.alloc (.map #[kb [98, 108, 111, 99, 107] 2 0, kb [119, 97, 116, 99, 104] 8 1, kb [108, 97, 116, 101, 114] 3 2] 3)) = .ok () (w.alloc (.map #[kb [98, 108, 111, 99, 107] 2 0, kb [119, 97, 116, 99, 104] 8 1, kb [108, 97, 116, 101, 114] 3 2, kb [115, 116, 97, 114, 116] 40 3] 4)) :=
 Bb w (t := 104) (k := 9) (e := 3) Try.underlying104 #[kb [98, 108, 111, 99, 107] 2 0, kb [119, 97, 116, 99, 104] 8 1, kb [108, 97, 116, 101, 114] 3 2] 3 _ _ Try.underlying9 trivial (by kernel_rfl)
theorem Abi (w : World) : (Instr.mapUpdate 104 (.map (some w.heap.size)) (.string { data := #[115, 116, 97, 98, 108, 101] }) (.int .i64 96)).run Try.prog (w.alloc (.map #[kb [98, 108, 111, 99, 107] 2 0, kb [119, 97, 116, 99, 104] 8 1, kb [108, 97, 116, 101, 114] 3 2, kb [115, 116, 97, 114, 116] 40 3] 4)) = .ok () (w.alloc (.map #[kb [98, 108, 111, 99, 107] 2 0, kb [119, 97, 116, 99, 104] 8 1, kb [108, 97, 116, 101, 114] 3 2, kb [115, 116, 97, 114, 116] 40 3, kb [115, 116, 97, 98, 108, 101] 96 4] 5)) :=
 Bb w (t := 104) (k := 9) (e := 3) Try.underlying104 #[kb [98, 108, 111, 99, 107] 2 0, kb [119, 97, 116, 99, 104] 8 1, kb [108, 97, 116, 101, 114] 3 2, kb [115, 116, 97, 114, 116] 40 3] 4 _ _ Try.underlying9 trivial (by kernel_rfl)
theorem Abj (w : World) : (Instr.mapUpdate 104 (.map (some w.heap.size)) (.string { data := #[108, 105, 115, 116, 101, 110] }) (.int .i64 4)).run Try.prog (w.alloc (.map #[kb [98, 108, 111, 99, 107] 2 0, kb [119, 97, 116, 99, 104] 8 1, kb [108, 97, 116, 101, 114] 3 2, kb [115, 116, 97, 114, 116] 40 3, kb [115, 116, 97, 98, 108, 101] 96 4] 5)) = .ok () (w.alloc (.map #[kb [98, 108, 111, 99, 107] 2 0, kb [119, 97, 116, 99, 104] 8 1, kb [108, 97, 116, 101, 114] 3 2, kb [115, 116, 97, 114, 116] 40 3, kb [115, 116, 97, 98, 108, 101] 96 4, kb [108, 105, 115, 116, 101, 110] 4 5] 6)) :=
 Bb w (t := 104) (k := 9) (e := 3) Try.underlying104 #[kb [98, 108, 111, 99, 107] 2 0, kb [119, 97, 116, 99, 104] 8 1, kb [108, 97, 116, 101, 114] 3 2, kb [115, 116, 97, 114, 116] 40 3, kb [115, 116, 97, 98, 108, 101] 96 4] 5 _ _ Try.underlying9 trivial (by kernel_rfl)
theorem Abk (w : World) : (Instr.mapUpdate 104 (.map (some w.heap.size)) (.string { data := #[99, 111, 108, 100] }) (.int .i64 2)).run Try.prog (w.alloc (.map #[kb [98, 108, 111, 99, 107] 2 0, kb [119, 97, 116, 99, 104] 8 1, kb [108, 97, 116, 101, 114] 3 2, kb [115, 116, 97, 114, 116] 40 3, kb [115, 116, 97, 98, 108, 101] 96 4, kb [108, 105, 115, 116, 101, 110] 4 5] 6)) = .ok () (w.alloc (.map #[kb [98, 108, 111, 99, 107] 2 0, kb [119, 97, 116, 99, 104] 8 1, kb [108, 97, 116, 101, 114] 3 2, kb [115, 116, 97, 114, 116] 40 3, kb [115, 116, 97, 98, 108, 101] 96 4, kb [108, 105, 115, 116, 101, 110] 4 5, kb [99, 111, 108, 100] 2 6] 7)) :=
 Bb w (t := 104) (k := 9) (e := 3) Try.underlying104 #[kb [98, 108, 111, 99, 107] 2 0, kb [119, 97, 116, 99, 104] 8 1, kb [108, 97, 116, 101, 114] 3 2, kb [115, 116, 97, 114, 116] 40 3, kb [115, 116, 97, 98, 108, 101] 96 4, kb [108, 105, 115, 116, 101, 110] 4 5] 6 _ _ Try.underlying9 trivial (by kernel_rfl)
theorem SX (w : World) : Calls Try.prog 94 #[] w fun e w' => e = .returned (.map (some w.heap.size)) ∧ w' = w.alloc (.map ES 7) := by
 have hmm := @run_makeMap Try.prog
 have h0 := Abe w
 have h1 := Abf w
 have h2 := Abg w
 have h3 := Abh w
 have h4 := Abi w
 have h5 := Abj w
 have h6 := Abk w
 go_enter Try.func94, Try.ntmps94
 go_wp2
 go_ret
 exact ⟨rfl, rfl⟩
def FJ : DD := { f := 89, ps := [.c false [.str], .c false [.int .i64]], rs := [(false, [.int .i64])], ok := fun _ => true }
theorem NA (n : Int) (w : World) : Calls Try.prog 37 #[.int .i64 n] w fun e w' => e = .returned (.bool (Day.right n)) ∧ w' = w := by
 by_cases h1 : 3 ≤ n
 ·have c1 : decide (n ≥ 3) = true := decide_eq_true h1
  by_cases h2 : n ≤ 8
  ·have c2 : decide (n ≤ 8) = true := decide_eq_true h2
   go_enter Try.func37, Try.ntmps37
   go_wp2
   go_ret
   exact ⟨by simp [Day.right, h1, h2], rfl⟩
  ·have c2 : decide (n ≤ 8) = false := decide_eq_false h2
   go_enter Try.func37, Try.ntmps37
   go_wp2
   go_ret
   exact ⟨by simp [Day.right, h1, h2], rfl⟩
 ·have c1 : decide (n ≥ 3) = false := decide_eq_false h1
  go_enter Try.func37, Try.ntmps37
  go_wp2
  go_ret
  exact ⟨by simp [Day.right]; omega, rfl⟩
theorem Wd (s : ByteArray) (h : Day.NI s ≠ 0) : ∃ i, Instr.findNow .string (.string s) ES.toList 0 = some (some (i, .int .i64 (Day.NI s))) := by
 obtain ⟨⟨l⟩⟩ := s
 unfold Day.NI at h ⊢
 simp only at h ⊢
 by_cases h1 : l = [98, 108, 111, 99, 107]
 ·subst h1; exact ⟨0, by kernel_rfl⟩
 by_cases h2 : l = [119, 97, 116, 99, 104]
 ·subst h2; exact ⟨1, by kernel_rfl⟩
 by_cases h3 : l = [108, 97, 116, 101, 114]
 ·subst h3; exact ⟨2, by kernel_rfl⟩
 by_cases h4 : l = [115, 116, 97, 114, 116]
 ·subst h4; exact ⟨3, by kernel_rfl⟩
 by_cases h5 : l = [115, 116, 97, 98, 108, 101]
 ·subst h5; exact ⟨4, by kernel_rfl⟩
 by_cases h6 : l = [108, 105, 115, 116, 101, 110]
 ·subst h6; exact ⟨5, by kernel_rfl⟩
 by_cases h7 : l = [99, 111, 108, 100]
 ·subst h7; exact ⟨6, by kernel_rfl⟩
 ·exact absurd (by rw [if_neg h1, if_neg h2, if_neg h3, if_neg h4, if_neg h5, if_neg h6, if_neg h7]) h
theorem UN (s : ByteArray) (n : Int) (hs : Day.NI s ≠ 0) (w : World) : Calls Try.prog 89 #[.string s, .int .i64 n] w fun e w' => e = .returned (.int .i64 (Day.times (Day.NI s) n)) ∧ Below w.heap.size w w' := by
 obtain ⟨i, hi⟩ := Wd s hs
 have hl := II (P := Try.prog) (w.alloc (.map ES 7)) (t := 104) (k := 9) (e := 3) Try.underlying104 (Hk w (.map ES 7)) (.string s) Try.underlying9 trivial hi false
 have hk := Day.R0 s
 cases hr : Day.right n with
 | false =>
  have ht : Day.times (Day.NI s) n = 0 := by simp [Day.times, hr]
  rw [ht]
  have hc := NA n w
  rw [hr] at hc
  clear hl hi
  go_enter Try.func89, Try.ntmps89
  go_wp2_with (go_at_call 37; refine hc.mono ?_; rintro e w' ⟨rfl, rfl⟩)
  go_ret
  exact ⟨rfl, Below.refl _ _⟩
 | true =>
  have ht : IntKind.wrap .i64 (Day.NI s * n) = Day.times (Day.NI s) n := by
   simp only [Day.times, hr, if_true]
   have : 3 ≤ n ∧ n ≤ 8 := by simpa [Day.right] using hr
   have hn2 : n = 3 ∨ n = 4 ∨ n = 5 ∨ n = 6 ∨ n = 7 ∨ n = 8 := by omega
   rcases hn2 with rfl | rfl | rfl | rfl | rfl | rfl <;> exact wrap64 (by omega) (by omega)
  rw [← ht, IntWalk.i64_left]
  have hc := NA n w
  rw [hr] at hc
  simp only [Bool.false_eq_true, if_false] at hl
  clear hi ht
  go_enter Try.func89, Try.ntmps89
  go_wp2_with (first | (go_at_call 37; refine hc.mono ?_; rintro e w' ⟨rfl, rfl⟩) | (go_at_call 94; refine (SX _).mono ?_; rintro e w' ⟨rfl, rfl⟩))
  go_ret
  exact ⟨rfl, (Below.refl _ _).alloc (Nat.le_refl _) _⟩
theorem J1 : AW Try.prog T FJ := by
 intro lits al vs w hok hag hargs hpre
 have hpre : (YR al).1 = true := by rw [← XD]; exact hpre
 obtain ⟨v, vr, a1, a2, rfl, rfl, o1, v', vr', a3, a4, rfl, rfl, o2, hnil⟩ := hargs
 obtain ⟨rfl, rfl⟩ := hnil
 obtain ⟨l1, o1⟩ := o1
 obtain ⟨l2, o2⟩ := o2
 rw [if_neg (by simp)] at o1 o2
 obtain ⟨s1, b1, e1, rfl, rfl⟩ := o1
 obtain ⟨s2, b2, e2, rfl, rfl⟩ := o2
 simp only [List.cons.injEq, and_true] at e1 e2
 subst e1 e2
 have hk : Day.NI b1.str ≠ 0 := of_decide_eq_true hpre
 refine (UN b1.str b2.int hk w).mono ?_
 rintro e w' ⟨rfl, hb⟩
 refine ⟨_, rfl, ?_, hb⟩
 rw [show FJ.f = 89 from rfl, XD]
 exact ⟨_, ⟨_, _, [_], [], rfl, rfl, ⟨rfl, by rw [if_neg (by simp)]; exact ⟨_, _, rfl, rfl, rfl⟩⟩, rfl, rfl⟩, rfl⟩
end Rx.S
namespace Rx.S
open Go Rx Go.Proofs
set_option maxRecDepth 100000
set_option maxHeartbeats 4000000
def Fc : DD := { f := 90, ps := [.c false [.str], .c false [.int .i64], .c false [.int .i64]], rs := [(false, [.int .i64]), (false, [.int .i64])], ok := fun _ => true }
noncomputable def Ly : List (Nat × Func) := [(90, Try.f90), (37, Try.f37), (89, Try.f89)]
theorem P3 : AD Try.prog Ly := ⟨Z1, ZS, AaN, trivial⟩
noncomputable def UO : Ctx := { As := As, eqs := eqs, fns := fun f => look f Ly, ctr := [(37, Dz), (89, FJ)], lim := 30, big := [], lps := [] }
theorem SY : XL Try.prog T UO where
 As := AM
 eqs := AY
 mixed := mixed
 ctr := Ak ⟨⟨rfl, IE⟩, ⟨rfl, J1⟩, trivial⟩
 fns := An P3
 big := Al trivial
 lps := Av rfl
theorem Lz : AW Try.prog T Fc := AJ SY AH (g := KF) (ls := [V 26, V 27]) (by kernel_rfl) (fun aq => by rw [show Fc.f = 90 from rfl, XH]; rfl) fun aq e h1 h2 h3 => by
 subst h1
 rw [show Fc.f = 90 from rfl, XH] at h2 ⊢
 obtain ⟨ho, hr⟩ := QW e h3 h2
 obtain ⟨r0, r1⟩ := hr
 refine ⟨⟨ho.1, ho.2, trivial⟩, ?_⟩
 show Aa [.int .i64, .int .i64] (YV _).2 = Aa [.int .i64, .int .i64] [L.ev e (V 26), L.ev e (V 27)]
 exact (AS r0 (AS r1 rfl))
def DS : DD := { f := 78, ps := [.c false [.int .i64], .c false [.int .i64]], rs := [(false, [.int .i64]), (false, [.int .i64])], ok := fun _ => true }
noncomputable def HK : List (Nat × Func) := [(78, Try.f78), (90, Try.f90)]
theorem LA : AD Try.prog HK := ⟨AaI, Z1, trivial⟩
noncomputable def QX : Ctx := { As := As, eqs := eqs, fns := fun f => look f HK, ctr := [(90, Fc)], lim := 30, big := [], lps := [] }
theorem N1 : XL Try.prog T QX where
 As := AM
 eqs := AY
 mixed := mixed
 ctr := Ak ⟨⟨rfl, Lz⟩, trivial⟩
 fns := An LA
 big := Al trivial
 lps := Av rfl
theorem N2 : AW Try.prog T DS := AJ N1 AH (g := F7) (ls := [V 3, V 4]) (by kernel_rfl) (fun aq => by rw [show DS.f = 78 from rfl, XJ]; rfl) fun aq e h1 h2 h3 => by
 subst h1
 rw [show DS.f = 78 from rfl, XJ] at h2 ⊢
 obtain ⟨ho, hr⟩ := ML e h3 h2
 obtain ⟨r0, r1⟩ := hr
 refine ⟨⟨ho, trivial⟩, ?_⟩
 show Aa [.int .i64, .int .i64] (YX _).2 = Aa [.int .i64, .int .i64] [L.ev e (V 3), L.ev e (V 4)]
 exact (AS r0 (AS r1 rfl))
def FK : DD := { f := 77, ps := [.c false [.int .i64], .c false [.int .i64]], rs := [(false, [.int .i64]), (false, [.int .i64])], ok := fun _ => true }
noncomputable def J2 : List (Nat × Func) := [(77, Try.f77), (90, Try.f90)]
theorem N3 : AD Try.prog J2 := ⟨AaH, Z1, trivial⟩
noncomputable def T0 : Ctx := { As := As, eqs := eqs, fns := fun f => look f J2, ctr := [(90, Fc)], lim := 30, big := [], lps := [] }
theorem QY : XL Try.prog T T0 where
 As := AM
 eqs := AY
 mixed := mixed
 ctr := Ak ⟨⟨rfl, Lz⟩, trivial⟩
 fns := An N3
 big := Al trivial
 lps := Av rfl
theorem QZ : AW Try.prog T FK := AJ QY AH (g := IJ) (ls := [V 3, V 4]) (by kernel_rfl) (fun aq => by rw [show FK.f = 77 from rfl, XM]; rfl) fun aq e h1 h2 h3 => by
 subst h1
 rw [show FK.f = 77 from rfl, XM] at h2 ⊢
 obtain ⟨ho, hr⟩ := P4 e h3 h2
 obtain ⟨r0, r1⟩ := hr
 refine ⟨⟨ho, trivial⟩, ?_⟩
 show Aa [.int .i64, .int .i64] (YZ _).2 = Aa [.int .i64, .int .i64] [L.ev e (V 3), L.ev e (V 4)]
 exact (AS r0 (AS r1 rfl))
def EE : DD := { f := 76, ps := [.c false [.int .i64]], rs := [(false, [.int .i64])], ok := fun _ => true }
noncomputable def IN : List (Nat × Func) := [(76, Try.f76), (89, Try.f89)]
theorem MO : AD Try.prog IN := ⟨AaG, AaN, trivial⟩
noncomputable def S3 : Ctx := { As := As, eqs := eqs, fns := fun f => look f IN, ctr := [(89, FJ)], lim := 30, big := [], lps := [] }
theorem P9 : XL Try.prog T S3 where
 As := AM
 eqs := AY
 mixed := mixed
 ctr := Ak ⟨⟨rfl, J1⟩, trivial⟩
 fns := An MO
 big := Al trivial
 lps := Av rfl
theorem Qa : AW Try.prog T EE := AJ P9 AH (g := Ho) (ls := [V 2]) (by kernel_rfl) (fun aq => by rw [show EE.f = 76 from rfl, XF]; rfl) fun aq e h1 h2 h3 => by
 subst h1
 rw [show EE.f = 76 from rfl, XF] at h2 ⊢
 obtain ⟨ho, hr⟩ := N6 e h3 h2
 have r0 := hr
 refine ⟨⟨ho, trivial⟩, ?_⟩
 show Aa [.int .i64] (YT _).2 = Aa [.int .i64] [L.ev e (V 2)]
 exact (AS r0 rfl)
def Fk : DD := { f := 91, ps := [.c false [.int .i64], .c false [.int .i64], .c false [.int .i64]], rs := [(false, [.int .i64]), (false, [.int .i64])], ok := fun _ => true }
noncomputable def LN : List (Nat × Func) := [(91, Try.f91), (38, Try.f38)]
theorem Qk : AD Try.prog LN := ⟨Z2, Yz, trivial⟩
noncomputable def UT : Ctx := { As := As, eqs := eqs, fns := fun f => look f LN, ctr := [(38, Cx)], lim := 30, big := [], lps := [] }
theorem S9 : XL Try.prog T UT where
 As := AM
 eqs := AY
 mixed := mixed
 ctr := Ak ⟨⟨rfl, El⟩, trivial⟩
 fns := An Qk
 big := Al trivial
 lps := Av rfl
theorem LO : AW Try.prog T Fk := AJ S9 AH (g := KQ) (ls := [V 25, V 26]) (by kernel_rfl) (fun aq => by rw [show Fk.f = 91 from rfl, XI]; rfl) fun aq e h1 h2 h3 => by
 subst h1
 rw [show Fk.f = 91 from rfl, XI] at h2 ⊢
 obtain ⟨ho, hr⟩ := Q8 e h3 h2
 obtain ⟨r0, r1⟩ := hr
 refine ⟨⟨ho, trivial⟩, ?_⟩
 show Aa [.int .i64, .int .i64] (YW _).2 = Aa [.int .i64, .int .i64] [L.ev e (V 25), L.ev e (V 26)]
 exact (AS r0 (AS r1 rfl))
def DB : DD := { f := 80, ps := [.c false [.int .i64], .c false [.int .i64]], rs := [(false, [.int .i64]), (false, [.int .i64])], ok := fun _ => true }
noncomputable def GG : List (Nat × Func) := [(80, Try.f80), (91, Try.f91)]
theorem KR : AD Try.prog GG := ⟨AaK, Z2, trivial⟩
noncomputable def Ql : Ctx := { As := As, eqs := eqs, fns := fun f => look f GG, ctr := [(91, Fk)], lim := 30, big := [], lps := [] }
theorem M0 : XL Try.prog T Ql where
 As := AM
 eqs := AY
 mixed := mixed
 ctr := Ak ⟨⟨rfl, LO⟩, trivial⟩
 fns := An KR
 big := Al trivial
 lps := Av rfl
theorem M1 : AW Try.prog T DB := AJ M0 AH (g := Fj) (ls := [V 3, V 4]) (by kernel_rfl) (fun aq => by rw [show DB.f = 80 from rfl, XK]; rfl) fun aq e h1 h2 h3 => by
 subst h1
 rw [show DB.f = 80 from rfl, XK] at h2 ⊢
 obtain ⟨ho, hr⟩ := LM e h3 h2
 obtain ⟨r0, r1⟩ := hr
 refine ⟨⟨ho, trivial⟩, ?_⟩
 show Aa [.int .i64, .int .i64] (YY _).2 = Aa [.int .i64, .int .i64] [L.ev e (V 3), L.ev e (V 4)]
 exact (AS r0 (AS r1 rfl))
def EH : DD := { f := 81, ps := [.c false [.int .i64], .c false [.int .i64]], rs := [(false, [.int .i64]), (false, [.int .i64])], ok := fun _ => true }
noncomputable def IY : List (Nat × Func) := [(81, Try.f81), (91, Try.f91)]
theorem M3 : AD Try.prog IY := ⟨AaL, Z2, trivial⟩
noncomputable def Ta : Ctx := { As := As, eqs := eqs, fns := fun f => look f IY, ctr := [(91, Fk)], lim := 30, big := [], lps := [] }
theorem Qm : XL Try.prog T Ta where
 As := AM
 eqs := AY
 mixed := mixed
 ctr := Ak ⟨⟨rfl, LO⟩, trivial⟩
 fns := An M3
 big := Al trivial
 lps := Av rfl
theorem Qn : AW Try.prog T EH := AJ Qm AH (g := Hu) (ls := [V 3, V 4]) (by kernel_rfl) (fun aq => by rw [show EH.f = 81 from rfl, XN]; rfl) fun aq e h1 h2 h3 => by
 subst h1
 rw [show EH.f = 81 from rfl, XN] at h2 ⊢
 obtain ⟨ho, hr⟩ := Og e h3 h2
 obtain ⟨r0, r1⟩ := hr
 refine ⟨⟨ho, trivial⟩, ?_⟩
 show Aa [.int .i64, .int .i64] (Y0 _).2 = Aa [.int .i64, .int .i64] [L.ev e (V 3), L.ev e (V 4)]
 exact (AS r0 (AS r1 rfl))
def DU : DD := { f := 79, ps := [.c false [.int .i64], .c false [.int .i64]], rs := [(false, [.int .i64])], ok := fun _ => true }
noncomputable def HT : List (Nat × Func) := [(79, Try.f79), (38, Try.f38)]
theorem LU : AD Try.prog HT := ⟨AaJ, Yz, trivial⟩
noncomputable def Rc : Ctx := { As := As, eqs := eqs, fns := fun f => look f HT, ctr := [(38, Cx)], lim := 30, big := [], lps := [] }
theorem Ok : XL Try.prog T Rc where
 As := AM
 eqs := AY
 mixed := mixed
 ctr := Ak ⟨⟨rfl, El⟩, trivial⟩
 fns := An LU
 big := Al trivial
 lps := Av rfl
theorem Ol : AW Try.prog T DU := AJ Ok AH (g := Gd) (ls := [V 8]) (by kernel_rfl) (fun aq => by rw [show DU.f = 79 from rfl, XE]; rfl) fun aq e h1 h2 h3 => by
 subst h1
 rw [show DU.f = 79 from rfl, XE] at h2 ⊢
 obtain ⟨ho, hr⟩ := M7 e h3 h2
 have r0 := hr
 refine ⟨⟨ho, trivial⟩, ?_⟩
 show Aa [.int .i64] (YS _).2 = Aa [.int .i64] [L.ev e (V 8)]
 exact (AS r0 rfl)
def DV : DD := { f := 63, ps := [.c false [.int .i64]], rs := [(false, [.int .i64])], ok := fun _ => true }
noncomputable def HU : List (Nat × Func) := [(63, Try.f63), (79, Try.f79)]
theorem LV : AD Try.prog HU := ⟨AaB, AaJ, trivial⟩
noncomputable def Rd : Ctx := { As := As, eqs := eqs, fns := fun f => look f HU, ctr := [(79, DU)], lim := 30, big := [], lps := [] }
theorem Om : XL Try.prog T Rd where
 As := AM
 eqs := AY
 mixed := mixed
 ctr := Ak ⟨⟨rfl, Ol⟩, trivial⟩
 fns := An LV
 big := Al trivial
 lps := Av rfl
theorem On : AW Try.prog T DV := AJ Om AH (g := Gc) (ls := [V 2]) (by kernel_rfl) (fun aq => by rw [show DV.f = 63 from rfl, XG]; rfl) fun aq e h1 h2 h3 => by
 subst h1
 rw [show DV.f = 63 from rfl, XG] at h2 ⊢
 obtain ⟨ho, hr⟩ := M6 e h3 h2
 have r0 := hr
 refine ⟨⟨ho, trivial⟩, ?_⟩
 show Aa [.int .i64] (YU _).2 = Aa [.int .i64] [L.ev e (V 2)]
 exact (AS r0 rfl)
end Rx.S
