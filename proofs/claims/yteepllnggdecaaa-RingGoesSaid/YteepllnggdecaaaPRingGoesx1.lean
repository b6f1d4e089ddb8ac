-- PRINTED BY print.sh 35421559b90ae4d0a3588c463048766b98c2df88dd9212a6774a882060cdf62d: not written by this session
import Derived.Test.YteepllnggdecaaaPRingGoesx0
namespace Go.Proofs.Yteepllnggdecaaa.PRingGoes
open Go.RowKit Go.Proofs.YteepllnggdecaaaW.PrintWords Go.Proofs.YteepllnggdecaaaW.PrintLast Go.Proofs.YteepllnggdecaaaW.PrintMore
attribute [local go_sem] max2_int min2_int max_two min_two max_three min_three max_four min_four   -- for this text's walks alone
set_option linter.unusedVariables false
set_option linter.unusedSimpArgs false

/-! ### ring_Mod: function 45 -/
def ring_Mod.f (a0 : Int) (a1 : Int) : Option (Int) := if a0 = 0 then (none) else (if (Int.tmod a1 a0) < 0 then (some (wrap64 ((Int.tmod a1 a0) + a0))) else (some (Int.tmod a1 a0)))
set_option maxHeartbeats 8000000 in
set_option maxRecDepth 100000 in
theorem ring_Mod.calls (a0 : Int) (a1 : Int) (r : Int) (w : World) (h : ring_Mod.f a0 a1 = some r) :
    Calls Try.prog 45 #[.int .i64 a0, .int .i64 a1] w fun e w' => e = .returned (.int .i64 r) ∧ Drawn0 w w' := by
  have H : (if a0 = 0 then (none) else (if (Int.tmod a1 a0) < 0 then (some (wrap64 ((Int.tmod a1 a0) + a0))) else (some (Int.tmod a1 a0)))) = some r := h
  clear h
  by_cases c3 : a0 = 0
  · rw [if_pos c3] at H
    exact absurd H (by simp)
  · rw [if_neg c3] at H
    have c3b0 : (a0 == 0) = false := beq_eq_false_iff_ne.mpr c3
    have c3b1 : (a0 != 0) = true := bne_iff_ne.mpr c3
    by_cases c4 : (Int.tmod a1 a0) < 0
    · rw [if_pos c4] at H
      have c4b0 : decide ((Int.tmod a1 a0) < 0) = true := decide_eq_true c4
      clear c4
      obtain rfl := Option.some.inj H
      go_enter Try.func45, Try.ntmps45
      go_wp2
      go_ret
      exact ⟨by first | rfl | (simp; done) | (simp [*]; done), by repeat (first | exact Drawn0.refl _ | apply Drawn0.step)⟩
    · rw [if_neg c4] at H
      have c4b0 : decide ((Int.tmod a1 a0) < 0) = false := decide_eq_false c4
      clear c4
      obtain rfl := Option.some.inj H
      go_enter Try.func45, Try.ntmps45
      go_wp2
      go_ret
      exact ⟨by first | rfl | (simp; done) | (simp [*]; done), by repeat (first | exact Drawn0.refl _ | apply Drawn0.step)⟩

/-! ### ring_Next: function 47 -/
def ring_Next.f (a0 : Int) (a1 : Int) : Option (Int) := if a1 = (wrap64 (a0 - 1)) then (some 0) else (some (wrap64 (a1 + 1)))
set_option maxHeartbeats 8000000 in
set_option maxRecDepth 100000 in
theorem ring_Next.calls (a0 : Int) (a1 : Int) (r : Int) (w : World) (h : ring_Next.f a0 a1 = some r) :
    Calls Try.prog 47 #[.int .i64 a0, .int .i64 a1] w fun e w' => e = .returned (.int .i64 r) ∧ Drawn0 w w' := by
  have H : (if a1 = (wrap64 (a0 - 1)) then (some 0) else (some (wrap64 (a1 + 1)))) = some r := h
  clear h
  by_cases c3 : a1 = (wrap64 (a0 - 1))
  · rw [if_pos c3] at H
    have c3b0 : (a1 == (wrap64 (a0 - 1))) = true := beq_iff_eq.mpr c3
    have c3b1 : (a1 != (wrap64 (a0 - 1))) = false := bne_eq_false_iff_eq.mpr c3
    clear c3
    obtain rfl := Option.some.inj H
    go_enter Try.func47, Try.ntmps47
    go_wp2
    go_ret
    exact ⟨by first | rfl | (simp; done) | (simp [*]; done), by repeat (first | exact Drawn0.refl _ | apply Drawn0.step)⟩
  · rw [if_neg c3] at H
    have c3b0 : (a1 == (wrap64 (a0 - 1))) = false := beq_eq_false_iff_ne.mpr c3
    have c3b1 : (a1 != (wrap64 (a0 - 1))) = true := bne_iff_ne.mpr c3
    obtain rfl := Option.some.inj H
    go_enter Try.func47, Try.ntmps47
    go_wp2
    go_ret
    exact ⟨by first | rfl | (simp; done) | (simp [*]; done), by repeat (first | exact Drawn0.refl _ | apply Drawn0.step)⟩

/-! ### ring_At: function 49 -/
def ring_At.f (a0 : Int) (a1 : Int) (a2 : Int) : Option (Int) := if a0 = 0 then (none) else (some (Int.tmod (wrap64 (a1 + a2)) a0))
set_option maxHeartbeats 8000000 in
set_option maxRecDepth 100000 in
theorem ring_At.calls (a0 : Int) (a1 : Int) (a2 : Int) (r : Int) (w : World) (h : ring_At.f a0 a1 a2 = some r) :
    Calls Try.prog 49 #[.int .i64 a0, .int .i64 a1, .int .i64 a2] w fun e w' => e = .returned (.int .i64 r) ∧ Drawn0 w w' := by
  have H : (if a0 = 0 then (none) else (some (Int.tmod (wrap64 (a1 + a2)) a0))) = some r := h
  clear h
  by_cases c4 : a0 = 0
  · rw [if_pos c4] at H
    exact absurd H (by simp)
  · rw [if_neg c4] at H
    have c4b0 : (a0 == 0) = false := beq_eq_false_iff_ne.mpr c4
    have c4b1 : (a0 != 0) = true := bne_iff_ne.mpr c4
    obtain rfl := Option.some.inj H
    go_enter Try.func49, Try.ntmps49
    go_wp2
    go_ret
    exact ⟨by first | rfl | (simp; done) | (simp [*]; done), by repeat (first | exact Drawn0.refl _ | apply Drawn0.step)⟩

/-! ### ring_Ahead: function 51 -/
def ring_Ahead.f (a0 : Int) (a1 : Int) (a2 : Int) : Option (Int) := if a2 < a1 then (some (wrap64 ((wrap64 (a2 + a0)) - a1))) else (some (wrap64 (a2 - a1)))
set_option maxHeartbeats 8000000 in
set_option maxRecDepth 100000 in
theorem ring_Ahead.calls (a0 : Int) (a1 : Int) (a2 : Int) (r : Int) (w : World) (h : ring_Ahead.f a0 a1 a2 = some r) :
    Calls Try.prog 51 #[.int .i64 a0, .int .i64 a1, .int .i64 a2] w fun e w' => e = .returned (.int .i64 r) ∧ Drawn0 w w' := by
  have H : (if a2 < a1 then (some (wrap64 ((wrap64 (a2 + a0)) - a1))) else (some (wrap64 (a2 - a1)))) = some r := h
  clear h
  by_cases c4 : a2 < a1
  · rw [if_pos c4] at H
    have c4b0 : decide (a2 < a1) = true := decide_eq_true c4
    clear c4
    obtain rfl := Option.some.inj H
    go_enter Try.func51, Try.ntmps51
    go_wp2
    go_ret
    exact ⟨by first | rfl | (simp; done) | (simp [*]; done), by repeat (first | exact Drawn0.refl _ | apply Drawn0.step)⟩
  · rw [if_neg c4] at H
    have c4b0 : decide (a2 < a1) = false := decide_eq_false c4
    clear c4
    obtain rfl := Option.some.inj H
    go_enter Try.func51, Try.ntmps51
    go_wp2
    go_ret
    exact ⟨by first | rfl | (simp; done) | (simp [*]; done), by repeat (first | exact Drawn0.refl _ | apply Drawn0.step)⟩

/-! ### daybreaklaw05_awake: function 44 -/
def daybreaklaw05_awake.f  : Option (Bool) := (ring_At.f 4 3 2).bind fun t101 => (if t101 = 1 then ((ring_Mod.f 4 (-1)).bind fun t102 => (if t102 = 3 then ((ring_Next.f 4 3).bind fun t103 => (if t103 = 0 then ((ring_Ahead.f 4 3 1).bind fun t104 => (some (t104 == 2))) else (some false))) else (some false))) else (some false))
set_option maxHeartbeats 8000000 in
set_option maxRecDepth 100000 in
theorem daybreaklaw05_awake.calls  (r : Bool) (w : World) (h : daybreaklaw05_awake.f  = some r) :
    Calls Try.prog 44 #[] w fun e w' => e = .returned (.bool r) ∧ Drawn0 w w' := by
  have H : ((ring_At.f 4 3 2).bind fun t101 => (if t101 = 1 then ((ring_Mod.f 4 (-1)).bind fun t102 => (if t102 = 3 then ((ring_Next.f 4 3).bind fun t103 => (if t103 = 0 then ((ring_Ahead.f 4 3 1).bind fun t104 => (some (t104 == 2))) else (some false))) else (some false))) else (some false))) = some r := h
  clear h
  replace H := Option.bind_eq_some_iff.mp H
  obtain ⟨t101, A10, H⟩ := H
  replace H : (if t101 = 1 then ((ring_Mod.f 4 (-1)).bind fun t102 => (if t102 = 3 then ((ring_Next.f 4 3).bind fun t103 => (if t103 = 0 then ((ring_Ahead.f 4 3 1).bind fun t104 => (some (t104 == 2))) else (some false))) else (some false))) else (some false)) = some r := H
  have A1 := Aside0.mk A10
  clear A10
  by_cases c2 : t101 = 1
  · rw [if_pos c2] at H
    have c2b0 : (t101 == 1) = true := beq_iff_eq.mpr c2
    have c2b1 : (t101 != 1) = false := bne_eq_false_iff_eq.mpr c2
    clear c2
    replace H := Option.bind_eq_some_iff.mp H
    obtain ⟨t102, A30, H⟩ := H
    replace H : (if t102 = 3 then ((ring_Next.f 4 3).bind fun t103 => (if t103 = 0 then ((ring_Ahead.f 4 3 1).bind fun t104 => (some (t104 == 2))) else (some false))) else (some false)) = some r := H
    have A3 := Aside0.mk A30
    clear A30
    by_cases c4 : t102 = 3
    · rw [if_pos c4] at H
      have c4b0 : (t102 == 3) = true := beq_iff_eq.mpr c4
      have c4b1 : (t102 != 3) = false := bne_eq_false_iff_eq.mpr c4
      clear c4
      replace H := Option.bind_eq_some_iff.mp H
      obtain ⟨t103, A50, H⟩ := H
      replace H : (if t103 = 0 then ((ring_Ahead.f 4 3 1).bind fun t104 => (some (t104 == 2))) else (some false)) = some r := H
      have A5 := Aside0.mk A50
      clear A50
      by_cases c6 : t103 = 0
      · rw [if_pos c6] at H
        have c6b0 : (t103 == 0) = true := beq_iff_eq.mpr c6
        have c6b1 : (t103 != 0) = false := bne_eq_false_iff_eq.mpr c6
        clear c6
        replace H := Option.bind_eq_some_iff.mp H
        obtain ⟨t104, A70, H⟩ := H
        replace H : (some (t104 == 2)) = some r := H
        have A7 := Aside0.mk A70
        clear A70
        obtain rfl := Option.some.inj H
        go_enter Try.func44, Try.ntmps44
        go_wp2_with (first | ((with_reducible refine gate_callee (f := 49) rfl ?_); refine goesL_ (some 1) rfl rfl Try.func49 (by kernel_rfl) rfl #[.int .i64 4, .int .i64 3, .int .i64 2] rfl (by (try simp only [List.map_toArray, List.map_cons, List.map_nil]); first | done | rfl | (simp only [List.length_drop, List.length_take]; rfl)) ?_; (with_reducible refine (ring_At.calls 4 3 2 t101 _ A1.out).mono ?_); rintro e w' ⟨rfl, ⟨nd, rfl⟩⟩; refine ⟨_, rfl, ?_⟩) | (go_at_call 45; (with_reducible refine (ring_Mod.calls 4 (-1) t102 _ A3.out).mono ?_); rintro e w' ⟨rfl, ⟨nd, rfl⟩⟩) | (go_at_call 47; (with_reducible refine (ring_Next.calls 4 3 t103 _ A5.out).mono ?_); rintro e w' ⟨rfl, ⟨nd, rfl⟩⟩) | (go_at_call 51; (with_reducible refine (ring_Ahead.calls 4 3 1 t104 _ A7.out).mono ?_); rintro e w' ⟨rfl, ⟨nd, rfl⟩⟩))
        go_ret
        exact ⟨by first | rfl | (simp; done) | (simp [*]; done), by repeat (first | exact Drawn0.refl _ | apply Drawn0.step)⟩
      · rw [if_neg c6] at H
        have c6b0 : (t103 == 0) = false := beq_eq_false_iff_ne.mpr c6
        have c6b1 : (t103 != 0) = true := bne_iff_ne.mpr c6
        obtain rfl := Option.some.inj H
        go_enter Try.func44, Try.ntmps44
        go_wp2_with (first | ((with_reducible refine gate_callee (f := 49) rfl ?_); refine goesL_ (some 1) rfl rfl Try.func49 (by kernel_rfl) rfl #[.int .i64 4, .int .i64 3, .int .i64 2] rfl (by (try simp only [List.map_toArray, List.map_cons, List.map_nil]); first | done | rfl | (simp only [List.length_drop, List.length_take]; rfl)) ?_; (with_reducible refine (ring_At.calls 4 3 2 t101 _ A1.out).mono ?_); rintro e w' ⟨rfl, ⟨nd, rfl⟩⟩; refine ⟨_, rfl, ?_⟩) | (go_at_call 45; (with_reducible refine (ring_Mod.calls 4 (-1) t102 _ A3.out).mono ?_); rintro e w' ⟨rfl, ⟨nd, rfl⟩⟩) | (go_at_call 47; (with_reducible refine (ring_Next.calls 4 3 t103 _ A5.out).mono ?_); rintro e w' ⟨rfl, ⟨nd, rfl⟩⟩))
        go_ret
        exact ⟨by first | rfl | (simp; done) | (simp [*]; done), by repeat (first | exact Drawn0.refl _ | apply Drawn0.step)⟩
    · rw [if_neg c4] at H
      have c4b0 : (t102 == 3) = false := beq_eq_false_iff_ne.mpr c4
      have c4b1 : (t102 != 3) = true := bne_iff_ne.mpr c4
      obtain rfl := Option.some.inj H
      go_enter Try.func44, Try.ntmps44
      go_wp2_with (first | ((with_reducible refine gate_callee (f := 49) rfl ?_); refine goesL_ (some 1) rfl rfl Try.func49 (by kernel_rfl) rfl #[.int .i64 4, .int .i64 3, .int .i64 2] rfl (by (try simp only [List.map_toArray, List.map_cons, List.map_nil]); first | done | rfl | (simp only [List.length_drop, List.length_take]; rfl)) ?_; (with_reducible refine (ring_At.calls 4 3 2 t101 _ A1.out).mono ?_); rintro e w' ⟨rfl, ⟨nd, rfl⟩⟩; refine ⟨_, rfl, ?_⟩) | (go_at_call 45; (with_reducible refine (ring_Mod.calls 4 (-1) t102 _ A3.out).mono ?_); rintro e w' ⟨rfl, ⟨nd, rfl⟩⟩))
      go_ret
      exact ⟨by first | rfl | (simp; done) | (simp [*]; done), by repeat (first | exact Drawn0.refl _ | apply Drawn0.step)⟩
  · rw [if_neg c2] at H
    have c2b0 : (t101 == 1) = false := beq_eq_false_iff_ne.mpr c2
    have c2b1 : (t101 != 1) = true := bne_iff_ne.mpr c2
    obtain rfl := Option.some.inj H
    go_enter Try.func44, Try.ntmps44
    go_wp2_with (first | ((with_reducible refine gate_callee (f := 49) rfl ?_); refine goesL_ (some 1) rfl rfl Try.func49 (by kernel_rfl) rfl #[.int .i64 4, .int .i64 3, .int .i64 2] rfl (by (try simp only [List.map_toArray, List.map_cons, List.map_nil]); first | done | rfl | (simp only [List.length_drop, List.length_take]; rfl)) ?_; (with_reducible refine (ring_At.calls 4 3 2 t101 _ A1.out).mono ?_); rintro e w' ⟨rfl, ⟨nd, rfl⟩⟩; refine ⟨_, rfl, ?_⟩))
    go_ret
    exact ⟨by first | rfl | (simp; done) | (simp [*]; done), by repeat (first | exact Drawn0.refl _ | apply Drawn0.step)⟩

/-! ### daybreaklaw05_RingGoes: function 6 -/
mutual
def daybreaklaw05_RingGoes.j1 : Nat → Int → Int → Int → Int → Int → Option (Bool)
  | 0, _, _, _, _, _ => none
  | k + 1, x7, x8, x9, x10, x11 => (daybreaklaw05_awake.f).bind fun t107 => (if t107 = true then (if x10 ≥ 0 then (if x10 < x7 then (if x11 = x9 then ((ring_At.f x7 x8 x10).bind fun t108 => (if t108 = x9 then ((ring_Mod.f x7 (wrap64 (x8 - x7))).bind fun t109 => (if t109 = x8 then ((ring_At.f x7 x8 x7).bind fun t110 => (some (t110 == x8))) else (some false))) else (some false))) else (some false)) else (some false)) else (some false)) else (some false))
def daybreaklaw05_RingGoes.l0 : Nat → Int → Int → Int → Int → Int → Int → Option (Bool)
  | 0, _, _, _, _, _, _ => none
  | k + 1, x7, x8, x9, x10, x11, x12 => if x12 < x10 then (if x12 < x7 then ((ring_Next.f x7 x11).bind fun t106 => (daybreaklaw05_RingGoes.l0 k x7 x8 x9 x10 t106 (wrap64 (x12 + 1)))) else (daybreaklaw05_RingGoes.j1 k x7 x8 x9 x10 x11)) else (daybreaklaw05_RingGoes.j1 k x7 x8 x9 x10 x11)
end
def daybreaklaw05_RingGoes.f (k : Nat) (a0 : Int) (a1 : Int) (a2 : Int) : Option (Bool) := if (wrap64 (1 + (wrap64 (Int.tmod a0 8)))) = 0 then (none) else ((ring_Ahead.f (wrap64 (1 + (wrap64 (Int.tmod a0 8)))) (Int.tmod (wrap64 (a1)) (wrap64 (1 + (wrap64 (Int.tmod a0 8))))) (Int.tmod (wrap64 (a2)) (wrap64 (1 + (wrap64 (Int.tmod a0 8)))))).bind fun t105 => (daybreaklaw05_RingGoes.l0 k (wrap64 (1 + (wrap64 (Int.tmod a0 8)))) (Int.tmod (wrap64 (a1)) (wrap64 (1 + (wrap64 (Int.tmod a0 8))))) (Int.tmod (wrap64 (a2)) (wrap64 (1 + (wrap64 (Int.tmod a0 8))))) t105 (Int.tmod (wrap64 (a1)) (wrap64 (1 + (wrap64 (Int.tmod a0 8))))) 0))
theorem daybreaklaw05_RingGoes.mono_l : ∀ k, (∀ y0 y1 y2 y3 y4, LeO (daybreaklaw05_RingGoes.j1 k y0 y1 y2 y3 y4) (daybreaklaw05_RingGoes.j1 (k + 1) y0 y1 y2 y3 y4)) ∧ (∀ y0 y1 y2 y3 y4 y5, LeO (daybreaklaw05_RingGoes.l0 k y0 y1 y2 y3 y4 y5) (daybreaklaw05_RingGoes.l0 (k + 1) y0 y1 y2 y3 y4 y5))
  | 0 => ⟨fun _ _ _ _ _ r h => by simp [daybreaklaw05_RingGoes.j1] at h, fun _ _ _ _ _ _ r h => by simp [daybreaklaw05_RingGoes.l0] at h⟩
  | k + 1 => by
    obtain ⟨ih0, ih1⟩ := daybreaklaw05_RingGoes.mono_l k
    refine ⟨?_, ?_⟩
    · intro y0 y1 y2 y3 y4
      unfold daybreaklaw05_RingGoes.j1
      repeat' first
      | (with_reducible exact ih0 _ _ _ _ _)
      | (with_reducible exact ih1 _ _ _ _ _ _)
      | (with_reducible exact LeO.refl _)
      | (with_reducible exact LeO.none _)
      | (with_reducible refine LeO.ite ?_ ?_)
      | (with_reducible refine LeO.bind ?_ (fun _ => ?_))
      | exact ih0 _ _ _ _ _
      | exact ih1 _ _ _ _ _ _
      | exact LeO.none _
      | refine LeO.ite ?_ ?_
      | refine LeO.bind ?_ (fun _ => ?_)
    · intro y0 y1 y2 y3 y4 y5
      unfold daybreaklaw05_RingGoes.l0
      repeat' first
      | (with_reducible exact ih0 _ _ _ _ _)
      | (with_reducible exact ih1 _ _ _ _ _ _)
      | (with_reducible exact LeO.refl _)
      | (with_reducible exact LeO.none _)
      | (with_reducible refine LeO.ite ?_ ?_)
      | (with_reducible refine LeO.bind ?_ (fun _ => ?_))
      | exact ih0 _ _ _ _ _
      | exact ih1 _ _ _ _ _ _
      | exact LeO.none _
      | refine LeO.ite ?_ ?_
      | refine LeO.bind ?_ (fun _ => ?_)
theorem daybreaklaw05_RingGoes.mono : ∀ a0 a1 a2 k, LeO (daybreaklaw05_RingGoes.f k a0 a1 a2) (daybreaklaw05_RingGoes.f (k + 1) a0 a1 a2) := by
  intro a0 a1 a2 k
  obtain ⟨ih0, ih1⟩ := daybreaklaw05_RingGoes.mono_l k
  unfold daybreaklaw05_RingGoes.f
  repeat' first
      | (with_reducible exact ih0 _ _ _ _ _)
      | (with_reducible exact ih1 _ _ _ _ _ _)
      | (with_reducible exact LeO.refl _)
      | (with_reducible exact LeO.none _)
      | (with_reducible refine LeO.ite ?_ ?_)
      | (with_reducible refine LeO.bind ?_ (fun _ => ?_))
      | exact ih0 _ _ _ _ _
      | exact ih1 _ _ _ _ _ _
      | exact LeO.none _
      | refine LeO.ite ?_ ?_
      | refine LeO.bind ?_ (fun _ => ?_)
set_option maxHeartbeats 8000000 in
set_option maxRecDepth 100000 in
theorem daybreaklaw05_RingGoes.calls (k : Nat) (a0 : Int) (a1 : Int) (a2 : Int) (r : Bool) (w : World) (h : daybreaklaw05_RingGoes.f k a0 a1 a2 = some r) :
    Calls Try.prog 6 #[.int .u8 a0, .int .u8 a1, .int .u8 a2] w fun e w' => e = .returned (.bool r) ∧ Drawn0 w w' := by
  have H : (if (wrap64 (1 + (wrap64 (Int.tmod a0 8)))) = 0 then (none) else ((ring_Ahead.f (wrap64 (1 + (wrap64 (Int.tmod a0 8)))) (Int.tmod (wrap64 (a1)) (wrap64 (1 + (wrap64 (Int.tmod a0 8))))) (Int.tmod (wrap64 (a2)) (wrap64 (1 + (wrap64 (Int.tmod a0 8)))))).bind fun t105 => (daybreaklaw05_RingGoes.l0 k (wrap64 (1 + (wrap64 (Int.tmod a0 8)))) (Int.tmod (wrap64 (a1)) (wrap64 (1 + (wrap64 (Int.tmod a0 8))))) (Int.tmod (wrap64 (a2)) (wrap64 (1 + (wrap64 (Int.tmod a0 8))))) t105 (Int.tmod (wrap64 (a1)) (wrap64 (1 + (wrap64 (Int.tmod a0 8))))) 0))) = some r := h
  clear h
  by_cases c4 : (wrap64 (1 + (wrap64 (Int.tmod a0 8)))) = 0
  · rw [if_pos c4] at H
    exact absurd H (by simp)
  · rw [if_neg c4] at H
    have c4b0 : ((wrap64 (1 + (wrap64 (Int.tmod a0 8)))) == 0) = false := beq_eq_false_iff_ne.mpr c4
    have c4b1 : ((wrap64 (1 + (wrap64 (Int.tmod a0 8)))) != 0) = true := bne_iff_ne.mpr c4
    replace H := Option.bind_eq_some_iff.mp H
    obtain ⟨t105, A50, H⟩ := H
    replace H : (daybreaklaw05_RingGoes.l0 k (wrap64 (1 + (wrap64 (Int.tmod a0 8)))) (Int.tmod (wrap64 (a1)) (wrap64 (1 + (wrap64 (Int.tmod a0 8))))) (Int.tmod (wrap64 (a2)) (wrap64 (1 + (wrap64 (Int.tmod a0 8))))) t105 (Int.tmod (wrap64 (a1)) (wrap64 (1 + (wrap64 (Int.tmod a0 8))))) 0) = some r := H
    have A5 := Aside0.mk A50
    clear A50
    have HC6 := Aside0.mk H
    clear H
    go_enter Try.func6, Try.ntmps6
    go_upto_block 0 with (first | (go_at_call 51; (with_reducible refine (ring_Ahead.calls (wrap64 (1 + (wrap64 (Int.tmod a0 8)))) (Int.tmod (wrap64 (a1)) (wrap64 (1 + (wrap64 (Int.tmod a0 8))))) (Int.tmod (wrap64 (a2)) (wrap64 (1 + (wrap64 (Int.tmod a0 8))))) t105 _ A5.out).mono ?_); rintro e w' ⟨rfl, ⟨nd, rfl⟩⟩; (try first | exact ⟨rfl, _, World.drewN_drewN _ _ _⟩ | exact ⟨rfl, _, Eq.trans (World.drewN_drewN _ _ _) (congrArg (World.drewN _) (Nat.add_assoc _ _ _))⟩)))
    repeat (go_quiet (first | (go_at_call 51; (with_reducible refine (ring_Ahead.calls (wrap64 (1 + (wrap64 (Int.tmod a0 8)))) (Int.tmod (wrap64 (a1)) (wrap64 (1 + (wrap64 (Int.tmod a0 8))))) (Int.tmod (wrap64 (a2)) (wrap64 (1 + (wrap64 (Int.tmod a0 8))))) t105 _ A5.out).mono ?_); rintro e w' ⟨rfl, ⟨nd, rfl⟩⟩; (try first | exact ⟨rfl, _, World.drewN_drewN _ _ _⟩ | exact ⟨rfl, _, Eq.trans (World.drewN_drewN _ _ _) (congrArg (World.drewN _) (Nat.add_assoc _ _ _))⟩))); go_upto_block 0 with (first | (go_at_call 51; (with_reducible refine (ring_Ahead.calls (wrap64 (1 + (wrap64 (Int.tmod a0 8)))) (Int.tmod (wrap64 (a1)) (wrap64 (1 + (wrap64 (Int.tmod a0 8))))) (Int.tmod (wrap64 (a2)) (wrap64 (1 + (wrap64 (Int.tmod a0 8))))) t105 _ A5.out).mono ?_); rintro e w' ⟨rfl, ⟨nd, rfl⟩⟩; (try first | exact ⟨rfl, _, World.drewN_drewN _ _ _⟩ | exact ⟨rfl, _, Eq.trans (World.drewN_drewN _ _ _) (congrArg (World.drewN _) (Nat.add_assoc _ _ _))⟩))))
    (try simp only [Act.put, List.setIfInBounds_toArray, List.set_cons_zero, List.set_cons_succ])
    go_cut [11] (fun v11 wc => ∃ (kq : Nat) (x11_5 : Int), v11 = .int .i64 x11_5 ∧ Aside0 (daybreaklaw05_RingGoes.j1 kq (wrap64 (1 + (wrap64 (Int.tmod a0 8)))) (Int.tmod (wrap64 (a1)) (wrap64 (1 + (wrap64 (Int.tmod a0 8))))) (Int.tmod (wrap64 (a2)) (wrap64 (1 + (wrap64 (Int.tmod a0 8))))) t105 x11_5 = some r) ∧ Aside0 (kq ≤ k) ∧ Drawn0 w wc)
    case first =>
      have H := HC6.out
      clear HC6
      have H' := Aside0.mk H
      clear H
      go_wp2
      repeat (go_quiet (fail); try go_wp2)
      go_loopg [11, 12] k (fun kq v11 v12 w' => ∃ (x11_1 : Int) (x12_1 : Int), v11 = .int .i64 x11_1 ∧ v12 = .int .i64 x12_1 ∧ Aside0 (daybreaklaw05_RingGoes.l0 kq (wrap64 (1 + (wrap64 (Int.tmod a0 8)))) (Int.tmod (wrap64 (a1)) (wrap64 (1 + (wrap64 (Int.tmod a0 8))))) (Int.tmod (wrap64 (a2)) (wrap64 (1 + (wrap64 (Int.tmod a0 8))))) t105 x11_1 x12_1 = some r) ∧ Aside0 (kq ≤ k) ∧ Drawn0 w w')
      case atStart => exact ⟨(Int.tmod (wrap64 (a1)) (wrap64 (1 + (wrap64 (Int.tmod a0 8))))), (0), (by first | rfl | (simp; done) | (simp [*]; done)), (by first | rfl | (simp; done) | (simp [*]; done)), H', ⟨Nat.le_refl _⟩, by repeat (first | exact Drawn0.refl _ | apply Drawn0.step)⟩
      case round =>
        clear H'
        try clear p2
        try clear c4
        try clear c4b0
        try clear c4b1
        try clear c6
        try clear p6
        obtain ⟨x11_1, x12_1, rfl, rfl, HA, HK1, ⟨m1, rfl⟩⟩ := hrel
        cases gk with
        | zero => exact absurd HA.out (by simp [daybreaklaw05_RingGoes.l0])
        | succ k1 =>
          have H := HA.out
          clear HA
          simp only [daybreaklaw05_RingGoes.l0] at H
          by_cases c7 : x12_1 < t105
          · rw [if_pos c7] at H
            have c7b0 : decide (x12_1 < t105) = true := decide_eq_true c7
            clear c7
            (first | rw [c7b0] | (simp only [i64_w, i32_w]; rw [c7b0]) | skip)
            by_cases c8 : x12_1 < (wrap64 (1 + (wrap64 (Int.tmod a0 8))))
            · rw [if_pos c8] at H
              have c8b0 : decide (x12_1 < (wrap64 (1 + (wrap64 (Int.tmod a0 8))))) = true := decide_eq_true c8
              clear c8
              replace H := Option.bind_eq_some_iff.mp H
              obtain ⟨t106, A90, H⟩ := H
              replace H : (daybreaklaw05_RingGoes.l0 k1 (wrap64 (1 + (wrap64 (Int.tmod a0 8)))) (Int.tmod (wrap64 (a1)) (wrap64 (1 + (wrap64 (Int.tmod a0 8))))) (Int.tmod (wrap64 (a2)) (wrap64 (1 + (wrap64 (Int.tmod a0 8))))) t105 t106 (wrap64 (x12_1 + 1))) = some r := H
              have A9 := Aside0.mk A90
              clear A90
              have H' := Aside0.mk H
              clear H
              go_wp2_with (first | (go_at_call 47; (with_reducible refine (ring_Next.calls (wrap64 (1 + (wrap64 (Int.tmod a0 8)))) x11_1 t106 _ A9.out).mono ?_); rintro e w' ⟨rfl, ⟨nd, rfl⟩⟩; (try first | exact ⟨rfl, _, World.drewN_drewN _ _ _⟩ | exact ⟨rfl, _, Eq.trans (World.drewN_drewN _ _ _) (congrArg (World.drewN _) (Nat.add_assoc _ _ _))⟩)))
              repeat (go_quiet (first | (go_at_call 47; (with_reducible refine (ring_Next.calls (wrap64 (1 + (wrap64 (Int.tmod a0 8)))) x11_1 t106 _ A9.out).mono ?_); rintro e w' ⟨rfl, ⟨nd, rfl⟩⟩; (try first | exact ⟨rfl, _, World.drewN_drewN _ _ _⟩ | exact ⟨rfl, _, Eq.trans (World.drewN_drewN _ _ _) (congrArg (World.drewN _) (Nat.add_assoc _ _ _))⟩))); try go_wp2_with (first | (go_at_call 47; (with_reducible refine (ring_Next.calls (wrap64 (1 + (wrap64 (Int.tmod a0 8)))) x11_1 t106 _ A9.out).mono ?_); rintro e w' ⟨rfl, ⟨nd, rfl⟩⟩; (try first | exact ⟨rfl, _, World.drewN_drewN _ _ _⟩ | exact ⟨rfl, _, Eq.trans (World.drewN_drewN _ _ _) (congrArg (World.drewN _) (Nat.add_assoc _ _ _))⟩))))
              go_roundg k1
              case measure => have := HK1.out; omega
              case rel => exact ⟨(t106), (wrap64 (x12_1 + 1)), (by first | rfl | (simp; done) | (simp [*]; done)), (by first | rfl | (simp; done) | (simp [*]; done)), H', ⟨by have := HK1.out; omega⟩, by repeat (first | exact Drawn0.refl _ | apply Drawn0.step)⟩
            · rw [if_neg c8] at H
              have c8b0 : decide (x12_1 < (wrap64 (1 + (wrap64 (Int.tmod a0 8))))) = false := decide_eq_false c8
              clear c8
              have H' := Aside0.mk H
              clear H
              go_wp2
              repeat (go_quiet (fail); try go_wp2)
              go_meet
              case rel => exact ⟨_, (x11_1), (by first | rfl | (simp; done) | (simp [*]; done)), H', ⟨by have := HK1.out; first | omega | exact Nat.le_refl _⟩, by repeat (first | exact Drawn0.refl _ | apply Drawn0.step)⟩
          · rw [if_neg c7] at H
            have c7b0 : decide (x12_1 < t105) = false := decide_eq_false c7
            clear c7
            (first | rw [c7b0] | (simp only [i64_w, i32_w]; rw [c7b0]) | skip)
            have H' := Aside0.mk H
            clear H
            go_wp2
            repeat (go_quiet (fail); try go_wp2)
            go_meet
            case rel => exact ⟨_, (x11_1), (by first | rfl | (simp; done) | (simp [*]; done)), H', ⟨by have := HK1.out; first | omega | exact Nat.le_refl _⟩, by repeat (first | exact Drawn0.refl _ | apply Drawn0.step)⟩
    case rest =>
      clear HC6
      try clear p2
      try clear c4
      try clear c4b0
      try clear c4b1
      try clear c6
      try clear p6
      try clear c7
      try clear c7b0
      try clear c8
      try clear c8b0
      try clear p2
      try clear p6
      obtain ⟨kq, x11_5, rfl, HA, HJ5, ⟨mc5, rfl⟩⟩ := hcut
      cases kq with
      | zero => exact absurd HA.out (by simp [daybreaklaw05_RingGoes.j1])
      | succ kj5 =>
        have H := HA.out
        clear HA
        simp only [daybreaklaw05_RingGoes.j1] at H
        replace H := Option.bind_eq_some_iff.mp H
        obtain ⟨t107, A100, H⟩ := H
        replace H : (if t107 = true then (if t105 ≥ 0 then (if t105 < (wrap64 (1 + (wrap64 (Int.tmod a0 8)))) then (if x11_5 = (Int.tmod (wrap64 (a2)) (wrap64 (1 + (wrap64 (Int.tmod a0 8))))) then ((ring_At.f (wrap64 (1 + (wrap64 (Int.tmod a0 8)))) (Int.tmod (wrap64 (a1)) (wrap64 (1 + (wrap64 (Int.tmod a0 8))))) t105).bind fun t108 => (if t108 = (Int.tmod (wrap64 (a2)) (wrap64 (1 + (wrap64 (Int.tmod a0 8))))) then ((ring_Mod.f (wrap64 (1 + (wrap64 (Int.tmod a0 8)))) (wrap64 ((Int.tmod (wrap64 (a1)) (wrap64 (1 + (wrap64 (Int.tmod a0 8))))) - (wrap64 (1 + (wrap64 (Int.tmod a0 8))))))).bind fun t109 => (if t109 = (Int.tmod (wrap64 (a1)) (wrap64 (1 + (wrap64 (Int.tmod a0 8))))) then ((ring_At.f (wrap64 (1 + (wrap64 (Int.tmod a0 8)))) (Int.tmod (wrap64 (a1)) (wrap64 (1 + (wrap64 (Int.tmod a0 8))))) (wrap64 (1 + (wrap64 (Int.tmod a0 8))))).bind fun t110 => (some (t110 == (Int.tmod (wrap64 (a1)) (wrap64 (1 + (wrap64 (Int.tmod a0 8)))))))) else (some false))) else (some false))) else (some false)) else (some false)) else (some false)) else (some false)) = some r := H
        have A10 := Aside0.mk A100
        clear A100
        by_cases c11 : t107 = true
        · subst c11
          have H1 : (if t105 ≥ 0 then (if t105 < (wrap64 (1 + (wrap64 (Int.tmod a0 8)))) then (if x11_5 = (Int.tmod (wrap64 (a2)) (wrap64 (1 + (wrap64 (Int.tmod a0 8))))) then ((ring_At.f (wrap64 (1 + (wrap64 (Int.tmod a0 8)))) (Int.tmod (wrap64 (a1)) (wrap64 (1 + (wrap64 (Int.tmod a0 8))))) t105).bind fun t108 => (if t108 = (Int.tmod (wrap64 (a2)) (wrap64 (1 + (wrap64 (Int.tmod a0 8))))) then ((ring_Mod.f (wrap64 (1 + (wrap64 (Int.tmod a0 8)))) (wrap64 ((Int.tmod (wrap64 (a1)) (wrap64 (1 + (wrap64 (Int.tmod a0 8))))) - (wrap64 (1 + (wrap64 (Int.tmod a0 8))))))).bind fun t109 => (if t109 = (Int.tmod (wrap64 (a1)) (wrap64 (1 + (wrap64 (Int.tmod a0 8))))) then ((ring_At.f (wrap64 (1 + (wrap64 (Int.tmod a0 8)))) (Int.tmod (wrap64 (a1)) (wrap64 (1 + (wrap64 (Int.tmod a0 8))))) (wrap64 (1 + (wrap64 (Int.tmod a0 8))))).bind fun t110 => (some (t110 == (Int.tmod (wrap64 (a1)) (wrap64 (1 + (wrap64 (Int.tmod a0 8)))))))) else (some false))) else (some false))) else (some false)) else (some false)) else (some false)) = some r := by rw [if_pos rfl] at H; exact H
          clear H
          have H := H1
          clear H1
          by_cases c12 : t105 ≥ 0
          · rw [if_pos c12] at H
            have c12b0 : decide (0 ≤ t105) = true := decide_eq_true c12
            clear c12
            by_cases c13 : t105 < (wrap64 (1 + (wrap64 (Int.tmod a0 8))))
            · rw [if_pos c13] at H
              have c13b0 : decide (t105 < (wrap64 (1 + (wrap64 (Int.tmod a0 8))))) = true := decide_eq_true c13
              clear c13
              by_cases c14 : x11_5 = (Int.tmod (wrap64 (a2)) (wrap64 (1 + (wrap64 (Int.tmod a0 8)))))
              · rw [if_pos c14] at H
                have c14b0 : (x11_5 == (Int.tmod (wrap64 (a2)) (wrap64 (1 + (wrap64 (Int.tmod a0 8)))))) = true := beq_iff_eq.mpr c14
                have c14b1 : (x11_5 != (Int.tmod (wrap64 (a2)) (wrap64 (1 + (wrap64 (Int.tmod a0 8)))))) = false := bne_eq_false_iff_eq.mpr c14
                clear c14
                replace H := Option.bind_eq_some_iff.mp H
                obtain ⟨t108, A150, H⟩ := H
                replace H : (if t108 = (Int.tmod (wrap64 (a2)) (wrap64 (1 + (wrap64 (Int.tmod a0 8))))) then ((ring_Mod.f (wrap64 (1 + (wrap64 (Int.tmod a0 8)))) (wrap64 ((Int.tmod (wrap64 (a1)) (wrap64 (1 + (wrap64 (Int.tmod a0 8))))) - (wrap64 (1 + (wrap64 (Int.tmod a0 8))))))).bind fun t109 => (if t109 = (Int.tmod (wrap64 (a1)) (wrap64 (1 + (wrap64 (Int.tmod a0 8))))) then ((ring_At.f (wrap64 (1 + (wrap64 (Int.tmod a0 8)))) (Int.tmod (wrap64 (a1)) (wrap64 (1 + (wrap64 (Int.tmod a0 8))))) (wrap64 (1 + (wrap64 (Int.tmod a0 8))))).bind fun t110 => (some (t110 == (Int.tmod (wrap64 (a1)) (wrap64 (1 + (wrap64 (Int.tmod a0 8)))))))) else (some false))) else (some false)) = some r := H
                have A15 := Aside0.mk A150
                clear A150
                by_cases c16 : t108 = (Int.tmod (wrap64 (a2)) (wrap64 (1 + (wrap64 (Int.tmod a0 8)))))
                · rw [if_pos c16] at H
                  have c16b0 : (t108 == (Int.tmod (wrap64 (a2)) (wrap64 (1 + (wrap64 (Int.tmod a0 8)))))) = true := beq_iff_eq.mpr c16
                  have c16b1 : (t108 != (Int.tmod (wrap64 (a2)) (wrap64 (1 + (wrap64 (Int.tmod a0 8)))))) = false := bne_eq_false_iff_eq.mpr c16
                  clear c16
                  replace H := Option.bind_eq_some_iff.mp H
                  obtain ⟨t109, A170, H⟩ := H
                  replace H : (if t109 = (Int.tmod (wrap64 (a1)) (wrap64 (1 + (wrap64 (Int.tmod a0 8))))) then ((ring_At.f (wrap64 (1 + (wrap64 (Int.tmod a0 8)))) (Int.tmod (wrap64 (a1)) (wrap64 (1 + (wrap64 (Int.tmod a0 8))))) (wrap64 (1 + (wrap64 (Int.tmod a0 8))))).bind fun t110 => (some (t110 == (Int.tmod (wrap64 (a1)) (wrap64 (1 + (wrap64 (Int.tmod a0 8)))))))) else (some false)) = some r := H
                  have A17 := Aside0.mk A170
                  clear A170
                  by_cases c18 : t109 = (Int.tmod (wrap64 (a1)) (wrap64 (1 + (wrap64 (Int.tmod a0 8)))))
                  · rw [if_pos c18] at H
                    have c18b0 : (t109 == (Int.tmod (wrap64 (a1)) (wrap64 (1 + (wrap64 (Int.tmod a0 8)))))) = true := beq_iff_eq.mpr c18
                    have c18b1 : (t109 != (Int.tmod (wrap64 (a1)) (wrap64 (1 + (wrap64 (Int.tmod a0 8)))))) = false := bne_eq_false_iff_eq.mpr c18
                    clear c18
                    replace H := Option.bind_eq_some_iff.mp H
                    obtain ⟨t110, A190, H⟩ := H
                    replace H : (some (t110 == (Int.tmod (wrap64 (a1)) (wrap64 (1 + (wrap64 (Int.tmod a0 8))))))) = some r := H
                    have A19 := Aside0.mk A190
                    clear A190
                    obtain rfl := Option.some.inj H
                    go_wp2_with (first | (go_at_call 44; (with_reducible refine (daybreaklaw05_awake.calls  true _ A10.out).mono ?_); rintro e w' ⟨rfl, ⟨nd, rfl⟩⟩; (try first | exact ⟨rfl, _, World.drewN_drewN _ _ _⟩ | exact ⟨rfl, _, Eq.trans (World.drewN_drewN _ _ _) (congrArg (World.drewN _) (Nat.add_assoc _ _ _))⟩)) | (go_at_call 49; (with_reducible refine (ring_At.calls (wrap64 (1 + (wrap64 (Int.tmod a0 8)))) (Int.tmod (wrap64 (a1)) (wrap64 (1 + (wrap64 (Int.tmod a0 8))))) t105 t108 _ A15.out).mono ?_); rintro e w' ⟨rfl, ⟨nd, rfl⟩⟩; (try first | exact ⟨rfl, _, World.drewN_drewN _ _ _⟩ | exact ⟨rfl, _, Eq.trans (World.drewN_drewN _ _ _) (congrArg (World.drewN _) (Nat.add_assoc _ _ _))⟩)) | (go_at_call 45; (with_reducible refine (ring_Mod.calls (wrap64 (1 + (wrap64 (Int.tmod a0 8)))) (wrap64 ((Int.tmod (wrap64 (a1)) (wrap64 (1 + (wrap64 (Int.tmod a0 8))))) - (wrap64 (1 + (wrap64 (Int.tmod a0 8)))))) t109 _ A17.out).mono ?_); rintro e w' ⟨rfl, ⟨nd, rfl⟩⟩; (try first | exact ⟨rfl, _, World.drewN_drewN _ _ _⟩ | exact ⟨rfl, _, Eq.trans (World.drewN_drewN _ _ _) (congrArg (World.drewN _) (Nat.add_assoc _ _ _))⟩)) | (go_at_call 49; (with_reducible refine (ring_At.calls (wrap64 (1 + (wrap64 (Int.tmod a0 8)))) (Int.tmod (wrap64 (a1)) (wrap64 (1 + (wrap64 (Int.tmod a0 8))))) (wrap64 (1 + (wrap64 (Int.tmod a0 8)))) t110 _ A19.out).mono ?_); rintro e w' ⟨rfl, ⟨nd, rfl⟩⟩; (try first | exact ⟨rfl, _, World.drewN_drewN _ _ _⟩ | exact ⟨rfl, _, Eq.trans (World.drewN_drewN _ _ _) (congrArg (World.drewN _) (Nat.add_assoc _ _ _))⟩)))
                    repeat (go_quiet (first | (go_at_call 44; (with_reducible refine (daybreaklaw05_awake.calls  true _ A10.out).mono ?_); rintro e w' ⟨rfl, ⟨nd, rfl⟩⟩; (try first | exact ⟨rfl, _, World.drewN_drewN _ _ _⟩ | exact ⟨rfl, _, Eq.trans (World.drewN_drewN _ _ _) (congrArg (World.drewN _) (Nat.add_assoc _ _ _))⟩)) | (go_at_call 49; (with_reducible refine (ring_At.calls (wrap64 (1 + (wrap64 (Int.tmod a0 8)))) (Int.tmod (wrap64 (a1)) (wrap64 (1 + (wrap64 (Int.tmod a0 8))))) t105 t108 _ A15.out).mono ?_); rintro e w' ⟨rfl, ⟨nd, rfl⟩⟩; (try first | exact ⟨rfl, _, World.drewN_drewN _ _ _⟩ | exact ⟨rfl, _, Eq.trans (World.drewN_drewN _ _ _) (congrArg (World.drewN _) (Nat.add_assoc _ _ _))⟩)) | (go_at_call 45; (with_reducible refine (ring_Mod.calls (wrap64 (1 + (wrap64 (Int.tmod a0 8)))) (wrap64 ((Int.tmod (wrap64 (a1)) (wrap64 (1 + (wrap64 (Int.tmod a0 8))))) - (wrap64 (1 + (wrap64 (Int.tmod a0 8)))))) t109 _ A17.out).mono ?_); rintro e w' ⟨rfl, ⟨nd, rfl⟩⟩; (try first | exact ⟨rfl, _, World.drewN_drewN _ _ _⟩ | exact ⟨rfl, _, Eq.trans (World.drewN_drewN _ _ _) (congrArg (World.drewN _) (Nat.add_assoc _ _ _))⟩)) | (go_at_call 49; (with_reducible refine (ring_At.calls (wrap64 (1 + (wrap64 (Int.tmod a0 8)))) (Int.tmod (wrap64 (a1)) (wrap64 (1 + (wrap64 (Int.tmod a0 8))))) (wrap64 (1 + (wrap64 (Int.tmod a0 8)))) t110 _ A19.out).mono ?_); rintro e w' ⟨rfl, ⟨nd, rfl⟩⟩; (try first | exact ⟨rfl, _, World.drewN_drewN _ _ _⟩ | exact ⟨rfl, _, Eq.trans (World.drewN_drewN _ _ _) (congrArg (World.drewN _) (Nat.add_assoc _ _ _))⟩))); try go_wp2_with (first | (go_at_call 44; (with_reducible refine (daybreaklaw05_awake.calls  true _ A10.out).mono ?_); rintro e w' ⟨rfl, ⟨nd, rfl⟩⟩; (try first | exact ⟨rfl, _, World.drewN_drewN _ _ _⟩ | exact ⟨rfl, _, Eq.trans (World.drewN_drewN _ _ _) (congrArg (World.drewN _) (Nat.add_assoc _ _ _))⟩)) | (go_at_call 49; (with_reducible refine (ring_At.calls (wrap64 (1 + (wrap64 (Int.tmod a0 8)))) (Int.tmod (wrap64 (a1)) (wrap64 (1 + (wrap64 (Int.tmod a0 8))))) t105 t108 _ A15.out).mono ?_); rintro e w' ⟨rfl, ⟨nd, rfl⟩⟩; (try first | exact ⟨rfl, _, World.drewN_drewN _ _ _⟩ | exact ⟨rfl, _, Eq.trans (World.drewN_drewN _ _ _) (congrArg (World.drewN _) (Nat.add_assoc _ _ _))⟩)) | (go_at_call 45; (with_reducible refine (ring_Mod.calls (wrap64 (1 + (wrap64 (Int.tmod a0 8)))) (wrap64 ((Int.tmod (wrap64 (a1)) (wrap64 (1 + (wrap64 (Int.tmod a0 8))))) - (wrap64 (1 + (wrap64 (Int.tmod a0 8)))))) t109 _ A17.out).mono ?_); rintro e w' ⟨rfl, ⟨nd, rfl⟩⟩; (try first | exact ⟨rfl, _, World.drewN_drewN _ _ _⟩ | exact ⟨rfl, _, Eq.trans (World.drewN_drewN _ _ _) (congrArg (World.drewN _) (Nat.add_assoc _ _ _))⟩)) | (go_at_call 49; (with_reducible refine (ring_At.calls (wrap64 (1 + (wrap64 (Int.tmod a0 8)))) (Int.tmod (wrap64 (a1)) (wrap64 (1 + (wrap64 (Int.tmod a0 8))))) (wrap64 (1 + (wrap64 (Int.tmod a0 8)))) t110 _ A19.out).mono ?_); rintro e w' ⟨rfl, ⟨nd, rfl⟩⟩; (try first | exact ⟨rfl, _, World.drewN_drewN _ _ _⟩ | exact ⟨rfl, _, Eq.trans (World.drewN_drewN _ _ _) (congrArg (World.drewN _) (Nat.add_assoc _ _ _))⟩))))
                    go_ret
                    exact ⟨by first | rfl | (simp; done) | (simp [*]; done), by repeat (first | exact Drawn0.refl _ | apply Drawn0.step)⟩
                  · rw [if_neg c18] at H
                    have c18b0 : (t109 == (Int.tmod (wrap64 (a1)) (wrap64 (1 + (wrap64 (Int.tmod a0 8)))))) = false := beq_eq_false_iff_ne.mpr c18
                    have c18b1 : (t109 != (Int.tmod (wrap64 (a1)) (wrap64 (1 + (wrap64 (Int.tmod a0 8)))))) = true := bne_iff_ne.mpr c18
                    obtain rfl := Option.some.inj H
                    go_wp2_with (first | (go_at_call 44; (with_reducible refine (daybreaklaw05_awake.calls  true _ A10.out).mono ?_); rintro e w' ⟨rfl, ⟨nd, rfl⟩⟩; (try first | exact ⟨rfl, _, World.drewN_drewN _ _ _⟩ | exact ⟨rfl, _, Eq.trans (World.drewN_drewN _ _ _) (congrArg (World.drewN _) (Nat.add_assoc _ _ _))⟩)) | (go_at_call 49; (with_reducible refine (ring_At.calls (wrap64 (1 + (wrap64 (Int.tmod a0 8)))) (Int.tmod (wrap64 (a1)) (wrap64 (1 + (wrap64 (Int.tmod a0 8))))) t105 t108 _ A15.out).mono ?_); rintro e w' ⟨rfl, ⟨nd, rfl⟩⟩; (try first | exact ⟨rfl, _, World.drewN_drewN _ _ _⟩ | exact ⟨rfl, _, Eq.trans (World.drewN_drewN _ _ _) (congrArg (World.drewN _) (Nat.add_assoc _ _ _))⟩)) | (go_at_call 45; (with_reducible refine (ring_Mod.calls (wrap64 (1 + (wrap64 (Int.tmod a0 8)))) (wrap64 ((Int.tmod (wrap64 (a1)) (wrap64 (1 + (wrap64 (Int.tmod a0 8))))) - (wrap64 (1 + (wrap64 (Int.tmod a0 8)))))) t109 _ A17.out).mono ?_); rintro e w' ⟨rfl, ⟨nd, rfl⟩⟩; (try first | exact ⟨rfl, _, World.drewN_drewN _ _ _⟩ | exact ⟨rfl, _, Eq.trans (World.drewN_drewN _ _ _) (congrArg (World.drewN _) (Nat.add_assoc _ _ _))⟩)))
                    repeat (go_quiet (first | (go_at_call 44; (with_reducible refine (daybreaklaw05_awake.calls  true _ A10.out).mono ?_); rintro e w' ⟨rfl, ⟨nd, rfl⟩⟩; (try first | exact ⟨rfl, _, World.drewN_drewN _ _ _⟩ | exact ⟨rfl, _, Eq.trans (World.drewN_drewN _ _ _) (congrArg (World.drewN _) (Nat.add_assoc _ _ _))⟩)) | (go_at_call 49; (with_reducible refine (ring_At.calls (wrap64 (1 + (wrap64 (Int.tmod a0 8)))) (Int.tmod (wrap64 (a1)) (wrap64 (1 + (wrap64 (Int.tmod a0 8))))) t105 t108 _ A15.out).mono ?_); rintro e w' ⟨rfl, ⟨nd, rfl⟩⟩; (try first | exact ⟨rfl, _, World.drewN_drewN _ _ _⟩ | exact ⟨rfl, _, Eq.trans (World.drewN_drewN _ _ _) (congrArg (World.drewN _) (Nat.add_assoc _ _ _))⟩)) | (go_at_call 45; (with_reducible refine (ring_Mod.calls (wrap64 (1 + (wrap64 (Int.tmod a0 8)))) (wrap64 ((Int.tmod (wrap64 (a1)) (wrap64 (1 + (wrap64 (Int.tmod a0 8))))) - (wrap64 (1 + (wrap64 (Int.tmod a0 8)))))) t109 _ A17.out).mono ?_); rintro e w' ⟨rfl, ⟨nd, rfl⟩⟩; (try first | exact ⟨rfl, _, World.drewN_drewN _ _ _⟩ | exact ⟨rfl, _, Eq.trans (World.drewN_drewN _ _ _) (congrArg (World.drewN _) (Nat.add_assoc _ _ _))⟩))); try go_wp2_with (first | (go_at_call 44; (with_reducible refine (daybreaklaw05_awake.calls  true _ A10.out).mono ?_); rintro e w' ⟨rfl, ⟨nd, rfl⟩⟩; (try first | exact ⟨rfl, _, World.drewN_drewN _ _ _⟩ | exact ⟨rfl, _, Eq.trans (World.drewN_drewN _ _ _) (congrArg (World.drewN _) (Nat.add_assoc _ _ _))⟩)) | (go_at_call 49; (with_reducible refine (ring_At.calls (wrap64 (1 + (wrap64 (Int.tmod a0 8)))) (Int.tmod (wrap64 (a1)) (wrap64 (1 + (wrap64 (Int.tmod a0 8))))) t105 t108 _ A15.out).mono ?_); rintro e w' ⟨rfl, ⟨nd, rfl⟩⟩; (try first | exact ⟨rfl, _, World.drewN_drewN _ _ _⟩ | exact ⟨rfl, _, Eq.trans (World.drewN_drewN _ _ _) (congrArg (World.drewN _) (Nat.add_assoc _ _ _))⟩)) | (go_at_call 45; (with_reducible refine (ring_Mod.calls (wrap64 (1 + (wrap64 (Int.tmod a0 8)))) (wrap64 ((Int.tmod (wrap64 (a1)) (wrap64 (1 + (wrap64 (Int.tmod a0 8))))) - (wrap64 (1 + (wrap64 (Int.tmod a0 8)))))) t109 _ A17.out).mono ?_); rintro e w' ⟨rfl, ⟨nd, rfl⟩⟩; (try first | exact ⟨rfl, _, World.drewN_drewN _ _ _⟩ | exact ⟨rfl, _, Eq.trans (World.drewN_drewN _ _ _) (congrArg (World.drewN _) (Nat.add_assoc _ _ _))⟩))))
                    go_ret
                    exact ⟨by first | rfl | (simp; done) | (simp [*]; done), by repeat (first | exact Drawn0.refl _ | apply Drawn0.step)⟩
                · rw [if_neg c16] at H
                  have c16b0 : (t108 == (Int.tmod (wrap64 (a2)) (wrap64 (1 + (wrap64 (Int.tmod a0 8)))))) = false := beq_eq_false_iff_ne.mpr c16
                  have c16b1 : (t108 != (Int.tmod (wrap64 (a2)) (wrap64 (1 + (wrap64 (Int.tmod a0 8)))))) = true := bne_iff_ne.mpr c16
                  obtain rfl := Option.some.inj H
                  go_wp2_with (first | (go_at_call 44; (with_reducible refine (daybreaklaw05_awake.calls  true _ A10.out).mono ?_); rintro e w' ⟨rfl, ⟨nd, rfl⟩⟩; (try first | exact ⟨rfl, _, World.drewN_drewN _ _ _⟩ | exact ⟨rfl, _, Eq.trans (World.drewN_drewN _ _ _) (congrArg (World.drewN _) (Nat.add_assoc _ _ _))⟩)) | (go_at_call 49; (with_reducible refine (ring_At.calls (wrap64 (1 + (wrap64 (Int.tmod a0 8)))) (Int.tmod (wrap64 (a1)) (wrap64 (1 + (wrap64 (Int.tmod a0 8))))) t105 t108 _ A15.out).mono ?_); rintro e w' ⟨rfl, ⟨nd, rfl⟩⟩; (try first | exact ⟨rfl, _, World.drewN_drewN _ _ _⟩ | exact ⟨rfl, _, Eq.trans (World.drewN_drewN _ _ _) (congrArg (World.drewN _) (Nat.add_assoc _ _ _))⟩)))
                  repeat (go_quiet (first | (go_at_call 44; (with_reducible refine (daybreaklaw05_awake.calls  true _ A10.out).mono ?_); rintro e w' ⟨rfl, ⟨nd, rfl⟩⟩; (try first | exact ⟨rfl, _, World.drewN_drewN _ _ _⟩ | exact ⟨rfl, _, Eq.trans (World.drewN_drewN _ _ _) (congrArg (World.drewN _) (Nat.add_assoc _ _ _))⟩)) | (go_at_call 49; (with_reducible refine (ring_At.calls (wrap64 (1 + (wrap64 (Int.tmod a0 8)))) (Int.tmod (wrap64 (a1)) (wrap64 (1 + (wrap64 (Int.tmod a0 8))))) t105 t108 _ A15.out).mono ?_); rintro e w' ⟨rfl, ⟨nd, rfl⟩⟩; (try first | exact ⟨rfl, _, World.drewN_drewN _ _ _⟩ | exact ⟨rfl, _, Eq.trans (World.drewN_drewN _ _ _) (congrArg (World.drewN _) (Nat.add_assoc _ _ _))⟩))); try go_wp2_with (first | (go_at_call 44; (with_reducible refine (daybreaklaw05_awake.calls  true _ A10.out).mono ?_); rintro e w' ⟨rfl, ⟨nd, rfl⟩⟩; (try first | exact ⟨rfl, _, World.drewN_drewN _ _ _⟩ | exact ⟨rfl, _, Eq.trans (World.drewN_drewN _ _ _) (congrArg (World.drewN _) (Nat.add_assoc _ _ _))⟩)) | (go_at_call 49; (with_reducible refine (ring_At.calls (wrap64 (1 + (wrap64 (Int.tmod a0 8)))) (Int.tmod (wrap64 (a1)) (wrap64 (1 + (wrap64 (Int.tmod a0 8))))) t105 t108 _ A15.out).mono ?_); rintro e w' ⟨rfl, ⟨nd, rfl⟩⟩; (try first | exact ⟨rfl, _, World.drewN_drewN _ _ _⟩ | exact ⟨rfl, _, Eq.trans (World.drewN_drewN _ _ _) (congrArg (World.drewN _) (Nat.add_assoc _ _ _))⟩))))
                  go_ret
                  exact ⟨by first | rfl | (simp; done) | (simp [*]; done), by repeat (first | exact Drawn0.refl _ | apply Drawn0.step)⟩
              · rw [if_neg c14] at H
                have c14b0 : (x11_5 == (Int.tmod (wrap64 (a2)) (wrap64 (1 + (wrap64 (Int.tmod a0 8)))))) = false := beq_eq_false_iff_ne.mpr c14
                have c14b1 : (x11_5 != (Int.tmod (wrap64 (a2)) (wrap64 (1 + (wrap64 (Int.tmod a0 8)))))) = true := bne_iff_ne.mpr c14
                obtain rfl := Option.some.inj H
                go_wp2_with (first | (go_at_call 44; (with_reducible refine (daybreaklaw05_awake.calls  true _ A10.out).mono ?_); rintro e w' ⟨rfl, ⟨nd, rfl⟩⟩; (try first | exact ⟨rfl, _, World.drewN_drewN _ _ _⟩ | exact ⟨rfl, _, Eq.trans (World.drewN_drewN _ _ _) (congrArg (World.drewN _) (Nat.add_assoc _ _ _))⟩)))
                repeat (go_quiet (first | (go_at_call 44; (with_reducible refine (daybreaklaw05_awake.calls  true _ A10.out).mono ?_); rintro e w' ⟨rfl, ⟨nd, rfl⟩⟩; (try first | exact ⟨rfl, _, World.drewN_drewN _ _ _⟩ | exact ⟨rfl, _, Eq.trans (World.drewN_drewN _ _ _) (congrArg (World.drewN _) (Nat.add_assoc _ _ _))⟩))); try go_wp2_with (first | (go_at_call 44; (with_reducible refine (daybreaklaw05_awake.calls  true _ A10.out).mono ?_); rintro e w' ⟨rfl, ⟨nd, rfl⟩⟩; (try first | exact ⟨rfl, _, World.drewN_drewN _ _ _⟩ | exact ⟨rfl, _, Eq.trans (World.drewN_drewN _ _ _) (congrArg (World.drewN _) (Nat.add_assoc _ _ _))⟩))))
                go_ret
                exact ⟨by first | rfl | (simp; done) | (simp [*]; done), by repeat (first | exact Drawn0.refl _ | apply Drawn0.step)⟩
            · rw [if_neg c13] at H
              have c13b0 : decide (t105 < (wrap64 (1 + (wrap64 (Int.tmod a0 8))))) = false := decide_eq_false c13
              clear c13
              obtain rfl := Option.some.inj H
              go_wp2_with (first | (go_at_call 44; (with_reducible refine (daybreaklaw05_awake.calls  true _ A10.out).mono ?_); rintro e w' ⟨rfl, ⟨nd, rfl⟩⟩; (try first | exact ⟨rfl, _, World.drewN_drewN _ _ _⟩ | exact ⟨rfl, _, Eq.trans (World.drewN_drewN _ _ _) (congrArg (World.drewN _) (Nat.add_assoc _ _ _))⟩)))
              repeat (go_quiet (first | (go_at_call 44; (with_reducible refine (daybreaklaw05_awake.calls  true _ A10.out).mono ?_); rintro e w' ⟨rfl, ⟨nd, rfl⟩⟩; (try first | exact ⟨rfl, _, World.drewN_drewN _ _ _⟩ | exact ⟨rfl, _, Eq.trans (World.drewN_drewN _ _ _) (congrArg (World.drewN _) (Nat.add_assoc _ _ _))⟩))); try go_wp2_with (first | (go_at_call 44; (with_reducible refine (daybreaklaw05_awake.calls  true _ A10.out).mono ?_); rintro e w' ⟨rfl, ⟨nd, rfl⟩⟩; (try first | exact ⟨rfl, _, World.drewN_drewN _ _ _⟩ | exact ⟨rfl, _, Eq.trans (World.drewN_drewN _ _ _) (congrArg (World.drewN _) (Nat.add_assoc _ _ _))⟩))))
              go_ret
              exact ⟨by first | rfl | (simp; done) | (simp [*]; done), by repeat (first | exact Drawn0.refl _ | apply Drawn0.step)⟩
          · rw [if_neg c12] at H
            have c12b0 : decide (0 ≤ t105) = false := decide_eq_false c12
            clear c12
            obtain rfl := Option.some.inj H
            go_wp2_with (first | (go_at_call 44; (with_reducible refine (daybreaklaw05_awake.calls  true _ A10.out).mono ?_); rintro e w' ⟨rfl, ⟨nd, rfl⟩⟩; (try first | exact ⟨rfl, _, World.drewN_drewN _ _ _⟩ | exact ⟨rfl, _, Eq.trans (World.drewN_drewN _ _ _) (congrArg (World.drewN _) (Nat.add_assoc _ _ _))⟩)))
            repeat (go_quiet (first | (go_at_call 44; (with_reducible refine (daybreaklaw05_awake.calls  true _ A10.out).mono ?_); rintro e w' ⟨rfl, ⟨nd, rfl⟩⟩; (try first | exact ⟨rfl, _, World.drewN_drewN _ _ _⟩ | exact ⟨rfl, _, Eq.trans (World.drewN_drewN _ _ _) (congrArg (World.drewN _) (Nat.add_assoc _ _ _))⟩))); try go_wp2_with (first | (go_at_call 44; (with_reducible refine (daybreaklaw05_awake.calls  true _ A10.out).mono ?_); rintro e w' ⟨rfl, ⟨nd, rfl⟩⟩; (try first | exact ⟨rfl, _, World.drewN_drewN _ _ _⟩ | exact ⟨rfl, _, Eq.trans (World.drewN_drewN _ _ _) (congrArg (World.drewN _) (Nat.add_assoc _ _ _))⟩))))
            go_ret
            exact ⟨by first | rfl | (simp; done) | (simp [*]; done), by repeat (first | exact Drawn0.refl _ | apply Drawn0.step)⟩
        · replace c11 := Bool.eq_false_iff.mpr c11
          subst c11
          have H1 : (some false) = some r := by rw [if_neg (show ¬ (false = true) by decide)] at H; exact H
          clear H
          have H := H1
          clear H1
          obtain rfl := Option.some.inj H
          go_wp2_with (first | (go_at_call 44; (with_reducible refine (daybreaklaw05_awake.calls  false _ A10.out).mono ?_); rintro e w' ⟨rfl, ⟨nd, rfl⟩⟩; (try first | exact ⟨rfl, _, World.drewN_drewN _ _ _⟩ | exact ⟨rfl, _, Eq.trans (World.drewN_drewN _ _ _) (congrArg (World.drewN _) (Nat.add_assoc _ _ _))⟩)))
          repeat (go_quiet (first | (go_at_call 44; (with_reducible refine (daybreaklaw05_awake.calls  false _ A10.out).mono ?_); rintro e w' ⟨rfl, ⟨nd, rfl⟩⟩; (try first | exact ⟨rfl, _, World.drewN_drewN _ _ _⟩ | exact ⟨rfl, _, Eq.trans (World.drewN_drewN _ _ _) (congrArg (World.drewN _) (Nat.add_assoc _ _ _))⟩))); try go_wp2_with (first | (go_at_call 44; (with_reducible refine (daybreaklaw05_awake.calls  false _ A10.out).mono ?_); rintro e w' ⟨rfl, ⟨nd, rfl⟩⟩; (try first | exact ⟨rfl, _, World.drewN_drewN _ _ _⟩ | exact ⟨rfl, _, Eq.trans (World.drewN_drewN _ _ _) (congrArg (World.drewN _) (Nat.add_assoc _ _ _))⟩))))
          go_ret
          exact ⟨by first | rfl | (simp; done) | (simp [*]; done), by repeat (first | exact Drawn0.refl _ | apply Drawn0.step)⟩

/-- THE ONE PURE STATEMENT of daybreaklaw05_RingGoes: yours. -/
def daybreaklaw05_RingGoes.Pure : Prop := ∀ (a0 : Int) (a1 : Int) (a2 : Int), (Lit.int .u8 a0).wf = true → (Lit.int .u8 a1).wf = true → (Lit.int .u8 a2).wf = true → ∃ k, daybreaklaw05_RingGoes.f k a0 a1 a2 = some true
theorem daybreaklaw05_RingGoes.walk (P : daybreaklaw05_RingGoes.Pure) (a0 : Int) (a1 : Int) (a2 : Int) (w : World) (w0 : (Lit.int .u8 a0).wf = true) (w1 : (Lit.int .u8 a1).wf = true) (w2 : (Lit.int .u8 a2).wf = true) :
    Calls Try.prog 6 #[.int .u8 a0, .int .u8 a1, .int .u8 a2] w fun e w' => e = .returned (.bool true) ∧ Below w.heap.size w w' := by
  obtain ⟨k, h⟩ := P a0 a1 a2 w0 w1 w2
  refine (daybreaklaw05_RingGoes.calls k a0 a1 a2 true w h).mono ?_
  rintro e w' ⟨rfl, hd⟩
  exact ⟨rfl, hd.below⟩

end Go.Proofs.Yteepllnggdecaaa.PRingGoes
