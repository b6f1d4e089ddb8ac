import Derived.Test.YtjipnabidebgbaaHXc
set_option linter.unusedVariables false
set_option linter.unusedSimpArgs false
namespace Day
structure Fr where
 kind : Int
 id : Int
 deriving DecidableEq
structure ND where
 id : Int
 mode : Int
 count : Int
 pos : Int
 deriving DecidableEq
structure HB where
 ages : List Int
 port : Int
 age : Int
 hold : Int
 pos : Int
 deriving DecidableEq
def HB.a (h : HB) (p : Nat) : Int := h.ages.getD p 0
def right (n : Int) : Bool := decide (3 ≤ n) && decide (n ≤ 8)
def times (k n : Int) : Int := if right n then k * n else 0
def ownE (n i : Int) : Int := if right n then (if i < 0 ∨ n ≤ i then 2 else 0) else 1
def ownR (k n i : Int) : Int := if ownE n i = 0 then k * n + i + 1 else 0
def clampR (c least most : Int) : Int := if c < least then least else if most < c then most else c
def upR (c most : Int) : Int := if most ≤ max c 0 then most else max c 0 + 1
def downR (c : Int) : Int := if c ≤ 0 then 0 else c - 1
def modP (n : Int) : Bool := decide (1 ≤ n) && decide (n ≤ 8)
def modR (n x : Int) : Int := x % n
def slotP (n p : Int) : Bool := modP n && decide (0 ≤ p) && decide (p < n)
def nextR (n p : Int) : Int := (p + 1) % n
def atP (n p age : Int) : Bool := modP n && decide (0 ≤ p) && decide (p ≤ 8) && decide (0 ≤ age) && decide (age ≤ 1099511627776)
def atR (n p age : Int) : Int := (p + age) % n
def aheadP (n a b : Int) : Bool := slotP n a && slotP n b
def aheadR (n a b : Int) : Int := (b - a) % n
def rightN (n : Int) (x : ND) : Bool :=
 right n && decide (0 ≤ x.id) && decide (x.id < n) && decide (0 ≤ x.mode) && decide (x.mode ≤ 3) && decide (0 ≤ x.count) && decide (x.count ≤ 1073741824) &&
 (decide (x.mode ≠ 0) || decide (x.count = 0)) && (decide (x.mode = 3) || decide (x.pos = 0)) && decide (0 ≤ x.pos) && decide (x.pos < n)
def idE (n i : Int) : Int := if right n then (if i < 0 ∨ n ≤ i then 2 else 0) else 1
def noND : ND := ⟨0, 0, 0, 0⟩
def freshN (n i : Int) : ND := if idE n i = 0 then ⟨i, 0, 0, 0⟩ else noND
def cleanN (n i : Int) (x : ND) : ND :=
 if idE n i = 0 then
  ⟨i, if 1 ≤ x.mode ∧ x.mode ≤ 3 then x.mode else 1, clampR x.count 0 1073741824, if x.mode = 3 then x.pos % n else 0⟩
 else noND
def wakeN (x : ND) : ND := ⟨x.id, 1, 0, 0⟩
def waitR (n : Int) (x : ND) : Int := if x.mode = 1 then ownR 4 n x.id else ownR 2 n x.id
def dueR (n : Int) (x : ND) : Int :=
 if rightN n x then
  if x.mode = 3 then (x.id - x.pos) % n
  else if x.mode = 1 ∨ x.mode = 2 then max 0 (waitR n x - x.count)
  else -1
 else -1
def noFr : Fr := ⟨0, 0⟩
def ofE (n : Int) (x : ND) : Int := if rightN n x then 0 else 1
def ofR (n : Int) (x : ND) : Fr :=
 if rightN n x && decide (dueR n x = 0) then (if x.mode = 3 then ⟨2, x.id⟩ else ⟨1, x.id⟩) else noFr
end Day
namespace Day
def i64 (x : Int) : Bool := decide (-9223372036854775808 ≤ x) && decide (x ≤ 9223372036854775807)
def u8 (x : Int) : Bool := decide (0 ≤ x) && decide (x ≤ 255)
def u16 (x : Int) : Bool := decide (0 ≤ x) && decide (x ≤ 65535)
def u32 (x : Int) : Bool := decide (0 ≤ x) && decide (x ≤ 4294967295)
def sm (x : Int) : Bool := decide (-4611686018427387904 ≤ x) && decide (x ≤ 4611686018427387904)
def kOf (s : ByteArray) : Int :=
 let l := s.data.toList
 if l = [98, 108, 111, 99, 107] then 2 else if l = [119, 97, 116, 99, 104] then 8 else if l = [108, 97, 116, 101, 114] then 3 else if l = [115, 116, 97, 114, 116] then 40
 else if l = [115, 116, 97, 98, 108, 101] then 96 else if l = [108, 105, 115, 116, 101, 110] then 4 else if l = [99, 111, 108, 100] then 2 else 0
def timeP (s : ByteArray) : Bool := decide (kOf s ≠ 0)
def ND.i64 (x : ND) : Bool := Day.i64 x.id && Day.i64 x.mode && Day.i64 x.count && Day.i64 x.pos
end Day
namespace Day
theorem kOf_block : kOf ⟨([98, 108, 111, 99, 107] : List UInt8).toArray⟩ = 2 := by decide
theorem kOf_watch : kOf ⟨([119, 97, 116, 99, 104] : List UInt8).toArray⟩ = 8 := by decide
theorem kOf_later : kOf ⟨([108, 97, 116, 101, 114] : List UInt8).toArray⟩ = 3 := by decide
theorem kOf_start : kOf ⟨([115, 116, 97, 114, 116] : List UInt8).toArray⟩ = 40 := by decide
theorem kOf_stable : kOf ⟨([115, 116, 97, 98, 108, 101] : List UInt8).toArray⟩ = 96 := by decide
theorem kOf_listen : kOf ⟨([108, 105, 115, 116, 101, 110] : List UInt8).toArray⟩ = 4 := by decide
theorem kOf_cold : kOf ⟨([99, 111, 108, 100] : List UInt8).toArray⟩ = 2 := by decide
theorem kOf_range (s : ByteArray) : 0 ≤ kOf s ∧ kOf s ≤ 96 := by
 unfold kOf
 simp only
 split <;> (try split) <;> (try split) <;> (try split) <;> (try split) <;> (try split) <;> (try split) <;> omega
end Day
namespace Day
theorem mod_range {n x : Int} (hn : 3 ≤ n ∧ n ≤ 8) : 0 ≤ x % n ∧ x % n < n ∧ (x % n) % n = x % n ∧ (0 ≤ x → x < n → x % n = x) :=
 ⟨Int.emod_nonneg _ (by omega), Int.emod_lt_of_pos _ (by omega), Int.emod_emod_of_dvd _ (Int.dvd_refl _), fun h1 h2 => Int.emod_eq_of_lt h1 h2⟩
end Day
namespace Day
def ages8 (f : Nat → Int) : List Int := [f 0, f 1, f 2, f 3, f 4, f 5, f 6, f 7]
def all8 (q : Nat → Bool) : Bool := q 0 && q 1 && q 2 && q 3 && q 4 && q 5 && q 6 && q 7
def sum8 (f : Nat → Int) : Int := f 0 + f 1 + f 2 + f 3 + f 4 + f 5 + f 6 + f 7
def mostA (n : Int) (p : Nat) : Int := if (p : Int) < n then n else 0
def noHB : HB := ⟨[0, 0, 0, 0, 0, 0, 0, 0], 0, 0, 0, 0⟩
def inR (c most : Int) : Bool := decide (0 ≤ c) && decide (c ≤ most)
def HB.i64 (h : HB) : Bool := all8 (fun p => Day.i64 (h.a p)) && Day.i64 h.port && Day.i64 h.age && Day.i64 h.hold && Day.i64 h.pos
def rightH (n : Int) (h : HB) : Bool :=
 right n && all8 (fun p => inR (h.a p) (mostA n p)) && inR h.port (n - 1) && inR h.age (2 * n + 1) && inR h.hold (2 * n) && inR h.pos (n - 1)
def freshH (n : Int) : HB := if right n then ⟨ages8 (mostA n), 0, 2 * n + 1, 0, 0⟩ else noHB
def cleanH (n : Int) (h : HB) : HB :=
 if right n then ⟨ages8 fun p => clampR (h.a p) 0 (mostA n p), h.port % n, clampR h.age 0 (2 * n + 1), clampR h.hold 0 (2 * n), h.pos % n⟩ else noHB
def argE (n : Int) : Int := if right n then 0 else 1
def tickH (n : Int) (h : HB) : HB :=
 if rightH n h then ⟨ages8 fun p => upR (h.a p) (mostA n p), h.port, upR h.age (2 * n + 1), downR h.hold, (h.pos + 1) % n⟩ else noHB
def argH (n : Int) (h : HB) : Int := if rightH n h then 0 else 1
def voteB (n : Int) (h : HB) (p : Nat) (v : Int) : Bool :=
 decide ((p : Int) < n) && ((decide (h.a p < n) && decide ((p + h.a p) % n = v)) || (decide ((p : Int) = h.port) && decide (h.age < 2 * n) && decide ((p + h.age) % n = v)))
def cntH (n : Int) (h : HB) (v : Int) : Int := sum8 fun p => if voteB n h p v then 1 else 0
def votesH (n : Int) (h : HB) (v : Int) : Int := if rightH n h then cntH n h v else 0
def bestStep (n : Int) (h : HB) (b v : Int) : Int := if v < n ∧ cntH n h b < cntH n h v then v else b
def bestI (n : Int) (h : HB) : Int := bestStep n h (bestStep n h (bestStep n h (bestStep n h (bestStep n h (bestStep n h (bestStep n h (bestStep n h 0 0) 1) 2) 3) 4) 5) 6) 7
def bestH (n : Int) (h : HB) : Int := if rightH n h then bestI n h else 0
def bestK (n : Int) (h : HB) : Int := if rightH n h then cntH n h (bestI n h) else 0
end Day
namespace Day
theorem right_cases (n : Int) : n = 3 ∨ n = 4 ∨ n = 5 ∨ n = 6 ∨ n = 7 ∨ n = 8 ∨ right n = false := by
 by_cases h : 3 ≤ n ∧ n ≤ 8
 ·omega
 ·have : right n = false := by simp [right]; omega
  simp [this]
end Day
namespace Day
theorem hub_cases (n : Int) (h : HB) : (n = 3 ∧ rightH 3 h = true) ∨ (n = 4 ∧ rightH 4 h = true) ∨ (n = 5 ∧ rightH 5 h = true) ∨ (n = 6 ∧ rightH 6 h = true) ∨ (n = 7 ∧ rightH 7 h = true) ∨ (n = 8 ∧ rightH 8 h = true) ∨ rightH n h = false := by
 cases hr : rightH n h with
 | false => simp
 | true =>
  have : right n = true := by simp only [rightH, Bool.and_eq_true] at hr; exact hr.1.1.1.1.1
  rcases right_cases n with rfl | rfl | rfl | rfl | rfl | rfl | h1
  ·simp [hr]
  ·simp [hr]
  ·simp [hr]
  ·simp [hr]
  ·simp [hr]
  ·simp [hr]
  ·rw [this] at h1; cases h1
end Day
namespace Day
theorem clamp_id {c m : Int} (hm : 0 ≤ m) : clampR c 0 m = c ↔ 0 ≤ c ∧ c ≤ m := by
 unfold clampR
 split
 ·omega
 ·split <;> omega
theorem mod_id {n x : Int} (hn : 3 ≤ n ∧ n ≤ 8) : x % n = x ↔ 0 ≤ x ∧ x ≤ n - 1 := by
 have h := mod_range (x := x) hn
 constructor
 ·intro e; omega
 ·intro e; exact h.2.2.2 e.1 (by omega)
theorem mostA_nonneg {n : Int} (hn : 3 ≤ n ∧ n ≤ 8) (p : Nat) : 0 ≤ mostA n p := by
 unfold mostA; split <;> omega
theorem inR_iff {c m : Int} : inR c m = true ↔ 0 ≤ c ∧ c ≤ m := by simp [inR]
theorem right_clean (n : Int) (h : HB) (hr : right n = true) : rightH n h = true ↔
  (((cleanH n h).a 0 = h.a 0 ∧ (cleanH n h).a 1 = h.a 1 ∧ (cleanH n h).a 2 = h.a 2 ∧ (cleanH n h).a 3 = h.a 3 ∧ (cleanH n h).a 4 = h.a 4 ∧ (cleanH n h).a 5 = h.a 5 ∧ (cleanH n h).a 6 = h.a 6 ∧ (cleanH n h).a 7 = h.a 7) ∧
   (cleanH n h).port = h.port ∧ (cleanH n h).age = h.age ∧ (cleanH n h).hold = h.hold ∧ (cleanH n h).pos = h.pos) := by
 have hn : 3 ≤ n ∧ n ≤ 8 := by simpa [right] using hr
 have e (p : Nat) (x : Int) : inR x (mostA n p) = true ↔ clampR x 0 (mostA n p) = x := by rw [inR_iff, clamp_id (mostA_nonneg hn p)]
 have e2 (x : Int) : inR x (n - 1) = true ↔ x % n = x := by rw [inR_iff, mod_id hn]
 have e3 : inR h.age (2 * n + 1) = true ↔ clampR h.age 0 (2 * n + 1) = h.age := by rw [inR_iff, clamp_id (by omega)]
 have e4 : inR h.hold (2 * n) = true ↔ clampR h.hold 0 (2 * n) = h.hold := by rw [inR_iff, clamp_id (by omega)]
 simp only [rightH, all8, Bool.and_eq_true, hr, true_and, e, e2, e3, e4, cleanH, if_true]
 simp [HB.a, ages8, and_assoc]
end Day
namespace Day
theorem inR0 (x : Int) : inR x 0 = decide (x = 0) := by
 rw [Bool.eq_iff_iff, inR_iff, decide_eq_true_eq]
 omega
end Day
namespace Day
def bv (b : Bool) : Int := if b then 1 else 0
theorem hub_bounds {n : Int} {h : HB} (hr : rightH n h = true) : (3 ≤ n ∧ n ≤ 8) ∧ ((0 ≤ h.a 0 ∧ h.a 0 ≤ n) ∧ (0 ≤ h.a 1 ∧ h.a 1 ≤ n) ∧ (0 ≤ h.a 2 ∧ h.a 2 ≤ n) ∧ (0 ≤ h.a 3 ∧ h.a 3 ≤ n) ∧ (0 ≤ h.a 4 ∧ h.a 4 ≤ n) ∧ (0 ≤ h.a 5 ∧ h.a 5 ≤ n) ∧ (0 ≤ h.a 6 ∧ h.a 6 ≤ n) ∧ (0 ≤ h.a 7 ∧ h.a 7 ≤ n)) ∧
  (0 ≤ h.port ∧ h.port < n) ∧ (0 ≤ h.age ∧ h.age ≤ 2 * n + 1) ∧ (0 ≤ h.hold ∧ h.hold ≤ 2 * n) ∧ (0 ≤ h.pos ∧ h.pos < n) := by
 simp only [rightH, all8, Bool.and_eq_true, right, decide_eq_true_eq, inR_iff] at hr
 obtain ⟨⟨⟨⟨⟨hn, ha⟩, h1⟩, h2⟩, h3⟩, h4⟩ := hr
 have hm (p : Nat) : mostA n p ≤ n := by unfold mostA; split <;> omega
 have := hm 0; have := hm 1; have := hm 2; have := hm 3; have := hm 4; have := hm 5; have := hm 6; have := hm 7
 obtain ⟨⟨⟨⟨⟨⟨⟨a0, a1⟩, a2⟩, a3⟩, a4⟩, a5⟩, a6⟩, a7⟩ := ha
 refine ⟨hn, ⟨⟨?_, ?_⟩, ⟨?_, ?_⟩, ⟨?_, ?_⟩, ⟨?_, ?_⟩, ⟨?_, ?_⟩, ⟨?_, ?_⟩, ⟨?_, ?_⟩, ?_, ?_⟩, ⟨?_, ?_⟩, ⟨?_, ?_⟩, ⟨?_, ?_⟩, ?_, ?_⟩ <;> omega
end Day
namespace Day
theorem bv_range (b : Bool) : 0 ≤ bv b ∧ bv b ≤ 1 := by cases b <;> simp [bv]
end Day
namespace Day
end Day
namespace Day
def maxL (k : Int) : List Int → Int
 | [] => k
 | l :: ls => maxL (if k < l then l else k) ls
def idxL : List Int → Int → Int → Int
 | [], _, _ => -1
 | l :: ls, i, m => if m = l then i else idxL ls (i + 1) m
def bestL : List Int → Int → Int → Int → Int × Int
 | [], _, b, k => (b, k)
 | l :: ls, i, b, k => if k < l then bestL ls (i + 1) i l else bestL ls (i + 1) b k
theorem maxL_ge : ∀ (ls : List Int) (k : Int), k ≤ maxL k ls
 | [], k => Int.le_refl k
 | l :: ls, k => by
  have := maxL_ge ls (if k < l then l else k)
  show k ≤ maxL (if k < l then l else k) ls
  by_cases h : k < l
  ·rw [if_pos h] at this ⊢; omega
  ·rw [if_neg h] at this ⊢; exact this
theorem bestL_spec : ∀ (ls : List Int) (i b k : Int), bestL ls i b k = (if maxL k ls = k then b else idxL ls i (maxL k ls), maxL k ls)
 | [], i, b, k => by simp [bestL, maxL]
 | l :: ls, i, b, k => by
  unfold bestL maxL idxL
  split
  ·rename_i h
   rw [bestL_spec ls (i + 1) i l]
   have := maxL_ge ls l
   have hk : maxL l ls ≠ k := by omega
   simp [hk]
  ·rename_i h
   rw [bestL_spec ls (i + 1) b k]
   have := maxL_ge ls k
   by_cases hk : maxL k ls = k
   ·simp [hk]
   ·have hl : maxL k ls ≠ l := by omega
    simp [hk, hl]
theorem bl_step (n : Int) (h : HB) (v v' b : Int) (ls : List Int) (hv : v < n) (hv' : v' = v + 1) : bestL (cntH n h v :: ls) v b (cntH n h b) = bestL ls v' (bestStep n h b v) (cntH n h (bestStep n h b v)) := by
 subst hv'
 show (if cntH n h b < cntH n h v then bestL ls (v + 1) v (cntH n h v) else bestL ls (v + 1) b (cntH n h b)) = _
 unfold bestStep
 by_cases hc : cntH n h b < cntH n h v
 ·rw [if_pos hc, if_pos ⟨hv, hc⟩]
 ·rw [if_neg hc, if_neg (by simp [hc])]
theorem step_out (n : Int) (h : HB) (v b : Int) (hv : n ≤ v) : bestStep n h b v = b := by
 unfold bestStep
 rw [if_neg (by omega)]
theorem step_zero (n : Int) (h : HB) : bestStep n h 0 0 = 0 := by simp [bestStep]
theorem best3 (h : HB) : (bestI 3 h, cntH 3 h (bestI 3 h)) = bestL [cntH 3 h 1, cntH 3 h 2] 1 0 (cntH 3 h 0) := by
 unfold bestI
 rw [step_zero, step_out 3 h 7 _ (by omega), step_out 3 h 6 _ (by omega), step_out 3 h 5 _ (by omega), step_out 3 h 4 _ (by omega), step_out 3 h 3 _ (by omega)]
 rw [bl_step 3 h 1 2 _ _ (by omega) (by omega), bl_step 3 h 2 3 _ _ (by omega) (by omega)]
 rfl
theorem best4 (h : HB) : (bestI 4 h, cntH 4 h (bestI 4 h)) = bestL [cntH 4 h 1, cntH 4 h 2, cntH 4 h 3] 1 0 (cntH 4 h 0) := by
 unfold bestI
 rw [step_zero, step_out 4 h 7 _ (by omega), step_out 4 h 6 _ (by omega), step_out 4 h 5 _ (by omega), step_out 4 h 4 _ (by omega)]
 rw [bl_step 4 h 1 2 _ _ (by omega) (by omega), bl_step 4 h 2 3 _ _ (by omega) (by omega), bl_step 4 h 3 4 _ _ (by omega) (by omega)]
 rfl
theorem best5 (h : HB) : (bestI 5 h, cntH 5 h (bestI 5 h)) = bestL [cntH 5 h 1, cntH 5 h 2, cntH 5 h 3, cntH 5 h 4] 1 0 (cntH 5 h 0) := by
 unfold bestI
 rw [step_zero, step_out 5 h 7 _ (by omega), step_out 5 h 6 _ (by omega), step_out 5 h 5 _ (by omega)]
 rw [bl_step 5 h 1 2 _ _ (by omega) (by omega), bl_step 5 h 2 3 _ _ (by omega) (by omega), bl_step 5 h 3 4 _ _ (by omega) (by omega), bl_step 5 h 4 5 _ _ (by omega) (by omega)]
 rfl
theorem best6 (h : HB) : (bestI 6 h, cntH 6 h (bestI 6 h)) = bestL [cntH 6 h 1, cntH 6 h 2, cntH 6 h 3, cntH 6 h 4, cntH 6 h 5] 1 0 (cntH 6 h 0) := by
 unfold bestI
 rw [step_zero, step_out 6 h 7 _ (by omega), step_out 6 h 6 _ (by omega)]
 rw [bl_step 6 h 1 2 _ _ (by omega) (by omega), bl_step 6 h 2 3 _ _ (by omega) (by omega), bl_step 6 h 3 4 _ _ (by omega) (by omega), bl_step 6 h 4 5 _ _ (by omega) (by omega), bl_step 6 h 5 6 _ _ (by omega) (by omega)]
 rfl
theorem best7 (h : HB) : (bestI 7 h, cntH 7 h (bestI 7 h)) = bestL [cntH 7 h 1, cntH 7 h 2, cntH 7 h 3, cntH 7 h 4, cntH 7 h 5, cntH 7 h 6] 1 0 (cntH 7 h 0) := by
 unfold bestI
 rw [step_zero, step_out 7 h 7 _ (by omega)]
 rw [bl_step 7 h 1 2 _ _ (by omega) (by omega), bl_step 7 h 2 3 _ _ (by omega) (by omega), bl_step 7 h 3 4 _ _ (by omega) (by omega), bl_step 7 h 4 5 _ _ (by omega) (by omega), bl_step 7 h 5 6 _ _ (by omega) (by omega), bl_step 7 h 6 7 _ _ (by omega) (by omega)]
 rfl
theorem best8 (h : HB) : (bestI 8 h, cntH 8 h (bestI 8 h)) = bestL [cntH 8 h 1, cntH 8 h 2, cntH 8 h 3, cntH 8 h 4, cntH 8 h 5, cntH 8 h 6, cntH 8 h 7] 1 0 (cntH 8 h 0) := by
 unfold bestI
 rw [step_zero]
 rw [bl_step 8 h 1 2 _ _ (by omega) (by omega), bl_step 8 h 2 3 _ _ (by omega) (by omega), bl_step 8 h 3 4 _ _ (by omega) (by omega), bl_step 8 h 4 5 _ _ (by omega) (by omega), bl_step 8 h 5 6 _ _ (by omega) (by omega), bl_step 8 h 6 7 _ _ (by omega) (by omega), bl_step 8 h 7 8 _ _ (by omega) (by omega)]
 rfl
end Day
namespace Day
theorem bs {l o p p' : Int} {b : Bool} (B : 0 ≤ l ∧ l ≤ p) (R : o = l + bv b) (hp : p' = p + 1) : 0 ≤ o ∧ o ≤ p' := by
 have := bv_range b
 omega
end Day
namespace Day
def cntL (n : Int) (h : HB) : List Int := if n ≤ 8 then (List.range n.toNat).map (fun i : Nat => cntH n h (i : Int)) else []
end Day
namespace Day
theorem tick_right {n : Int} {h : HB} (hr : rightH n h = true) : rightH n (tickH n h) = true := by
 have hb := hub_bounds hr
 have hn := hb.1
 have hrt : right n = true := by simp [right, hn]
 have ha (p : Nat) (c : Int) (h0 : 0 ≤ c ∧ c ≤ mostA n p) : inR (upR c (mostA n p)) (mostA n p) = true := by
  have := mostA_nonneg hn p
  rw [inR_iff]; unfold upR; split <;> omega
 have hu (c m : Int) (hm : 0 ≤ m) : inR (upR c m) m = true := by
  rw [inR_iff]; unfold upR; split <;> omega
 have hd (c m : Int) (h0 : 0 ≤ c ∧ c ≤ m) : inR (downR c) m = true := by
  rw [inR_iff]; unfold downR; split <;> omega
 have hm (x : Int) : inR (x % n) (n - 1) = true := by
  rw [inR_iff]; have := mod_range (x := x) hn; omega
 have hp : inR h.port (n - 1) = true := by rw [inR_iff]; omega
 rw [tickH, if_pos hr]
 clear hr ha
 simp only [rightH, all8, Bool.and_eq_true, hrt, true_and]
 simp [HB.a, ages8, hu _ _ (mostA_nonneg hn _), hm, hp, hu _ _ (show 0 ≤ 2 * n + 1 by omega), hd h.hold (2 * n) (by omega)]
theorem tick_eq {n : Int} {h : HB} (hr : rightH n h = true) : tickH n h = ⟨ages8 fun p => upR (h.a p) (mostA n p), h.port, upR h.age (2 * n + 1), downR h.hold, (h.pos + 1) % n⟩ := by rw [tickH, if_pos hr]
end Day
namespace Day
open Rx
def ils (a : A) : List Int := a.els.map A.int
def ofIls (l : List Int) : A := .l (l.map A.i)
def frsL : List A → List Fr
 | x :: y :: l => ⟨x.int, y.int⟩ :: frsL l
 | _ => []
def frs (a : A) : List Fr := frsL a.els
def ofFrs (l : List Fr) : A := .l (l.flatMap fun f => [.i f.kind, .i f.id])
theorem frsL_of : ∀ l : List Fr, frsL (l.flatMap fun f => [.i f.kind, .i f.id]) = l
 | [] => rfl
 | f :: l => by simp [frsL, frsL_of l]
@[simp] theorem frs_of (l : List Fr) : frs (ofFrs l) = l := frsL_of l
@[simp] theorem ils_of (l : List Int) : ils (ofIls l) = l := by
 induction l with
 | nil => rfl
 | cons a l ih => simpa [ils, ofIls] using ih
end Day
namespace Day
open Rx
def loP (n p : Int) : Bool := decide (0 ≤ p) && decide (p ≤ n) && decide (n ≤ 8)
theorem loP_iff {n p : Int} : loP n p = true ↔ (0 ≤ p ∧ p ≤ n) ∧ n ≤ 8 := by simp [loP]
def fillF (n p j x : Int) : Int := if p ≤ j ∧ j < n then n else x
def cntF (n : Int) (h : HB) (v p : Int) : Int := sum8 fun q => if p ≤ (q : Int) ∧ voteB n h q v = true then 1 else 0
theorem cntF_zero (n : Int) (h : HB) (v : Int) : cntF n h v 0 = cntH n h v := by simp [cntF, cntH, sum8]
theorem cntF_step {n : Int} (h : HB) (v : Int) {p : Int} (hp : 0 ≤ p ∧ p < n) (hn : n ≤ 8) : cntF n h v p = (if voteB n h p.toNat v = true then 1 else 0) + cntF n h v (p + 1) := by
 have : p = 0 ∨ p = 1 ∨ p = 2 ∨ p = 3 ∨ p = 4 ∨ p = 5 ∨ p = 6 ∨ p = 7 := by omega
 rcases this with rfl | rfl | rfl | rfl | rfl | rfl | rfl | rfl <;> simp [cntF, sum8, Int.add_assoc]
theorem cntF_end {n : Int} (h : HB) (v : Int) {p : Int} (hp : n ≤ p) : cntF n h v p = 0 := by
 have e (q : Nat) (hq : p ≤ (q : Int)) : voteB n h q v = false := by simp [voteB]; omega
 have e2 (q : Nat) : (if p ≤ (q : Int) ∧ voteB n h q v = true then (1 : Int) else 0) = 0 := by
  rw [if_neg]; rintro ⟨h1, h2⟩; rw [e q h1] at h2; cases h2
 simp only [cntF, sum8, e2]; rfl
theorem right_le {n : Int} {h : HB} (hr : rightH n h = true) : 3 ≤ n ∧ n ≤ 8 := (hub_bounds hr).1
def isIls (n : Int) (x : A) : Bool := decide (0 ≤ n) && decide (n ≤ 8) && (x.els.length == n.toNat) && x.els.all fun a => match a with | .i _ => true | _ => false
end Day
namespace Day
open Rx
def cntsF (n : Int) (h : HB) (p : Int) (x : A) : List Int := (ils x).mapIdx fun v c => c + cntF n h (v : Int) p
def countsP (n : Int) (h : HB) (p : Int) (x : A) : Bool := rightH n h && inR p n && isIls n x && (ils x).all (fun c => inR c p)
def listP (n i : Int) (x : A) : Bool := inR i n && isIls n x
def maxF (m i : Int) (x : A) : Int := maxL m ((ils x).drop i.toNat)
def idxF (m i : Int) (x : A) : Int := idxL ((ils x).drop i.toNat) i m
def hasF (m i : Int) (x : A) : Bool := ((ils x).drop i.toNat).any fun c => c == m
end Day
namespace Day
open Rx
theorem voteB_eq {n : Int} {h : HB} {p v : Int} (hr : rightH n h = true) (hp : 0 ≤ p ∧ p < n) :
  voteB n h p.toNat v = ((decide (h.a p.toNat < n) && decide ((p + h.a p.toNat) % n = v)) || (decide (p = h.port) && decide (h.age < 2 * n) && decide ((p + h.age) % n = v))) := by
 have hq : ((p.toNat : Nat) : Int) = p := by omega
 simp [voteB, hq, hp.2]
theorem a_bounds {n : Int} {h : HB} (hr : rightH n h = true) {p : Int} (hp : 0 ≤ p ∧ p < n) : 0 ≤ h.a p.toNat ∧ h.a p.toNat ≤ n := by
 have hb := hub_bounds hr
 have : p = 0 ∨ p = 1 ∨ p = 2 ∨ p = 3 ∨ p = 4 ∨ p = 5 ∨ p = 6 ∨ p = 7 := by omega
 rcases this with rfl | rfl | rfl | rfl | rfl | rfl | rfl | rfl
 ·exact hb.2.1.1
 ·exact hb.2.1.2.1
 ·exact hb.2.1.2.2.1
 ·exact hb.2.1.2.2.2.1
 ·exact hb.2.1.2.2.2.2.1
 ·exact hb.2.1.2.2.2.2.2.1
 ·exact hb.2.1.2.2.2.2.2.2.1
 ·exact hb.2.1.2.2.2.2.2.2.2
theorem atR_eq {n a b : Int} (hn : 3 ≤ n ∧ n ≤ 8) (h : 0 ≤ a ∧ a < n) (hb : 0 ≤ b ∧ b ≤ 2 * n + 1) : atP n a b = true ∧ atR n a b = (a + b) % n := by
 have h1 : n ≠ 0 := by omega
 constructor
 ·simp [atP, slotP, modP, i64]; omega
 ·simp [atR, modR]
end Day
namespace Day
open Rx Go
def incA (x : A) (i : Int) : A := .l (x.els.set i.toNat (.i (IntKind.wrap .i64 ((x.els.getD i.toNat (.i 0)).int + 1))))
def incL (l : List Int) (i : Int) : List Int := l.set i.toNat (l.getD i.toNat 0 + 1)
theorem allI_of : ∀ {xs : List A}, (xs.all fun a => match a with | .i _ => true | _ => false) = true → (xs.map A.int).map A.i = xs
 | [], _ => rfl
 | .i c :: xs, h => by
  simp only [List.all_cons, Bool.true_and] at h
  simp only [List.map_cons, allI_of h, A.int]
 | .b _ :: xs, h => by simp at h
 | .v _ :: xs, h => by simp at h
 | .l _ :: xs, h => by simp at h
theorem isIls_iff {n : Int} (hn : 1 ≤ n) {x : A} : isIls n x = true ↔ (n ≤ 8 ∧ ∃ l : List Int, l.length = n.toNat ∧ x = ofIls l) := by
 simp only [isIls, Bool.and_eq_true, decide_eq_true_eq, beq_iff_eq]
 constructor
 ·rintro ⟨⟨⟨h1, h2⟩, h3⟩, h4⟩
  refine ⟨h2, ils x, by simp [ils, h3], ?_⟩
  cases x with
  | l xs => simp only [ofIls, ils, A.els] at *; rw [allI_of h4]
  | i _ => simp [A.els] at h3; omega
  | b _ => simp [A.els] at h3; omega
  | v _ => simp [A.els] at h3; omega
 ·rintro ⟨h2, l, h3, rfl⟩
  refine ⟨⟨⟨by omega, h2⟩, by simp [ofIls, A.els, h3]⟩, ?_⟩
  simp [ofIls, A.els]
theorem getD_i (l : List Int) (i : Nat) : ((l.map A.i).getD i (.i 0)).int = l.getD i 0 := by
 simp only [List.getD_eq_getElem?_getD, List.getElem?_map]
 cases l[i]? <;> rfl
theorem incA_of (l : List Int) (i : Int) (h : 0 ≤ l.getD i.toNat 0 ∧ l.getD i.toNat 0 ≤ 8) : incA (ofIls l) i = ofIls (incL l i) := by
 simp only [incA, ofIls, A.els, incL, List.map_set, getD_i]
 rw [wrap64 (by omega) (by omega)]
theorem incL_get (l : List Int) (i : Int) (v : Nat) (hv : v < l.length) (hi : 0 ≤ i) : (incL l i).getD v 0 = l.getD v 0 + (if i = (v : Int) then 1 else 0) := by
 have e : i.toNat = v ↔ i = (v : Int) := by omega
 simp only [incL, List.getD_eq_getElem?_getD, List.getElem?_set]
 by_cases h : i = (v : Int)
 ·have h' := e.2 h
  simp [h]
  simp [hv]
 ·have : i.toNat ≠ v := fun h' => h (e.1 h')
  simp [h, this]
theorem cntsF_of (n : Int) (h : HB) (p : Int) (l : List Int) : cntsF n h p (ofIls l) = l.mapIdx fun v c => c + cntF n h (v : Int) p := by
 simp [cntsF]
theorem all_get {l : List Int} {q : Int → Bool} (h : l.all q = true) {i : Nat} (hi : i < l.length) : q (l.getD i 0) = true := by
 rw [List.all_eq_true] at h
 simp only [List.getD_eq_getElem?_getD, List.getElem?_eq_getElem hi, Option.getD_some]
 exact h _ (List.getElem_mem hi)
theorem all_of {l : List Int} {q : Int → Bool} (h : ∀ i, i < l.length → q (l.getD i 0) = true) : l.all q = true := by
 rw [List.all_eq_true]
 intro c hc
 obtain ⟨i, hi, rfl⟩ := List.getElem_of_mem hc
 have := h i hi
 simpa only [List.getD_eq_getElem?_getD, List.getElem?_eq_getElem hi, Option.getD_some] using this
theorem mod_lt {n x : Int} (hn : 3 ≤ n ∧ n ≤ 8) : 0 ≤ x % n ∧ x % n < n := ⟨Int.emod_nonneg _ (by omega), Int.emod_lt_of_pos _ (by omega)⟩
theorem counts_step {n : Int} {h : HB} {p : Int} {x y z : A} {s : Int} (hP : countsP n h p x = true) (hp : p < n)
  (hs : s = if h.a p.toNat < n then (p + h.a p.toNat) % n else -1)
  (hy : y = if h.a p.toNat < n then incA x ((p + h.a p.toNat) % n) else x)
  (hz : z = if p = h.port ∧ h.age < 2 * n ∧ (p + h.age) % n ≠ s then incA y ((p + h.age) % n) else y) :
  countsP n h (p + 1) z = true ∧ cntsF n h (p + 1) z = cntsF n h p x := by
 simp only [countsP, Bool.and_eq_true, inR_iff] at hP
 obtain ⟨⟨⟨hr, hp0⟩, hx⟩, hb⟩ := hP
 have hn := right_le hr
 obtain ⟨h8, l, hl, rfl⟩ := (isIls_iff (by omega)).1 hx
 rw [ils_of] at hb
 have hlb (i : Nat) (hi : i < l.length) : 0 ≤ l.getD i 0 ∧ l.getD i 0 ≤ p := by
  have := all_get hb hi
  rwa [inR_iff] at this
 have ha := a_bounds hr ⟨hp0.1, hp⟩
 have hm1 := mod_lt (x := p + h.a p.toNat) hn
 have hm2 := mod_lt (x := p + h.age) hn
 have hv (v : Int) := voteB_eq (v := v) hr ⟨hp0.1, hp⟩
 have key : ∃ l2 : List Int, z = ofIls l2 ∧ l2.length = l.length ∧ ∀ v : Nat, v < l.length → l2.getD v 0 = l.getD v 0 + if voteB n h p.toNat v = true then 1 else 0 := by
  have hy2 : ∃ l1 : List Int, y = ofIls l1 ∧ l1.length = l.length ∧ ∀ v : Nat, v < l.length → l1.getD v 0 = l.getD v 0 + if (v : Int) = s then 1 else 0 := by
   by_cases c : h.a p.toNat < n
   ·rw [if_pos c] at hs hy
    refine ⟨incL l ((p + h.a p.toNat) % n), ?_, by simp [incL], fun v hv => ?_⟩
    ·rw [hy, incA_of]
     have := hlb ((p + h.a p.toNat) % n).toNat (by omega)
     omega
    ·rw [incL_get l _ v hv hm1.1, hs]
     simp only [eq_comm]
   ·rw [if_neg c] at hs hy
    refine ⟨l, hy, rfl, fun v hv => ?_⟩
    rw [if_neg (by omega)]; omega
  obtain ⟨l1, rfl, hl1, hg1⟩ := hy2
  by_cases c : p = h.port ∧ h.age < 2 * n ∧ (p + h.age) % n ≠ s
  ·rw [if_pos c] at hz
   refine ⟨incL l1 ((p + h.age) % n), ?_, by simp [incL, hl1], fun v hvl => ?_⟩
   ·rw [hz, incA_of]
    have h1 := hlb ((p + h.age) % n).toNat (by omega)
    have h2 := hg1 ((p + h.age) % n).toNat (by omega)
    rw [h2]
    split <;> omega
   ·rw [incL_get l1 _ v (by omega) hm2.1, hg1 v hvl, hv]
    obtain ⟨c1, c2, c3⟩ := c
    simp only [decide_eq_true c1, decide_eq_true c2, Bool.true_and, Bool.or_eq_true, Bool.and_eq_true, decide_eq_true_eq]
    by_cases c4 : h.a p.toNat < n
    ·rw [if_pos c4] at hs
     simp only [c4, true_and, ← hs]
     by_cases c5 : (p + h.age) % n = (v : Int)
     ·have : ¬ (v : Int) = s := by omega
      simp [c5, this]
     ·by_cases c6 : (v : Int) = s
      ·simp [c5, c6]
       omega
      ·have : ¬ s = (v : Int) := by omega
       simp [c5, c6, this]
    ·rw [if_neg c4] at hs
     have : ¬ (v : Int) = s := by omega
     simp [c4, this]
  ·rw [if_neg c] at hz
   refine ⟨l1, hz, hl1, fun v hvl => ?_⟩
   rw [hg1 v hvl, hv]
   simp only [Bool.or_eq_true, Bool.and_eq_true, decide_eq_true_eq]
   by_cases c4 : h.a p.toNat < n
   ·rw [if_pos c4] at hs
    simp only [c4, true_and, ← hs]
    by_cases c6 : (v : Int) = s
    ·simp [c6]
    ·have c7 : ¬ s = (v : Int) := by omega
     simp only [c6, c7, false_or, if_false]
     rw [if_neg]
     rintro ⟨⟨d1, d2⟩, d3⟩
     exact c ⟨d1, d2, by omega⟩
   ·rw [if_neg c4] at hs
    have c6 : ¬ (v : Int) = s := by omega
    simp only [c4, c6, false_and, false_or, if_false]
    rw [if_neg]
    rintro ⟨⟨d1, d2⟩, d3⟩
    exact c ⟨d1, d2, by omega⟩
 obtain ⟨l2, rfl, hl2, hg⟩ := key
 constructor
 ·simp only [countsP, Bool.and_eq_true, inR_iff, hr, true_and, ils_of]
  refine ⟨⟨by omega, (isIls_iff (by omega)).2 ⟨h8, l2, by omega, rfl⟩⟩, all_of fun i hi => ?_⟩
  rw [inR_iff, hg i (by omega)]
  have := hlb i (by omega)
  split <;> omega
 ·rw [cntsF_of, cntsF_of]
  apply List.ext_getElem
  ·simp [hl2]
  ·intro i h1 h2
   simp only [List.length_mapIdx] at h1 h2
   simp only [List.getElem_mapIdx]
   have g1 := hg i h2
   simp only [List.getD_eq_getElem?_getD, List.getElem?_eq_getElem h1, List.getElem?_eq_getElem h2, Option.getD_some] at g1
   rw [g1, cntF_step h (i : Int) ⟨hp0.1, hp⟩ (by omega)]
   omega
theorem counts_end {n : Int} {h : HB} {p : Int} {x : A} (hP : countsP n h p x = true) (hp : ¬ p < n) : x = ofIls (cntsF n h p x) := by
 simp only [countsP, Bool.and_eq_true, inR_iff] at hP
 obtain ⟨⟨⟨hr, hp0⟩, hx⟩, hb⟩ := hP
 have hn := right_le hr
 obtain ⟨h8, l, hl, rfl⟩ := (isIls_iff (by omega)).1 hx
 rw [cntsF_of]
 congr 1
 apply List.ext_getElem
 ·simp
 ·intro i h1 h2
  simp only [List.getElem_mapIdx]
  rw [cntF_end h _ (by omega)]
  omega
theorem counts_zero {n : Int} {h : HB} (hr : rightH n h = true) : countsP n h 0 (.l (List.replicate n.toNat [A.i 0]).flatten) = true ∧
  cntsF n h 0 (.l (List.replicate n.toNat [A.i 0]).flatten) = cntL n h := by
 have hn := right_le hr
 have e : (A.l (List.replicate n.toNat [A.i 0]).flatten) = ofIls (List.replicate n.toNat 0) := by
  simp only [ofIls, List.map_replicate]
  congr 1
  generalize n.toNat = k
  induction k with
  | zero => rfl
  | succ k ih => simp [List.replicate_succ, ih]
 rw [e]
 constructor
 ·simp only [countsP, Bool.and_eq_true, inR_iff, hr, true_and, ils_of]
  refine ⟨⟨by omega, (isIls_iff (by omega)).2 ⟨hn.2, _, by simp, rfl⟩⟩, ?_⟩
  simp [inR]
 ·rw [cntsF_of, cntL, if_pos hn.2]
  apply List.ext_getElem
  ·simp
  ·intro i h1 h2
   simp [cntF_zero]
end Day
namespace Day
open Rx Go
theorem drop_step {n i : Int} {x : A} (h : listP n i x = true) (hi : i < n) : (ils x).drop i.toNat = (x.els.getD i.toNat (.i 0)).int :: (ils x).drop (i + 1).toNat := by
 simp only [listP, Bool.and_eq_true, inR_iff, isIls, beq_iff_eq, decide_eq_true_eq] at h
 obtain ⟨h1, ⟨⟨h2, h3⟩, h4⟩, h5⟩ := h
 have hl : i.toNat < (ils x).length := by simp only [ils, List.length_map]; omega
 rw [List.drop_eq_getElem_cons hl, show (i + 1).toNat = i.toNat + 1 by omega]
 congr 1
 have := getD_i (ils x) i.toNat
 simp only [ils, List.getElem_map, List.getD_eq_getElem?_getD]
 have hl2 : i.toNat < x.els.length := by omega
 simp [List.getElem?_eq_getElem hl2]
theorem drop_end {n i : Int} {x : A} (h : listP n i x = true) (hi : ¬ i < n) : (ils x).drop i.toNat = [] := by
 simp only [listP, Bool.and_eq_true, inR_iff, isIls, beq_iff_eq, decide_eq_true_eq] at h
 obtain ⟨h1, ⟨⟨h2, h3⟩, h4⟩, h5⟩ := h
 apply List.drop_eq_nil_of_le
 simp only [ils, List.length_map]; omega
theorem listP_step {n i : Int} {x : A} (h : listP n i x = true) (hi : i < n) : listP n (i + 1) x = true ∧ (0 ≤ i ∧ i ≤ 8) := by
 simp only [listP, Bool.and_eq_true, inR_iff] at h ⊢
 have h2 := h.2
 simp only [isIls, Bool.and_eq_true, decide_eq_true_eq] at h2
 refine ⟨⟨by omega, h.2⟩, by omega⟩
theorem maxF_step {n i m : Int} {x : A} (h : listP n i x = true) (hi : i < n) : maxF m i x = maxF (if m < (x.els.getD i.toNat (.i 0)).int then (x.els.getD i.toNat (.i 0)).int else m) (i + 1) x := by
 simp only [maxF, drop_step h hi, maxL]
theorem maxF_end {n i m : Int} {x : A} (h : listP n i x = true) (hi : ¬ i < n) : maxF m i x = m := by
 simp only [maxF, drop_end h hi, maxL]
theorem idxF_step {n i m : Int} {x : A} (h : listP n i x = true) (hi : i < n) : idxF m i x = if m = (x.els.getD i.toNat (.i 0)).int then i else idxF m (i + 1) x := by
 simp only [idxF, drop_step h hi, idxL]
theorem hasF_step {n i m : Int} {x : A} (h : listP n i x = true) (hi : i < n) : hasF m i x = (((x.els.getD i.toNat (.i 0)).int == m) || hasF m (i + 1) x) := by
 simp only [hasF, drop_step h hi, List.any_cons]
theorem hasF_end {n i m : Int} {x : A} (h : listP n i x = true) (hi : ¬ i < n) : hasF m i x = false := by
 simp only [hasF, drop_end h hi, List.any_nil]
end Day
namespace Day
open Rx Go
theorem maxL_mem : ∀ (ls : List Int) (k : Int), maxL k ls = k ∨ ls.any (fun c => c == maxL k ls) = true
 | [], k => .inl rfl
 | l :: ls, k => by
  rcases maxL_mem ls (if k < l then l else k) with h | h
  ·by_cases c : k < l
   ·right; simp only [maxL, List.any_cons, h]; simp [c]
   ·left; rw [maxL, h]; simp [c]
  ·right
   simp only [maxL, List.any_cons, h, Bool.or_true]
theorem best_list {n : Int} {h : HB} (hr : rightH n h = true) : ∃ k0 ls, cntL n h = k0 :: ls ∧ (bestI n h, cntH n h (bestI n h)) = bestL ls 1 0 k0 := by
 rcases hub_cases n h with ⟨rfl, hc⟩ | ⟨rfl, hc⟩ | ⟨rfl, hc⟩ | ⟨rfl, hc⟩ | ⟨rfl, hc⟩ | ⟨rfl, hc⟩ | hc
 ·exact ⟨_, _, rfl, best3 h⟩
 ·exact ⟨_, _, rfl, best4 h⟩
 ·exact ⟨_, _, rfl, best5 h⟩
 ·exact ⟨_, _, rfl, best6 h⟩
 ·exact ⟨_, _, rfl, best7 h⟩
 ·exact ⟨_, _, rfl, best8 h⟩
 ·rw [hr] at hc; cases hc
theorem cntL_length {n : Int} {h : HB} (hr : rightH n h = true) : ((cntL n h).length : Int) = n := by
 have hn := right_le hr
 rw [cntL, if_pos hn.2]
 simp; omega
theorem cntL_get {n : Int} {h : HB} (hr : rightH n h = true) {v : Int} (hv : 0 ≤ v ∧ v < n) : ((ofIls (cntL n h)).els.getD v.toNat (.i 0)).int = cntH n h v := by
 have hn := right_le hr
 have := getD_i (cntL n h) v.toNat
 rw [show (ofIls (cntL n h)).els = (cntL n h).map A.i from rfl, this, cntL, if_pos hn.2]
 have hl : v.toNat < n.toNat := by omega
 simp [List.getD_eq_getElem?_getD, hl]
 rw [show max v 0 = v by omega]
theorem cntL_P {n i : Int} {h : HB} (hr : rightH n h = true) (hi : 0 ≤ i ∧ i ≤ n) : listP n i (ofIls (cntL n h)) = true := by
 have hn := right_le hr
 have hl := cntL_length hr
 simp only [listP, Bool.and_eq_true, inR_iff]
 exact ⟨hi, (isIls_iff (by omega)).2 ⟨hn.2, _, by omega, rfl⟩⟩
theorem best_counts {n : Int} {h : HB} (hr : rightH n h = true) :
  maxF ((ofIls (cntL n h)).els.getD 0 (.i 0)).int 1 (ofIls (cntL n h)) = bestK n h ∧ idxF (bestK n h) 0 (ofIls (cntL n h)) = bestH n h ∧ hasF (bestK n h) 0 (ofIls (cntL n h)) = true := by
 obtain ⟨k0, ls, e, hb⟩ := best_list hr
 rw [bestL_spec] at hb
 injection hb with h1 h2
 have hk : bestK n h = maxL k0 ls := by rw [bestK, if_pos hr, h2]
 have hi : bestH n h = idxL (k0 :: ls) 0 (maxL k0 ls) := by rw [bestH, if_pos hr, h1, idxL]; rfl
 have e2 : ils (ofIls (k0 :: ls)) = k0 :: ls := ils_of _
 rw [e, hk]
 refine ⟨?_, ?_, ?_⟩
 ·simp only [maxF, e2]; rfl
 ·simp only [idxF, e2]; rw [hi]; rfl
 ·simp only [hasF, e2]
  show ((k0 :: ls).any fun c => c == maxL k0 ls) = true
  rcases maxL_mem ls k0 with hm | hm
  ·simp [hm]
  ·simp only [List.any_cons, hm, Bool.or_true]
end Day
namespace Day
theorem cntH_out {n : Int} {h : HB} (hr : rightH n h = true) {v : Int} (hv : ¬ (0 ≤ v ∧ v < n)) : cntH n h v = 0 := by
 have hn := right_le hr
 have e (p : Nat) : voteB n h p v = false := by
  have m1 := mod_lt (x := p + h.a p) hn
  have m2 := mod_lt (x := p + h.age) hn
  have c1 : ¬ (p + h.a p) % n = v := by omega
  have c2 : ¬ (p + h.age) % n = v := by omega
  simp [voteB, c1, c2]
 simp [cntH, sum8, e]
theorem hub_most {n : Int} {h : HB} (hr : rightH n h = true) : ∀ j : Nat, j < 8 → 0 ≤ h.a j ∧ h.a j ≤ mostA n j := by
 simp only [rightH, all8, Bool.and_eq_true, inR_iff] at hr
 obtain ⟨⟨⟨⟨⟨hn, ha⟩, h1⟩, h2⟩, h3⟩, h4⟩ := hr
 obtain ⟨⟨⟨⟨⟨⟨⟨a0, a1⟩, a2⟩, a3⟩, a4⟩, a5⟩, a6⟩, a7⟩ := ha
 intro j hj
 match j, hj with
 | 0, _ => exact a0
 | 1, _ => exact a1
 | 2, _ => exact a2
 | 3, _ => exact a3
 | 4, _ => exact a4
 | 5, _ => exact a5
 | 6, _ => exact a6
 | 7, _ => exact a7
end Day
namespace Day
open Rx Go
theorem right_i64 {n : Int} {h : HB} (hr : rightH n h = true) : h.i64 = true := by
 have hb := hub_bounds hr
 simp only [HB.i64, all8, i64, Bool.and_eq_true, decide_eq_true_eq]
 omega
theorem argH_right {n : Int} {h : HB} (hr : rightH n h = true) : argH n h = 0 := by simp [argH, hr]
def u8m (x : Int) : Int := 3 + x % 6
theorem u8m_eq {x v13 v14 v15 : Int} (hx : u8 x = true) (h13 : v13 = dvI .rem .u8 x 6) (h14 : v14 = IntKind.wrap .i64 v13) (h15 : v15 = arI .add .i64 3 v14) : v15 = u8m x ∧ right v15 = true := by
 simp only [u8, Bool.and_eq_true, decide_eq_true_eq] at hx
 have e : v13 = x % 6 := by
  rw [h13]
  simp only [dvI]
  rw [Int.tmod_eq_emod_of_nonneg hx.1]
 have hm : 0 ≤ x % 6 ∧ x % 6 < 6 := ⟨Int.emod_nonneg _ (by omega), Int.emod_lt_of_pos _ (by omega)⟩
 rw [wrap64 (by omega) (by omega)] at h14
 simp only [arI] at h15
 rw [wrap64 (by omega) (by omega)] at h15
 refine ⟨by rw [h15, h14, e]; rfl, ?_⟩
 simp only [right, Bool.and_eq_true, decide_eq_true_eq]
 omega
end Day
namespace Day
open Rx Go
end Day
namespace Day
open Rx Go
def okF (n : Int) (h : HB) (p : Int) : Bool := all8 fun q => !decide (p ≤ (q : Int)) || inR (h.a q) (mostA n q)
theorem okF_zero (n : Int) (h : HB) : okF n h 0 = all8 fun q => inR (h.a q) (mostA n q) := by simp [okF, all8]
theorem okF_step {n : Int} (h : HB) {p : Int} (hp : 0 ≤ p ∧ p < 8) : okF n h p = (inR (h.a p.toNat) (mostA n p.toNat) && okF n h (p + 1)) := by
 have : p = 0 ∨ p = 1 ∨ p = 2 ∨ p = 3 ∨ p = 4 ∨ p = 5 ∨ p = 6 ∨ p = 7 := by omega
 rcases this with rfl | rfl | rfl | rfl | rfl | rfl | rfl | rfl <;> simp [okF, all8, Bool.and_assoc]
theorem okF_end (n : Int) (h : HB) {p : Int} (hp : 8 ≤ p) : okF n h p = true := by
 have e (q : Int) (hq : q < 8) : decide (p ≤ q) = false := by simp; omega
 simp [okF, all8, e]
end Day
namespace Day
open Rx Go
def settleS (n : Int) (h : HB) : Int := if h.hold = 0 then bestH n h else h.pos
def settleV (n : Int) (h : HB) : Int := if h.hold = 0 then bestK n h else votesH n h h.pos
def settleH (n : Int) (h : HB) : HB :=
 if rightH n h then (if 2 ≤ settleV n h then ⟨ages8 fun p => h.a p, h.port, h.age, 2 * n, settleS n h⟩ else ⟨ages8 fun p => h.a p, h.port, h.age, h.hold, h.pos⟩) else noHB
end Day
namespace Day
open Rx Go
theorem best_range {n : Int} {h : HB} (hr : rightH n h = true) : 0 ≤ bestH n h ∧ bestH n h < n := by
 have hn := right_le hr
 rw [bestH, if_pos hr]
 have st (b v : Int) (hv : 0 ≤ v) (h2 : 0 ≤ b ∧ b < n) : 0 ≤ bestStep n h b v ∧ bestStep n h b v < n := by
  unfold bestStep; split <;> omega
 unfold bestI
 exact st _ 7 (by omega) (st _ 6 (by omega) (st _ 5 (by omega) (st _ 4 (by omega) (st _ 3 (by omega) (st _ 2 (by omega) (st _ 1 (by omega) (st _ 0 (by omega) (by omega))))))))
theorem bestK_votes {n : Int} {h : HB} (hr : rightH n h = true) : bestK n h = votesH n h (bestH n h) := by
 rw [bestK, votesH, bestH, if_pos hr, if_pos hr, if_pos hr]
theorem right_pos {n : Int} {h : HB} (hr : rightH n h = true) {k p : Int} (hk : 0 ≤ k ∧ k ≤ 2 * n) (hp : 0 ≤ p ∧ p < n) : rightH n ⟨ages8 fun p => h.a p, h.port, h.age, k, p⟩ = true := by
 have e : inR p (n - 1) = true := by rw [inR_iff]; omega
 have e2 : inR k (2 * n) = true := by rw [inR_iff]; omega
 simp only [rightH, Bool.and_eq_true] at hr ⊢
 obtain ⟨⟨⟨⟨⟨h1, h2⟩, h3⟩, h4⟩, h5⟩, h6⟩ := hr
 exact ⟨⟨⟨⟨⟨h1, h2⟩, h3⟩, h4⟩, e2⟩, e⟩
theorem votes_pos {n : Int} {h : HB} (hr : rightH n h = true) {k p v : Int} (hk : 0 ≤ k ∧ k ≤ 2 * n) (hp : 0 ≤ p ∧ p < n) : votesH n ⟨ages8 fun p => h.a p, h.port, h.age, k, p⟩ v = votesH n h v := by
 rw [votesH, votesH, if_pos hr, if_pos (right_pos hr hk hp)]
 rfl
end Day
namespace Day
open Rx Go
def allF (f : Int → Bool) (i n : Int) : Bool := (List.range (n - i).toNat).all fun j => f (i + (j : Int))
def firstF (f : Int → Bool) (i n : Int) : Int := match (List.range (n - i).toNat).find? (fun j : Nat => f (i + (j : Int))) with | some j => i + (j : Int) | none => -1
def anyF (f : Int → Bool) (i n : Int) : Bool := !allF (fun p => !f p) i n
theorem range_toNat {i n : Int} (h : i < n) : List.range (n - i).toNat = 0 :: (List.range (n - (i + 1)).toNat).map (· + 1) := by
 rw [show (n - i).toNat = (n - (i + 1)).toNat + 1 by omega, List.range_succ_eq_map]
theorem allF_step {f : Int → Bool} {i n : Int} (h : i < n) : allF f i n = (f i && allF f (i + 1) n) := by
 unfold allF
 rw [range_toNat h]
 simp only [List.all_cons, List.all_map]
 congr 1
 ·simp
 ·congr 1
  funext j
  simp only [Function.comp]
  congr 1
  simp; omega
theorem allF_end {f : Int → Bool} {i n : Int} (h : ¬ i < n) : allF f i n = true := by
 unfold allF
 rw [show (n - i).toNat = 0 by omega]; rfl
theorem firstF_step {f : Int → Bool} {i n : Int} (h : i < n) : firstF f i n = if f i then i else firstF f (i + 1) n := by
 unfold firstF
 rw [range_toNat h, List.find?_cons]
 have e : f (i + ((0 : Nat) : Int)) = f i := by simp
 rw [e]
 cases hf : f i
 ·simp only [List.find?_map, Bool.false_eq_true, if_false]
  have : ((fun j : Nat => f (i + (j : Int))) ∘ fun x => x + 1) = fun j : Nat => f (i + 1 + (j : Int)) := by
   funext j; simp only [Function.comp]; congr 1; simp; omega
  rw [this]
  cases List.find? (fun j : Nat => f (i + 1 + (j : Int))) (List.range (n - (i + 1)).toNat) with
  | none => rfl
  | some j => simp; omega
 ·simp
theorem firstF_end {f : Int → Bool} {i n : Int} (h : ¬ i < n) : firstF f i n = -1 := by
 unfold firstF
 rw [show (n - i).toNat = 0 by omega]; rfl
theorem anyF_step {f : Int → Bool} {i n : Int} (h : i < n) : anyF f i n = (f i || anyF f (i + 1) n) := by
 unfold anyF
 rw [allF_step h]; simp
theorem anyF_end {f : Int → Bool} {i n : Int} (h : ¬ i < n) : anyF f i n = false := by
 unfold anyF
 rw [allF_end h]; rfl
theorem allF_iff {f : Int → Bool} {i n : Int} : allF f i n = true ↔ ∀ p, i ≤ p → p < n → f p = true := by
 unfold allF
 rw [List.all_eq_true]
 constructor
 ·intro h p h1 h2
  have := h (p - i).toNat (by rw [List.mem_range]; omega)
  rwa [show i + ((p - i).toNat : Int) = p by omega] at this
 ·intro h j hj
  rw [List.mem_range] at hj
  exact h _ (by omega) (by omega)
theorem anyF_iff {f : Int → Bool} {i n : Int} : anyF f i n = true ↔ ∃ p, i ≤ p ∧ p < n ∧ f p = true := by
 unfold anyF
 rw [Bool.not_eq_true', Bool.eq_false_iff, ne_eq, allF_iff]
 constructor
 ·intro h
  apply Classical.byContradiction
  intro h2
  refine h fun p h3 h4 => ?_
  cases hf : f p with
  | false => rfl
  | true => exact absurd ⟨p, h3, h4, hf⟩ h2
 ·rintro ⟨p, h1, h2, h3⟩ h
  have := h p h1 h2
  rw [h3] at this
  cases this
theorem firstF_spec {f : Int → Bool} {n : Int} : ∀ (k : Nat) (i : Int), (n - i).toNat = k → anyF f i n = true → i ≤ firstF f i n ∧ firstF f i n < n ∧ f (firstF f i n) = true ∧ ∀ p, i ≤ p → p < firstF f i n → f p = false
 | 0, i, hk, h => by rw [anyF_end (by omega)] at h; cases h
 | k + 1, i, hk, h => by
  have hlt : i < n := by omega
  rw [anyF_step hlt] at h
  rw [firstF_step hlt]
  cases hf : f i with
  | true => simp [hlt, hf]; intro p h1 h2; omega
  | false =>
   rw [hf, Bool.false_or] at h
   obtain ⟨h1, h2, h3, h4⟩ := firstF_spec k (i + 1) (by omega) h
   simp only [Bool.false_eq_true, if_false]
   refine ⟨by omega, h2, h3, fun p hp1 hp2 => ?_⟩
   by_cases hpi : p = i
   ·subst hpi; exact hf
   ·exact h4 p (by omega) hp2
theorem first_spec {f : Int → Bool} {i n : Int} (h : anyF f i n = true) : i ≤ firstF f i n ∧ firstF f i n < n ∧ f (firstF f i n) = true ∧ ∀ p, i ≤ p → p < firstF f i n → f p = false := firstF_spec _ i rfl h
theorem firstF_none {f : Int → Bool} {i n : Int} (h : anyF f i n = false) : firstF f i n = -1 := by
 unfold firstF
 have : List.find? (fun j : Nat => f (i + (j : Int))) (List.range (n - i).toNat) = none := by
  rw [List.find?_eq_none]
  intro j hj hf
  rw [List.mem_range] at hj
  have : anyF f i n = true := anyF_iff.2 ⟨i + (j : Int), by omega, by omega, hf⟩
  rw [h] at this; cases this
 rw [this]
structure Ls where
 x : A
 n : Int
def Ls.k (q : Ls) (i : Int) : Int := (q.x.els.getD (2 * i.toNat) (.i 0)).int
def Ls.d (q : Ls) (i : Int) : Int := (q.x.els.getD (1 + 2 * i.toNat) (.i 0)).int
def Ls.ok (q : Ls) : Bool := decide (0 ≤ q.n) && decide (q.n ≤ 9223372036854775807)
def fitB (q : Ls) (p : Int) : Bool := (q.k p == 0 && q.d p == 0) || ((q.k p == 1 || q.k p == 2) && q.d p == p)
def fitsR (n : Int) (q : Ls) : Bool := right n && (q.n == n && allF (fitB q) 0 q.n)
def gateE (n : Int) (h : HB) (q : Ls) : Int := if rightH n h then (if fitsR n q then 0 else 2) else 1
def isCs (q : Ls) (p : Int) : Bool := q.k p == 1
def noteF (n : Int) (q : Ls) (p j x : Int) : Int := if p ≤ j ∧ j < n ∧ q.k j = 2 then 0 else x
def sameH (h : HB) : HB := ⟨ages8 fun p => h.a p, h.port, h.age, h.hold, h.pos⟩
def noteH (n : Int) (h : HB) (q : Ls) : HB := if gateE n h q = 0 then ⟨ages8 fun p => if (p : Int) < n ∧ q.k p = 2 then 0 else h.a p, h.port, h.age, h.hold, h.pos⟩ else noHB
def ownerH (n : Int) (h : HB) (q : Ls) : HB := if q.k h.pos = 2 then ⟨ages8 fun p => h.a p, h.port, h.age, 2 * n, h.pos⟩ else sameH h
def ownerF (h : HB) (q : Ls) : Fr := if q.k h.pos = 2 then ⟨2, q.d h.pos⟩ else noFr
def goesF (n : Int) (q : Ls) (i age : Int) : Bool := anyF (isCs q) i n && decide (2 * n < age)
def goesB (n : Int) (h : HB) (q : Ls) : Bool := anyF (isCs q) 0 n && decide (2 * n < h.age)
def firstH (n : Int) (h : HB) (q : Ls) : HB := if goesB n h q then ⟨ages8 fun p => if (p : Int) < n then n else h.a p, firstF (isCs q) 0 n, 0, h.hold, h.pos⟩ else sameH h
def firstFr (n : Int) (h : HB) (q : Ls) : Fr := if goesB n h q then ⟨1, q.d (firstF (isCs q) 0 n)⟩ else noFr
def relayH (n : Int) (h : HB) (q : Ls) : HB := if gateE n h q = 0 then (if 0 < h.hold then ownerH n h q else firstH n h q) else noHB
def relayF (n : Int) (h : HB) (q : Ls) : Fr := if gateE n h q = 0 then (if 0 < h.hold then ownerF h q else firstFr n h q) else noFr
theorem gateE_fits {n : Int} {h : HB} {q : Ls} : gateE n h q = 0 ↔ rightH n h = true ∧ fitsR n q = true := by
 unfold gateE
 split <;> rename_i c
 ·split <;> rename_i c2 <;> simp [c, c2]
 ·simp [c]
theorem fits_n {n : Int} {q : Ls} (h : fitsR n q = true) : q.n = n ∧ (3 ≤ n ∧ n ≤ 8) ∧ ∀ p, 0 ≤ p → p < n → fitB q p = true := by
 simp only [fitsR, Bool.and_eq_true, beq_iff_eq] at h
 obtain ⟨h1, h2, h3⟩ := h
 rw [allF_iff, h2] at h3
 exact ⟨h2, by simpa [right] using h1, h3⟩
theorem noteF_step {n p x : Int} {q : Ls} (j : Nat) (hp : 0 ≤ p ∧ p < n) : noteF n q (p + 1) j (if (q.k p == 2) = true then (if p.toNat = j then 0 else x) else x) = noteF n q p j x := by
 unfold noteF
 by_cases hj : p = (j : Int)
 ·subst hj
  have h1 : ¬ ((j : Int) + 1 ≤ j) := by omega
  have h2 : (j : Int) < n := hp.2
  by_cases hk : q.k (j : Int) = 2
  ·simp [h1, h2, hk]
  ·simp [h1, hk]
 ·have h1 : ¬ p.toNat = j := by omega
  have h2 : p + 1 ≤ (j : Int) ↔ p ≤ (j : Int) := by omega
  simp [h1, h2]
theorem noteF_end {n p x j : Int} {q : Ls} (hp : n ≤ p) : noteF n q p j x = x := by
 unfold noteF
 rw [if_neg]; omega
theorem fits_ok {n : Int} {q : Ls} (h : fitsR n q = true) : q.ok = true := by
 obtain ⟨h1, h2, _⟩ := fits_n h
 simp [Ls.ok]; omega
theorem fits_k {n p : Int} {q : Ls} (h : fitsR n q = true) (h0 : 0 ≤ p) (h1 : p < n) : (q.k p = 0 ∧ q.d p = 0) ∨ (q.k p = 1 ∧ q.d p = p) ∨ (q.k p = 2 ∧ q.d p = p) := by
 have := (fits_n h).2.2 p h0 h1
 simp only [fitB, Bool.or_eq_true, Bool.and_eq_true, beq_iff_eq] at this
 omega
end Day
namespace Day
open Rx Go
theorem right_mk {n : Int} {f : Nat → Int} {port age hold pos : Int} (hn : 3 ≤ n ∧ n ≤ 8) (hf : ∀ p, p < 8 → 0 ≤ f p ∧ f p ≤ mostA n p) (h1 : 0 ≤ port ∧ port < n) (h2 : 0 ≤ age ∧ age ≤ 2 * n + 1) (h3 : 0 ≤ hold ∧ hold ≤ 2 * n) (h4 : 0 ≤ pos ∧ pos < n) :
  rightH n ⟨ages8 f, port, age, hold, pos⟩ = true := by
 have hR : right n = true := by simp [right, hn]
 have e (p : Nat) (hp : p < 8) : inR (f p) (mostA n p) = true := by rw [inR_iff]; exact hf p hp
 have e1 : inR port (n - 1) = true := by rw [inR_iff]; omega
 have e2 : inR age (2 * n + 1) = true := by rw [inR_iff]; omega
 have e3 : inR hold (2 * n) = true := by rw [inR_iff]; omega
 have e4 : inR pos (n - 1) = true := by rw [inR_iff]; omega
 have g : all8 (fun p => inR ((HB.mk (ages8 f) port age hold pos).a p) (mostA n p)) = true := by
  simp only [all8, Bool.and_eq_true]
  exact ⟨⟨⟨⟨⟨⟨⟨e 0 (by omega), e 1 (by omega)⟩, e 2 (by omega)⟩, e 3 (by omega)⟩, e 4 (by omega)⟩, e 5 (by omega)⟩, e 6 (by omega)⟩, e 7 (by omega)⟩
 simp only [rightH, hR, g, e1, e2, e3, e4, Bool.and_self]
theorem right_all {n : Int} {h : HB} (hr : rightH n h = true) : (3 ≤ n ∧ n ≤ 8) ∧ (∀ p, p < 8 → 0 ≤ h.a p ∧ h.a p ≤ mostA n p) ∧ (0 ≤ h.port ∧ h.port < n) ∧ (0 ≤ h.age ∧ h.age ≤ 2 * n + 1) ∧ (0 ≤ h.hold ∧ h.hold ≤ 2 * n) ∧ (0 ≤ h.pos ∧ h.pos < n) := by
 have hb := hub_bounds hr
 exact ⟨hb.1, hub_most hr, hb.2.2⟩
theorem mostA_le (n : Int) (hn : 0 ≤ n) (p : Nat) : 0 ≤ mostA n p ∧ mostA n p ≤ n := by unfold mostA; split <;> omega
theorem same_right {n : Int} {h : HB} (hr : rightH n h = true) : rightH n (sameH h) = true := by
 obtain ⟨h1, h2, h3, h4, h5, h6⟩ := right_all hr
 exact right_mk h1 h2 h3 h4 h5 h6
theorem note_eq {n : Int} {h : HB} {q : Ls} (hr : rightH n h = true) (hf : fitsR n q = true) : noteH n h q = ⟨ages8 fun p => if (p : Int) < n ∧ q.k p = 2 then 0 else h.a p, h.port, h.age, h.hold, h.pos⟩ := by
 rw [noteH, if_pos (gateE_fits.2 ⟨hr, hf⟩)]
theorem note_right {n : Int} {h : HB} {q : Ls} (hr : rightH n h = true) (hf : fitsR n q = true) : rightH n (noteH n h q) = true := by
 obtain ⟨h1, h2, h3, h4, h5, h6⟩ := right_all hr
 rw [note_eq hr hf]
 refine right_mk h1 (fun p hp => ?_) h3 h4 h5 h6
 have := h2 p hp
 have := mostA_le n (by omega) p
 split <;> omega
theorem settle_eq {n : Int} {h : HB} (hr : rightH n h = true) : settleH n h = if 2 ≤ settleV n h then ⟨ages8 fun p => h.a p, h.port, h.age, 2 * n, settleS n h⟩ else sameH h := by
 rw [settleH, if_pos hr]; rfl
theorem settleS_range {n : Int} {h : HB} (hr : rightH n h = true) : 0 ≤ settleS n h ∧ settleS n h < n := by
 have := best_range hr
 have := (right_all hr).2.2.2.2.2
 unfold settleS; split <;> omega
theorem settle_right {n : Int} {h : HB} (hr : rightH n h = true) : rightH n (settleH n h) = true := by
 obtain ⟨h1, h2, h3, h4, h5, h6⟩ := right_all hr
 have hs := settleS_range hr
 rw [settle_eq hr]
 split
 ·exact right_mk h1 h2 h3 h4 (by omega) hs
 ·exact same_right hr
theorem relay_cases {n : Int} {h : HB} {q : Ls} (hr : rightH n h = true) (hf : fitsR n q = true) :
  (0 < h.hold ∧ q.k h.pos = 2 ∧ q.d h.pos = h.pos ∧ relayF n h q = ⟨2, h.pos⟩ ∧ relayH n h q = ⟨ages8 fun p => h.a p, h.port, h.age, 2 * n, h.pos⟩) ∨
  (h.hold = 0 ∧ 2 * n < h.age ∧ ∃ p, 0 ≤ p ∧ p < n ∧ q.k p = 1 ∧ q.d p = p ∧ (∀ i, 0 ≤ i → i < p → q.k i ≠ 1) ∧ relayF n h q = ⟨1, p⟩ ∧ relayH n h q = ⟨ages8 fun p => if (p : Int) < n then n else h.a p, p, 0, h.hold, h.pos⟩) ∨
  (relayF n h q = noFr ∧ relayH n h q = sameH h ∧ (0 < h.hold → q.k h.pos ≠ 2) ∧ (h.hold = 0 → 2 * n < h.age → ∀ i, 0 ≤ i → i < n → q.k i ≠ 1)) := by
 obtain ⟨h1, h2, h3, h4, h5, h6⟩ := right_all hr
 have hg := gateE_fits.2 ⟨hr, hf⟩
 unfold relayF relayH
 rw [if_pos hg, if_pos hg]
 by_cases c : 0 < h.hold
 ·rw [if_pos c, if_pos c]
  have hk := fits_k hf h6.1 h6.2
  by_cases c2 : q.k h.pos = 2
  ·have hd : q.d h.pos = h.pos := by omega
   refine .inl ⟨c, c2, hd, by rw [ownerF, if_pos c2, hd], by rw [ownerH, if_pos c2]⟩
  ·exact .inr (.inr ⟨by rw [ownerF, if_neg c2], by rw [ownerH, if_neg c2], fun _ => c2, fun h0 => by omega⟩)
 ·rw [if_neg c, if_neg c]
  cases hA : goesB n h q with
  | true =>
   have hA2 := hA
   simp only [goesB, goesF, Bool.and_eq_true, decide_eq_true_eq] at hA2
   obtain ⟨s1, s2, s3, s4⟩ := first_spec hA2.1
   have hkp : q.k (firstF (isCs q) 0 n) = 1 := by simpa [isCs] using s3
   have hk := fits_k hf s1 s2
   have hd : q.d (firstF (isCs q) 0 n) = firstF (isCs q) 0 n := by omega
   refine .inr (.inl ⟨by omega, hA2.2, firstF (isCs q) 0 n, s1, s2, hkp, hd, fun i i1 i2 => ?_, by rw [firstFr, if_pos hA, hd], by rw [firstH, if_pos hA]⟩)
   have := s4 i i1 i2
   simpa [isCs] using this
  | false =>
   refine .inr (.inr ⟨by rw [firstFr, hA]; rfl, by rw [firstH, hA]; rfl, fun h0 => absurd h0 c, fun _ ha i i1 i2 hi => ?_⟩)
   have : goesB n h q = true := by
    simp only [goesB, goesF, Bool.and_eq_true, decide_eq_true_eq]
    exact ⟨anyF_iff.2 ⟨i, i1, i2, by simp [isCs, hi]⟩, ha⟩
   rw [hA] at this; cases this
theorem relay_right {n : Int} {h : HB} {q : Ls} (hr : rightH n h = true) (hf : fitsR n q = true) : rightH n (relayH n h q) = true := by
 obtain ⟨h1, h2, h3, h4, h5, h6⟩ := right_all hr
 rcases relay_cases hr hf with ⟨_, _, _, _, e⟩ | ⟨_, _, p, p1, p2, _, _, _, _, e⟩ | ⟨_, e, _⟩
 ·rw [e]; exact right_mk h1 h2 h3 h4 (by omega) h6
 ·rw [e]
  refine right_mk h1 (fun j hj => ?_) ⟨p1, p2⟩ (by omega) h5 h6
  have := h2 j hj
  unfold mostA at *
  split <;> rename_i c
  ·omega
  ·simp only [c, if_false] at this; omega
 ·rw [e]; exact same_right hr
theorem mk_HB (x : HB) (hx : x.ages.length = 8) : HB.mk [x.a 0, x.a 1, x.a 2, x.a 3, x.a 4, x.a 5, x.a 6, x.a 7] x.port x.age x.hold x.pos = x := by
 obtain ⟨l, a, b, c, d⟩ := x
 match l, hx with
 | [_, _, _, _, _, _, _, _], _ => rfl
theorem len_note (n : Int) (h : HB) (q : Ls) : (noteH n h q).ages.length = 8 := by unfold noteH; split <;> rfl
theorem len_settle (n : Int) (h : HB) : (settleH n h).ages.length = 8 := by unfold settleH; split <;> (try split) <;> rfl
theorem len_relay (n : Int) (h : HB) (q : Ls) : (relayH n h q).ages.length = 8 := by
 unfold relayH ownerH firstH sameH
 repeat' split
 all_goals rfl
theorem len_tick (n : Int) (h : HB) : (tickH n h).ages.length = 8 := by unfold tickH; split <;> rfl
theorem settle_law {n : Int} {h : HB} (hr : rightH n h = true) : (0 < h.hold → (settleH n h).pos = h.pos ∧ h.hold ≤ (settleH n h).hold) ∧
  (h.hold = 0 → (2 ≤ bestK n h → 0 < (settleH n h).hold ∧ votesH n (settleH n h) (settleH n h).pos = bestK n h) ∧ (¬ 2 ≤ bestK n h → settleH n h = sameH h)) := by
 obtain ⟨h1, h2, h3, h4, h5, h6⟩ := right_all hr
 have hs := settleS_range hr
 constructor
 ·intro c
  have c0 : ¬ h.hold = 0 := by omega
  rw [settle_eq hr]
  split
  ·exact ⟨if_neg c0, h5.2⟩
  ·exact ⟨rfl, Int.le_refl _⟩
 ·intro c
  have hv : settleV n h = bestK n h := if_pos c
  have hss : settleS n h = bestH n h := if_pos c
  rw [settle_eq hr, hv]
  constructor
  ·intro c2
   rw [if_pos c2]
   refine ⟨by show 0 < 2 * n; omega, ?_⟩
   show votesH n _ (settleS n h) = _
   rw [votes_pos hr (by omega) hs, hss]
   exact (bestK_votes hr).symm
  ·intro c2
   rw [if_neg c2]
end Day
namespace Day
open Rx Go
def midH (n : Int) (h : HB) (q : Ls) : HB := settleH n (noteH n (tickH n h) q)
def hubH (n : Int) (h : HB) (q : Ls) : HB := if gateE n h q = 0 then relayH n (midH n h q) q else noHB
def hubF (n : Int) (h : HB) (q : Ls) : Fr := if gateE n h q = 0 then relayF n (midH n h q) q else noFr
structure Ts where
 x : A
 n : Int
end Day
namespace Day
open Rx Go
def leB (a b : Int) : Bool := decide (a ≤ b)
theorem leB_iff {a b : Int} : leB a b = true ↔ a ≤ b := by simp [leB]
theorem hub_ok {n : Int} {h : HB} {q : Ls} (hr : rightH n h = true) (hf : fitsR n q = true) : gateE n h q = 0 ∧ hubH n h q = relayH n (midH n h q) q ∧ hubF n h q = relayF n (midH n h q) q := by
 have hg := gateE_fits.2 ⟨hr, hf⟩
 exact ⟨hg, by rw [hubH, if_pos hg], by rw [hubF, if_pos hg]⟩
theorem mid_right {n : Int} {h : HB} {q : Ls} (hr : rightH n h = true) (hf : fitsR n q = true) : rightH n (midH n h q) = true := settle_right (note_right (tick_right hr) hf)
theorem hub_right {n : Int} {h : HB} {q : Ls} (hr : rightH n h = true) (hf : fitsR n q = true) : rightH n (hubH n h q) = true := by
 rw [(hub_ok hr hf).2.1]
 exact relay_right (mid_right hr hf) hf
theorem len_hub (n : Int) (h : HB) (q : Ls) : (hubH n h q).ages.length = 8 := by
 unfold hubH
 split
 ·exact len_relay _ _ _
 ·rfl
theorem mid_hold {n : Int} {h : HB} {q : Ls} (hr : rightH n h = true) (hf : fitsR n q = true) (hh : 2 ≤ h.hold) : (midH n h q).pos = (h.pos + 1) % n ∧ h.hold - 1 ≤ (midH n h q).hold := by
 have ht := tick_right hr
 have e : (noteH n (tickH n h) q).hold = h.hold - 1 := by
  rw [note_eq ht hf, tick_eq hr]
  show downR h.hold = _
  unfold downR
  split <;> omega
 have e2 : (noteH n (tickH n h) q).pos = (h.pos + 1) % n := by rw [note_eq ht hf, tick_eq hr]
 have := (settle_law (note_right ht hf)).1 (by rw [e]; omega)
 unfold midH
 rw [← e2, ← e]
 exact this
end Day
namespace Day
open Rx Go
def lsOf (x : A) : Ls := ⟨x, ((x.els.length / 2 : Nat) : Int)⟩
def Ts.at (T : Ts) (i : Int) : Ls := lsOf (T.x.els.getD i.toNat (.i 0))
def Ts.ok (T : Ts) : Bool := decide (0 ≤ T.n) && decide (T.n ≤ 9223372036854775807)
end Day
namespace Day
open Rx Go
def eqB (a b : Int) : Bool := decide (a = b)
def zerosF (n : Int) : A := .l (List.replicate n.toNat [A.i 0, A.i 0]).flatten
theorem zeros_len (n : Int) : (zerosF n).els.length = 2 * n.toNat := by
 simp [zerosF, A.els]
 omega
end Day
namespace Day
open Rx Go
end Day
namespace Day
open Rx Go
end Day
namespace Day
open Rx Go
end Day
namespace Day
open Rx Go
theorem zeros_get (n : Int) (j : Nat) : (zerosF n).els.getD j (.i 0) = .i 0 := by
 rw [List.getD_eq_getElem?_getD]
 cases h : (zerosF n).els[j]? with
 | none => rfl
 | some a =>
  have := List.mem_of_getElem? h
  simp only [zerosF, A.els, List.mem_flatten, List.mem_replicate] at this
  obtain ⟨l, ⟨_, rfl⟩, ha⟩ := this
  simp at ha
  simp [ha]
theorem zeros_kd (n m i : Int) : (Ls.mk (zerosF n) m).k i = 0 ∧ (Ls.mk (zerosF n) m).d i = 0 := by
 unfold Ls.k Ls.d
 rw [zeros_get, zeros_get]
 exact ⟨rfl, rfl⟩
def put2 (x : A) (p : Int) (a b : A) : A := .l ((x.els.set (2 * p.toNat) a).set (1 + 2 * p.toNat) b)
theorem put2_len (x : A) (p : Int) (a b : A) : (put2 x p a b).els.length = x.els.length := by simp [put2, A.els]
theorem put2_kd {x a b : A} {p i m : Int} (hp : 0 ≤ p) (hl : 2 * p.toNat + 2 ≤ x.els.length) (hi : 0 ≤ i) :
  (Ls.mk (put2 x p a b) m).k i = (if i = p then a.int else (Ls.mk x m).k i) ∧ (Ls.mk (put2 x p a b) m).d i = (if i = p then b.int else (Ls.mk x m).d i) := by
 unfold Ls.k Ls.d put2
 simp only [A.els_l, List.getD_eq_getElem?_getD, List.getElem?_set, List.length_set]
 by_cases c : i = p
 ·subst c
  rw [if_pos rfl, if_pos rfl, if_neg (by omega), if_pos rfl, if_pos (by omega), if_pos rfl, if_pos (by omega)]
  exact ⟨rfl, rfl⟩
 ·rw [if_neg c, if_neg c, if_neg (by omega), if_neg (by omega), if_neg (by omega), if_neg (by omega)]
  exact ⟨rfl, rfl⟩
theorem rem_range {a n : Int} (ha : 0 ≤ a) (hn : 0 < n) : 0 ≤ a.tmod n ∧ a.tmod n < n := ⟨Int.tmod_nonneg _ ha, Int.tmod_lt_of_pos _ hn⟩
end Day
namespace Day
open Rx Go
def holdP (n b : Int) (h : HB) : Bool := rightH n h && (leB (2 * n - 1) h.hold && (eqB h.hold (2 * n) || eqB h.pos b))
theorem hold_next {n b s : Int} {h : HB} {q : Ls} (hp : holdP n b h = true) (hf : fitsR n q = true) (hs : s = (h.pos + 1) % n) (hq : s ≠ b → q.k s = 2) :
  gateE n h q = 0 ∧ holdP n b (hubH n h q) = true ∧ (hubH n h q).pos = s ∧ 1 ≤ (hubH n h q).hold ∧ (s ≠ b → hubF n h q = ⟨2, s⟩) ∧ (hubF n h q).kind ≠ 1 := by
 simp only [holdP, Bool.and_eq_true, leB_iff, eqB, Bool.or_eq_true, decide_eq_true_eq] at hp ⊢
 obtain ⟨hr, h1, h2⟩ := hp
 have hn := right_le hr
 have hm := mid_right hr hf
 obtain ⟨m1, m2⟩ := mid_hold hr hf (by omega)
 obtain ⟨e0, e1, e2⟩ := hub_ok hr hf
 have hr2 := hub_right hr hf
 have hb := right_all hr
 rw [← hs] at m1
 refine ⟨e0, ?_⟩
 rcases relay_cases hm hf with ⟨c1, c2, c3, c4, c5⟩ | ⟨c1, _⟩ | ⟨c1, c2, c3, _⟩
 ·refine ⟨⟨hr2, ?_⟩, ?_⟩
  ·rw [e1, c5]
   exact ⟨by show _ ≤ 2 * n; omega, .inl rfl⟩
  ·rw [e1, e2, c4, c5, m1]
   exact ⟨rfl, by show 1 ≤ 2 * n; omega, fun _ => rfl, by show (2 : Int) ≠ 1; omega⟩
 ·omega
 ·have hsb : s = b := by
   by_cases c : s = b
   ·exact c
   ·have := c3 (by omega)
    rw [m1] at this
    exact absurd (hq c) this
  have hpos : ¬ h.pos = b := fun he => by
   have h6 := hb.2.2.2.2.2
   rw [← he] at hsb
   rw [hs] at hsb
   by_cases c : h.pos + 1 < n
   ·rw [Int.emod_eq_of_lt (by omega) c] at hsb; omega
   ·rw [show h.pos + 1 = n by omega, Int.emod_self] at hsb; omega
  have h2n : h.hold = 2 * n := by
   rcases h2 with h2 | h2
   ·exact h2
   ·exact absurd h2 hpos
  refine ⟨⟨hr2, ?_⟩, ?_⟩
  ·rw [e1, c2]
   exact ⟨by show _ ≤ (midH n h q).hold; omega, .inr (by show (midH n h q).pos = b; rw [m1, hsb])⟩
  ·rw [e1, e2, c1, c2]
   exact ⟨m1, by show 1 ≤ (midH n h q).hold; omega, fun c => absurd hsb c, by show (0 : Int) ≠ 1; omega⟩
def roundP (n s b : Int) (x : A) : Prop := x.els.length = 2 * n.toNat ∧ ∀ i, 0 ≤ i → i < n →
 (i = b → ((Ls.mk x n).k i = 0 ∧ (Ls.mk x n).d i = 0) ∨ (((Ls.mk x n).k i = 1 ∨ (Ls.mk x n).k i = 2) ∧ (Ls.mk x n).d i = i)) ∧
 (i ≠ b → i = s → (Ls.mk x n).k i = 2 ∧ (Ls.mk x n).d i = i) ∧ (i ≠ b → i ≠ s → (Ls.mk x n).k i = 0 ∧ (Ls.mk x n).d i = 0)
theorem round_base {n s b : Int} {y z w : A} (hs : 0 ≤ s ∧ s < n) (hb : 0 ≤ b ∧ b < n) (hy : y.int = s) (hz : z.int = 0) (hw : w.int = 0) : roundP n s b (put2 (put2 (zerosF n) s (.i 2) y) b z w) := by
 have hl : (put2 (zerosF n) s (.i 2) y).els.length = 2 * n.toNat := by rw [put2_len, zeros_len]
 refine ⟨by rw [put2_len, hl], fun i i0 i1 => ?_⟩
 obtain ⟨k1, d1⟩ := put2_kd (x := put2 (zerosF n) s (.i 2) y) (a := z) (b := w) (p := b) (m := n) hb.1 (by rw [hl]; omega) i0
 obtain ⟨k2, d2⟩ := put2_kd (x := zerosF n) (a := .i 2) (b := y) (p := s) (m := n) hs.1 (by rw [zeros_len]; omega) i0
 obtain ⟨k3, d3⟩ := zeros_kd n n i
 rw [k1, d1]
 refine ⟨fun c => ?_, fun c c2 => ?_, fun c c2 => ?_⟩
 ·rw [if_pos c, if_pos c]; exact .inl ⟨hz, hw⟩
 ·rw [if_neg c, if_neg c, k2, d2, if_pos c2, if_pos c2]; exact ⟨rfl, by rw [hy, c2]⟩
 ·rw [if_neg c, if_neg c, k2, d2, if_neg c2, if_neg c2]; exact ⟨k3, d3⟩
theorem round_say {n s b : Int} {x z w : A} (hx : roundP n s b x) (hb : 0 ≤ b ∧ b < n) (hz : z.int = 1 ∨ z.int = 2) (hw : w.int = b) : roundP n s b (put2 x b z w) := by
 obtain ⟨hl, h⟩ := hx
 refine ⟨by rw [put2_len, hl], fun i i0 i1 => ?_⟩
 obtain ⟨k1, d1⟩ := put2_kd (x := x) (a := z) (b := w) (p := b) (m := n) hb.1 (by rw [hl]; omega) i0
 obtain ⟨g1, g2, g3⟩ := h i i0 i1
 rw [k1, d1]
 refine ⟨fun c => ?_, fun c c2 => ?_, fun c c2 => ?_⟩
 ·rw [if_pos c, if_pos c]; exact .inr ⟨hz, by rw [hw, c]⟩
 ·rw [if_neg c, if_neg c]; exact g2 c c2
 ·rw [if_neg c, if_neg c]; exact g3 c c2
theorem round_fits {n s b : Int} {x : A} (hR : right n = true) (hx : roundP n s b x) : fitsR n ⟨x, n⟩ = true := by
 simp only [fitsR, hR, Bool.and_eq_true, allF_iff, beq_iff_eq, true_and]
 intro i i0 i1
 obtain ⟨g1, g2, g3⟩ := hx.2 i i0 i1
 by_cases c : i = b
 ·rcases g1 c with ⟨a1, a2⟩ | ⟨a1, a2⟩
  ·simp [fitB, a1, a2]
  ·rcases a1 with a1 | a1 <;> simp [fitB, a1, a2]
 ·by_cases c2 : i = s
  ·obtain ⟨a1, a2⟩ := g2 c c2
   simp [fitB, a1, a2]
  ·obtain ⟨a1, a2⟩ := g3 c c2
   simp [fitB, a1, a2]
end Day
namespace Day
open Rx Go
def sayK (x : A) (i : Int) : Int := (x.els.getD i.toNat (.i 0)).int.tmod 3
def baseA (n s : Int) (b : A) : A := put2 (put2 (zerosF n) s (.i 2) (.i s)) b.int (.i 0) (.i 0)
def roundA (n s : Int) (b : A) (c : Int) : A := if 0 < c then put2 (baseA n s b) b.int (.i (IntKind.wrap .i64 c)) b else baseA n s b
def holdN (n : Int) (b x : A) : Nat → Int → HB → HB
 | 0, _, h => h
 | k + 1, i, h => holdN n b x k (i + 1) (hubH n h ⟨roundA n ((h.pos + 1) % n) b (sayK x i), n⟩)
def holdGo (n : Int) (b x : A) (cnt i : Int) (h : HB) : HB := holdN n b x (cnt - i).toNat i h
theorem holdGo_step {n cnt i : Int} {b x : A} {h : HB} (hi : i < cnt) : holdGo n b x cnt i h = holdGo n b x cnt (i + 1) (hubH n h ⟨roundA n ((h.pos + 1) % n) b (sayK x i), n⟩) := by
 unfold holdGo
 rw [show (cnt - i).toNat = (cnt - (i + 1)).toNat + 1 by omega]
 rfl
theorem holdGo_end {n cnt i : Int} {b x : A} {h : HB} (hi : ¬ i < cnt) : holdGo n b x cnt i h = h := by
 unfold holdGo
 rw [show (cnt - i).toNat = 0 by omega]
 rfl
theorem say_range (x : A) (i : Int) (h : 0 < sayK x i) : IntKind.wrap .i64 (sayK x i) = sayK x i ∧ (sayK x i = 1 ∨ sayK x i = 2) := by
 have h3 : sayK x i < 3 := Int.tmod_lt_of_pos _ (by omega)
 exact ⟨wrap64 (by omega) (by omega), by omega⟩
theorem round_ok {n s : Int} {b x : A} {i : Int} (hs : 0 ≤ s ∧ s < n) (hb : 0 ≤ b.int ∧ b.int < n) : roundP n s b.int (roundA n s b (sayK x i)) := by
 have hbase : roundP n s b.int (baseA n s b) := round_base hs hb rfl rfl rfl
 unfold roundA
 split
 ·rename_i c
  obtain ⟨h1, h2⟩ := say_range x i c
  refine round_say hbase hb ?_ rfl
  rw [h1]
  exact h2
 ·exact hbase
theorem round_owner {n s b : Int} {x : A} (hx : roundP n s b x) (hs : 0 ≤ s ∧ s < n) (hne : s ≠ b) : (Ls.mk x n).k s = 2 ∧ (Ls.mk x n).d s = s := (hx.2 s hs.1 hs.2).2.1 hne rfl
theorem holdP_start {n b : Int} {h : HB} (hr : rightH n h = true) : holdP n b ⟨[h.a 0, h.a 1, h.a 2, h.a 3, h.a 4, h.a 5, h.a 6, h.a 7], h.port, h.age, 2 * n, h.pos⟩ = true := by
 obtain ⟨h1, h2, h3, h4, h5, h6⟩ := right_all hr
 have : rightH n ⟨ages8 fun p => h.a p, h.port, h.age, 2 * n, h.pos⟩ = true := right_mk h1 h2 h3 h4 (by omega) h6
 simp only [holdP, Bool.and_eq_true, leB_iff, eqB, Bool.or_eq_true, decide_eq_true_eq]
 exact ⟨this, by show 2 * n - 1 ≤ 2 * n; omega, .inl trivial⟩
theorem slot_eq {n p : Int} (hn : 3 ≤ n ∧ n ≤ 8) (hp : 0 ≤ p ∧ p < n) : (IntKind.wrap .i64 (p + 1)).tmod n = (p + 1) % n ∧ 0 ≤ (p + 1) % n ∧ (p + 1) % n < n := by
 rw [wrap64 (by omega) (by omega)]
 exact ⟨Int.tmod_eq_emod_of_nonneg (by omega), Int.emod_nonneg _ (by omega), Int.emod_lt_of_pos _ (by omega)⟩
end Day

