import Derived.Test.YtngghkhjejkelabKXc
set_option linter.unusedVariables false
set_option linter.unusedSimpArgs false
namespace Day
structure Fr where
 kind : Int
 id : Int
 deriving DecidableEq
structure ND where
 id : Int
 mode : Int
 count : Int
 pos : Int
 deriving DecidableEq
structure HB where
 ages : List Int
 port : Int
 age : Int
 hold : Int
 pos : Int
 deriving DecidableEq
def HB.a (h : HB) (p : Nat) : Int := h.ages.getD p 0
def right (n : Int) : Bool := decide (3 ≤ n) && decide (n ≤ 8)
def times (k n : Int) : Int := if right n then k * n else 0
def ownE (n i : Int) : Int := if right n then (if i < 0 ∨ n ≤ i then 2 else 0) else 1
def ownR (k n i : Int) : Int := if ownE n i = 0 then k * n + i + 1 else 0
def clampR (c least most : Int) : Int := if c < least then least else if most < c then most else c
def upR (c most : Int) : Int := if most ≤ max c 0 then most else max c 0 + 1
def downR (c : Int) : Int := if c ≤ 0 then 0 else c - 1
def modP (n : Int) : Bool := decide (1 ≤ n) && decide (n ≤ 8)
def modR (n x : Int) : Int := x % n
def slotP (n p : Int) : Bool := modP n && decide (0 ≤ p) && decide (p < n)
def nextR (n p : Int) : Int := (p + 1) % n
def atP (n p age : Int) : Bool := modP n && decide (0 ≤ p) && decide (p ≤ 8) && decide (0 ≤ age) && decide (age ≤ 1099511627776)
def atR (n p age : Int) : Int := (p + age) % n
def aheadP (n a b : Int) : Bool := slotP n a && slotP n b
def aheadR (n a b : Int) : Int := (b - a) % n
def rightN (n : Int) (x : ND) : Bool :=
 right n && decide (0 ≤ x.id) && decide (x.id < n) && decide (0 ≤ x.mode) && decide (x.mode ≤ 3) && decide (0 ≤ x.count) && decide (x.count ≤ 1073741824) &&
 (decide (x.mode ≠ 0) || decide (x.count = 0)) && (decide (x.mode = 3) || decide (x.pos = 0)) && decide (0 ≤ x.pos) && decide (x.pos < n)
def idE (n i : Int) : Int := if right n then (if i < 0 ∨ n ≤ i then 2 else 0) else 1
def noND : ND := ⟨0, 0, 0, 0⟩
def freshN (n i : Int) : ND := if idE n i = 0 then ⟨i, 0, 0, 0⟩ else noND
def cleanN (n i : Int) (x : ND) : ND :=
 if idE n i = 0 then
  ⟨i, if 1 ≤ x.mode ∧ x.mode ≤ 3 then x.mode else 1, clampR x.count 0 1073741824, if x.mode = 3 then x.pos % n else 0⟩
 else noND
def wakeN (x : ND) : ND := ⟨x.id, 1, 0, 0⟩
def waitR (n : Int) (x : ND) : Int := if x.mode = 1 then ownR 4 n x.id else ownR 2 n x.id
def dueR (n : Int) (x : ND) : Int :=
 if rightN n x then
  if x.mode = 3 then (x.id - x.pos) % n
  else if x.mode = 1 ∨ x.mode = 2 then max 0 (waitR n x - x.count)
  else -1
 else -1
def noFr : Fr := ⟨0, 0⟩
def ofE (n : Int) (x : ND) : Int := if rightN n x then 0 else 1
def ofR (n : Int) (x : ND) : Fr :=
 if rightN n x && decide (dueR n x = 0) then (if x.mode = 3 then ⟨2, x.id⟩ else ⟨1, x.id⟩) else noFr
end Day
namespace Day
def i64 (x : Int) : Bool := decide (-9223372036854775808 ≤ x) && decide (x ≤ 9223372036854775807)
def u8 (x : Int) : Bool := decide (0 ≤ x) && decide (x ≤ 255)
def u16 (x : Int) : Bool := decide (0 ≤ x) && decide (x ≤ 65535)
def u32 (x : Int) : Bool := decide (0 ≤ x) && decide (x ≤ 4294967295)
def sm (x : Int) : Bool := decide (-4611686018427387904 ≤ x) && decide (x ≤ 4611686018427387904)
def kOf (s : ByteArray) : Int :=
 let l := s.data.toList
 if l = [98, 108, 111, 99, 107] then 2 else if l = [119, 97, 116, 99, 104] then 8 else if l = [108, 97, 116, 101, 114] then 3 else if l = [115, 116, 97, 114, 116] then 40
 else if l = [115, 116, 97, 98, 108, 101] then 96 else if l = [108, 105, 115, 116, 101, 110] then 4 else if l = [99, 111, 108, 100] then 2 else 0
def timeP (s : ByteArray) : Bool := decide (kOf s ≠ 0)
def ND.i64 (x : ND) : Bool := Day.i64 x.id && Day.i64 x.mode && Day.i64 x.count && Day.i64 x.pos
end Day
namespace Day
theorem kOf_block : kOf ⟨([98, 108, 111, 99, 107] : List UInt8).toArray⟩ = 2 := by decide
theorem kOf_watch : kOf ⟨([119, 97, 116, 99, 104] : List UInt8).toArray⟩ = 8 := by decide
theorem kOf_later : kOf ⟨([108, 97, 116, 101, 114] : List UInt8).toArray⟩ = 3 := by decide
theorem kOf_start : kOf ⟨([115, 116, 97, 114, 116] : List UInt8).toArray⟩ = 40 := by decide
theorem kOf_stable : kOf ⟨([115, 116, 97, 98, 108, 101] : List UInt8).toArray⟩ = 96 := by decide
theorem kOf_listen : kOf ⟨([108, 105, 115, 116, 101, 110] : List UInt8).toArray⟩ = 4 := by decide
theorem kOf_cold : kOf ⟨([99, 111, 108, 100] : List UInt8).toArray⟩ = 2 := by decide
theorem kOf_range (s : ByteArray) : 0 ≤ kOf s ∧ kOf s ≤ 96 := by
 unfold kOf
 simp only
 split <;> (try split) <;> (try split) <;> (try split) <;> (try split) <;> (try split) <;> (try split) <;> omega
end Day
namespace Day
theorem mod_range {n x : Int} (hn : 3 ≤ n ∧ n ≤ 8) : 0 ≤ x % n ∧ x % n < n ∧ (x % n) % n = x % n ∧ (0 ≤ x → x < n → x % n = x) :=
 ⟨Int.emod_nonneg _ (by omega), Int.emod_lt_of_pos _ (by omega), Int.emod_emod_of_dvd _ (Int.dvd_refl _), fun h1 h2 => Int.emod_eq_of_lt h1 h2⟩
end Day
namespace Day
def ages8 (f : Nat → Int) : List Int := [f 0, f 1, f 2, f 3, f 4, f 5, f 6, f 7]
def all8 (q : Nat → Bool) : Bool := q 0 && q 1 && q 2 && q 3 && q 4 && q 5 && q 6 && q 7
def sum8 (f : Nat → Int) : Int := f 0 + f 1 + f 2 + f 3 + f 4 + f 5 + f 6 + f 7
def mostA (n : Int) (p : Nat) : Int := if (p : Int) < n then n else 0
def noHB : HB := ⟨[0, 0, 0, 0, 0, 0, 0, 0], 0, 0, 0, 0⟩
def inR (c most : Int) : Bool := decide (0 ≤ c) && decide (c ≤ most)
def HB.i64 (h : HB) : Bool := all8 (fun p => Day.i64 (h.a p)) && Day.i64 h.port && Day.i64 h.age && Day.i64 h.hold && Day.i64 h.pos
def rightH (n : Int) (h : HB) : Bool :=
 right n && all8 (fun p => inR (h.a p) (mostA n p)) && inR h.port (n - 1) && inR h.age (2 * n + 1) && inR h.hold (2 * n) && inR h.pos (n - 1)
def freshH (n : Int) : HB := if right n then ⟨ages8 (mostA n), 0, 2 * n + 1, 0, 0⟩ else noHB
def cleanH (n : Int) (h : HB) : HB :=
 if right n then ⟨ages8 fun p => clampR (h.a p) 0 (mostA n p), h.port % n, clampR h.age 0 (2 * n + 1), clampR h.hold 0 (2 * n), h.pos % n⟩ else noHB
def argE (n : Int) : Int := if right n then 0 else 1
def tickH (n : Int) (h : HB) : HB :=
 if rightH n h then ⟨ages8 fun p => upR (h.a p) (mostA n p), h.port, upR h.age (2 * n + 1), downR h.hold, (h.pos + 1) % n⟩ else noHB
def argH (n : Int) (h : HB) : Int := if rightH n h then 0 else 1
def voteB (n : Int) (h : HB) (p : Nat) (v : Int) : Bool :=
 decide ((p : Int) < n) && ((decide (h.a p < n) && decide ((p + h.a p) % n = v)) || (decide ((p : Int) = h.port) && decide (h.age < 2 * n) && decide ((p + h.age) % n = v)))
def cntH (n : Int) (h : HB) (v : Int) : Int := sum8 fun p => if voteB n h p v then 1 else 0
def votesH (n : Int) (h : HB) (v : Int) : Int := if rightH n h then cntH n h v else 0
def bestStep (n : Int) (h : HB) (b v : Int) : Int := if v < n ∧ cntH n h b < cntH n h v then v else b
def bestI (n : Int) (h : HB) : Int := bestStep n h (bestStep n h (bestStep n h (bestStep n h (bestStep n h (bestStep n h (bestStep n h (bestStep n h 0 0) 1) 2) 3) 4) 5) 6) 7
def bestH (n : Int) (h : HB) : Int := if rightH n h then bestI n h else 0
def bestK (n : Int) (h : HB) : Int := if rightH n h then cntH n h (bestI n h) else 0
end Day
namespace Day
theorem right_cases (n : Int) : n = 3 ∨ n = 4 ∨ n = 5 ∨ n = 6 ∨ n = 7 ∨ n = 8 ∨ right n = false := by
 by_cases h : 3 ≤ n ∧ n ≤ 8
 ·omega
 ·have : right n = false := by simp [right]; omega
  simp [this]
end Day
namespace Day
theorem hub_cases (n : Int) (h : HB) : (n = 3 ∧ rightH 3 h = true) ∨ (n = 4 ∧ rightH 4 h = true) ∨ (n = 5 ∧ rightH 5 h = true) ∨ (n = 6 ∧ rightH 6 h = true) ∨ (n = 7 ∧ rightH 7 h = true) ∨ (n = 8 ∧ rightH 8 h = true) ∨ rightH n h = false := by
 cases hr : rightH n h with
 | false => simp
 | true =>
  have : right n = true := by simp only [rightH, Bool.and_eq_true] at hr; exact hr.1.1.1.1.1
  rcases right_cases n with rfl | rfl | rfl | rfl | rfl | rfl | h1
  ·simp [hr]
  ·simp [hr]
  ·simp [hr]
  ·simp [hr]
  ·simp [hr]
  ·simp [hr]
  ·rw [this] at h1; cases h1
end Day
namespace Day
theorem clamp_id {c m : Int} (hm : 0 ≤ m) : clampR c 0 m = c ↔ 0 ≤ c ∧ c ≤ m := by
 unfold clampR
 split
 ·omega
 ·split <;> omega
theorem mod_id {n x : Int} (hn : 3 ≤ n ∧ n ≤ 8) : x % n = x ↔ 0 ≤ x ∧ x ≤ n - 1 := by
 have h := mod_range (x := x) hn
 constructor
 ·intro e; omega
 ·intro e; exact h.2.2.2 e.1 (by omega)
theorem mostA_nonneg {n : Int} (hn : 3 ≤ n ∧ n ≤ 8) (p : Nat) : 0 ≤ mostA n p := by
 unfold mostA; split <;> omega
theorem inR_iff {c m : Int} : inR c m = true ↔ 0 ≤ c ∧ c ≤ m := by simp [inR]
theorem right_clean (n : Int) (h : HB) (hr : right n = true) : rightH n h = true ↔
  (((cleanH n h).a 0 = h.a 0 ∧ (cleanH n h).a 1 = h.a 1 ∧ (cleanH n h).a 2 = h.a 2 ∧ (cleanH n h).a 3 = h.a 3 ∧ (cleanH n h).a 4 = h.a 4 ∧ (cleanH n h).a 5 = h.a 5 ∧ (cleanH n h).a 6 = h.a 6 ∧ (cleanH n h).a 7 = h.a 7) ∧
   (cleanH n h).port = h.port ∧ (cleanH n h).age = h.age ∧ (cleanH n h).hold = h.hold ∧ (cleanH n h).pos = h.pos) := by
 have hn : 3 ≤ n ∧ n ≤ 8 := by simpa [right] using hr
 have e (p : Nat) (x : Int) : inR x (mostA n p) = true ↔ clampR x 0 (mostA n p) = x := by rw [inR_iff, clamp_id (mostA_nonneg hn p)]
 have e2 (x : Int) : inR x (n - 1) = true ↔ x % n = x := by rw [inR_iff, mod_id hn]
 have e3 : inR h.age (2 * n + 1) = true ↔ clampR h.age 0 (2 * n + 1) = h.age := by rw [inR_iff, clamp_id (by omega)]
 have e4 : inR h.hold (2 * n) = true ↔ clampR h.hold 0 (2 * n) = h.hold := by rw [inR_iff, clamp_id (by omega)]
 simp only [rightH, all8, Bool.and_eq_true, hr, true_and, e, e2, e3, e4, cleanH, if_true]
 simp [HB.a, ages8, and_assoc]
end Day
namespace Day
theorem inR0 (x : Int) : inR x 0 = decide (x = 0) := by
 rw [Bool.eq_iff_iff, inR_iff, decide_eq_true_eq]
 omega
end Day
namespace Day
def bv (b : Bool) : Int := if b then 1 else 0
theorem hub_bounds {n : Int} {h : HB} (hr : rightH n h = true) : (3 ≤ n ∧ n ≤ 8) ∧ ((0 ≤ h.a 0 ∧ h.a 0 ≤ n) ∧ (0 ≤ h.a 1 ∧ h.a 1 ≤ n) ∧ (0 ≤ h.a 2 ∧ h.a 2 ≤ n) ∧ (0 ≤ h.a 3 ∧ h.a 3 ≤ n) ∧ (0 ≤ h.a 4 ∧ h.a 4 ≤ n) ∧ (0 ≤ h.a 5 ∧ h.a 5 ≤ n) ∧ (0 ≤ h.a 6 ∧ h.a 6 ≤ n) ∧ (0 ≤ h.a 7 ∧ h.a 7 ≤ n)) ∧
  (0 ≤ h.port ∧ h.port < n) ∧ (0 ≤ h.age ∧ h.age ≤ 2 * n + 1) ∧ (0 ≤ h.hold ∧ h.hold ≤ 2 * n) ∧ (0 ≤ h.pos ∧ h.pos < n) := by
 simp only [rightH, all8, Bool.and_eq_true, right, decide_eq_true_eq, inR_iff] at hr
 obtain ⟨⟨⟨⟨⟨hn, ha⟩, h1⟩, h2⟩, h3⟩, h4⟩ := hr
 have hm (p : Nat) : mostA n p ≤ n := by unfold mostA; split <;> omega
 have := hm 0; have := hm 1; have := hm 2; have := hm 3; have := hm 4; have := hm 5; have := hm 6; have := hm 7
 obtain ⟨⟨⟨⟨⟨⟨⟨a0, a1⟩, a2⟩, a3⟩, a4⟩, a5⟩, a6⟩, a7⟩ := ha
 refine ⟨hn, ⟨⟨?_, ?_⟩, ⟨?_, ?_⟩, ⟨?_, ?_⟩, ⟨?_, ?_⟩, ⟨?_, ?_⟩, ⟨?_, ?_⟩, ⟨?_, ?_⟩, ?_, ?_⟩, ⟨?_, ?_⟩, ⟨?_, ?_⟩, ⟨?_, ?_⟩, ?_, ?_⟩ <;> omega
end Day
namespace Day
theorem bv_range (b : Bool) : 0 ≤ bv b ∧ bv b ≤ 1 := by cases b <;> simp [bv]
end Day
namespace Day
end Day
namespace Day
def maxL (k : Int) : List Int → Int
 | [] => k
 | l :: ls => maxL (if k < l then l else k) ls
def idxL : List Int → Int → Int → Int
 | [], _, _ => -1
 | l :: ls, i, m => if m = l then i else idxL ls (i + 1) m
def bestL : List Int → Int → Int → Int → Int × Int
 | [], _, b, k => (b, k)
 | l :: ls, i, b, k => if k < l then bestL ls (i + 1) i l else bestL ls (i + 1) b k
theorem maxL_ge : ∀ (ls : List Int) (k : Int), k ≤ maxL k ls
 | [], k => Int.le_refl k
 | l :: ls, k => by
  have := maxL_ge ls (if k < l then l else k)
  show k ≤ maxL (if k < l then l else k) ls
  by_cases h : k < l
  ·rw [if_pos h] at this ⊢; omega
  ·rw [if_neg h] at this ⊢; exact this
theorem bestL_spec : ∀ (ls : List Int) (i b k : Int), bestL ls i b k = (if maxL k ls = k then b else idxL ls i (maxL k ls), maxL k ls)
 | [], i, b, k => by simp [bestL, maxL]
 | l :: ls, i, b, k => by
  unfold bestL maxL idxL
  split
  ·rename_i h
   rw [bestL_spec ls (i + 1) i l]
   have := maxL_ge ls l
   have hk : maxL l ls ≠ k := by omega
   simp [hk]
  ·rename_i h
   rw [bestL_spec ls (i + 1) b k]
   have := maxL_ge ls k
   by_cases hk : maxL k ls = k
   ·simp [hk]
   ·have hl : maxL k ls ≠ l := by omega
    simp [hk, hl]
theorem bl_step (n : Int) (h : HB) (v v' b : Int) (ls : List Int) (hv : v < n) (hv' : v' = v + 1) : bestL (cntH n h v :: ls) v b (cntH n h b) = bestL ls v' (bestStep n h b v) (cntH n h (bestStep n h b v)) := by
 subst hv'
 show (if cntH n h b < cntH n h v then bestL ls (v + 1) v (cntH n h v) else bestL ls (v + 1) b (cntH n h b)) = _
 unfold bestStep
 by_cases hc : cntH n h b < cntH n h v
 ·rw [if_pos hc, if_pos ⟨hv, hc⟩]
 ·rw [if_neg hc, if_neg (by simp [hc])]
theorem step_out (n : Int) (h : HB) (v b : Int) (hv : n ≤ v) : bestStep n h b v = b := by
 unfold bestStep
 rw [if_neg (by omega)]
theorem step_zero (n : Int) (h : HB) : bestStep n h 0 0 = 0 := by simp [bestStep]
theorem best3 (h : HB) : (bestI 3 h, cntH 3 h (bestI 3 h)) = bestL [cntH 3 h 1, cntH 3 h 2] 1 0 (cntH 3 h 0) := by
 unfold bestI
 rw [step_zero, step_out 3 h 7 _ (by omega), step_out 3 h 6 _ (by omega), step_out 3 h 5 _ (by omega), step_out 3 h 4 _ (by omega), step_out 3 h 3 _ (by omega)]
 rw [bl_step 3 h 1 2 _ _ (by omega) (by omega), bl_step 3 h 2 3 _ _ (by omega) (by omega)]
 rfl
theorem best4 (h : HB) : (bestI 4 h, cntH 4 h (bestI 4 h)) = bestL [cntH 4 h 1, cntH 4 h 2, cntH 4 h 3] 1 0 (cntH 4 h 0) := by
 unfold bestI
 rw [step_zero, step_out 4 h 7 _ (by omega), step_out 4 h 6 _ (by omega), step_out 4 h 5 _ (by omega), step_out 4 h 4 _ (by omega)]
 rw [bl_step 4 h 1 2 _ _ (by omega) (by omega), bl_step 4 h 2 3 _ _ (by omega) (by omega), bl_step 4 h 3 4 _ _ (by omega) (by omega)]
 rfl
theorem best5 (h : HB) : (bestI 5 h, cntH 5 h (bestI 5 h)) = bestL [cntH 5 h 1, cntH 5 h 2, cntH 5 h 3, cntH 5 h 4] 1 0 (cntH 5 h 0) := by
 unfold bestI
 rw [step_zero, step_out 5 h 7 _ (by omega), step_out 5 h 6 _ (by omega), step_out 5 h 5 _ (by omega)]
 rw [bl_step 5 h 1 2 _ _ (by omega) (by omega), bl_step 5 h 2 3 _ _ (by omega) (by omega), bl_step 5 h 3 4 _ _ (by omega) (by omega), bl_step 5 h 4 5 _ _ (by omega) (by omega)]
 rfl
theorem best6 (h : HB) : (bestI 6 h, cntH 6 h (bestI 6 h)) = bestL [cntH 6 h 1, cntH 6 h 2, cntH 6 h 3, cntH 6 h 4, cntH 6 h 5] 1 0 (cntH 6 h 0) := by
 unfold bestI
 rw [step_zero, step_out 6 h 7 _ (by omega), step_out 6 h 6 _ (by omega)]
 rw [bl_step 6 h 1 2 _ _ (by omega) (by omega), bl_step 6 h 2 3 _ _ (by omega) (by omega), bl_step 6 h 3 4 _ _ (by omega) (by omega), bl_step 6 h 4 5 _ _ (by omega) (by omega), bl_step 6 h 5 6 _ _ (by omega) (by omega)]
 rfl
theorem best7 (h : HB) : (bestI 7 h, cntH 7 h (bestI 7 h)) = bestL [cntH 7 h 1, cntH 7 h 2, cntH 7 h 3, cntH 7 h 4, cntH 7 h 5, cntH 7 h 6] 1 0 (cntH 7 h 0) := by
 unfold bestI
 rw [step_zero, step_out 7 h 7 _ (by omega)]
 rw [bl_step 7 h 1 2 _ _ (by omega) (by omega), bl_step 7 h 2 3 _ _ (by omega) (by omega), bl_step 7 h 3 4 _ _ (by omega) (by omega), bl_step 7 h 4 5 _ _ (by omega) (by omega), bl_step 7 h 5 6 _ _ (by omega) (by omega), bl_step 7 h 6 7 _ _ (by omega) (by omega)]
 rfl
theorem best8 (h : HB) : (bestI 8 h, cntH 8 h (bestI 8 h)) = bestL [cntH 8 h 1, cntH 8 h 2, cntH 8 h 3, cntH 8 h 4, cntH 8 h 5, cntH 8 h 6, cntH 8 h 7] 1 0 (cntH 8 h 0) := by
 unfold bestI
 rw [step_zero]
 rw [bl_step 8 h 1 2 _ _ (by omega) (by omega), bl_step 8 h 2 3 _ _ (by omega) (by omega), bl_step 8 h 3 4 _ _ (by omega) (by omega), bl_step 8 h 4 5 _ _ (by omega) (by omega), bl_step 8 h 5 6 _ _ (by omega) (by omega), bl_step 8 h 6 7 _ _ (by omega) (by omega), bl_step 8 h 7 8 _ _ (by omega) (by omega)]
 rfl
end Day
namespace Day
theorem bs {l o p p' : Int} {b : Bool} (B : 0 ≤ l ∧ l ≤ p) (R : o = l + bv b) (hp : p' = p + 1) : 0 ≤ o ∧ o ≤ p' := by
 have := bv_range b
 omega
end Day
namespace Day
def cntL (n : Int) (h : HB) : List Int := if n ≤ 8 then (List.range n.toNat).map (fun i : Nat => cntH n h (i : Int)) else []
end Day
namespace Day
theorem tick_right {n : Int} {h : HB} (hr : rightH n h = true) : rightH n (tickH n h) = true := by
 have hb := hub_bounds hr
 have hn := hb.1
 have hrt : right n = true := by simp [right, hn]
 have ha (p : Nat) (c : Int) (h0 : 0 ≤ c ∧ c ≤ mostA n p) : inR (upR c (mostA n p)) (mostA n p) = true := by
  have := mostA_nonneg hn p
  rw [inR_iff]; unfold upR; split <;> omega
 have hu (c m : Int) (hm : 0 ≤ m) : inR (upR c m) m = true := by
  rw [inR_iff]; unfold upR; split <;> omega
 have hd (c m : Int) (h0 : 0 ≤ c ∧ c ≤ m) : inR (downR c) m = true := by
  rw [inR_iff]; unfold downR; split <;> omega
 have hm (x : Int) : inR (x % n) (n - 1) = true := by
  rw [inR_iff]; have := mod_range (x := x) hn; omega
 have hp : inR h.port (n - 1) = true := by rw [inR_iff]; omega
 rw [tickH, if_pos hr]
 clear hr ha
 simp only [rightH, all8, Bool.and_eq_true, hrt, true_and]
 simp [HB.a, ages8, hu _ _ (mostA_nonneg hn _), hm, hp, hu _ _ (show 0 ≤ 2 * n + 1 by omega), hd h.hold (2 * n) (by omega)]
theorem tick_eq {n : Int} {h : HB} (hr : rightH n h = true) : tickH n h = ⟨ages8 fun p => upR (h.a p) (mostA n p), h.port, upR h.age (2 * n + 1), downR h.hold, (h.pos + 1) % n⟩ := by rw [tickH, if_pos hr]
end Day
namespace Day
open Rx
def ils (a : A) : List Int := a.els.map A.int
def ofIls (l : List Int) : A := .l (l.map A.i)
def frsL : List A → List Fr
 | x :: y :: l => ⟨x.int, y.int⟩ :: frsL l
 | _ => []
def frs (a : A) : List Fr := frsL a.els
def ofFrs (l : List Fr) : A := .l (l.flatMap fun f => [.i f.kind, .i f.id])
theorem frsL_of : ∀ l : List Fr, frsL (l.flatMap fun f => [.i f.kind, .i f.id]) = l
 | [] => rfl
 | f :: l => by simp [frsL, frsL_of l]
@[simp] theorem frs_of (l : List Fr) : frs (ofFrs l) = l := frsL_of l
@[simp] theorem ils_of (l : List Int) : ils (ofIls l) = l := by
 induction l with
 | nil => rfl
 | cons a l ih => simpa [ils, ofIls] using ih
end Day
namespace Day
open Rx
def loP (n p : Int) : Bool := decide (0 ≤ p) && decide (p ≤ n) && decide (n ≤ 8)
theorem loP_iff {n p : Int} : loP n p = true ↔ (0 ≤ p ∧ p ≤ n) ∧ n ≤ 8 := by simp [loP]
def fillF (n p j x : Int) : Int := if p ≤ j ∧ j < n then n else x
def cntF (n : Int) (h : HB) (v p : Int) : Int := sum8 fun q => if p ≤ (q : Int) ∧ voteB n h q v = true then 1 else 0
theorem cntF_zero (n : Int) (h : HB) (v : Int) : cntF n h v 0 = cntH n h v := by simp [cntF, cntH, sum8]
theorem cntF_step {n : Int} (h : HB) (v : Int) {p : Int} (hp : 0 ≤ p ∧ p < n) (hn : n ≤ 8) : cntF n h v p = (if voteB n h p.toNat v = true then 1 else 0) + cntF n h v (p + 1) := by
 have : p = 0 ∨ p = 1 ∨ p = 2 ∨ p = 3 ∨ p = 4 ∨ p = 5 ∨ p = 6 ∨ p = 7 := by omega
 rcases this with rfl | rfl | rfl | rfl | rfl | rfl | rfl | rfl <;> simp [cntF, sum8, Int.add_assoc]
theorem cntF_end {n : Int} (h : HB) (v : Int) {p : Int} (hp : n ≤ p) : cntF n h v p = 0 := by
 have e (q : Nat) (hq : p ≤ (q : Int)) : voteB n h q v = false := by simp [voteB]; omega
 have e2 (q : Nat) : (if p ≤ (q : Int) ∧ voteB n h q v = true then (1 : Int) else 0) = 0 := by
  rw [if_neg]; rintro ⟨h1, h2⟩; rw [e q h1] at h2; cases h2
 simp only [cntF, sum8, e2]; rfl
theorem right_le {n : Int} {h : HB} (hr : rightH n h = true) : 3 ≤ n ∧ n ≤ 8 := (hub_bounds hr).1
def isIls (n : Int) (x : A) : Bool := decide (0 ≤ n) && decide (n ≤ 8) && (x.els.length == n.toNat) && x.els.all fun a => match a with | .i _ => true | _ => false
end Day
namespace Day
open Rx
def cntsF (n : Int) (h : HB) (p : Int) (x : A) : List Int := (ils x).mapIdx fun v c => c + cntF n h (v : Int) p
def countsP (n : Int) (h : HB) (p : Int) (x : A) : Bool := rightH n h && inR p n && isIls n x && (ils x).all (fun c => inR c p)
def listP (n i : Int) (x : A) : Bool := inR i n && isIls n x
def maxF (m i : Int) (x : A) : Int := maxL m ((ils x).drop i.toNat)
def idxF (m i : Int) (x : A) : Int := idxL ((ils x).drop i.toNat) i m
def hasF (m i : Int) (x : A) : Bool := ((ils x).drop i.toNat).any fun c => c == m
end Day
namespace Day
open Rx
theorem voteB_eq {n : Int} {h : HB} {p v : Int} (hr : rightH n h = true) (hp : 0 ≤ p ∧ p < n) :
  voteB n h p.toNat v = ((decide (h.a p.toNat < n) && decide ((p + h.a p.toNat) % n = v)) || (decide (p = h.port) && decide (h.age < 2 * n) && decide ((p + h.age) % n = v))) := by
 have hq : ((p.toNat : Nat) : Int) = p := by omega
 simp [voteB, hq, hp.2]
theorem a_bounds {n : Int} {h : HB} (hr : rightH n h = true) {p : Int} (hp : 0 ≤ p ∧ p < n) : 0 ≤ h.a p.toNat ∧ h.a p.toNat ≤ n := by
 have hb := hub_bounds hr
 have : p = 0 ∨ p = 1 ∨ p = 2 ∨ p = 3 ∨ p = 4 ∨ p = 5 ∨ p = 6 ∨ p = 7 := by omega
 rcases this with rfl | rfl | rfl | rfl | rfl | rfl | rfl | rfl
 ·exact hb.2.1.1
 ·exact hb.2.1.2.1
 ·exact hb.2.1.2.2.1
 ·exact hb.2.1.2.2.2.1
 ·exact hb.2.1.2.2.2.2.1
 ·exact hb.2.1.2.2.2.2.2.1
 ·exact hb.2.1.2.2.2.2.2.2.1
 ·exact hb.2.1.2.2.2.2.2.2.2
theorem atR_eq {n a b : Int} (hn : 3 ≤ n ∧ n ≤ 8) (h : 0 ≤ a ∧ a < n) (hb : 0 ≤ b ∧ b ≤ 2 * n + 1) : atP n a b = true ∧ atR n a b = (a + b) % n := by
 have h1 : n ≠ 0 := by omega
 constructor
 ·simp [atP, slotP, modP, i64]; omega
 ·simp [atR, modR]
end Day
namespace Day
open Rx Go
def incA (x : A) (i : Int) : A := .l (x.els.set i.toNat (.i (IntKind.wrap .i64 ((x.els.getD i.toNat (.i 0)).int + 1))))
def incL (l : List Int) (i : Int) : List Int := l.set i.toNat (l.getD i.toNat 0 + 1)
theorem allI_of : ∀ {xs : List A}, (xs.all fun a => match a with | .i _ => true | _ => false) = true → (xs.map A.int).map A.i = xs
 | [], _ => rfl
 | .i c :: xs, h => by
  simp only [List.all_cons, Bool.true_and] at h
  simp only [List.map_cons, allI_of h, A.int]
 | .b _ :: xs, h => by simp at h
 | .v _ :: xs, h => by simp at h
 | .l _ :: xs, h => by simp at h
theorem isIls_iff {n : Int} (hn : 1 ≤ n) {x : A} : isIls n x = true ↔ (n ≤ 8 ∧ ∃ l : List Int, l.length = n.toNat ∧ x = ofIls l) := by
 simp only [isIls, Bool.and_eq_true, decide_eq_true_eq, beq_iff_eq]
 constructor
 ·rintro ⟨⟨⟨h1, h2⟩, h3⟩, h4⟩
  refine ⟨h2, ils x, by simp [ils, h3], ?_⟩
  cases x with
  | l xs => simp only [ofIls, ils, A.els] at *; rw [allI_of h4]
  | i _ => simp [A.els] at h3; omega
  | b _ => simp [A.els] at h3; omega
  | v _ => simp [A.els] at h3; omega
 ·rintro ⟨h2, l, h3, rfl⟩
  refine ⟨⟨⟨by omega, h2⟩, by simp [ofIls, A.els, h3]⟩, ?_⟩
  simp [ofIls, A.els]
theorem getD_i (l : List Int) (i : Nat) : ((l.map A.i).getD i (.i 0)).int = l.getD i 0 := by
 simp only [List.getD_eq_getElem?_getD, List.getElem?_map]
 cases l[i]? <;> rfl
theorem incA_of (l : List Int) (i : Int) (h : 0 ≤ l.getD i.toNat 0 ∧ l.getD i.toNat 0 ≤ 8) : incA (ofIls l) i = ofIls (incL l i) := by
 simp only [incA, ofIls, A.els, incL, List.map_set, getD_i]
 rw [wrap64 (by omega) (by omega)]
theorem incL_get (l : List Int) (i : Int) (v : Nat) (hv : v < l.length) (hi : 0 ≤ i) : (incL l i).getD v 0 = l.getD v 0 + (if i = (v : Int) then 1 else 0) := by
 have e : i.toNat = v ↔ i = (v : Int) := by omega
 simp only [incL, List.getD_eq_getElem?_getD, List.getElem?_set]
 by_cases h : i = (v : Int)
 ·have h' := e.2 h
  simp [h]
  simp [hv]
 ·have : i.toNat ≠ v := fun h' => h (e.1 h')
  simp [h, this]
theorem cntsF_of (n : Int) (h : HB) (p : Int) (l : List Int) : cntsF n h p (ofIls l) = l.mapIdx fun v c => c + cntF n h (v : Int) p := by
 simp [cntsF]
theorem all_get {l : List Int} {q : Int → Bool} (h : l.all q = true) {i : Nat} (hi : i < l.length) : q (l.getD i 0) = true := by
 rw [List.all_eq_true] at h
 simp only [List.getD_eq_getElem?_getD, List.getElem?_eq_getElem hi, Option.getD_some]
 exact h _ (List.getElem_mem hi)
theorem all_of {l : List Int} {q : Int → Bool} (h : ∀ i, i < l.length → q (l.getD i 0) = true) : l.all q = true := by
 rw [List.all_eq_true]
 intro c hc
 obtain ⟨i, hi, rfl⟩ := List.getElem_of_mem hc
 have := h i hi
 simpa only [List.getD_eq_getElem?_getD, List.getElem?_eq_getElem hi, Option.getD_some] using this
theorem mod_lt {n x : Int} (hn : 3 ≤ n ∧ n ≤ 8) : 0 ≤ x % n ∧ x % n < n := ⟨Int.emod_nonneg _ (by omega), Int.emod_lt_of_pos _ (by omega)⟩
theorem counts_step {n : Int} {h : HB} {p : Int} {x y z : A} {s : Int} (hP : countsP n h p x = true) (hp : p < n)
  (hs : s = if h.a p.toNat < n then (p + h.a p.toNat) % n else -1)
  (hy : y = if h.a p.toNat < n then incA x ((p + h.a p.toNat) % n) else x)
  (hz : z = if p = h.port ∧ h.age < 2 * n ∧ (p + h.age) % n ≠ s then incA y ((p + h.age) % n) else y) :
  countsP n h (p + 1) z = true ∧ cntsF n h (p + 1) z = cntsF n h p x := by
 simp only [countsP, Bool.and_eq_true, inR_iff] at hP
 obtain ⟨⟨⟨hr, hp0⟩, hx⟩, hb⟩ := hP
 have hn := right_le hr
 obtain ⟨h8, l, hl, rfl⟩ := (isIls_iff (by omega)).1 hx
 rw [ils_of] at hb
 have hlb (i : Nat) (hi : i < l.length) : 0 ≤ l.getD i 0 ∧ l.getD i 0 ≤ p := by
  have := all_get hb hi
  rwa [inR_iff] at this
 have ha := a_bounds hr ⟨hp0.1, hp⟩
 have hm1 := mod_lt (x := p + h.a p.toNat) hn
 have hm2 := mod_lt (x := p + h.age) hn
 have hv (v : Int) := voteB_eq (v := v) hr ⟨hp0.1, hp⟩
 have key : ∃ l2 : List Int, z = ofIls l2 ∧ l2.length = l.length ∧ ∀ v : Nat, v < l.length → l2.getD v 0 = l.getD v 0 + if voteB n h p.toNat v = true then 1 else 0 := by
  have hy2 : ∃ l1 : List Int, y = ofIls l1 ∧ l1.length = l.length ∧ ∀ v : Nat, v < l.length → l1.getD v 0 = l.getD v 0 + if (v : Int) = s then 1 else 0 := by
   by_cases c : h.a p.toNat < n
   ·rw [if_pos c] at hs hy
    refine ⟨incL l ((p + h.a p.toNat) % n), ?_, by simp [incL], fun v hv => ?_⟩
    ·rw [hy, incA_of]
     have := hlb ((p + h.a p.toNat) % n).toNat (by omega)
     omega
    ·rw [incL_get l _ v hv hm1.1, hs]
     simp only [eq_comm]
   ·rw [if_neg c] at hs hy
    refine ⟨l, hy, rfl, fun v hv => ?_⟩
    rw [if_neg (by omega)]; omega
  obtain ⟨l1, rfl, hl1, hg1⟩ := hy2
  by_cases c : p = h.port ∧ h.age < 2 * n ∧ (p + h.age) % n ≠ s
  ·rw [if_pos c] at hz
   refine ⟨incL l1 ((p + h.age) % n), ?_, by simp [incL, hl1], fun v hvl => ?_⟩
   ·rw [hz, incA_of]
    have h1 := hlb ((p + h.age) % n).toNat (by omega)
    have h2 := hg1 ((p + h.age) % n).toNat (by omega)
    rw [h2]
    split <;> omega
   ·rw [incL_get l1 _ v (by omega) hm2.1, hg1 v hvl, hv]
    obtain ⟨c1, c2, c3⟩ := c
    simp only [decide_eq_true c1, decide_eq_true c2, Bool.true_and, Bool.or_eq_true, Bool.and_eq_true, decide_eq_true_eq]
    by_cases c4 : h.a p.toNat < n
    ·rw [if_pos c4] at hs
     simp only [c4, true_and, ← hs]
     by_cases c5 : (p + h.age) % n = (v : Int)
     ·have : ¬ (v : Int) = s := by omega
      simp [c5, this]
     ·by_cases c6 : (v : Int) = s
      ·simp [c5, c6]
       omega
      ·have : ¬ s = (v : Int) := by omega
       simp [c5, c6, this]
    ·rw [if_neg c4] at hs
     have : ¬ (v : Int) = s := by omega
     simp [c4, this]
  ·rw [if_neg c] at hz
   refine ⟨l1, hz, hl1, fun v hvl => ?_⟩
   rw [hg1 v hvl, hv]
   simp only [Bool.or_eq_true, Bool.and_eq_true, decide_eq_true_eq]
   by_cases c4 : h.a p.toNat < n
   ·rw [if_pos c4] at hs
    simp only [c4, true_and, ← hs]
    by_cases c6 : (v : Int) = s
    ·simp [c6]
    ·have c7 : ¬ s = (v : Int) := by omega
     simp only [c6, c7, false_or, if_false]
     rw [if_neg]
     rintro ⟨⟨d1, d2⟩, d3⟩
     exact c ⟨d1, d2, by omega⟩
   ·rw [if_neg c4] at hs
    have c6 : ¬ (v : Int) = s := by omega
    simp only [c4, c6, false_and, false_or, if_false]
    rw [if_neg]
    rintro ⟨⟨d1, d2⟩, d3⟩
    exact c ⟨d1, d2, by omega⟩
 obtain ⟨l2, rfl, hl2, hg⟩ := key
 constructor
 ·simp only [countsP, Bool.and_eq_true, inR_iff, hr, true_and, ils_of]
  refine ⟨⟨by omega, (isIls_iff (by omega)).2 ⟨h8, l2, by omega, rfl⟩⟩, all_of fun i hi => ?_⟩
  rw [inR_iff, hg i (by omega)]
  have := hlb i (by omega)
  split <;> omega
 ·rw [cntsF_of, cntsF_of]
  apply List.ext_getElem
  ·simp [hl2]
  ·intro i h1 h2
   simp only [List.length_mapIdx] at h1 h2
   simp only [List.getElem_mapIdx]
   have g1 := hg i h2
   simp only [List.getD_eq_getElem?_getD, List.getElem?_eq_getElem h1, List.getElem?_eq_getElem h2, Option.getD_some] at g1
   rw [g1, cntF_step h (i : Int) ⟨hp0.1, hp⟩ (by omega)]
   omega
theorem counts_end {n : Int} {h : HB} {p : Int} {x : A} (hP : countsP n h p x = true) (hp : ¬ p < n) : x = ofIls (cntsF n h p x) := by
 simp only [countsP, Bool.and_eq_true, inR_iff] at hP
 obtain ⟨⟨⟨hr, hp0⟩, hx⟩, hb⟩ := hP
 have hn := right_le hr
 obtain ⟨h8, l, hl, rfl⟩ := (isIls_iff (by omega)).1 hx
 rw [cntsF_of]
 congr 1
 apply List.ext_getElem
 ·simp
 ·intro i h1 h2
  simp only [List.getElem_mapIdx]
  rw [cntF_end h _ (by omega)]
  omega
theorem counts_zero {n : Int} {h : HB} (hr : rightH n h = true) : countsP n h 0 (.l (List.replicate n.toNat [A.i 0]).flatten) = true ∧
  cntsF n h 0 (.l (List.replicate n.toNat [A.i 0]).flatten) = cntL n h := by
 have hn := right_le hr
 have e : (A.l (List.replicate n.toNat [A.i 0]).flatten) = ofIls (List.replicate n.toNat 0) := by
  simp only [ofIls, List.map_replicate]
  congr 1
  generalize n.toNat = k
  induction k with
  | zero => rfl
  | succ k ih => simp [List.replicate_succ, ih]
 rw [e]
 constructor
 ·simp only [countsP, Bool.and_eq_true, inR_iff, hr, true_and, ils_of]
  refine ⟨⟨by omega, (isIls_iff (by omega)).2 ⟨hn.2, _, by simp, rfl⟩⟩, ?_⟩
  simp [inR]
 ·rw [cntsF_of, cntL, if_pos hn.2]
  apply List.ext_getElem
  ·simp
  ·intro i h1 h2
   simp [cntF_zero]
end Day
namespace Day
open Rx Go
theorem drop_step {n i : Int} {x : A} (h : listP n i x = true) (hi : i < n) : (ils x).drop i.toNat = (x.els.getD i.toNat (.i 0)).int :: (ils x).drop (i + 1).toNat := by
 simp only [listP, Bool.and_eq_true, inR_iff, isIls, beq_iff_eq, decide_eq_true_eq] at h
 obtain ⟨h1, ⟨⟨h2, h3⟩, h4⟩, h5⟩ := h
 have hl : i.toNat < (ils x).length := by simp only [ils, List.length_map]; omega
 rw [List.drop_eq_getElem_cons hl, show (i + 1).toNat = i.toNat + 1 by omega]
 congr 1
 have := getD_i (ils x) i.toNat
 simp only [ils, List.getElem_map, List.getD_eq_getElem?_getD]
 have hl2 : i.toNat < x.els.length := by omega
 simp [List.getElem?_eq_getElem hl2]
theorem drop_end {n i : Int} {x : A} (h : listP n i x = true) (hi : ¬ i < n) : (ils x).drop i.toNat = [] := by
 simp only [listP, Bool.and_eq_true, inR_iff, isIls, beq_iff_eq, decide_eq_true_eq] at h
 obtain ⟨h1, ⟨⟨h2, h3⟩, h4⟩, h5⟩ := h
 apply List.drop_eq_nil_of_le
 simp only [ils, List.length_map]; omega
theorem listP_step {n i : Int} {x : A} (h : listP n i x = true) (hi : i < n) : listP n (i + 1) x = true ∧ (0 ≤ i ∧ i ≤ 8) := by
 simp only [listP, Bool.and_eq_true, inR_iff] at h ⊢
 have h2 := h.2
 simp only [isIls, Bool.and_eq_true, decide_eq_true_eq] at h2
 refine ⟨⟨by omega, h.2⟩, by omega⟩
theorem maxF_step {n i m : Int} {x : A} (h : listP n i x = true) (hi : i < n) : maxF m i x = maxF (if m < (x.els.getD i.toNat (.i 0)).int then (x.els.getD i.toNat (.i 0)).int else m) (i + 1) x := by
 simp only [maxF, drop_step h hi, maxL]
theorem maxF_end {n i m : Int} {x : A} (h : listP n i x = true) (hi : ¬ i < n) : maxF m i x = m := by
 simp only [maxF, drop_end h hi, maxL]
theorem idxF_step {n i m : Int} {x : A} (h : listP n i x = true) (hi : i < n) : idxF m i x = if m = (x.els.getD i.toNat (.i 0)).int then i else idxF m (i + 1) x := by
 simp only [idxF, drop_step h hi, idxL]
theorem hasF_step {n i m : Int} {x : A} (h : listP n i x = true) (hi : i < n) : hasF m i x = (((x.els.getD i.toNat (.i 0)).int == m) || hasF m (i + 1) x) := by
 simp only [hasF, drop_step h hi, List.any_cons]
theorem hasF_end {n i m : Int} {x : A} (h : listP n i x = true) (hi : ¬ i < n) : hasF m i x = false := by
 simp only [hasF, drop_end h hi, List.any_nil]
end Day
namespace Day
open Rx Go
theorem maxL_mem : ∀ (ls : List Int) (k : Int), maxL k ls = k ∨ ls.any (fun c => c == maxL k ls) = true
 | [], k => .inl rfl
 | l :: ls, k => by
  rcases maxL_mem ls (if k < l then l else k) with h | h
  ·by_cases c : k < l
   ·right; simp only [maxL, List.any_cons, h]; simp [c]
   ·left; rw [maxL, h]; simp [c]
  ·right
   simp only [maxL, List.any_cons, h, Bool.or_true]
theorem best_list {n : Int} {h : HB} (hr : rightH n h = true) : ∃ k0 ls, cntL n h = k0 :: ls ∧ (bestI n h, cntH n h (bestI n h)) = bestL ls 1 0 k0 := by
 rcases hub_cases n h with ⟨rfl, hc⟩ | ⟨rfl, hc⟩ | ⟨rfl, hc⟩ | ⟨rfl, hc⟩ | ⟨rfl, hc⟩ | ⟨rfl, hc⟩ | hc
 ·exact ⟨_, _, rfl, best3 h⟩
 ·exact ⟨_, _, rfl, best4 h⟩
 ·exact ⟨_, _, rfl, best5 h⟩
 ·exact ⟨_, _, rfl, best6 h⟩
 ·exact ⟨_, _, rfl, best7 h⟩
 ·exact ⟨_, _, rfl, best8 h⟩
 ·rw [hr] at hc; cases hc
theorem cntL_length {n : Int} {h : HB} (hr : rightH n h = true) : ((cntL n h).length : Int) = n := by
 have hn := right_le hr
 rw [cntL, if_pos hn.2]
 simp; omega
theorem cntL_get {n : Int} {h : HB} (hr : rightH n h = true) {v : Int} (hv : 0 ≤ v ∧ v < n) : ((ofIls (cntL n h)).els.getD v.toNat (.i 0)).int = cntH n h v := by
 have hn := right_le hr
 have := getD_i (cntL n h) v.toNat
 rw [show (ofIls (cntL n h)).els = (cntL n h).map A.i from rfl, this, cntL, if_pos hn.2]
 have hl : v.toNat < n.toNat := by omega
 simp [List.getD_eq_getElem?_getD, hl]
 rw [show max v 0 = v by omega]
theorem cntL_P {n i : Int} {h : HB} (hr : rightH n h = true) (hi : 0 ≤ i ∧ i ≤ n) : listP n i (ofIls (cntL n h)) = true := by
 have hn := right_le hr
 have hl := cntL_length hr
 simp only [listP, Bool.and_eq_true, inR_iff]
 exact ⟨hi, (isIls_iff (by omega)).2 ⟨hn.2, _, by omega, rfl⟩⟩
theorem best_counts {n : Int} {h : HB} (hr : rightH n h = true) :
  maxF ((ofIls (cntL n h)).els.getD 0 (.i 0)).int 1 (ofIls (cntL n h)) = bestK n h ∧ idxF (bestK n h) 0 (ofIls (cntL n h)) = bestH n h ∧ hasF (bestK n h) 0 (ofIls (cntL n h)) = true := by
 obtain ⟨k0, ls, e, hb⟩ := best_list hr
 rw [bestL_spec] at hb
 injection hb with h1 h2
 have hk : bestK n h = maxL k0 ls := by rw [bestK, if_pos hr, h2]
 have hi : bestH n h = idxL (k0 :: ls) 0 (maxL k0 ls) := by rw [bestH, if_pos hr, h1, idxL]; rfl
 have e2 : ils (ofIls (k0 :: ls)) = k0 :: ls := ils_of _
 rw [e, hk]
 refine ⟨?_, ?_, ?_⟩
 ·simp only [maxF, e2]; rfl
 ·simp only [idxF, e2]; rw [hi]; rfl
 ·simp only [hasF, e2]
  show ((k0 :: ls).any fun c => c == maxL k0 ls) = true
  rcases maxL_mem ls k0 with hm | hm
  ·simp [hm]
  ·simp only [List.any_cons, hm, Bool.or_true]
end Day
namespace Day
theorem cntH_out {n : Int} {h : HB} (hr : rightH n h = true) {v : Int} (hv : ¬ (0 ≤ v ∧ v < n)) : cntH n h v = 0 := by
 have hn := right_le hr
 have e (p : Nat) : voteB n h p v = false := by
  have m1 := mod_lt (x := p + h.a p) hn
  have m2 := mod_lt (x := p + h.age) hn
  have c1 : ¬ (p + h.a p) % n = v := by omega
  have c2 : ¬ (p + h.age) % n = v := by omega
  simp [voteB, c1, c2]
 simp [cntH, sum8, e]
theorem hub_most {n : Int} {h : HB} (hr : rightH n h = true) : ∀ j : Nat, j < 8 → 0 ≤ h.a j ∧ h.a j ≤ mostA n j := by
 simp only [rightH, all8, Bool.and_eq_true, inR_iff] at hr
 obtain ⟨⟨⟨⟨⟨hn, ha⟩, h1⟩, h2⟩, h3⟩, h4⟩ := hr
 obtain ⟨⟨⟨⟨⟨⟨⟨a0, a1⟩, a2⟩, a3⟩, a4⟩, a5⟩, a6⟩, a7⟩ := ha
 intro j hj
 match j, hj with
 | 0, _ => exact a0
 | 1, _ => exact a1
 | 2, _ => exact a2
 | 3, _ => exact a3
 | 4, _ => exact a4
 | 5, _ => exact a5
 | 6, _ => exact a6
 | 7, _ => exact a7
end Day
namespace Day
open Rx Go
theorem right_i64 {n : Int} {h : HB} (hr : rightH n h = true) : h.i64 = true := by
 have hb := hub_bounds hr
 simp only [HB.i64, all8, i64, Bool.and_eq_true, decide_eq_true_eq]
 omega
theorem argH_right {n : Int} {h : HB} (hr : rightH n h = true) : argH n h = 0 := by simp [argH, hr]
def u8m (x : Int) : Int := 3 + x % 6
theorem u8m_eq {x v13 v14 v15 : Int} (hx : u8 x = true) (h13 : v13 = dvI .rem .u8 x 6) (h14 : v14 = IntKind.wrap .i64 v13) (h15 : v15 = arI .add .i64 3 v14) : v15 = u8m x ∧ right v15 = true := by
 simp only [u8, Bool.and_eq_true, decide_eq_true_eq] at hx
 have e : v13 = x % 6 := by
  rw [h13]
  simp only [dvI]
  rw [Int.tmod_eq_emod_of_nonneg hx.1]
 have hm : 0 ≤ x % 6 ∧ x % 6 < 6 := ⟨Int.emod_nonneg _ (by omega), Int.emod_lt_of_pos _ (by omega)⟩
 rw [wrap64 (by omega) (by omega)] at h14
 simp only [arI] at h15
 rw [wrap64 (by omega) (by omega)] at h15
 refine ⟨by rw [h15, h14, e]; rfl, ?_⟩
 simp only [right, Bool.and_eq_true, decide_eq_true_eq]
 omega
end Day
namespace Day
open Rx Go
end Day
namespace Day
open Rx Go
def okF (n : Int) (h : HB) (p : Int) : Bool := all8 fun q => !decide (p ≤ (q : Int)) || inR (h.a q) (mostA n q)
theorem okF_zero (n : Int) (h : HB) : okF n h 0 = all8 fun q => inR (h.a q) (mostA n q) := by simp [okF, all8]
theorem okF_step {n : Int} (h : HB) {p : Int} (hp : 0 ≤ p ∧ p < 8) : okF n h p = (inR (h.a p.toNat) (mostA n p.toNat) && okF n h (p + 1)) := by
 have : p = 0 ∨ p = 1 ∨ p = 2 ∨ p = 3 ∨ p = 4 ∨ p = 5 ∨ p = 6 ∨ p = 7 := by omega
 rcases this with rfl | rfl | rfl | rfl | rfl | rfl | rfl | rfl <;> simp [okF, all8, Bool.and_assoc]
theorem okF_end (n : Int) (h : HB) {p : Int} (hp : 8 ≤ p) : okF n h p = true := by
 have e (q : Int) (hq : q < 8) : decide (p ≤ q) = false := by simp; omega
 simp [okF, all8, e]
end Day
namespace Day
open Rx Go
def settleS (n : Int) (h : HB) : Int := if h.hold = 0 then bestH n h else h.pos
def settleV (n : Int) (h : HB) : Int := if h.hold = 0 then bestK n h else votesH n h h.pos
def settleH (n : Int) (h : HB) : HB :=
 if rightH n h then (if 2 ≤ settleV n h then ⟨ages8 fun p => h.a p, h.port, h.age, 2 * n, settleS n h⟩ else ⟨ages8 fun p => h.a p, h.port, h.age, h.hold, h.pos⟩) else noHB
end Day
namespace Day
open Rx Go
theorem best_range {n : Int} {h : HB} (hr : rightH n h = true) : 0 ≤ bestH n h ∧ bestH n h < n := by
 have hn := right_le hr
 rw [bestH, if_pos hr]
 have st (b v : Int) (hv : 0 ≤ v) (h2 : 0 ≤ b ∧ b < n) : 0 ≤ bestStep n h b v ∧ bestStep n h b v < n := by
  unfold bestStep; split <;> omega
 unfold bestI
 exact st _ 7 (by omega) (st _ 6 (by omega) (st _ 5 (by omega) (st _ 4 (by omega) (st _ 3 (by omega) (st _ 2 (by omega) (st _ 1 (by omega) (st _ 0 (by omega) (by omega))))))))
end Day
namespace Day
open Rx Go
def allF (f : Int → Bool) (i n : Int) : Bool := (List.range (n - i).toNat).all fun j => f (i + (j : Int))
def firstF (f : Int → Bool) (i n : Int) : Int := match (List.range (n - i).toNat).find? (fun j : Nat => f (i + (j : Int))) with | some j => i + (j : Int) | none => -1
def anyF (f : Int → Bool) (i n : Int) : Bool := !allF (fun p => !f p) i n
theorem range_toNat {i n : Int} (h : i < n) : List.range (n - i).toNat = 0 :: (List.range (n - (i + 1)).toNat).map (· + 1) := by
 rw [show (n - i).toNat = (n - (i + 1)).toNat + 1 by omega, List.range_succ_eq_map]
theorem allF_step {f : Int → Bool} {i n : Int} (h : i < n) : allF f i n = (f i && allF f (i + 1) n) := by
 unfold allF
 rw [range_toNat h]
 simp only [List.all_cons, List.all_map]
 congr 1
 ·simp
 ·congr 1
  funext j
  simp only [Function.comp]
  congr 1
  simp; omega
theorem allF_end {f : Int → Bool} {i n : Int} (h : ¬ i < n) : allF f i n = true := by
 unfold allF
 rw [show (n - i).toNat = 0 by omega]; rfl
theorem firstF_step {f : Int → Bool} {i n : Int} (h : i < n) : firstF f i n = if f i then i else firstF f (i + 1) n := by
 unfold firstF
 rw [range_toNat h, List.find?_cons]
 have e : f (i + ((0 : Nat) : Int)) = f i := by simp
 rw [e]
 cases hf : f i
 ·simp only [List.find?_map, Bool.false_eq_true, if_false]
  have : ((fun j : Nat => f (i + (j : Int))) ∘ fun x => x + 1) = fun j : Nat => f (i + 1 + (j : Int)) := by
   funext j; simp only [Function.comp]; congr 1; simp; omega
  rw [this]
  cases List.find? (fun j : Nat => f (i + 1 + (j : Int))) (List.range (n - (i + 1)).toNat) with
  | none => rfl
  | some j => simp; omega
 ·simp
theorem firstF_end {f : Int → Bool} {i n : Int} (h : ¬ i < n) : firstF f i n = -1 := by
 unfold firstF
 rw [show (n - i).toNat = 0 by omega]; rfl
theorem anyF_step {f : Int → Bool} {i n : Int} (h : i < n) : anyF f i n = (f i || anyF f (i + 1) n) := by
 unfold anyF
 rw [allF_step h]; simp
theorem anyF_end {f : Int → Bool} {i n : Int} (h : ¬ i < n) : anyF f i n = false := by
 unfold anyF
 rw [allF_end h]; rfl
theorem allF_iff {f : Int → Bool} {i n : Int} : allF f i n = true ↔ ∀ p, i ≤ p → p < n → f p = true := by
 unfold allF
 rw [List.all_eq_true]
 constructor
 ·intro h p h1 h2
  have := h (p - i).toNat (by rw [List.mem_range]; omega)
  rwa [show i + ((p - i).toNat : Int) = p by omega] at this
 ·intro h j hj
  rw [List.mem_range] at hj
  exact h _ (by omega) (by omega)
theorem anyF_iff {f : Int → Bool} {i n : Int} : anyF f i n = true ↔ ∃ p, i ≤ p ∧ p < n ∧ f p = true := by
 unfold anyF
 rw [Bool.not_eq_true', Bool.eq_false_iff, ne_eq, allF_iff]
 constructor
 ·intro h
  apply Classical.byContradiction
  intro h2
  refine h fun p h3 h4 => ?_
  cases hf : f p with
  | false => rfl
  | true => exact absurd ⟨p, h3, h4, hf⟩ h2
 ·rintro ⟨p, h1, h2, h3⟩ h
  have := h p h1 h2
  rw [h3] at this
  cases this
theorem firstF_spec {f : Int → Bool} {n : Int} : ∀ (k : Nat) (i : Int), (n - i).toNat = k → anyF f i n = true → i ≤ firstF f i n ∧ firstF f i n < n ∧ f (firstF f i n) = true ∧ ∀ p, i ≤ p → p < firstF f i n → f p = false
 | 0, i, hk, h => by rw [anyF_end (by omega)] at h; cases h
 | k + 1, i, hk, h => by
  have hlt : i < n := by omega
  rw [anyF_step hlt] at h
  rw [firstF_step hlt]
  cases hf : f i with
  | true => simp [hlt, hf]; intro p h1 h2; omega
  | false =>
   rw [hf, Bool.false_or] at h
   obtain ⟨h1, h2, h3, h4⟩ := firstF_spec k (i + 1) (by omega) h
   simp only [Bool.false_eq_true, if_false]
   refine ⟨by omega, h2, h3, fun p hp1 hp2 => ?_⟩
   by_cases hpi : p = i
   ·subst hpi; exact hf
   ·exact h4 p (by omega) hp2
theorem first_spec {f : Int → Bool} {i n : Int} (h : anyF f i n = true) : i ≤ firstF f i n ∧ firstF f i n < n ∧ f (firstF f i n) = true ∧ ∀ p, i ≤ p → p < firstF f i n → f p = false := firstF_spec _ i rfl h
theorem firstF_none {f : Int → Bool} {i n : Int} (h : anyF f i n = false) : firstF f i n = -1 := by
 unfold firstF
 have : List.find? (fun j : Nat => f (i + (j : Int))) (List.range (n - i).toNat) = none := by
  rw [List.find?_eq_none]
  intro j hj hf
  rw [List.mem_range] at hj
  have : anyF f i n = true := anyF_iff.2 ⟨i + (j : Int), by omega, by omega, hf⟩
  rw [h] at this; cases this
 rw [this]
structure Ls where
 x : A
 n : Int
def Ls.k (q : Ls) (i : Int) : Int := (q.x.els.getD (2 * i.toNat) (.i 0)).int
def Ls.d (q : Ls) (i : Int) : Int := (q.x.els.getD (1 + 2 * i.toNat) (.i 0)).int
def Ls.ok (q : Ls) : Bool := decide (0 ≤ q.n) && decide (q.n ≤ 9223372036854775807)
def fitB (q : Ls) (p : Int) : Bool := (q.k p == 0 && q.d p == 0) || ((q.k p == 1 || q.k p == 2) && q.d p == p)
def fitsR (n : Int) (q : Ls) : Bool := right n && (q.n == n && allF (fitB q) 0 q.n)
def gateE (n : Int) (h : HB) (q : Ls) : Int := if rightH n h then (if fitsR n q then 0 else 2) else 1
def isCs (q : Ls) (p : Int) : Bool := q.k p == 1
def noteF (n : Int) (q : Ls) (p j x : Int) : Int := if p ≤ j ∧ j < n ∧ q.k j = 2 then 0 else x
def sameH (h : HB) : HB := ⟨ages8 fun p => h.a p, h.port, h.age, h.hold, h.pos⟩
def noteH (n : Int) (h : HB) (q : Ls) : HB := if gateE n h q = 0 then ⟨ages8 fun p => if (p : Int) < n ∧ q.k p = 2 then 0 else h.a p, h.port, h.age, h.hold, h.pos⟩ else noHB
def ownerH (n : Int) (h : HB) (q : Ls) : HB := if q.k h.pos = 2 then ⟨ages8 fun p => h.a p, h.port, h.age, 2 * n, h.pos⟩ else sameH h
def ownerF (h : HB) (q : Ls) : Fr := if q.k h.pos = 2 then ⟨2, q.d h.pos⟩ else noFr
def goesF (n : Int) (q : Ls) (i age : Int) : Bool := anyF (isCs q) i n && decide (2 * n < age)
def goesB (n : Int) (h : HB) (q : Ls) : Bool := anyF (isCs q) 0 n && decide (2 * n < h.age)
def firstH (n : Int) (h : HB) (q : Ls) : HB := if goesB n h q then ⟨ages8 fun p => if (p : Int) < n then n else h.a p, firstF (isCs q) 0 n, 0, h.hold, h.pos⟩ else sameH h
def firstFr (n : Int) (h : HB) (q : Ls) : Fr := if goesB n h q then ⟨1, q.d (firstF (isCs q) 0 n)⟩ else noFr
def relayH (n : Int) (h : HB) (q : Ls) : HB := if gateE n h q = 0 then (if 0 < h.hold then ownerH n h q else firstH n h q) else noHB
def relayF (n : Int) (h : HB) (q : Ls) : Fr := if gateE n h q = 0 then (if 0 < h.hold then ownerF h q else firstFr n h q) else noFr
theorem gateE_fits {n : Int} {h : HB} {q : Ls} : gateE n h q = 0 ↔ rightH n h = true ∧ fitsR n q = true := by
 unfold gateE
 split <;> rename_i c
 ·split <;> rename_i c2 <;> simp [c, c2]
 ·simp [c]
theorem fits_n {n : Int} {q : Ls} (h : fitsR n q = true) : q.n = n ∧ (3 ≤ n ∧ n ≤ 8) ∧ ∀ p, 0 ≤ p → p < n → fitB q p = true := by
 simp only [fitsR, Bool.and_eq_true, beq_iff_eq] at h
 obtain ⟨h1, h2, h3⟩ := h
 rw [allF_iff, h2] at h3
 exact ⟨h2, by simpa [right] using h1, h3⟩
theorem noteF_step {n p x : Int} {q : Ls} (j : Nat) (hp : 0 ≤ p ∧ p < n) : noteF n q (p + 1) j (if (q.k p == 2) = true then (if p.toNat = j then 0 else x) else x) = noteF n q p j x := by
 unfold noteF
 by_cases hj : p = (j : Int)
 ·subst hj
  have h1 : ¬ ((j : Int) + 1 ≤ j) := by omega
  have h2 : (j : Int) < n := hp.2
  by_cases hk : q.k (j : Int) = 2
  ·simp [h1, h2, hk]
  ·simp [h1, hk]
 ·have h1 : ¬ p.toNat = j := by omega
  have h2 : p + 1 ≤ (j : Int) ↔ p ≤ (j : Int) := by omega
  simp [h1, h2]
theorem noteF_end {n p x j : Int} {q : Ls} (hp : n ≤ p) : noteF n q p j x = x := by
 unfold noteF
 rw [if_neg]; omega
theorem fits_ok {n : Int} {q : Ls} (h : fitsR n q = true) : q.ok = true := by
 obtain ⟨h1, h2, _⟩ := fits_n h
 simp [Ls.ok]; omega
theorem fits_k {n p : Int} {q : Ls} (h : fitsR n q = true) (h0 : 0 ≤ p) (h1 : p < n) : (q.k p = 0 ∧ q.d p = 0) ∨ (q.k p = 1 ∧ q.d p = p) ∨ (q.k p = 2 ∧ q.d p = p) := by
 have := (fits_n h).2.2 p h0 h1
 simp only [fitB, Bool.or_eq_true, Bool.and_eq_true, beq_iff_eq] at this
 omega
end Day
namespace Day
open Rx Go
theorem right_mk {n : Int} {f : Nat → Int} {port age hold pos : Int} (hn : 3 ≤ n ∧ n ≤ 8) (hf : ∀ p, p < 8 → 0 ≤ f p ∧ f p ≤ mostA n p) (h1 : 0 ≤ port ∧ port < n) (h2 : 0 ≤ age ∧ age ≤ 2 * n + 1) (h3 : 0 ≤ hold ∧ hold ≤ 2 * n) (h4 : 0 ≤ pos ∧ pos < n) :
  rightH n ⟨ages8 f, port, age, hold, pos⟩ = true := by
 have hR : right n = true := by simp [right, hn]
 have e (p : Nat) (hp : p < 8) : inR (f p) (mostA n p) = true := by rw [inR_iff]; exact hf p hp
 have e1 : inR port (n - 1) = true := by rw [inR_iff]; omega
 have e2 : inR age (2 * n + 1) = true := by rw [inR_iff]; omega
 have e3 : inR hold (2 * n) = true := by rw [inR_iff]; omega
 have e4 : inR pos (n - 1) = true := by rw [inR_iff]; omega
 have g : all8 (fun p => inR ((HB.mk (ages8 f) port age hold pos).a p) (mostA n p)) = true := by
  simp only [all8, Bool.and_eq_true]
  exact ⟨⟨⟨⟨⟨⟨⟨e 0 (by omega), e 1 (by omega)⟩, e 2 (by omega)⟩, e 3 (by omega)⟩, e 4 (by omega)⟩, e 5 (by omega)⟩, e 6 (by omega)⟩, e 7 (by omega)⟩
 simp only [rightH, hR, g, e1, e2, e3, e4, Bool.and_self]
theorem right_all {n : Int} {h : HB} (hr : rightH n h = true) : (3 ≤ n ∧ n ≤ 8) ∧ (∀ p, p < 8 → 0 ≤ h.a p ∧ h.a p ≤ mostA n p) ∧ (0 ≤ h.port ∧ h.port < n) ∧ (0 ≤ h.age ∧ h.age ≤ 2 * n + 1) ∧ (0 ≤ h.hold ∧ h.hold ≤ 2 * n) ∧ (0 ≤ h.pos ∧ h.pos < n) := by
 have hb := hub_bounds hr
 exact ⟨hb.1, hub_most hr, hb.2.2⟩
theorem mostA_le (n : Int) (hn : 0 ≤ n) (p : Nat) : 0 ≤ mostA n p ∧ mostA n p ≤ n := by unfold mostA; split <;> omega
theorem ages_get (f : Nat → Int) (a b c d : Int) (p : Nat) (hp : p < 8) : (HB.mk (ages8 f) a b c d).a p = f p := by
 match p, hp with
 | 0, _ | 1, _ | 2, _ | 3, _ | 4, _ | 5, _ | 6, _ | 7, _ => rfl
theorem same_right {n : Int} {h : HB} (hr : rightH n h = true) : rightH n (sameH h) = true := by
 obtain ⟨h1, h2, h3, h4, h5, h6⟩ := right_all hr
 exact right_mk h1 h2 h3 h4 h5 h6
theorem note_eq {n : Int} {h : HB} {q : Ls} (hr : rightH n h = true) (hf : fitsR n q = true) : noteH n h q = ⟨ages8 fun p => if (p : Int) < n ∧ q.k p = 2 then 0 else h.a p, h.port, h.age, h.hold, h.pos⟩ := by
 rw [noteH, if_pos (gateE_fits.2 ⟨hr, hf⟩)]
theorem note_right {n : Int} {h : HB} {q : Ls} (hr : rightH n h = true) (hf : fitsR n q = true) : rightH n (noteH n h q) = true := by
 obtain ⟨h1, h2, h3, h4, h5, h6⟩ := right_all hr
 rw [note_eq hr hf]
 refine right_mk h1 (fun p hp => ?_) h3 h4 h5 h6
 have := h2 p hp
 have := mostA_le n (by omega) p
 split <;> omega
theorem settle_eq {n : Int} {h : HB} (hr : rightH n h = true) : settleH n h = if 2 ≤ settleV n h then ⟨ages8 fun p => h.a p, h.port, h.age, 2 * n, settleS n h⟩ else sameH h := by
 rw [settleH, if_pos hr]; rfl
theorem settleS_range {n : Int} {h : HB} (hr : rightH n h = true) : 0 ≤ settleS n h ∧ settleS n h < n := by
 have := best_range hr
 have := (right_all hr).2.2.2.2.2
 unfold settleS; split <;> omega
theorem settle_right {n : Int} {h : HB} (hr : rightH n h = true) : rightH n (settleH n h) = true := by
 obtain ⟨h1, h2, h3, h4, h5, h6⟩ := right_all hr
 have hs := settleS_range hr
 rw [settle_eq hr]
 split
 ·exact right_mk h1 h2 h3 h4 (by omega) hs
 ·exact same_right hr
theorem relay_cases {n : Int} {h : HB} {q : Ls} (hr : rightH n h = true) (hf : fitsR n q = true) :
  (0 < h.hold ∧ q.k h.pos = 2 ∧ q.d h.pos = h.pos ∧ relayF n h q = ⟨2, h.pos⟩ ∧ relayH n h q = ⟨ages8 fun p => h.a p, h.port, h.age, 2 * n, h.pos⟩) ∨
  (h.hold = 0 ∧ 2 * n < h.age ∧ ∃ p, 0 ≤ p ∧ p < n ∧ q.k p = 1 ∧ q.d p = p ∧ (∀ i, 0 ≤ i → i < p → q.k i ≠ 1) ∧ relayF n h q = ⟨1, p⟩ ∧ relayH n h q = ⟨ages8 fun p => if (p : Int) < n then n else h.a p, p, 0, h.hold, h.pos⟩) ∨
  (relayF n h q = noFr ∧ relayH n h q = sameH h ∧ (0 < h.hold → q.k h.pos ≠ 2) ∧ (h.hold = 0 → 2 * n < h.age → ∀ i, 0 ≤ i → i < n → q.k i ≠ 1)) := by
 obtain ⟨h1, h2, h3, h4, h5, h6⟩ := right_all hr
 have hg := gateE_fits.2 ⟨hr, hf⟩
 unfold relayF relayH
 rw [if_pos hg, if_pos hg]
 by_cases c : 0 < h.hold
 ·rw [if_pos c, if_pos c]
  have hk := fits_k hf h6.1 h6.2
  by_cases c2 : q.k h.pos = 2
  ·have hd : q.d h.pos = h.pos := by omega
   refine .inl ⟨c, c2, hd, by rw [ownerF, if_pos c2, hd], by rw [ownerH, if_pos c2]⟩
  ·exact .inr (.inr ⟨by rw [ownerF, if_neg c2], by rw [ownerH, if_neg c2], fun _ => c2, fun h0 => by omega⟩)
 ·rw [if_neg c, if_neg c]
  cases hA : goesB n h q with
  | true =>
   have hA2 := hA
   simp only [goesB, goesF, Bool.and_eq_true, decide_eq_true_eq] at hA2
   obtain ⟨s1, s2, s3, s4⟩ := first_spec hA2.1
   have hkp : q.k (firstF (isCs q) 0 n) = 1 := by simpa [isCs] using s3
   have hk := fits_k hf s1 s2
   have hd : q.d (firstF (isCs q) 0 n) = firstF (isCs q) 0 n := by omega
   refine .inr (.inl ⟨by omega, hA2.2, firstF (isCs q) 0 n, s1, s2, hkp, hd, fun i i1 i2 => ?_, by rw [firstFr, if_pos hA, hd], by rw [firstH, if_pos hA]⟩)
   have := s4 i i1 i2
   simpa [isCs] using this
  | false =>
   refine .inr (.inr ⟨by rw [firstFr, hA]; rfl, by rw [firstH, hA]; rfl, fun h0 => absurd h0 c, fun _ ha i i1 i2 hi => ?_⟩)
   have : goesB n h q = true := by
    simp only [goesB, goesF, Bool.and_eq_true, decide_eq_true_eq]
    exact ⟨anyF_iff.2 ⟨i, i1, i2, by simp [isCs, hi]⟩, ha⟩
   rw [hA] at this; cases this
theorem relay_right {n : Int} {h : HB} {q : Ls} (hr : rightH n h = true) (hf : fitsR n q = true) : rightH n (relayH n h q) = true := by
 obtain ⟨h1, h2, h3, h4, h5, h6⟩ := right_all hr
 rcases relay_cases hr hf with ⟨_, _, _, _, e⟩ | ⟨_, _, p, p1, p2, _, _, _, _, e⟩ | ⟨_, e, _⟩
 ·rw [e]; exact right_mk h1 h2 h3 h4 (by omega) h6
 ·rw [e]
  refine right_mk h1 (fun j hj => ?_) ⟨p1, p2⟩ (by omega) h5 h6
  have := h2 j hj
  unfold mostA at *
  split <;> rename_i c
  ·omega
  ·simp only [c, if_false] at this; omega
 ·rw [e]; exact same_right hr
theorem mk_HB (x : HB) (hx : x.ages.length = 8) : HB.mk [x.a 0, x.a 1, x.a 2, x.a 3, x.a 4, x.a 5, x.a 6, x.a 7] x.port x.age x.hold x.pos = x := by
 obtain ⟨l, a, b, c, d⟩ := x
 match l, hx with
 | [_, _, _, _, _, _, _, _], _ => rfl
theorem len_note (n : Int) (h : HB) (q : Ls) : (noteH n h q).ages.length = 8 := by unfold noteH; split <;> rfl
theorem len_settle (n : Int) (h : HB) : (settleH n h).ages.length = 8 := by unfold settleH; split <;> (try split) <;> rfl
theorem len_relay (n : Int) (h : HB) (q : Ls) : (relayH n h q).ages.length = 8 := by
 unfold relayH ownerH firstH sameH
 repeat' split
 all_goals rfl
theorem len_tick (n : Int) (h : HB) : (tickH n h).ages.length = 8 := by unfold tickH; split <;> rfl
end Day
namespace Day
open Rx Go
def midH (n : Int) (h : HB) (q : Ls) : HB := settleH n (noteH n (tickH n h) q)
def hubH (n : Int) (h : HB) (q : Ls) : HB := if gateE n h q = 0 then relayH n (midH n h q) q else noHB
def hubF (n : Int) (h : HB) (q : Ls) : Fr := if gateE n h q = 0 then relayF n (midH n h q) q else noFr
structure Ts where
 x : A
 n : Int
end Day
namespace Day
open Rx Go
def leB (a b : Int) : Bool := decide (a ≤ b)
def ltB (a b : Int) : Bool := decide (a < b)
theorem leB_iff {a b : Int} : leB a b = true ↔ a ≤ b := by simp [leB]
theorem ltB_iff {a b : Int} : ltB a b = true ↔ a < b := by simp [ltB]
theorem hub_ok {n : Int} {h : HB} {q : Ls} (hr : rightH n h = true) (hf : fitsR n q = true) : gateE n h q = 0 ∧ hubH n h q = relayH n (midH n h q) q ∧ hubF n h q = relayF n (midH n h q) q := by
 have hg := gateE_fits.2 ⟨hr, hf⟩
 exact ⟨hg, by rw [hubH, if_pos hg], by rw [hubF, if_pos hg]⟩
theorem mid_right {n : Int} {h : HB} {q : Ls} (hr : rightH n h = true) (hf : fitsR n q = true) : rightH n (midH n h q) = true := settle_right (note_right (tick_right hr) hf)
theorem hub_right {n : Int} {h : HB} {q : Ls} (hr : rightH n h = true) (hf : fitsR n q = true) : rightH n (hubH n h q) = true := by
 rw [(hub_ok hr hf).2.1]
 exact relay_right (mid_right hr hf) hf
theorem len_hub (n : Int) (h : HB) (q : Ls) : (hubH n h q).ages.length = 8 := by
 unfold hubH
 split
 ·exact len_relay _ _ _
 ·rfl
theorem settle_age {n : Int} {h : HB} (hr : rightH n h = true) : (settleH n h).age = h.age ∧ (settleH n h).port = h.port ∧ (∀ p, p < 8 → (settleH n h).a p = h.a p) := by
 rw [settle_eq hr]
 split
 ·exact ⟨rfl, rfl, fun p hp => ages_get _ _ _ _ _ p hp⟩
 ·exact ⟨rfl, rfl, fun p hp => ages_get _ _ _ _ _ p hp⟩
theorem mid_age {n : Int} {h : HB} {q : Ls} (hr : rightH n h = true) (hf : fitsR n q = true) : (midH n h q).age = upR h.age (2 * n + 1) := by
 unfold midH
 rw [(settle_age (note_right (tick_right hr) hf)).1, note_eq (tick_right hr) hf, tick_eq hr]
theorem hub_apart {n : Int} {h : HB} {q : Ls} (hr : rightH n h = true) (hf : fitsR n q = true) :
  (hubF n h q ≠ noFr → (0 ≤ (hubF n h q).id ∧ (hubF n h q).id < n) ∧ q.k (hubF n h q).id = (hubF n h q).kind ∧ q.d (hubF n h q).id = (hubF n h q).id) ∧
  ((hubF n h q).kind = 1 → (∀ p, 0 ≤ p → p < (hubF n h q).id → q.k p ≠ 1) ∧ 2 * n < upR h.age (2 * n + 1) ∧ (hubH n h q).age = 0) ∧
  ((hubF n h q).kind ≠ 1 → (hubH n h q).age = upR h.age (2 * n + 1)) := by
 have hm := mid_right hr hf
 obtain ⟨h1, h2, h3, h4, h5, h6⟩ := right_all hm
 have ha := mid_age hr hf
 obtain ⟨_, e1, e2⟩ := hub_ok hr hf
 rw [e1, e2]
 rcases relay_cases hm hf with ⟨_, k1, k2, k3, k4⟩ | ⟨_, c2, p, p1, p2, k1, k2, k3, k4, k5⟩ | ⟨k1, k2, _⟩
 ·rw [k3, k4]
  exact ⟨fun _ => ⟨h6, k1, k2⟩, fun hk => by simp at hk, fun _ => ha⟩
 ·rw [k4, k5]
  rw [ha] at c2
  exact ⟨fun _ => ⟨⟨p1, p2⟩, k1, k2⟩, fun _ => ⟨k3, c2, rfl⟩, fun hk => absurd rfl hk⟩
 ·rw [k1, k2]
  exact ⟨fun hk => absurd rfl hk, fun hk => by simp [noFr] at hk, fun _ => ha⟩
def quietB (q : Ls) (p : Int) : Bool := q.k p == 0 && q.d p == 0
def quietR (n : Int) (q : Ls) : Bool := right n && (q.n == n && allF (quietB q) 0 n)
theorem quiet_fits {n : Int} {q : Ls} (h : quietR n q = true) : fitsR n q = true := by
 simp only [quietR, fitsR, Bool.and_eq_true, beq_iff_eq] at h ⊢
 obtain ⟨h1, h2, h3⟩ := h
 refine ⟨h1, h2, ?_⟩
 rw [allF_iff] at h3 ⊢
 intro p p1 p2
 have := h3 p p1 (by omega)
 simp only [quietB, Bool.and_eq_true, beq_iff_eq] at this
 simp [fitB, this.1, this.2]
end Day
namespace Day
open Rx Go
def lsOf (x : A) : Ls := ⟨x, ((x.els.length / 2 : Nat) : Int)⟩
def Ts.at (T : Ts) (i : Int) : Ls := lsOf (T.x.els.getD i.toNat (.i 0))
def Ts.ok (T : Ts) : Bool := decide (0 ≤ T.n) && decide (T.n ≤ 9223372036854775807)
def shortB (T : Ts) (m i : Int) : Bool := leB (T.at i).n m
def fewR (T : Ts) (most : Int) : Bool := leB T.n most && allF (shortB T 20) 0 T.n
end Day
namespace Day
open Rx Go
def eqB (a b : Int) : Bool := decide (a = b)
def lenIs (x : A) (n : Int) : Bool := decide ((x.els.length : Int) = 2 * n)
def zerosF (n : Int) : A := .l (List.replicate n.toNat [A.i 0, A.i 0]).flatten
theorem zeros_len (n : Int) : (zerosF n).els.length = 2 * n.toNat := by
 simp [zerosF, A.els]
 omega
end Day
namespace Day
open Rx Go
end Day
namespace Day
open Rx Go
theorem few_n {T : Ts} {m : Int} (h : fewR T m = true) : T.n ≤ m := by
 simp only [fewR, Bool.and_eq_true, leB_iff] at h
 exact h.1
theorem few_ok {T : Ts} {m i : Int} (h : fewR T m = true) (h0 : 0 ≤ i) (h1 : i < T.n) : (T.at i).ok = true := by
 simp only [fewR, Bool.and_eq_true, allF_iff, shortB, leB_iff] at h
 have := h.2 i h0 h1
 simp only [Ls.ok, Bool.and_eq_true, decide_eq_true_eq]
 refine ⟨?_, by omega⟩
 exact Int.natCast_nonneg _
end Day
namespace Day
open Rx Go
end Day
namespace Day
open Rx Go
theorem zeros_get (n : Int) (j : Nat) : (zerosF n).els.getD j (.i 0) = .i 0 := by
 rw [List.getD_eq_getElem?_getD]
 cases h : (zerosF n).els[j]? with
 | none => rfl
 | some a =>
  have := List.mem_of_getElem? h
  simp only [zerosF, A.els, List.mem_flatten, List.mem_replicate] at this
  obtain ⟨l, ⟨_, rfl⟩, ha⟩ := this
  simp at ha
  simp [ha]
theorem zeros_kd (n m i : Int) : (Ls.mk (zerosF n) m).k i = 0 ∧ (Ls.mk (zerosF n) m).d i = 0 := by
 unfold Ls.k Ls.d
 rw [zeros_get, zeros_get]
 exact ⟨rfl, rfl⟩
theorem zeros_quiet {n : Int} (hR : right n = true) : quietR n ⟨zerosF n, n⟩ = true := by
 simp only [quietR, hR, Bool.and_eq_true, allF_iff, quietB, beq_iff_eq, true_and]
 exact fun p _ _ => zeros_kd n n p
def put2 (x : A) (p : Int) (a b : A) : A := .l ((x.els.set (2 * p.toNat) a).set (1 + 2 * p.toNat) b)
end Day
namespace Day
open Rx Go
end Day
namespace Day
open Rx Go
end Day
namespace Day
open Rx Go
def Ls.fok (q : Ls) : Bool := q.ok && lenIs q.x q.n
def bothX (a : Ls) (p : Int) (x : A) : A := .l ((List.range x.els.length).map fun (j : Nat) => if 2 * p ≤ (j : Int) ∧ (j : Int) < 2 * a.n ∧ quietB a ((j / 2 : Nat) : Int) = false then a.x.els.getD j (.i 0) else x.els.getD j (.i 0))
def bothL (a b : Ls) : A × Int := if a.n = b.n then (bothX a 0 b.x, a.n) else (.l [], 0)
def bothE (a b : Ls) : Int := if a.n = b.n then 0 else 2
def sideQ (d : Bool) (a b own : Ls) : A × Int := if d then bothL a b else (own.x, own.n)
def sideL (d : Bool) (a b own : Ls) : Ls := ⟨(sideQ d a b own).1, (sideQ d a b own).2⟩
def pickH (d : Bool) (a b : HB) : HB := if d then a else b
def linkE (n : Int) (h0 h1 : HB) (q0 q1 : Ls) : Int := if rightH n h0 && rightH n h1 then (if fitsR n q0 && fitsR n q1 then 0 else 2) else 1
def linkH0 (n : Int) (h0 h1 : HB) (q0 q1 : Ls) (d0 d1 : Bool) : HB := if linkE n h0 h1 q0 q1 = 0 then hubH n h0 (sideL d1 q0 q1 q0) else noHB
def linkH1 (n : Int) (h0 h1 : HB) (q0 q1 : Ls) (d0 d1 : Bool) : HB := if linkE n h0 h1 q0 q1 = 0 then hubH n (pickH d0 h0 h1) (sideL d0 q0 q1 q1) else noHB
def linkF0 (n : Int) (h0 h1 : HB) (q0 q1 : Ls) (d0 d1 : Bool) : Fr := if linkE n h0 h1 q0 q1 = 0 then hubF n h0 (sideL d1 q0 q1 q0) else noFr
def linkF1 (n : Int) (h0 h1 : HB) (q0 q1 : Ls) (d0 d1 : Bool) : Fr := if linkE n h0 h1 q0 q1 = 0 then hubF n (pickH d0 h0 h1) (sideL d0 q0 q1 q1) else noFr
theorem put2_len' (x : A) (p : Int) (a b : A) : (put2 x p a b).els.length = x.els.length := by simp [put2]
theorem put2_get' {x : A} {p : Int} {a b : A} {j : Nat} : (put2 x p a b).els[j]? = if j < x.els.length then (if j = 2 * p.toNat then some a else if j = 1 + 2 * p.toNat then some b else x.els[j]?) else none := by
 rw [show (put2 x p a b).els = (x.els.set (2 * p.toNat) a).set (1 + 2 * p.toNat) b from rfl]
 generalize x.els = l
 rw [List.getElem?_set, List.getElem?_set, List.length_set]
 by_cases h1 : 1 + 2 * p.toNat = j
 ·subst h1
  by_cases h3 : 1 + 2 * p.toNat < l.length
  ·rw [if_pos rfl, if_pos h3, if_pos h3, if_neg (by omega), if_pos rfl]
  ·rw [if_pos rfl, if_neg h3, if_neg h3]
 ·rw [if_neg h1]
  by_cases h2 : 2 * p.toNat = j
  ·subst h2
   by_cases h3 : 2 * p.toNat < l.length
   ·rw [if_pos rfl, if_pos h3, if_pos h3, if_pos rfl]
   ·rw [if_pos rfl, if_neg h3, if_neg h3]
  ·rw [if_neg h2]
   by_cases h3 : j < l.length
   ·rw [if_pos h3, if_neg (by omega), if_neg (by omega)]
   ·rw [if_neg h3, List.getElem?_eq_none (by omega)]
theorem range_get {f : Nat → A} {n j : Nat} : ((List.range n).map f)[j]? = if j < n then some (f j) else none := by
 rw [List.getElem?_map]
 by_cases h : j < n
 ·simp [h]
 ·simp [h]
theorem lenIs_iff {x : A} {n : Int} : lenIs x n = true ↔ (x.els.length : Int) = 2 * n := by simp [lenIs]
theorem Ls.fok_iff {q : Ls} : q.fok = true ↔ (0 ≤ q.n ∧ q.n ≤ 9223372036854775807) ∧ (q.x.els.length : Int) = 2 * q.n := by
 simp [Ls.fok, Ls.ok, lenIs_iff]
theorem bothX_get (a : Ls) (p : Int) (x : A) (j : Nat) : (bothX a p x).els[j]? = if j < x.els.length then some (if 2 * p ≤ (j : Int) ∧ (j : Int) < 2 * a.n ∧ quietB a ((j / 2 : Nat) : Int) = false then a.x.els.getD j (.i 0) else x.els.getD j (.i 0)) else none := by
 exact range_get
theorem els_ext {x y : List A} (h : ∀ j : Nat, x[j]? = y[j]?) : A.l x = A.l y := by rw [List.ext_getElem? h]
theorem bothX_step {a : Ls} {p : Int} {x : A} (hp : 0 ≤ p) (hlt : p < a.n) (hl : (x.els.length : Int) = 2 * a.n) :
  bothX a (p + 1) (if quietB a p = true then x else put2 x p (a.x.els.getD (2 * p.toNat) (.i 0)) (a.x.els.getD (1 + 2 * p.toNat) (.i 0))) = bothX a p x := by
 have e : ∀ y z : A, y.els.length = z.els.length → (∀ j : Nat, (bothX a (p + 1) y).els[j]? = (bothX a p z).els[j]?) → bothX a (p + 1) y = bothX a p z := fun y z _ h => els_ext h
 cases hq : quietB a p with
 | true =>
  simp only [if_true]
  refine e _ _ rfl fun j => ?_
  rw [bothX_get, bothX_get]
  by_cases hj : j < x.els.length
  ·simp only [hj, if_true, Option.some.injEq]
   by_cases c : 2 * (p + 1) ≤ (j : Int)
   ·simp only [c, true_and, show 2 * p ≤ (j : Int) by omega]
   ·by_cases c2 : 2 * p ≤ (j : Int)
    ·have : ((j / 2 : Nat) : Int) = p := by omega
     simp only [c, false_and, if_false, c2, this, hq]
     simp
    ·simp only [c, c2, false_and, if_false]
  ·simp only [hj, if_false]
 | false =>
  simp only [Bool.false_eq_true, if_false]
  refine e _ _ (put2_len' _ _ _ _) fun j => ?_
  rw [bothX_get, bothX_get, put2_len']
  by_cases hj : j < x.els.length
  ·simp only [hj, if_true, Option.some.injEq]
   have hg : ∀ d, (put2 x p (a.x.els.getD (2 * p.toNat) (.i 0)) (a.x.els.getD (1 + 2 * p.toNat) (.i 0))).els.getD j d = if j = 2 * p.toNat then a.x.els.getD (2 * p.toNat) (.i 0) else if j = 1 + 2 * p.toNat then a.x.els.getD (1 + 2 * p.toNat) (.i 0) else x.els.getD j d := fun d => by
    rw [List.getD_eq_getElem?_getD, put2_get', if_pos hj]
    split
    ·rfl
    ·split
     ·rfl
     ·rw [List.getD_eq_getElem?_getD]
   rw [hg]
   by_cases c : 2 * (p + 1) ≤ (j : Int)
   ·simp only [c, true_and, show 2 * p ≤ (j : Int) by omega, show ¬ j = 2 * p.toNat by omega, show ¬ j = 1 + 2 * p.toNat by omega, if_false]
   ·by_cases c2 : 2 * p ≤ (j : Int)
    ·have : ((j / 2 : Nat) : Int) = p := by omega
     simp only [c, false_and, if_false, c2, this, hq, show (j : Int) < 2 * a.n by omega, true_and, if_true]
     by_cases c3 : j = 2 * p.toNat
     ·simp only [c3, if_true]
     ·have c4 : j = 1 + 2 * p.toNat := by omega
      simp only [c3, c4, if_true, if_false, show ¬ (1 + 2 * p.toNat = 2 * p.toNat) by omega]
    ·simp only [c, c2, false_and, if_false, show ¬ j = 2 * p.toNat by omega, show ¬ j = 1 + 2 * p.toNat by omega]
  ·simp only [hj, if_false]
def isL (x : A) : Bool := match x with | .l _ => true | _ => false
theorem l_els {x : A} (h : isL x = true) : A.l x.els = x := by cases x <;> simp [isL] at h; rfl
theorem bothX_end {a : Ls} {p : Int} {x : A} (hx : isL x = true) (hlt : ¬ p < a.n) : bothX a p x = x := by
 conv => rhs; rw [← l_els hx]
 show A.l (bothX a p x).els = _
 refine els_ext fun j => ?_
 rw [bothX_get]
 by_cases hj : j < x.els.length
 ·simp only [hj, if_true]
  rw [if_neg (by omega), List.getD_eq_getElem?_getD, List.getElem?_eq_getElem hj]
  rfl
 ·simp only [hj, if_false]
  rw [List.getElem?_eq_none (by omega)]
theorem side_n {n : Int} {d : Bool} {a b own : Ls} (ha : a.n = n) (hb : b.n = n) (ho : own.n = n) : (sideQ d a b own).2 = n := by
 unfold sideQ bothL
 cases d <;> simp [ha, hb, ho]
theorem len_pick {d : Bool} {a b : HB} (ha : a.ages.length = 8) (hb : b.ages.length = 8) : (pickH d a b).ages.length = 8 := by cases d <;> assumption
theorem pick_right {n : Int} {d : Bool} {a b : HB} (ha : rightH n a = true) (hb : rightH n b = true) : rightH n (pickH d a b) = true := by cases d <;> assumption
theorem side_self {d : Bool} {q : Ls} (hf : q.fok = true) (hn : 0 < q.n) : sideL d q q q = q := by
 obtain ⟨f1, f2⟩ := Ls.fok_iff.1 hf
 cases d with
 | false => rfl
 | true =>
  obtain ⟨x, n⟩ := q
  simp only at f1 f2 hn
  have hL : isL x = true := by
   cases x <;> first | rfl | (simp [A.els] at f2; omega)
  have hs : sideL true ⟨x, n⟩ ⟨x, n⟩ ⟨x, n⟩ = ⟨bothX ⟨x, n⟩ 0 x, n⟩ := by simp [sideL, sideQ, bothL]
  rw [hs]
  have : bothX ⟨x, n⟩ 0 x = x := by
   conv => rhs; rw [← l_els hL]
   show A.l (bothX ⟨x, n⟩ 0 x).els = _
   refine els_ext fun j => ?_
   rw [bothX_get]
   by_cases hj : j < x.els.length
   ·simp only [hj, if_true]
    have e : x.els[j]? = some (x.els.getD j (.i 0)) := by rw [List.getD_eq_getElem?_getD, List.getElem?_eq_getElem hj]; rfl
    rw [e]
    congr 1
    split <;> rfl
   ·simp only [hj, if_false]
    rw [List.getElem?_eq_none (by omega)]
  rw [this]
theorem linkE_ok {n : Int} {h0 h1 : HB} {q0 q1 : Ls} (r0 : rightH n h0 = true) (r1 : rightH n h1 = true) (f0 : fitsR n q0 = true) (f1 : fitsR n q1 = true) : linkE n h0 h1 q0 q1 = 0 := by simp [linkE, r0, r1, f0, f1]
theorem fresh_right {n : Int} (hR : right n = true) : rightH n (freshH n) = true := by
 have hn : 3 ≤ n ∧ n ≤ 8 := by simpa [right] using hR
 rw [freshH, if_pos hR]
 exact right_mk hn (fun p hp => by have := mostA_le n (by omega) p; omega) (by omega) (by omega) (by omega) (by omega)
theorem zeros_fok {n : Int} (hR : right n = true) : Ls.fok ⟨zerosF n, n⟩ = true := by
 have hn : 3 ≤ n ∧ n ≤ 8 := by simpa [right] using hR
 rw [Ls.fok_iff]
 have := zeros_len n
 simp only
 omega
theorem side_ok {n : Int} {d : Bool} {a b own : Ls} (hR : right n = true) (ha : a.n = n) (hb : b.n = n) (ho : own.n = n) : Ls.ok (sideL d a b own) = true := by
 have hn : 3 ≤ n ∧ n ≤ 8 := by simpa [right] using hR
 have := side_n (d := d) ha hb ho
 simp only [Ls.ok, sideL, this, Bool.and_eq_true, decide_eq_true_eq]
 omega
end Day
namespace Day
open Rx Go
def notCs (q : Ls) (p : Int) : Bool := !isCs q p
def apartN (m : Int) (T : Ts) : Nat → Int → HB → HB × Bool
 | 0, _, h => (h, false)
 | k + 1, i, h => if fitsR m (T.at i) then apartN m T k (i + 1) (hubH m h (T.at i)) else (h, true)
def apartGo (m : Int) (T : Ts) (i : Int) (h : HB) : HB × Bool := apartN m T (T.n - i).toNat i h
def gapB (last i : Int) (h : HB) : Bool := ltB last 0 || leB h.age (i - 1 - last)
def apartI (m last : Int) (T : Ts) (i : Int) (h : HB) : Bool := rightH m h && (fewR T 100 && (inR i T.n && (leB (-1) last && (leB (last + 1) i && gapB last i h))))
theorem apartGo_step {m i : Int} {T : Ts} {h : HB} (hi : i < T.n) (hf : fitsR m (T.at i) = true) : apartGo m T i h = apartGo m T (i + 1) (hubH m h (T.at i)) := by
 unfold apartGo
 rw [show (T.n - i).toNat = (T.n - (i + 1)).toNat + 1 by omega]
 simp [apartN, hf]
theorem apartGo_bad {m i : Int} {T : Ts} {h : HB} (hi : i < T.n) (hf : fitsR m (T.at i) = false) : apartGo m T i h = (h, true) := by
 unfold apartGo
 rw [show (T.n - i).toNat = (T.n - (i + 1)).toNat + 1 by omega]
 simp [apartN, hf]
theorem apartGo_end {m i : Int} {T : Ts} {h : HB} (hi : ¬ i < T.n) : apartGo m T i h = (h, false) := by
 unfold apartGo
 rw [show (T.n - i).toNat = 0 by omega]
 rfl
theorem apartI_iff {m last i : Int} {T : Ts} {h : HB} : apartI m last T i h = true ↔ rightH m h = true ∧ fewR T 100 = true ∧ (0 ≤ i ∧ i ≤ T.n) ∧ -1 ≤ last ∧ last + 1 ≤ i ∧ (last < 0 ∨ h.age ≤ i - 1 - last) := by
 simp only [apartI, gapB, Bool.and_eq_true, Bool.or_eq_true, inR_iff, leB_iff, ltB_iff]
theorem apart_all {m last i : Int} {T : Ts} {h : HB} (hp : apartI m last T i h = true) (hi : i < T.n) : (T.at i).ok = true ∧ T.n ≤ 100 ∧ (3 ≤ m ∧ m ≤ 8) ∧ h.i64 = true := by
 obtain ⟨h1, h2, h3, h4, h5, h6⟩ := apartI_iff.1 hp
 exact ⟨few_ok h2 h3.1 hi, few_n h2, right_le h1, right_i64 h1⟩
theorem apart_next {m last i : Int} {T : Ts} {h : HB} (hp : apartI m last T i h = true) (hi : i < T.n) (hf : fitsR m (T.at i) = true) :
  rightH m (hubH m h (T.at i)) = true ∧ gateE m h (T.at i) = 0 ∧ (T.at i).n = m ∧
  (hubF m h (T.at i) ≠ noFr → (0 ≤ (hubF m h (T.at i)).id ∧ (hubF m h (T.at i)).id < m) ∧ (T.at i).k (hubF m h (T.at i)).id = (hubF m h (T.at i)).kind ∧ (T.at i).d (hubF m h (T.at i)).id = (hubF m h (T.at i)).id) ∧
  ((hubF m h (T.at i)).kind = 1 → allF (notCs (T.at i)) 0 (hubF m h (T.at i)).id = true ∧ (0 ≤ last → 2 * m < i - last)) ∧
  apartI m (if (hubF m h (T.at i)).kind = 1 then i else last) T (i + 1) (hubH m h (T.at i)) = true := by
 obtain ⟨h1, h2, h3, h4, h5, h6⟩ := apartI_iff.1 hp
 obtain ⟨a1, a2, a3⟩ := hub_apart h1 hf
 obtain ⟨f1, f2, f3⟩ := fits_n hf
 obtain ⟨b1, b2, b3, b4, b5, b6⟩ := right_all h1
 have hr := hub_right h1 hf
 have hu : upR h.age (2 * m + 1) ≤ h.age + 1 := by unfold upR; split <;> omega
 refine ⟨hr, gateE_fits.2 ⟨h1, hf⟩, f1, a1, fun hk => ⟨?_, fun hl => ?_⟩, ?_⟩
 ·rw [allF_iff]
  intro p p0 p1
  have := (a2 hk).1 p p0 p1
  simp [notCs, isCs, this]
 ·have := (a2 hk).2.1
  omega
 ·rw [apartI_iff]
  refine ⟨hr, h2, by omega, ?_, ?_, ?_⟩
  ·split <;> omega
  ·split <;> omega
  ·by_cases hk : (hubF m h (T.at i)).kind = 1
   ·have := (a2 hk).2.2
    simp only [hk, if_true]
    omega
   ·have := a3 hk
    simp only [hk, if_false]
    omega
end Day

