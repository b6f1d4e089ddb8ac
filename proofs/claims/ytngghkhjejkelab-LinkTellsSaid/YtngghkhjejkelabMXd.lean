import Derived.Test.YtngghkhjejkelabMXc
set_option linter.unusedVariables false
set_option linter.unusedSimpArgs false
namespace Day
structure Fr where
 kind : Int
 id : Int
 deriving DecidableEq
structure ND where
 id : Int
 mode : Int
 count : Int
 pos : Int
 deriving DecidableEq
structure HB where
 ages : List Int
 port : Int
 age : Int
 hold : Int
 pos : Int
 deriving DecidableEq
def HB.a (h : HB) (p : Nat) : Int := h.ages.getD p 0
def right (n : Int) : Bool := decide (3 ≤ n) && decide (n ≤ 8)
def times (k n : Int) : Int := if right n then k * n else 0
def Fa (n i : Int) : Int := if right n then (if i < 0 ∨ n ≤ i then 2 else 0) else 1
def EH (k n i : Int) : Int := if Fa n i = 0 then k * n + i + 1 else 0
def A7 (c least most : Int) : Int := if c < least then least else if most < c then most else c
def HH (c most : Int) : Int := if most ≤ max c 0 then most else max c 0 + 1
def B5 (c : Int) : Int := if c ≤ 0 then 0 else c - 1
def BF (n : Int) : Bool := decide (1 ≤ n) && decide (n ≤ 8)
def BO (n x : Int) : Int := x % n
def AX (n p : Int) : Bool := BF n && decide (0 ≤ p) && decide (p < n)
def AZ (n p : Int) : Int := (p + 1) % n
def Kn (n p age : Int) : Bool := BF n && decide (0 ≤ p) && decide (p ≤ 8) && decide (0 ≤ age) && decide (age ≤ 1099511627776)
def atR (n p age : Int) : Int := (p + age) % n
def B9 (n a b : Int) : Bool := AX n a && AX n b
def Ca (n a b : Int) : Int := (b - a) % n
def BP (n : Int) (x : ND) : Bool :=
 right n && decide (0 ≤ x.id) && decide (x.id < n) && decide (0 ≤ x.mode) && decide (x.mode ≤ 3) && decide (0 ≤ x.count) && decide (x.count ≤ 1073741824) &&
 (decide (x.mode ≠ 0) || decide (x.count = 0)) && (decide (x.mode = 3) || decide (x.pos = 0)) && decide (0 ≤ x.pos) && decide (x.pos < n)
def OV (n i : Int) : Int := if right n then (if i < 0 ∨ n ≤ i then 2 else 0) else 1
def EI : ND := ⟨0, 0, 0, 0⟩
def Cb (n i : Int) : ND := if OV n i = 0 then ⟨i, 0, 0, 0⟩ else EI
def Cc (n i : Int) (x : ND) : ND :=
 if OV n i = 0 then
  ⟨i, if 1 ≤ x.mode ∧ x.mode ≤ 3 then x.mode else 1, A7 x.count 0 1073741824, if x.mode = 3 then x.pos % n else 0⟩
 else EI
def C3 (x : ND) : ND := ⟨x.id, 1, 0, 0⟩
def CP (n : Int) (x : ND) : Int := if x.mode = 1 then EH 4 n x.id else EH 2 n x.id
def Fb (n : Int) (x : ND) : Int :=
 if BP n x then
  if x.mode = 3 then (x.id - x.pos) % n
  else if x.mode = 1 ∨ x.mode = 2 then max 0 (CP n x - x.count)
  else -1
 else -1
def B3 : Fr := ⟨0, 0⟩
def Qe (n : Int) (x : ND) : Int := if BP n x then 0 else 1
def Qf (n : Int) (x : ND) : Fr :=
 if BP n x && decide (Fb n x = 0) then (if x.mode = 3 then ⟨2, x.id⟩ else ⟨1, x.id⟩) else B3
end Day
namespace Day
def i64 (x : Int) : Bool := decide (-9223372036854775808 ≤ x) && decide (x ≤ 9223372036854775807)
def u8 (x : Int) : Bool := decide (0 ≤ x) && decide (x ≤ 255)
def u16 (x : Int) : Bool := decide (0 ≤ x) && decide (x ≤ 65535)
def u32 (x : Int) : Bool := decide (0 ≤ x) && decide (x ≤ 4294967295)
def sm (x : Int) : Bool := decide (-4611686018427387904 ≤ x) && decide (x ≤ 4611686018427387904)
def Ug (s : ByteArray) : Int :=
 let l := s.data.toList
 if l = [98, 108, 111, 99, 107] then 2 else if l = [119, 97, 116, 99, 104] then 8 else if l = [108, 97, 116, 101, 114] then 3 else if l = [115, 116, 97, 114, 116] then 40
 else if l = [115, 116, 97, 98, 108, 101] then 96 else if l = [108, 105, 115, 116, 101, 110] then 4 else if l = [99, 111, 108, 100] then 2 else 0
def Abb (s : ByteArray) : Bool := decide (Ug s ≠ 0)
def ND.i64 (x : ND) : Bool := Day.i64 x.id && Day.i64 x.mode && Day.i64 x.count && Day.i64 x.pos
end Day
namespace Day
theorem AbK : Ug ⟨([98, 108, 111, 99, 107] : List UInt8).toArray⟩ = 2 := by decide
theorem AbL : Ug ⟨([119, 97, 116, 99, 104] : List UInt8).toArray⟩ = 8 := by decide
theorem AbM : Ug ⟨([108, 97, 116, 101, 114] : List UInt8).toArray⟩ = 3 := by decide
theorem AbN : Ug ⟨([115, 116, 97, 114, 116] : List UInt8).toArray⟩ = 40 := by decide
theorem ZO : Ug ⟨([115, 116, 97, 98, 108, 101] : List UInt8).toArray⟩ = 96 := by decide
theorem ZP : Ug ⟨([108, 105, 115, 116, 101, 110] : List UInt8).toArray⟩ = 4 := by decide
theorem Ady : Ug ⟨([99, 111, 108, 100] : List UInt8).toArray⟩ = 2 := by decide
theorem AbO (s : ByteArray) : 0 ≤ Ug s ∧ Ug s ≤ 96 := by
 unfold Ug
 simp only
 split <;> (try split) <;> (try split) <;> (try split) <;> (try split) <;> (try split) <;> (try split) <;> omega
end Day
namespace Day
theorem VZ {n x : Int} (hn : 3 ≤ n ∧ n ≤ 8) : 0 ≤ x % n ∧ x % n < n ∧ (x % n) % n = x % n ∧ (0 ≤ x → x < n → x % n = x) :=
 ⟨Int.emod_nonneg _ (by omega), Int.emod_lt_of_pos _ (by omega), Int.emod_emod_of_dvd _ (Int.dvd_refl _), fun h1 h2 => Int.emod_eq_of_lt h1 h2⟩
end Day
namespace Day
def AS (f : Nat → Int) : List Int := [f 0, f 1, f 2, f 3, f 4, f 5, f 6, f 7]
def CM (q : Nat → Bool) : Bool := q 0 && q 1 && q 2 && q 3 && q 4 && q 5 && q 6 && q 7
def AbP (f : Nat → Int) : Int := f 0 + f 1 + f 2 + f 3 + f 4 + f 5 + f 6 + f 7
def AY (n : Int) (p : Nat) : Int := if (p : Int) < n then n else 0
def Bp : HB := ⟨[0, 0, 0, 0, 0, 0, 0, 0], 0, 0, 0, 0⟩
def Be (c most : Int) : Bool := decide (0 ≤ c) && decide (c ≤ most)
def HB.i64 (h : HB) : Bool := CM (fun p => Day.i64 (h.a p)) && Day.i64 h.port && Day.i64 h.age && Day.i64 h.hold && Day.i64 h.pos
def Ak (n : Int) (h : HB) : Bool :=
 right n && CM (fun p => Be (h.a p) (AY n p)) && Be h.port (n - 1) && Be h.age (2 * n + 1) && Be h.hold (2 * n) && Be h.pos (n - 1)
def Al (n : Int) : HB := if right n then ⟨AS (AY n), 0, 2 * n + 1, 0, 0⟩ else Bp
def AB (n : Int) (h : HB) : HB :=
 if right n then ⟨AS fun p => A7 (h.a p) 0 (AY n p), h.port % n, A7 h.age 0 (2 * n + 1), A7 h.hold 0 (2 * n), h.pos % n⟩ else Bp
def BV (n : Int) : Int := if right n then 0 else 1
def Bq (n : Int) (h : HB) : HB :=
 if Ak n h then ⟨AS fun p => HH (h.a p) (AY n p), h.port, HH h.age (2 * n + 1), B5 h.hold, (h.pos + 1) % n⟩ else Bp
def BZ (n : Int) (h : HB) : Int := if Ak n h then 0 else 1
def Gp (n : Int) (h : HB) (p : Nat) (v : Int) : Bool :=
 decide ((p : Int) < n) && ((decide (h.a p < n) && decide ((p + h.a p) % n = v)) || (decide ((p : Int) = h.port) && decide (h.age < 2 * n) && decide ((p + h.age) % n = v)))
def BG (n : Int) (h : HB) (v : Int) : Int := AbP fun p => if Gp n h p v then 1 else 0
def Cu (n : Int) (h : HB) (v : Int) : Int := if Ak n h then BG n h v else 0
def Bu (n : Int) (h : HB) (b v : Int) : Int := if v < n ∧ BG n h b < BG n h v then v else b
def C4 (n : Int) (h : HB) : Int := Bu n h (Bu n h (Bu n h (Bu n h (Bu n h (Bu n h (Bu n h (Bu n h 0 0) 1) 2) 3) 4) 5) 6) 7
def Eb (n : Int) (h : HB) : Int := if Ak n h then C4 n h else 0
def Ec (n : Int) (h : HB) : Int := if Ak n h then BG n h (C4 n h) else 0
end Day
namespace Day
theorem Ko (n : Int) : n = 3 ∨ n = 4 ∨ n = 5 ∨ n = 6 ∨ n = 7 ∨ n = 8 ∨ right n = false := by
 by_cases h : 3 ≤ n ∧ n ≤ 8
 ·omega
 ·have : right n = false := by simp [right]; omega
  simp [this]
end Day
namespace Day
theorem V0 (n : Int) (h : HB) : (n = 3 ∧ Ak 3 h = true) ∨ (n = 4 ∧ Ak 4 h = true) ∨ (n = 5 ∧ Ak 5 h = true) ∨ (n = 6 ∧ Ak 6 h = true) ∨ (n = 7 ∧ Ak 7 h = true) ∨ (n = 8 ∧ Ak 8 h = true) ∨ Ak n h = false := by
 cases hr : Ak n h with
 | false => simp
 | true =>
  have : right n = true := by simp only [Ak, Bool.and_eq_true] at hr; exact hr.1.1.1.1.1
  rcases Ko n with rfl | rfl | rfl | rfl | rfl | rfl | h1
  ·simp [hr]
  ·simp [hr]
  ·simp [hr]
  ·simp [hr]
  ·simp [hr]
  ·simp [hr]
  ·rw [this] at h1; cases h1
end Day
namespace Day
theorem Sw {c m : Int} (hm : 0 ≤ m) : A7 c 0 m = c ↔ 0 ≤ c ∧ c ≤ m := by
 unfold A7
 split
 ·omega
 ·split <;> omega
theorem Agu {n x : Int} (hn : 3 ≤ n ∧ n ≤ 8) : x % n = x ↔ 0 ≤ x ∧ x ≤ n - 1 := by
 have h := VZ (x := x) hn
 constructor
 ·intro e; omega
 ·intro e; exact h.2.2.2 e.1 (by omega)
theorem IK {n : Int} (hn : 3 ≤ n ∧ n ≤ 8) (p : Nat) : 0 ≤ AY n p := by
 unfold AY; split <;> omega
theorem Au {c m : Int} : Be c m = true ↔ 0 ≤ c ∧ c ≤ m := by simp [Be]
theorem Yq (n : Int) (h : HB) (hr : right n = true) : Ak n h = true ↔
  (((AB n h).a 0 = h.a 0 ∧ (AB n h).a 1 = h.a 1 ∧ (AB n h).a 2 = h.a 2 ∧ (AB n h).a 3 = h.a 3 ∧ (AB n h).a 4 = h.a 4 ∧ (AB n h).a 5 = h.a 5 ∧ (AB n h).a 6 = h.a 6 ∧ (AB n h).a 7 = h.a 7) ∧
   (AB n h).port = h.port ∧ (AB n h).age = h.age ∧ (AB n h).hold = h.hold ∧ (AB n h).pos = h.pos) := by
 have hn : 3 ≤ n ∧ n ≤ 8 := by simpa [right] using hr
 have e (p : Nat) (x : Int) : Be x (AY n p) = true ↔ A7 x 0 (AY n p) = x := by rw [Au, Sw (IK hn p)]
 have e2 (x : Int) : Be x (n - 1) = true ↔ x % n = x := by rw [Au, Agu hn]
 have e3 : Be h.age (2 * n + 1) = true ↔ A7 h.age 0 (2 * n + 1) = h.age := by rw [Au, Sw (by omega)]
 have e4 : Be h.hold (2 * n) = true ↔ A7 h.hold 0 (2 * n) = h.hold := by rw [Au, Sw (by omega)]
 simp only [Ak, CM, Bool.and_eq_true, hr, true_and, e, e2, e3, e4, AB, if_true]
 simp [HB.a, AS, and_assoc]
end Day
namespace Day
theorem Ahw (x : Int) : Be x 0 = decide (x = 0) := by
 rw [Bool.eq_iff_iff, Au, decide_eq_true_eq]
 omega
end Day
namespace Day
def bv (b : Bool) : Int := if b then 1 else 0
theorem Cd {n : Int} {h : HB} (hr : Ak n h = true) : (3 ≤ n ∧ n ≤ 8) ∧ ((0 ≤ h.a 0 ∧ h.a 0 ≤ n) ∧ (0 ≤ h.a 1 ∧ h.a 1 ≤ n) ∧ (0 ≤ h.a 2 ∧ h.a 2 ≤ n) ∧ (0 ≤ h.a 3 ∧ h.a 3 ≤ n) ∧ (0 ≤ h.a 4 ∧ h.a 4 ≤ n) ∧ (0 ≤ h.a 5 ∧ h.a 5 ≤ n) ∧ (0 ≤ h.a 6 ∧ h.a 6 ≤ n) ∧ (0 ≤ h.a 7 ∧ h.a 7 ≤ n)) ∧
  (0 ≤ h.port ∧ h.port < n) ∧ (0 ≤ h.age ∧ h.age ≤ 2 * n + 1) ∧ (0 ≤ h.hold ∧ h.hold ≤ 2 * n) ∧ (0 ≤ h.pos ∧ h.pos < n) := by
 simp only [Ak, CM, Bool.and_eq_true, right, decide_eq_true_eq, Au] at hr
 obtain ⟨⟨⟨⟨⟨hn, ha⟩, h1⟩, h2⟩, h3⟩, h4⟩ := hr
 have hm (p : Nat) : AY n p ≤ n := by unfold AY; split <;> omega
 have := hm 0; have := hm 1; have := hm 2; have := hm 3; have := hm 4; have := hm 5; have := hm 6; have := hm 7
 obtain ⟨⟨⟨⟨⟨⟨⟨a0, a1⟩, a2⟩, a3⟩, a4⟩, a5⟩, a6⟩, a7⟩ := ha
 refine ⟨hn, ⟨⟨?_, ?_⟩, ⟨?_, ?_⟩, ⟨?_, ?_⟩, ⟨?_, ?_⟩, ⟨?_, ?_⟩, ⟨?_, ?_⟩, ⟨?_, ?_⟩, ?_, ?_⟩, ⟨?_, ?_⟩, ⟨?_, ?_⟩, ⟨?_, ?_⟩, ?_, ?_⟩ <;> omega
end Day
namespace Day
theorem Adz (b : Bool) : 0 ≤ bv b ∧ bv b ≤ 1 := by cases b <;> simp [bv]
end Day
namespace Day
end Day
namespace Day
def GD (k : Int) : List Int → Int
 | [] => k
 | l :: ls => GD (if k < l then l else k) ls
def ZQ : List Int → Int → Int → Int
 | [], _, _ => -1
 | l :: ls, i, m => if m = l then i else ZQ ls (i + 1) m
def Fv : List Int → Int → Int → Int → Int × Int
 | [], _, b, k => (b, k)
 | l :: ls, i, b, k => if k < l then Fv ls (i + 1) i l else Fv ls (i + 1) b k
theorem W1 : ∀ (ls : List Int) (k : Int), k ≤ GD k ls
 | [], k => Int.le_refl k
 | l :: ls, k => by
  have := W1 ls (if k < l then l else k)
  show k ≤ GD (if k < l then l else k) ls
  by_cases h : k < l
  ·rw [if_pos h] at this ⊢; omega
  ·rw [if_neg h] at this ⊢; exact this
theorem MR : ∀ (ls : List Int) (i b k : Int), Fv ls i b k = (if GD k ls = k then b else ZQ ls i (GD k ls), GD k ls)
 | [], i, b, k => by simp [Fv, GD]
 | l :: ls, i, b, k => by
  unfold Fv GD ZQ
  split
  ·rename_i h
   rw [MR ls (i + 1) i l]
   have := W1 ls l
   have hk : GD l ls ≠ k := by omega
   simp [hk]
  ·rename_i h
   rw [MR ls (i + 1) b k]
   have := W1 ls k
   by_cases hk : GD k ls = k
   ·simp [hk]
   ·have hl : GD k ls ≠ l := by omega
    simp [hk, hl]
theorem Bo (n : Int) (h : HB) (v v' b : Int) (ls : List Int) (hv : v < n) (hv' : v' = v + 1) : Fv (BG n h v :: ls) v b (BG n h b) = Fv ls v' (Bu n h b v) (BG n h (Bu n h b v)) := by
 subst hv'
 show (if BG n h b < BG n h v then Fv ls (v + 1) v (BG n h v) else Fv ls (v + 1) b (BG n h b)) = _
 unfold Bu
 by_cases hc : BG n h b < BG n h v
 ·rw [if_pos hc, if_pos ⟨hv, hc⟩]
 ·rw [if_neg hc, if_neg (by simp [hc])]
theorem Cf (n : Int) (h : HB) (v b : Int) (hv : n ≤ v) : Bu n h b v = b := by
 unfold Bu
 rw [if_neg (by omega)]
theorem F1 (n : Int) (h : HB) : Bu n h 0 0 = 0 := by simp [Bu]
theorem Ahx (h : HB) : (C4 3 h, BG 3 h (C4 3 h)) = Fv [BG 3 h 1, BG 3 h 2] 1 0 (BG 3 h 0) := by
 unfold C4
 rw [F1, Cf 3 h 7 _ (by omega), Cf 3 h 6 _ (by omega), Cf 3 h 5 _ (by omega), Cf 3 h 4 _ (by omega), Cf 3 h 3 _ (by omega)]
 rw [Bo 3 h 1 2 _ _ (by omega) (by omega), Bo 3 h 2 3 _ _ (by omega) (by omega)]
 rfl
theorem Ahy (h : HB) : (C4 4 h, BG 4 h (C4 4 h)) = Fv [BG 4 h 1, BG 4 h 2, BG 4 h 3] 1 0 (BG 4 h 0) := by
 unfold C4
 rw [F1, Cf 4 h 7 _ (by omega), Cf 4 h 6 _ (by omega), Cf 4 h 5 _ (by omega), Cf 4 h 4 _ (by omega)]
 rw [Bo 4 h 1 2 _ _ (by omega) (by omega), Bo 4 h 2 3 _ _ (by omega) (by omega), Bo 4 h 3 4 _ _ (by omega) (by omega)]
 rfl
theorem Ahz (h : HB) : (C4 5 h, BG 5 h (C4 5 h)) = Fv [BG 5 h 1, BG 5 h 2, BG 5 h 3, BG 5 h 4] 1 0 (BG 5 h 0) := by
 unfold C4
 rw [F1, Cf 5 h 7 _ (by omega), Cf 5 h 6 _ (by omega), Cf 5 h 5 _ (by omega)]
 rw [Bo 5 h 1 2 _ _ (by omega) (by omega), Bo 5 h 2 3 _ _ (by omega) (by omega), Bo 5 h 3 4 _ _ (by omega) (by omega), Bo 5 h 4 5 _ _ (by omega) (by omega)]
 rfl
theorem AhA (h : HB) : (C4 6 h, BG 6 h (C4 6 h)) = Fv [BG 6 h 1, BG 6 h 2, BG 6 h 3, BG 6 h 4, BG 6 h 5] 1 0 (BG 6 h 0) := by
 unfold C4
 rw [F1, Cf 6 h 7 _ (by omega), Cf 6 h 6 _ (by omega)]
 rw [Bo 6 h 1 2 _ _ (by omega) (by omega), Bo 6 h 2 3 _ _ (by omega) (by omega), Bo 6 h 3 4 _ _ (by omega) (by omega), Bo 6 h 4 5 _ _ (by omega) (by omega), Bo 6 h 5 6 _ _ (by omega) (by omega)]
 rfl
theorem AhB (h : HB) : (C4 7 h, BG 7 h (C4 7 h)) = Fv [BG 7 h 1, BG 7 h 2, BG 7 h 3, BG 7 h 4, BG 7 h 5, BG 7 h 6] 1 0 (BG 7 h 0) := by
 unfold C4
 rw [F1, Cf 7 h 7 _ (by omega)]
 rw [Bo 7 h 1 2 _ _ (by omega) (by omega), Bo 7 h 2 3 _ _ (by omega) (by omega), Bo 7 h 3 4 _ _ (by omega) (by omega), Bo 7 h 4 5 _ _ (by omega) (by omega), Bo 7 h 5 6 _ _ (by omega) (by omega), Bo 7 h 6 7 _ _ (by omega) (by omega)]
 rfl
theorem AhC (h : HB) : (C4 8 h, BG 8 h (C4 8 h)) = Fv [BG 8 h 1, BG 8 h 2, BG 8 h 3, BG 8 h 4, BG 8 h 5, BG 8 h 6, BG 8 h 7] 1 0 (BG 8 h 0) := by
 unfold C4
 rw [F1]
 rw [Bo 8 h 1 2 _ _ (by omega) (by omega), Bo 8 h 2 3 _ _ (by omega) (by omega), Bo 8 h 3 4 _ _ (by omega) (by omega), Bo 8 h 4 5 _ _ (by omega) (by omega), Bo 8 h 5 6 _ _ (by omega) (by omega), Bo 8 h 6 7 _ _ (by omega) (by omega), Bo 8 h 7 8 _ _ (by omega) (by omega)]
 rfl
end Day
namespace Day
theorem bs {l o p p' : Int} {b : Bool} (B : 0 ≤ l ∧ l ≤ p) (R : o = l + bv b) (hp : p' = p + 1) : 0 ≤ o ∧ o ≤ p' := by
 have := Adz b
 omega
end Day
namespace Day
def Hh (n : Int) (h : HB) : List Int := if n ≤ 8 then (List.range n.toNat).map (fun i : Nat => BG n h (i : Int)) else []
end Day
namespace Day
theorem Sx {n : Int} {h : HB} (hr : Ak n h = true) : Ak n (Bq n h) = true := by
 have hb := Cd hr
 have hn := hb.1
 have hrt : right n = true := by simp [right, hn]
 have ha (p : Nat) (c : Int) (h0 : 0 ≤ c ∧ c ≤ AY n p) : Be (HH c (AY n p)) (AY n p) = true := by
  have := IK hn p
  rw [Au]; unfold HH; split <;> omega
 have hu (c m : Int) (hm : 0 ≤ m) : Be (HH c m) m = true := by
  rw [Au]; unfold HH; split <;> omega
 have hd (c m : Int) (h0 : 0 ≤ c ∧ c ≤ m) : Be (B5 c) m = true := by
  rw [Au]; unfold B5; split <;> omega
 have hm (x : Int) : Be (x % n) (n - 1) = true := by
  rw [Au]; have := VZ (x := x) hn; omega
 have hp : Be h.port (n - 1) = true := by rw [Au]; omega
 rw [Bq, if_pos hr]
 clear hr ha
 simp only [Ak, CM, Bool.and_eq_true, hrt, true_and]
 simp [HB.a, AS, hu _ _ (IK hn _), hm, hp, hu _ _ (show 0 ≤ 2 * n + 1 by omega), hd h.hold (2 * n) (by omega)]
end Day
namespace Day
open Rx
def W3 (a : A) : List Int := a.A5.map A.int
def Co (l : List Int) : A := .l (l.map A.i)
def AeV : List A → List Fr
 | x :: y :: l => ⟨x.int, y.int⟩ :: AeV l
 | _ => []
def frs (a : A) : List Fr := AeV a.A5
def AhD (l : List Fr) : A := .l (l.flatMap fun f => [.i f.kind, .i f.id])
theorem Abc : ∀ l : List Fr, AeV (l.flatMap fun f => [.i f.kind, .i f.id]) = l
 | [] => rfl
 | f :: l => by simp [AeV, Abc l]
@[simp] theorem AhT (l : List Fr) : frs (AhD l) = l := Abc l
@[simp] theorem W4 (l : List Int) : W3 (Co l) = l := by
 induction l with
 | nil => rfl
 | cons a l ih => simpa [W3, Co] using ih
end Day
namespace Day
open Rx
def Yr (n p : Int) : Bool := decide (0 ≤ p) && decide (p ≤ n) && decide (n ≤ 8)
def ltR (p n : Int) : Bool := decide (0 ≤ p) && decide (p < n)
theorem AeW {p n : Int} : ltR p n = true ↔ 0 ≤ p ∧ p < n := by simp [ltR]
theorem IL {n p : Int} : Yr n p = true ↔ (0 ≤ p ∧ p ≤ n) ∧ n ≤ 8 := by simp [Yr]
def AD (n p j x : Int) : Int := if p ≤ j ∧ j < n then n else x
def Hi (n p j x : Int) : Int := if p ≤ j ∧ j < n then HH x n else x
def UA (n : Int) (h : HB) (v p : Int) : Int := AbP fun q => if p ≤ (q : Int) ∧ Gp n h q v = true then 1 else 0
theorem V1 (n : Int) (h : HB) (v : Int) : UA n h v 0 = BG n h v := by simp [UA, BG, AbP]
theorem V2 {n : Int} (h : HB) (v : Int) {p : Int} (hp : 0 ≤ p ∧ p < n) (hn : n ≤ 8) : UA n h v p = (if Gp n h p.toNat v = true then 1 else 0) + UA n h v (p + 1) := by
 have : p = 0 ∨ p = 1 ∨ p = 2 ∨ p = 3 ∨ p = 4 ∨ p = 5 ∨ p = 6 ∨ p = 7 := by omega
 rcases this with rfl | rfl | rfl | rfl | rfl | rfl | rfl | rfl <;> simp [UA, AbP, Int.add_assoc]
theorem Ys {n : Int} (h : HB) (v : Int) {p : Int} (hp : n ≤ p) : UA n h v p = 0 := by
 have e (q : Nat) (hq : p ≤ (q : Int)) : Gp n h q v = false := by simp [Gp]; omega
 have e2 (q : Nat) : (if p ≤ (q : Int) ∧ Gp n h q v = true then (1 : Int) else 0) = 0 := by
  rw [if_neg]; rintro ⟨h1, h2⟩; rw [e q h1] at h2; cases h2
 simp only [UA, AbP, e2]; rfl
def Hj (n : Int) (h : HB) (v p k : Int) : Int := if Ak n h then k + UA n h v p else k
def IM (n : Int) (h : HB) (p k : Int) : Bool := !Ak n h || (Be p n && Be k p)
theorem BK {n : Int} {h : HB} (hr : Ak n h = true) : 3 ≤ n ∧ n ≤ 8 := (Cd hr).1
def JA (n : Int) (h : HB) (v q b : Int) : Int := if v ≤ q then Bu n h b q else b
def P0 (n : Int) (h : HB) (v b : Int) : Int := JA n h v 7 (JA n h v 6 (JA n h v 5 (JA n h v 4 (JA n h v 3 (JA n h v 2 (JA n h v 1 (JA n h v 0 b)))))))
theorem ZR (n : Int) (h : HB) : P0 n h 0 0 = C4 n h := by simp [P0, JA, C4]
theorem ZS {n : Int} (h : HB) {v : Int} (b : Int) (hp : 0 ≤ v ∧ v < n) (hn : n ≤ 8) : P0 n h v b = P0 n h (v + 1) (Bu n h b v) := by
 have : v = 0 ∨ v = 1 ∨ v = 2 ∨ v = 3 ∨ v = 4 ∨ v = 5 ∨ v = 6 ∨ v = 7 := by omega
 rcases this with rfl | rfl | rfl | rfl | rfl | rfl | rfl | rfl <;> simp [P0, JA]
theorem AbQ {n : Int} (h : HB) {v : Int} (b : Int) (hp : n ≤ v) : P0 n h v b = b := by
 have e (q b : Int) : JA n h v q b = b := by
  unfold JA; split
  ·exact Cf n h q b (by omega)
  ·rfl
 simp only [P0, e]
def Nu (n : Int) (h : HB) (v b : Int) : Int := if Ak n h then P0 n h v b else b
def Nv (n : Int) (h : HB) (v : Int) : Bool := !Ak n h || Be v n
def Sy (n : Int) (x : A) : Bool := decide (0 ≤ n) && decide (n ≤ 8) && (x.A5.length == n.toNat) && x.A5.all fun a => match a with | .i _ => true | _ => false
end Day
namespace Day
open Rx
def Kp (n : Int) (h : HB) (p : Int) (x : A) : List Int := (W3 x).mapIdx fun v c => c + UA n h (v : Int) p
def DB (n : Int) (h : HB) (p : Int) (x : A) : Bool := Ak n h && Be p n && Sy n x && (W3 x).all (fun c => Be c p)
def DG (n i : Int) (x : A) : Bool := Be i n && Sy n x
def Qg (m i : Int) (x : A) : Int := GD m ((W3 x).drop i.toNat)
def UB (m i : Int) (x : A) : Int := ZQ ((W3 x).drop i.toNat) i m
def Kq (m i : Int) (x : A) : Bool := ((W3 x).drop i.toNat).any fun c => c == m
end Day
namespace Day
open Rx
theorem Yt {n : Int} {h : HB} {p v : Int} (hr : Ak n h = true) (hp : 0 ≤ p ∧ p < n) :
  Gp n h p.toNat v = ((decide (h.a p.toNat < n) && decide ((p + h.a p.toNat) % n = v)) || (decide (p = h.port) && decide (h.age < 2 * n) && decide ((p + h.age) % n = v))) := by
 have hq : ((p.toNat : Nat) : Int) = p := by omega
 simp [Gp, hq, hp.2]
theorem Sz {n : Int} {h : HB} (hr : Ak n h = true) {p : Int} (hp : 0 ≤ p ∧ p < n) : 0 ≤ h.a p.toNat ∧ h.a p.toNat ≤ n := by
 have hb := Cd hr
 have : p = 0 ∨ p = 1 ∨ p = 2 ∨ p = 3 ∨ p = 4 ∨ p = 5 ∨ p = 6 ∨ p = 7 := by omega
 rcases this with rfl | rfl | rfl | rfl | rfl | rfl | rfl | rfl
 ·exact hb.2.1.1
 ·exact hb.2.1.2.1
 ·exact hb.2.1.2.2.1
 ·exact hb.2.1.2.2.2.1
 ·exact hb.2.1.2.2.2.2.1
 ·exact hb.2.1.2.2.2.2.2.1
 ·exact hb.2.1.2.2.2.2.2.2.1
 ·exact hb.2.1.2.2.2.2.2.2.2
theorem W5 {n a b : Int} (hn : 3 ≤ n ∧ n ≤ 8) (h : 0 ≤ a ∧ a < n) (hb : 0 ≤ b ∧ b ≤ 2 * n + 1) : Kn n a b = true ∧ atR n a b = (a + b) % n := by
 have h1 : n ≠ 0 := by omega
 constructor
 ·simp [Kn, AX, BF, i64]; omega
 ·simp [atR, BO]
end Day
namespace Day
open Rx Go
def Yu (x : A) (i : Int) : A := .l (x.A5.set i.toNat (.i (IntKind.wrap .i64 ((x.A5.getD i.toNat (.i 0)).int + 1))))
def Yv (l : List Int) (i : Int) : List Int := l.set i.toNat (l.getD i.toNat 0 + 1)
theorem Abd : ∀ {xs : List A}, (xs.all fun a => match a with | .i _ => true | _ => false) = true → (xs.map A.int).map A.i = xs
 | [], _ => rfl
 | .i c :: xs, h => by
  simp only [List.all_cons, Bool.true_and] at h
  simp only [List.map_cons, Abd h, A.int]
 | .b _ :: xs, h => by simp at h
 | .v _ :: xs, h => by simp at h
 | .l _ :: xs, h => by simp at h
theorem H5 {n : Int} (hn : 1 ≤ n) {x : A} : Sy n x = true ↔ (n ≤ 8 ∧ ∃ l : List Int, l.length = n.toNat ∧ x = Co l) := by
 simp only [Sy, Bool.and_eq_true, decide_eq_true_eq, beq_iff_eq]
 constructor
 ·rintro ⟨⟨⟨h1, h2⟩, h3⟩, h4⟩
  refine ⟨h2, W3 x, by simp [W3, h3], ?_⟩
  cases x with
  | l xs => simp only [Co, W3, A.A5] at *; rw [Abd h4]
  | i _ => simp [A.A5] at h3; omega
  | b _ => simp [A.A5] at h3; omega
  | v _ => simp [A.A5] at h3; omega
 ·rintro ⟨h2, l, h3, rfl⟩
  refine ⟨⟨⟨by omega, h2⟩, by simp [Co, A.A5, h3]⟩, ?_⟩
  simp [Co, A.A5]
theorem ZT (l : List Int) (i : Nat) : ((l.map A.i).getD i (.i 0)).int = l.getD i 0 := by
 simp only [List.getD_eq_getElem?_getD, List.getElem?_map]
 cases l[i]? <;> rfl
theorem Abe (l : List Int) (i : Int) (h : 0 ≤ l.getD i.toNat 0 ∧ l.getD i.toNat 0 ≤ 8) : Yu (Co l) i = Co (Yv l i) := by
 simp only [Yu, Co, A.A5, Yv, List.map_set, ZT]
 rw [wrap64 (by omega) (by omega)]
theorem Yw (l : List Int) (i : Int) (v : Nat) (hv : v < l.length) (hi : 0 ≤ i) : (Yv l i).getD v 0 = l.getD v 0 + (if i = (v : Int) then 1 else 0) := by
 have e : i.toNat = v ↔ i = (v : Int) := by omega
 simp only [Yv, List.getD_eq_getElem?_getD, List.getElem?_set]
 by_cases h : i = (v : Int)
 ·have h' := e.2 h
  simp [h]
  simp [hv]
 ·have : i.toNat ≠ v := fun h' => h (e.1 h')
  simp [h, this]
theorem Nw (n : Int) (h : HB) (p : Int) (l : List Int) : Kp n h p (Co l) = l.mapIdx fun v c => c + UA n h (v : Int) p := by
 simp [Kp]
theorem AeX {l : List Int} {q : Int → Bool} (h : l.all q = true) {i : Nat} (hi : i < l.length) : q (l.getD i 0) = true := by
 rw [List.all_eq_true] at h
 simp only [List.getD_eq_getElem?_getD, List.getElem?_eq_getElem hi, Option.getD_some]
 exact h _ (List.getElem_mem hi)
theorem Agv {l : List Int} {q : Int → Bool} (h : ∀ i, i < l.length → q (l.getD i 0) = true) : l.all q = true := by
 rw [List.all_eq_true]
 intro c hc
 obtain ⟨i, hi, rfl⟩ := List.getElem_of_mem hc
 have := h i hi
 simpa only [List.getD_eq_getElem?_getD, List.getElem?_eq_getElem hi, Option.getD_some] using this
theorem mod_lt {n x : Int} (hn : 3 ≤ n ∧ n ≤ 8) : 0 ≤ x % n ∧ x % n < n := ⟨Int.emod_nonneg _ (by omega), Int.emod_lt_of_pos _ (by omega)⟩
theorem Yx {n : Int} {h : HB} {p : Int} {x y z : A} {s : Int} (hP : DB n h p x = true) (hp : p < n)
  (hs : s = if h.a p.toNat < n then (p + h.a p.toNat) % n else -1)
  (hy : y = if h.a p.toNat < n then Yu x ((p + h.a p.toNat) % n) else x)
  (hz : z = if p = h.port ∧ h.age < 2 * n ∧ (p + h.age) % n ≠ s then Yu y ((p + h.age) % n) else y) :
  DB n h (p + 1) z = true ∧ Kp n h (p + 1) z = Kp n h p x := by
 simp only [DB, Bool.and_eq_true, Au] at hP
 obtain ⟨⟨⟨hr, hp0⟩, hx⟩, hb⟩ := hP
 have hn := BK hr
 obtain ⟨h8, l, hl, rfl⟩ := (H5 (by omega)).1 hx
 rw [W4] at hb
 have hlb (i : Nat) (hi : i < l.length) : 0 ≤ l.getD i 0 ∧ l.getD i 0 ≤ p := by
  have := AeX hb hi
  rwa [Au] at this
 have ha := Sz hr ⟨hp0.1, hp⟩
 have hm1 := mod_lt (x := p + h.a p.toNat) hn
 have hm2 := mod_lt (x := p + h.age) hn
 have hv (v : Int) := Yt (v := v) hr ⟨hp0.1, hp⟩
 have key : ∃ l2 : List Int, z = Co l2 ∧ l2.length = l.length ∧ ∀ v : Nat, v < l.length → l2.getD v 0 = l.getD v 0 + if Gp n h p.toNat v = true then 1 else 0 := by
  have hy2 : ∃ l1 : List Int, y = Co l1 ∧ l1.length = l.length ∧ ∀ v : Nat, v < l.length → l1.getD v 0 = l.getD v 0 + if (v : Int) = s then 1 else 0 := by
   by_cases c : h.a p.toNat < n
   ·rw [if_pos c] at hs hy
    refine ⟨Yv l ((p + h.a p.toNat) % n), ?_, by simp [Yv], fun v hv => ?_⟩
    ·rw [hy, Abe]
     have := hlb ((p + h.a p.toNat) % n).toNat (by omega)
     omega
    ·rw [Yw l _ v hv hm1.1, hs]
     simp only [eq_comm]
   ·rw [if_neg c] at hs hy
    refine ⟨l, hy, rfl, fun v hv => ?_⟩
    rw [if_neg (by omega)]; omega
  obtain ⟨l1, rfl, hl1, hg1⟩ := hy2
  by_cases c : p = h.port ∧ h.age < 2 * n ∧ (p + h.age) % n ≠ s
  ·rw [if_pos c] at hz
   refine ⟨Yv l1 ((p + h.age) % n), ?_, by simp [Yv, hl1], fun v hvl => ?_⟩
   ·rw [hz, Abe]
    have h1 := hlb ((p + h.age) % n).toNat (by omega)
    have h2 := hg1 ((p + h.age) % n).toNat (by omega)
    rw [h2]
    split <;> omega
   ·rw [Yw l1 _ v (by omega) hm2.1, hg1 v hvl, hv]
    obtain ⟨c1, c2, c3⟩ := c
    simp only [decide_eq_true c1, decide_eq_true c2, Bool.true_and, Bool.or_eq_true, Bool.and_eq_true, decide_eq_true_eq]
    by_cases c4 : h.a p.toNat < n
    ·rw [if_pos c4] at hs
     simp only [c4, true_and, ← hs]
     by_cases c5 : (p + h.age) % n = (v : Int)
     ·have : ¬ (v : Int) = s := by omega
      simp [c5, this]
     ·by_cases c6 : (v : Int) = s
      ·simp [c5, c6]
       omega
      ·have : ¬ s = (v : Int) := by omega
       simp [c5, c6, this]
    ·rw [if_neg c4] at hs
     have : ¬ (v : Int) = s := by omega
     simp [c4, this]
  ·rw [if_neg c] at hz
   refine ⟨l1, hz, hl1, fun v hvl => ?_⟩
   rw [hg1 v hvl, hv]
   simp only [Bool.or_eq_true, Bool.and_eq_true, decide_eq_true_eq]
   by_cases c4 : h.a p.toNat < n
   ·rw [if_pos c4] at hs
    simp only [c4, true_and, ← hs]
    by_cases c6 : (v : Int) = s
    ·simp [c6]
    ·have c7 : ¬ s = (v : Int) := by omega
     simp only [c6, c7, false_or, if_false]
     rw [if_neg]
     rintro ⟨⟨d1, d2⟩, d3⟩
     exact c ⟨d1, d2, by omega⟩
   ·rw [if_neg c4] at hs
    have c6 : ¬ (v : Int) = s := by omega
    simp only [c4, c6, false_and, false_or, if_false]
    rw [if_neg]
    rintro ⟨⟨d1, d2⟩, d3⟩
    exact c ⟨d1, d2, by omega⟩
 obtain ⟨l2, rfl, hl2, hg⟩ := key
 constructor
 ·simp only [DB, Bool.and_eq_true, Au, hr, true_and, W4]
  refine ⟨⟨by omega, (H5 (by omega)).2 ⟨h8, l2, by omega, rfl⟩⟩, Agv fun i hi => ?_⟩
  rw [Au, hg i (by omega)]
  have := hlb i (by omega)
  split <;> omega
 ·rw [Nw, Nw]
  apply List.ext_getElem
  ·simp [hl2]
  ·intro i h1 h2
   simp only [List.length_mapIdx] at h1 h2
   simp only [List.getElem_mapIdx]
   have g1 := hg i h2
   simp only [List.getD_eq_getElem?_getD, List.getElem?_eq_getElem h1, List.getElem?_eq_getElem h2, Option.getD_some] at g1
   rw [g1, V2 h (i : Int) ⟨hp0.1, hp⟩ (by omega)]
   omega
theorem ZU {n : Int} {h : HB} {p : Int} {x : A} (hP : DB n h p x = true) (hp : ¬ p < n) : x = Co (Kp n h p x) := by
 simp only [DB, Bool.and_eq_true, Au] at hP
 obtain ⟨⟨⟨hr, hp0⟩, hx⟩, hb⟩ := hP
 have hn := BK hr
 obtain ⟨h8, l, hl, rfl⟩ := (H5 (by omega)).1 hx
 rw [Nw]
 congr 1
 apply List.ext_getElem
 ·simp
 ·intro i h1 h2
  simp only [List.getElem_mapIdx]
  rw [Ys h _ (by omega)]
  omega
theorem Yy {n : Int} {h : HB} (hr : Ak n h = true) : DB n h 0 (.l (List.replicate n.toNat [A.i 0]).flatten) = true ∧
  Kp n h 0 (.l (List.replicate n.toNat [A.i 0]).flatten) = Hh n h := by
 have hn := BK hr
 have e : (A.l (List.replicate n.toNat [A.i 0]).flatten) = Co (List.replicate n.toNat 0) := by
  simp only [Co, List.map_replicate]
  congr 1
  generalize n.toNat = k
  induction k with
  | zero => rfl
  | succ k ih => simp [List.replicate_succ, ih]
 rw [e]
 constructor
 ·simp only [DB, Bool.and_eq_true, Au, hr, true_and, W4]
  refine ⟨⟨by omega, (H5 (by omega)).2 ⟨hn.2, _, by simp, rfl⟩⟩, ?_⟩
  simp [Be]
 ·rw [Nw, Hh, if_pos hn.2]
  apply List.ext_getElem
  ·simp
  ·intro i h1 h2
   simp [V1]
end Day
namespace Day
open Rx Go
theorem OW {n i : Int} {x : A} (h : DG n i x = true) (hi : i < n) : (W3 x).drop i.toNat = (x.A5.getD i.toNat (.i 0)).int :: (W3 x).drop (i + 1).toNat := by
 simp only [DG, Bool.and_eq_true, Au, Sy, beq_iff_eq, decide_eq_true_eq] at h
 obtain ⟨h1, ⟨⟨h2, h3⟩, h4⟩, h5⟩ := h
 have hl : i.toNat < (W3 x).length := by simp only [W3, List.length_map]; omega
 rw [List.drop_eq_getElem_cons hl, show (i + 1).toNat = i.toNat + 1 by omega]
 congr 1
 have := ZT (W3 x) i.toNat
 simp only [W3, List.getElem_map, List.getD_eq_getElem?_getD]
 have hl2 : i.toNat < x.A5.length := by omega
 simp [List.getElem?_eq_getElem hl2]
theorem Yz {n i : Int} {x : A} (h : DG n i x = true) (hi : ¬ i < n) : (W3 x).drop i.toNat = [] := by
 simp only [DG, Bool.and_eq_true, Au, Sy, beq_iff_eq, decide_eq_true_eq] at h
 obtain ⟨h1, ⟨⟨h2, h3⟩, h4⟩, h5⟩ := h
 apply List.drop_eq_nil_of_le
 simp only [W3, List.length_map]; omega
theorem SA {n i : Int} {x : A} (h : DG n i x = true) (hi : i < n) : DG n (i + 1) x = true ∧ (0 ≤ i ∧ i ≤ 8) := by
 simp only [DG, Bool.and_eq_true, Au] at h ⊢
 have h2 := h.2
 simp only [Sy, Bool.and_eq_true, decide_eq_true_eq] at h2
 refine ⟨⟨by omega, h.2⟩, by omega⟩
theorem AbR {n i m : Int} {x : A} (h : DG n i x = true) (hi : i < n) : Qg m i x = Qg (if m < (x.A5.getD i.toNat (.i 0)).int then (x.A5.getD i.toNat (.i 0)).int else m) (i + 1) x := by
 simp only [Qg, OW h hi, GD]
theorem AdA {n i m : Int} {x : A} (h : DG n i x = true) (hi : ¬ i < n) : Qg m i x = m := by
 simp only [Qg, Yz h hi, GD]
theorem AbS {n i m : Int} {x : A} (h : DG n i x = true) (hi : i < n) : UB m i x = if m = (x.A5.getD i.toNat (.i 0)).int then i else UB m (i + 1) x := by
 simp only [UB, OW h hi, ZQ]
theorem AbT {n i m : Int} {x : A} (h : DG n i x = true) (hi : i < n) : Kq m i x = (((x.A5.getD i.toNat (.i 0)).int == m) || Kq m (i + 1) x) := by
 simp only [Kq, OW h hi, List.any_cons]
theorem AdB {n i m : Int} {x : A} (h : DG n i x = true) (hi : ¬ i < n) : Kq m i x = false := by
 simp only [Kq, Yz h hi, List.any_nil]
end Day
namespace Day
open Rx Go
theorem YA : ∀ (ls : List Int) (k : Int), GD k ls = k ∨ ls.any (fun c => c == GD k ls) = true
 | [], k => .inl rfl
 | l :: ls, k => by
  rcases YA ls (if k < l then l else k) with h | h
  ·by_cases c : k < l
   ·right; simp only [GD, List.any_cons, h]; simp [c]
   ·left; rw [GD, h]; simp [c]
  ·right
   simp only [GD, List.any_cons, h, Bool.or_true]
theorem AbU {n : Int} {h : HB} (hr : Ak n h = true) : ∃ k0 ls, Hh n h = k0 :: ls ∧ (C4 n h, BG n h (C4 n h)) = Fv ls 1 0 k0 := by
 rcases V0 n h with ⟨rfl, hc⟩ | ⟨rfl, hc⟩ | ⟨rfl, hc⟩ | ⟨rfl, hc⟩ | ⟨rfl, hc⟩ | ⟨rfl, hc⟩ | hc
 ·exact ⟨_, _, rfl, Ahx h⟩
 ·exact ⟨_, _, rfl, Ahy h⟩
 ·exact ⟨_, _, rfl, Ahz h⟩
 ·exact ⟨_, _, rfl, AhA h⟩
 ·exact ⟨_, _, rfl, AhB h⟩
 ·exact ⟨_, _, rfl, AhC h⟩
 ·rw [hr] at hc; cases hc
theorem GU {n : Int} {h : HB} (hr : Ak n h = true) : ((Hh n h).length : Int) = n := by
 have hn := BK hr
 rw [Hh, if_pos hn.2]
 simp; omega
theorem AdC {n : Int} {h : HB} (hr : Ak n h = true) {v : Int} (hv : 0 ≤ v ∧ v < n) : ((Co (Hh n h)).A5.getD v.toNat (.i 0)).int = BG n h v := by
 have hn := BK hr
 have := ZT (Hh n h) v.toNat
 rw [show (Co (Hh n h)).A5 = (Hh n h).map A.i from rfl, this, Hh, if_pos hn.2]
 have hl : v.toNat < n.toNat := by omega
 simp [List.getD_eq_getElem?_getD, hl]
 rw [show max v 0 = v by omega]
theorem AdD {n i : Int} {h : HB} (hr : Ak n h = true) (hi : 0 ≤ i ∧ i ≤ n) : DG n i (Co (Hh n h)) = true := by
 have hn := BK hr
 have hl := GU hr
 simp only [DG, Bool.and_eq_true, Au]
 exact ⟨hi, (H5 (by omega)).2 ⟨hn.2, _, by omega, rfl⟩⟩
theorem YB {n : Int} {h : HB} (hr : Ak n h = true) :
  Qg ((Co (Hh n h)).A5.getD 0 (.i 0)).int 1 (Co (Hh n h)) = Ec n h ∧ UB (Ec n h) 0 (Co (Hh n h)) = Eb n h ∧ Kq (Ec n h) 0 (Co (Hh n h)) = true := by
 obtain ⟨k0, ls, e, hb⟩ := AbU hr
 rw [MR] at hb
 injection hb with h1 h2
 have hk : Ec n h = GD k0 ls := by rw [Ec, if_pos hr, h2]
 have hi : Eb n h = ZQ (k0 :: ls) 0 (GD k0 ls) := by rw [Eb, if_pos hr, h1, ZQ]; rfl
 have e2 : W3 (Co (k0 :: ls)) = k0 :: ls := W4 _
 rw [e, hk]
 refine ⟨?_, ?_, ?_⟩
 ·simp only [Qg, e2]; rfl
 ·simp only [UB, e2]; rw [hi]; rfl
 ·simp only [Kq, e2]
  show ((k0 :: ls).any fun c => c == GD k0 ls) = true
  rcases YA ls k0 with hm | hm
  ·simp [hm]
  ·simp only [List.any_cons, hm, Bool.or_true]
end Day
namespace Day
theorem AdE {n : Int} {h : HB} (hr : Ak n h = true) {v : Int} (hv : ¬ (0 ≤ v ∧ v < n)) : BG n h v = 0 := by
 have hn := BK hr
 have e (p : Nat) : Gp n h p v = false := by
  have m1 := mod_lt (x := p + h.a p) hn
  have m2 := mod_lt (x := p + h.age) hn
  have c1 : ¬ (p + h.a p) % n = v := by omega
  have c2 : ¬ (p + h.age) % n = v := by omega
  simp [Gp, c1, c2]
 simp [BG, AbP, e]
theorem SB {n : Int} {h : HB} (hr : Ak n h = true) : ∀ j : Nat, j < 8 → 0 ≤ h.a j ∧ h.a j ≤ AY n j := by
 simp only [Ak, CM, Bool.and_eq_true, Au] at hr
 obtain ⟨⟨⟨⟨⟨hn, ha⟩, h1⟩, h2⟩, h3⟩, h4⟩ := hr
 obtain ⟨⟨⟨⟨⟨⟨⟨a0, a1⟩, a2⟩, a3⟩, a4⟩, a5⟩, a6⟩, a7⟩ := ha
 intro j hj
 match j, hj with
 | 0, _ => exact a0
 | 1, _ => exact a1
 | 2, _ => exact a2
 | 3, _ => exact a3
 | 4, _ => exact a4
 | 5, _ => exact a5
 | 6, _ => exact a6
 | 7, _ => exact a7
end Day
namespace Day
open Rx Go
theorem Ed {n : Int} {h : HB} (hr : Ak n h = true) : h.i64 = true := by
 have hb := Cd hr
 simp only [HB.i64, CM, i64, Bool.and_eq_true, decide_eq_true_eq]
 omega
theorem SC {n : Int} {h : HB} (hr : Ak n h = true) : BZ n h = 0 := by simp [BZ, hr]
end Day
namespace Day
open Rx Go
end Day
namespace Day
open Rx Go
def okF (n : Int) (h : HB) (p : Int) : Bool := CM fun q => !decide (p ≤ (q : Int)) || Be (h.a q) (AY n q)
theorem AdF (n : Int) (h : HB) : okF n h 0 = CM fun q => Be (h.a q) (AY n q) := by simp [okF, CM]
theorem AdG {n : Int} (h : HB) {p : Int} (hp : 0 ≤ p ∧ p < 8) : okF n h p = (Be (h.a p.toNat) (AY n p.toNat) && okF n h (p + 1)) := by
 have : p = 0 ∨ p = 1 ∨ p = 2 ∨ p = 3 ∨ p = 4 ∨ p = 5 ∨ p = 6 ∨ p = 7 := by omega
 rcases this with rfl | rfl | rfl | rfl | rfl | rfl | rfl | rfl <;> simp [okF, CM, Bool.and_assoc]
theorem AeY (n : Int) (h : HB) {p : Int} (hp : 8 ≤ p) : okF n h p = true := by
 have e (q : Int) (hq : q < 8) : decide (p ≤ q) = false := by simp; omega
 simp [okF, CM, e]
end Day
namespace Day
open Rx Go
def CZ (n : Int) (h : HB) : Int := if h.hold = 0 then Eb n h else h.pos
def DT (n : Int) (h : HB) : Int := if h.hold = 0 then Ec n h else Cu n h h.pos
def BE (n : Int) (h : HB) : HB :=
 if Ak n h then (if 2 ≤ DT n h then ⟨AS fun p => h.a p, h.port, h.age, 2 * n, CZ n h⟩ else ⟨AS fun p => h.a p, h.port, h.age, h.hold, h.pos⟩) else Bp
end Day
namespace Day
open Rx Go
theorem SD {n : Int} {h : HB} (hr : Ak n h = true) : 0 ≤ Eb n h ∧ Eb n h < n := by
 have hn := BK hr
 rw [Eb, if_pos hr]
 have st (b v : Int) (hv : 0 ≤ v) (h2 : 0 ≤ b ∧ b < n) : 0 ≤ Bu n h b v ∧ Bu n h b v < n := by
  unfold Bu; split <;> omega
 unfold C4
 exact st _ 7 (by omega) (st _ 6 (by omega) (st _ 5 (by omega) (st _ 4 (by omega) (st _ 3 (by omega) (st _ 2 (by omega) (st _ 1 (by omega) (st _ 0 (by omega) (by omega))))))))
theorem YC {n : Int} {h : HB} (hr : Ak n h = true) : Ec n h = Cu n h (Eb n h) := by
 rw [Ec, Cu, Eb, if_pos hr, if_pos hr, if_pos hr]
theorem AbV {n : Int} {h : HB} (hr : Ak n h = true) {k p : Int} (hk : 0 ≤ k ∧ k ≤ 2 * n) (hp : 0 ≤ p ∧ p < n) : Ak n ⟨AS fun p => h.a p, h.port, h.age, k, p⟩ = true := by
 have e : Be p (n - 1) = true := by rw [Au]; omega
 have e2 : Be k (2 * n) = true := by rw [Au]; omega
 simp only [Ak, Bool.and_eq_true] at hr ⊢
 obtain ⟨⟨⟨⟨⟨h1, h2⟩, h3⟩, h4⟩, h5⟩, h6⟩ := hr
 exact ⟨⟨⟨⟨⟨h1, h2⟩, h3⟩, h4⟩, e2⟩, e⟩
theorem V3 {n : Int} {h : HB} (hr : Ak n h = true) {k p v : Int} (hk : 0 ≤ k ∧ k ≤ 2 * n) (hp : 0 ≤ p ∧ p < n) : Cu n ⟨AS fun p => h.a p, h.port, h.age, k, p⟩ v = Cu n h v := by
 rw [Cu, Cu, if_pos hr, if_pos (AbV hr hk hp)]
 rfl
end Day
namespace Day
open Rx Go
def D0 (f : Int → Bool) (i n : Int) : Bool := (List.range (n - i).toNat).all fun j => f (i + (j : Int))
def AW (f : Int → Bool) (i n : Int) : Int := match (List.range (n - i).toNat).find? (fun j : Nat => f (i + (j : Int))) with | some j => i + (j : Int) | none => -1
def FJ (f : Int → Bool) (i n : Int) : Bool := !D0 (fun p => !f p) i n
theorem P1 {i n : Int} (h : i < n) : List.range (n - i).toNat = 0 :: (List.range (n - (i + 1)).toNat).map (· + 1) := by
 rw [show (n - i).toNat = (n - (i + 1)).toNat + 1 by omega, List.range_succ_eq_map]
theorem OX {f : Int → Bool} {i n : Int} (h : i < n) : D0 f i n = (f i && D0 f (i + 1) n) := by
 unfold D0
 rw [P1 h]
 simp only [List.all_cons, List.all_map]
 congr 1
 ·simp
 ·congr 1
  funext j
  simp only [Function.comp]
  congr 1
  simp; omega
theorem SE {f : Int → Bool} {i n : Int} (h : ¬ i < n) : D0 f i n = true := by
 unfold D0
 rw [show (n - i).toNat = 0 by omega]; rfl
theorem Kr {f : Int → Bool} {i n : Int} (h : i < n) : AW f i n = if f i then i else AW f (i + 1) n := by
 unfold AW
 rw [P1 h, List.find?_cons]
 have e : f (i + ((0 : Nat) : Int)) = f i := by simp
 rw [e]
 cases hf : f i
 ·simp only [List.find?_map, Bool.false_eq_true, if_false]
  have : ((fun j : Nat => f (i + (j : Int))) ∘ fun x => x + 1) = fun j : Nat => f (i + 1 + (j : Int)) := by
   funext j; simp only [Function.comp]; congr 1; simp; omega
  rw [this]
  cases List.find? (fun j : Nat => f (i + 1 + (j : Int))) (List.range (n - (i + 1)).toNat) with
  | none => rfl
  | some j => simp; omega
 ·simp
theorem SF {f : Int → Bool} {i n : Int} (h : ¬ i < n) : AW f i n = -1 := by
 unfold AW
 rw [show (n - i).toNat = 0 by omega]; rfl
theorem OY {f : Int → Bool} {i n : Int} (h : i < n) : FJ f i n = (f i || FJ f (i + 1) n) := by
 unfold FJ
 rw [OX h]; simp
theorem SG {f : Int → Bool} {i n : Int} (h : ¬ i < n) : FJ f i n = false := by
 unfold FJ
 rw [SE h]; rfl
theorem YD {f : Int → Bool} {i n : Int} : D0 f i n = true ↔ ∀ p, i ≤ p → p < n → f p = true := by
 unfold D0
 rw [List.all_eq_true]
 constructor
 ·intro h p h1 h2
  have := h (p - i).toNat (by rw [List.mem_range]; omega)
  rwa [show i + ((p - i).toNat : Int) = p by omega] at this
 ·intro h j hj
  rw [List.mem_range] at hj
  exact h _ (by omega) (by omega)
theorem AdH {f : Int → Bool} {i n : Int} : FJ f i n = true ↔ ∃ p, i ≤ p ∧ p < n ∧ f p = true := by
 unfold FJ
 rw [Bool.not_eq_true', Bool.eq_false_iff, ne_eq, YD]
 constructor
 ·intro h
  apply Classical.byContradiction
  intro h2
  refine h fun p h3 h4 => ?_
  cases hf : f p with
  | false => rfl
  | true => exact absurd ⟨p, h3, h4, hf⟩ h2
 ·rintro ⟨p, h1, h2, h3⟩ h
  have := h p h1 h2
  rw [h3] at this
  cases this
theorem P2 {f : Int → Bool} {n : Int} : ∀ (k : Nat) (i : Int), (n - i).toNat = k → FJ f i n = true → i ≤ AW f i n ∧ AW f i n < n ∧ f (AW f i n) = true ∧ ∀ p, i ≤ p → p < AW f i n → f p = false
 | 0, i, hk, h => by rw [SG (by omega)] at h; cases h
 | k + 1, i, hk, h => by
  have hlt : i < n := by omega
  rw [OY hlt] at h
  rw [Kr hlt]
  cases hf : f i with
  | true => simp [hlt, hf]; intro p h1 h2; omega
  | false =>
   rw [hf, Bool.false_or] at h
   obtain ⟨h1, h2, h3, h4⟩ := P2 k (i + 1) (by omega) h
   simp only [Bool.false_eq_true, if_false]
   refine ⟨by omega, h2, h3, fun p hp1 hp2 => ?_⟩
   by_cases hpi : p = i
   ·subst hpi; exact hf
   ·exact h4 p (by omega) hp2
theorem SH {f : Int → Bool} {i n : Int} (h : FJ f i n = true) : i ≤ AW f i n ∧ AW f i n < n ∧ f (AW f i n) = true ∧ ∀ p, i ≤ p → p < AW f i n → f p = false := P2 _ i rfl h
theorem YE {f : Int → Bool} {i n : Int} (h : FJ f i n = false) : AW f i n = -1 := by
 unfold AW
 have : List.find? (fun j : Nat => f (i + (j : Int))) (List.range (n - i).toNat) = none := by
  rw [List.find?_eq_none]
  intro j hj hf
  rw [List.mem_range] at hj
  have : FJ f i n = true := AdH.2 ⟨i + (j : Int), by omega, by omega, hf⟩
  rw [h] at this; cases this
 rw [this]
structure Ls where
 x : A
 n : Int
def Ls.k (q : Ls) (i : Int) : Int := (q.x.A5.getD (2 * i.toNat) (.i 0)).int
def Ls.d (q : Ls) (i : Int) : Int := (q.x.A5.getD (1 + 2 * i.toNat) (.i 0)).int
def Ls.ok (q : Ls) : Bool := decide (0 ≤ q.n) && decide (q.n ≤ 9223372036854775807)
def DC (q : Ls) (p : Int) : Bool := (q.k p == 0 && q.d p == 0) || ((q.k p == 1 || q.k p == 2) && q.d p == p)
def Cg (n : Int) (q : Ls) : Bool := right n && (q.n == n && D0 (DC q) 0 q.n)
def Bh (n : Int) (h : HB) (q : Ls) : Int := if Ak n h then (if Cg n q then 0 else 2) else 1
def BH (q : Ls) (p : Int) : Bool := q.k p == 1
def Az (n : Int) (q : Ls) (p j x : Int) : Int := if p ≤ j ∧ j < n ∧ q.k j = 2 then 0 else x
def Nx (h : HB) : HB := ⟨AS fun p => h.a p, h.port, h.age, h.hold, h.pos⟩
def Ee (n : Int) (h : HB) (q : Ls) : HB := if Bh n h q = 0 then ⟨AS fun p => if (p : Int) < n ∧ q.k p = 2 then 0 else h.a p, h.port, h.age, h.hold, h.pos⟩ else Bp
def Ks (n : Int) (h : HB) (q : Ls) : HB := if q.k h.pos = 2 then ⟨AS fun p => h.a p, h.port, h.age, 2 * n, h.pos⟩ else Nx h
def Gq (h : HB) (q : Ls) : Fr := if q.k h.pos = 2 then ⟨2, q.d h.pos⟩ else B3
def Fw (n : Int) (q : Ls) (i age : Int) : Bool := FJ (BH q) i n && decide (2 * n < age)
def P3 (n : Int) (h : HB) (q : Ls) : Bool := FJ (BH q) 0 n && decide (2 * n < h.age)
def IN (n : Int) (h : HB) (q : Ls) : HB := if P3 n h q then ⟨AS fun p => if (p : Int) < n then n else h.a p, AW (BH q) 0 n, 0, h.hold, h.pos⟩ else Nx h
def DU (n : Int) (h : HB) (q : Ls) : Fr := if P3 n h q then ⟨1, q.d (AW (BH q) 0 n)⟩ else B3
def D1 (n : Int) (h : HB) (q : Ls) : HB := if Bh n h q = 0 then (if 0 < h.hold then Ks n h q else IN n h q) else Bp
def CH (n : Int) (h : HB) (q : Ls) : Fr := if Bh n h q = 0 then (if 0 < h.hold then Gq h q else DU n h q) else B3
theorem CI {n : Int} {h : HB} {q : Ls} : Bh n h q = 0 ↔ Ak n h = true ∧ Cg n q = true := by
 unfold Bh
 split <;> rename_i c
 ·split <;> rename_i c2 <;> simp [c, c2]
 ·simp [c]
theorem Hk {n : Int} {q : Ls} (h : Cg n q = true) : q.n = n ∧ (3 ≤ n ∧ n ≤ 8) ∧ ∀ p, 0 ≤ p → p < n → DC q p = true := by
 simp only [Cg, Bool.and_eq_true, beq_iff_eq] at h
 obtain ⟨h1, h2, h3⟩ := h
 rw [YD, h2] at h3
 exact ⟨h2, by simpa [right] using h1, h3⟩
theorem SI {n p x : Int} {q : Ls} (j : Nat) (hp : 0 ≤ p ∧ p < n) : Az n q (p + 1) j (if (q.k p == 2) = true then (if p.toNat = j then 0 else x) else x) = Az n q p j x := by
 unfold Az
 by_cases hj : p = (j : Int)
 ·subst hj
  have h1 : ¬ ((j : Int) + 1 ≤ j) := by omega
  have h2 : (j : Int) < n := hp.2
  by_cases hk : q.k (j : Int) = 2
  ·simp [h1, h2, hk]
  ·simp [h1, hk]
 ·have h1 : ¬ p.toNat = j := by omega
  have h2 : p + 1 ≤ (j : Int) ↔ p ≤ (j : Int) := by omega
  simp [h1, h2]
theorem V4 {n p x j : Int} {q : Ls} (hp : n ≤ p) : Az n q p j x = x := by
 unfold Az
 rw [if_neg]; omega
theorem AeZ {n : Int} {q : Ls} (h : Cg n q = true) : q.ok = true := by
 obtain ⟨h1, h2, _⟩ := Hk h
 simp [Ls.ok]; omega
theorem Ae0 {n : Int} (hR : right n = true) (j : Nat) (hj : j < 8) : (Al n).a j = AY n j := by
 rw [Al, if_pos hR]
 match j, hj with
 | 0, _ | 1, _ | 2, _ | 3, _ | 4, _ | 5, _ | 6, _ | 7, _ => rfl
end Day
namespace Day
open Rx Go
theorem SJ {n : Int} {f : Nat → Int} {port age hold pos : Int} (hn : 3 ≤ n ∧ n ≤ 8) (hf : ∀ p, p < 8 → 0 ≤ f p ∧ f p ≤ AY n p) (h1 : 0 ≤ port ∧ port < n) (h2 : 0 ≤ age ∧ age ≤ 2 * n + 1) (h3 : 0 ≤ hold ∧ hold ≤ 2 * n) (h4 : 0 ≤ pos ∧ pos < n) :
  Ak n ⟨AS f, port, age, hold, pos⟩ = true := by
 have hR : right n = true := by simp [right, hn]
 have e (p : Nat) (hp : p < 8) : Be (f p) (AY n p) = true := by rw [Au]; exact hf p hp
 have e1 : Be port (n - 1) = true := by rw [Au]; omega
 have e2 : Be age (2 * n + 1) = true := by rw [Au]; omega
 have e3 : Be hold (2 * n) = true := by rw [Au]; omega
 have e4 : Be pos (n - 1) = true := by rw [Au]; omega
 have g : CM (fun p => Be ((HB.mk (AS f) port age hold pos).a p) (AY n p)) = true := by
  simp only [CM, Bool.and_eq_true]
  exact ⟨⟨⟨⟨⟨⟨⟨e 0 (by omega), e 1 (by omega)⟩, e 2 (by omega)⟩, e 3 (by omega)⟩, e 4 (by omega)⟩, e 5 (by omega)⟩, e 6 (by omega)⟩, e 7 (by omega)⟩
 simp only [Ak, hR, g, e1, e2, e3, e4, Bool.and_self]
theorem LP {n : Int} {h : HB} (hr : Ak n h = true) : (3 ≤ n ∧ n ≤ 8) ∧ (∀ p, p < 8 → 0 ≤ h.a p ∧ h.a p ≤ AY n p) ∧ (0 ≤ h.port ∧ h.port < n) ∧ (0 ≤ h.age ∧ h.age ≤ 2 * n + 1) ∧ (0 ≤ h.hold ∧ h.hold ≤ 2 * n) ∧ (0 ≤ h.pos ∧ h.pos < n) := by
 have hb := Cd hr
 exact ⟨hb.1, SB hr, hb.2.2⟩
theorem AdI (n : Int) (hn : 0 ≤ n) (p : Nat) : 0 ≤ AY n p ∧ AY n p ≤ n := by unfold AY; split <;> omega
theorem ZV {n : Int} {h : HB} (hr : Ak n h = true) : Ak n (Nx h) = true := by
 obtain ⟨h1, h2, h3, h4, h5, h6⟩ := LP hr
 exact SJ h1 h2 h3 h4 h5 h6
theorem Ae1 {n : Int} {h : HB} {q : Ls} (hr : Ak n h = true) (hf : Cg n q = true) : Ee n h q = ⟨AS fun p => if (p : Int) < n ∧ q.k p = 2 then 0 else h.a p, h.port, h.age, h.hold, h.pos⟩ := by
 rw [Ee, if_pos (CI.2 ⟨hr, hf⟩)]
theorem SK {n : Int} {h : HB} {q : Ls} (hr : Ak n h = true) (hf : Cg n q = true) : Ak n (Ee n h q) = true := by
 obtain ⟨h1, h2, h3, h4, h5, h6⟩ := LP hr
 rw [Ae1 hr hf]
 refine SJ h1 (fun p hp => ?_) h3 h4 h5 h6
 have := h2 p hp
 have := AdI n (by omega) p
 split <;> omega
theorem AbW {n : Int} {h : HB} (hr : Ak n h = true) : BE n h = if 2 ≤ DT n h then ⟨AS fun p => h.a p, h.port, h.age, 2 * n, CZ n h⟩ else Nx h := by
 rw [BE, if_pos hr]; rfl
theorem UC {n : Int} {h : HB} (hr : Ak n h = true) : 0 ≤ CZ n h ∧ CZ n h < n := by
 have := SD hr
 have := (LP hr).2.2.2.2.2
 unfold CZ; split <;> omega
theorem Ny {n : Int} {h : HB} (hr : Ak n h = true) : Ak n (BE n h) = true := by
 obtain ⟨h1, h2, h3, h4, h5, h6⟩ := LP hr
 have hs := UC hr
 rw [AbW hr]
 split
 ·exact SJ h1 h2 h3 h4 (by omega) hs
 ·exact ZV hr
theorem SL (x : HB) (hx : x.ages.length = 8) : HB.mk [x.a 0, x.a 1, x.a 2, x.a 3, x.a 4, x.a 5, x.a 6, x.a 7] x.port x.age x.hold x.pos = x := by
 obtain ⟨l, a, b, c, d⟩ := x
 match l, hx with
 | [_, _, _, _, _, _, _, _], _ => rfl
theorem YF (n : Int) (h : HB) (q : Ls) : (Ee n h q).ages.length = 8 := by unfold Ee; split <;> rfl
theorem SM (n : Int) (h : HB) : (BE n h).ages.length = 8 := by unfold BE; split <;> (try split) <;> rfl
theorem YG (n : Int) (h : HB) : (Bq n h).ages.length = 8 := by unfold Bq; split <;> rfl
end Day
namespace Day
open Rx Go
def Ae2 (n : Int) (h : HB) (q : Ls) : HB := BE n (Ee n (Bq n h) q)
def Nz (n : Int) (h : HB) (q : Ls) : HB := if Bh n h q = 0 then D1 n (Ae2 n h q) q else Bp
def H6 (n : Int) (h : HB) (q : Ls) : Fr := if Bh n h q = 0 then CH n (Ae2 n h q) q else B3
structure Ts where
 x : A
 n : Int
end Day
namespace Day
open Rx Go
def P4 (a b : Int) : Bool := decide (a ≤ b)
theorem FK {a b : Int} : P4 a b = true ↔ a ≤ b := by simp [P4]
def Er (q : Ls) (p : Int) : Bool := q.k p == 0 && q.d p == 0
end Day
namespace Day
open Rx Go
def AhU (x : A) : Ls := ⟨x, ((x.A5.length / 2 : Nat) : Int)⟩
def Ts.at (T : Ts) (i : Int) : Ls := AhU (T.x.A5.getD i.toNat (.i 0))
def Ts.ok (T : Ts) : Bool := decide (0 ≤ T.n) && decide (T.n ≤ 9223372036854775807)
end Day
namespace Day
open Rx Go
def Ms (a b : Int) : Bool := decide (a = b)
def GV (x : A) (n : Int) : Bool := decide ((x.A5.length : Int) = 2 * n)
end Day
namespace Day
open Rx Go
end Day
namespace Day
open Rx Go
end Day
namespace Day
open Rx Go
end Day
namespace Day
open Rx Go
def Qh (x : A) (p : Int) (a b : A) : A := .l ((x.A5.set (2 * p.toNat) a).set (1 + 2 * p.toNat) b)
end Day
namespace Day
open Rx Go
end Day
namespace Day
open Rx Go
end Day
namespace Day
open Rx Go
def Ls.FL (q : Ls) : Bool := q.ok && GV q.x q.n
def EF (a : Ls) (p : Int) (x : A) : A := .l ((List.range x.A5.length).map fun (j : Nat) => if 2 * p ≤ (j : Int) ∧ (j : Int) < 2 * a.n ∧ Er a ((j / 2 : Nat) : Int) = false then a.x.A5.getD j (.i 0) else x.A5.getD j (.i 0))
def Fc (a b : Ls) (p : Int) (x : A) : A := .l ((List.range x.A5.length).map fun (j : Nat) => if 2 * p ≤ (j : Int) ∧ (j : Int) < 2 * a.n ∧ Er a ((j / 2 : Nat) : Int) = true then b.x.A5.getD j (.i 0) else x.A5.getD j (.i 0))
def Es (a b : Ls) : A × Int := if a.n = b.n then (EF a 0 b.x, a.n) else (.l [], 0)
def Mc (a b : Ls) : Int := if a.n = b.n then 0 else 2
def Fe (d : Bool) (a b own : Ls) : A × Int := if d then Es a b else (own.x, own.n)
def Md (d : Bool) (a b own : Ls) : Ls := ⟨(Fe d a b own).1, (Fe d a b own).2⟩
def Me (d : Bool) (a b : HB) : HB := if d then a else b
def CL (n : Int) (h0 h1 : HB) (q0 q1 : Ls) : Int := if Ak n h0 && Ak n h1 then (if Cg n q0 && Cg n q1 then 0 else 2) else 1
def DI (n : Int) (h0 h1 : HB) (q0 q1 : Ls) (d0 d1 : Bool) : HB := if CL n h0 h1 q0 q1 = 0 then Nz n h0 (Md d1 q0 q1 q0) else Bp
def DJ (n : Int) (h0 h1 : HB) (q0 q1 : Ls) (d0 d1 : Bool) : HB := if CL n h0 h1 q0 q1 = 0 then Nz n (Me d0 h0 h1) (Md d0 q0 q1 q1) else Bp
def Cv (n : Int) (h0 h1 : HB) (q0 q1 : Ls) (d0 d1 : Bool) : Fr := if CL n h0 h1 q0 q1 = 0 then H6 n h0 (Md d1 q0 q1 q0) else B3
def Cw (n : Int) (h0 h1 : HB) (q0 q1 : Ls) (d0 d1 : Bool) : Fr := if CL n h0 h1 q0 q1 = 0 then H6 n (Me d0 h0 h1) (Md d0 q0 q1 q1) else B3
theorem H7 (x : A) (p : Int) (a b : A) : (Qh x p a b).A5.length = x.A5.length := by simp [Qh]
theorem V5 {x : A} {p : Int} {a b : A} {j : Nat} : (Qh x p a b).A5[j]? = if j < x.A5.length then (if j = 2 * p.toNat then some a else if j = 1 + 2 * p.toNat then some b else x.A5[j]?) else none := by
 rw [show (Qh x p a b).A5 = (x.A5.set (2 * p.toNat) a).set (1 + 2 * p.toNat) b from rfl]
 generalize x.A5 = l
 rw [List.getElem?_set, List.getElem?_set, List.length_set]
 by_cases h1 : 1 + 2 * p.toNat = j
 ·subst h1
  by_cases h3 : 1 + 2 * p.toNat < l.length
  ·rw [if_pos rfl, if_pos h3, if_pos h3, if_neg (by omega), if_pos rfl]
  ·rw [if_pos rfl, if_neg h3, if_neg h3]
 ·rw [if_neg h1]
  by_cases h2 : 2 * p.toNat = j
  ·subst h2
   by_cases h3 : 2 * p.toNat < l.length
   ·rw [if_pos rfl, if_pos h3, if_pos h3, if_pos rfl]
   ·rw [if_pos rfl, if_neg h3, if_neg h3]
  ·rw [if_neg h2]
   by_cases h3 : j < l.length
   ·rw [if_pos h3, if_neg (by omega), if_neg (by omega)]
   ·rw [if_neg h3, List.getElem?_eq_none (by omega)]
theorem V6 {f : Nat → A} {n j : Nat} : ((List.range n).map f)[j]? = if j < n then some (f j) else none := by
 rw [List.getElem?_map]
 by_cases h : j < n
 ·simp [h]
 ·simp [h]
theorem H8 {x : A} {n : Int} : GV x n = true ↔ (x.A5.length : Int) = 2 * n := by simp [GV]
theorem Ls.Et {q : Ls} : q.FL = true ↔ (0 ≤ q.n ∧ q.n ≤ 9223372036854775807) ∧ (q.x.A5.length : Int) = 2 * q.n := by
 simp [Ls.FL, Ls.ok, H8]
theorem F2 (a : Ls) (p : Int) (x : A) (j : Nat) : (EF a p x).A5[j]? = if j < x.A5.length then some (if 2 * p ≤ (j : Int) ∧ (j : Int) < 2 * a.n ∧ Er a ((j / 2 : Nat) : Int) = false then a.x.A5.getD j (.i 0) else x.A5.getD j (.i 0)) else none := by
 exact V6
theorem F3 (a b : Ls) (p : Int) (x : A) (j : Nat) : (Fc a b p x).A5[j]? = if j < x.A5.length then some (if 2 * p ≤ (j : Int) ∧ (j : Int) < 2 * a.n ∧ Er a ((j / 2 : Nat) : Int) = true then b.x.A5.getD j (.i 0) else x.A5.getD j (.i 0)) else none := by
 exact V6
theorem NA {x y : List A} (h : ∀ j : Nat, x[j]? = y[j]?) : A.l x = A.l y := by rw [List.ext_getElem? h]
theorem ZW {a : Ls} {p : Int} {x : A} (hp : 0 ≤ p) (hlt : p < a.n) (hl : (x.A5.length : Int) = 2 * a.n) :
  EF a (p + 1) (if Er a p = true then x else Qh x p (a.x.A5.getD (2 * p.toNat) (.i 0)) (a.x.A5.getD (1 + 2 * p.toNat) (.i 0))) = EF a p x := by
 have e : ∀ y z : A, y.A5.length = z.A5.length → (∀ j : Nat, (EF a (p + 1) y).A5[j]? = (EF a p z).A5[j]?) → EF a (p + 1) y = EF a p z := fun y z _ h => NA h
 cases hq : Er a p with
 | true =>
  simp only [if_true]
  refine e _ _ rfl fun j => ?_
  rw [F2, F2]
  by_cases hj : j < x.A5.length
  ·simp only [hj, if_true, Option.some.injEq]
   by_cases c : 2 * (p + 1) ≤ (j : Int)
   ·simp only [c, true_and, show 2 * p ≤ (j : Int) by omega]
   ·by_cases c2 : 2 * p ≤ (j : Int)
    ·have : ((j / 2 : Nat) : Int) = p := by omega
     simp only [c, false_and, if_false, c2, this, hq]
     simp
    ·simp only [c, c2, false_and, if_false]
  ·simp only [hj, if_false]
 | false =>
  simp only [Bool.false_eq_true, if_false]
  refine e _ _ (H7 _ _ _ _) fun j => ?_
  rw [F2, F2, H7]
  by_cases hj : j < x.A5.length
  ·simp only [hj, if_true, Option.some.injEq]
   have hg : ∀ d, (Qh x p (a.x.A5.getD (2 * p.toNat) (.i 0)) (a.x.A5.getD (1 + 2 * p.toNat) (.i 0))).A5.getD j d = if j = 2 * p.toNat then a.x.A5.getD (2 * p.toNat) (.i 0) else if j = 1 + 2 * p.toNat then a.x.A5.getD (1 + 2 * p.toNat) (.i 0) else x.A5.getD j d := fun d => by
    rw [List.getD_eq_getElem?_getD, V5, if_pos hj]
    split
    ·rfl
    ·split
     ·rfl
     ·rw [List.getD_eq_getElem?_getD]
   rw [hg]
   by_cases c : 2 * (p + 1) ≤ (j : Int)
   ·simp only [c, true_and, show 2 * p ≤ (j : Int) by omega, show ¬ j = 2 * p.toNat by omega, show ¬ j = 1 + 2 * p.toNat by omega, if_false]
   ·by_cases c2 : 2 * p ≤ (j : Int)
    ·have : ((j / 2 : Nat) : Int) = p := by omega
     simp only [c, false_and, if_false, c2, this, hq, show (j : Int) < 2 * a.n by omega, true_and, if_true]
     by_cases c3 : j = 2 * p.toNat
     ·simp only [c3, if_true]
     ·have c4 : j = 1 + 2 * p.toNat := by omega
      simp only [c3, c4, if_true, if_false, show ¬ (1 + 2 * p.toNat = 2 * p.toNat) by omega]
    ·simp only [c, c2, false_and, if_false, show ¬ j = 2 * p.toNat by omega, show ¬ j = 1 + 2 * p.toNat by omega]
  ·simp only [hj, if_false]
theorem ZX {a b : Ls} {p : Int} {x : A} (hp : 0 ≤ p) (hlt : p < a.n) (hl : (x.A5.length : Int) = 2 * a.n) :
  Fc a b (p + 1) (if Er a p = true then Qh x p (b.x.A5.getD (2 * p.toNat) (.i 0)) (b.x.A5.getD (1 + 2 * p.toNat) (.i 0)) else x) = Fc a b p x := by
 have e : ∀ y z : A, (∀ j : Nat, (Fc a b (p + 1) y).A5[j]? = (Fc a b p z).A5[j]?) → Fc a b (p + 1) y = Fc a b p z := fun y z h => NA h
 cases hq : Er a p with
 | false =>
  simp only [Bool.false_eq_true, if_false]
  refine e _ _ fun j => ?_
  rw [F3, F3]
  by_cases hj : j < x.A5.length
  ·simp only [hj, if_true, Option.some.injEq]
   by_cases c : 2 * (p + 1) ≤ (j : Int)
   ·simp only [c, true_and, show 2 * p ≤ (j : Int) by omega]
   ·by_cases c2 : 2 * p ≤ (j : Int)
    ·have : ((j / 2 : Nat) : Int) = p := by omega
     simp only [c, false_and, if_false, c2, this, hq]
     simp
    ·simp only [c, c2, false_and, if_false]
  ·simp only [hj, if_false]
 | true =>
  simp only [if_true]
  refine e _ _ fun j => ?_
  rw [F3, F3, H7]
  by_cases hj : j < x.A5.length
  ·simp only [hj, if_true, Option.some.injEq]
   have hg : ∀ d, (Qh x p (b.x.A5.getD (2 * p.toNat) (.i 0)) (b.x.A5.getD (1 + 2 * p.toNat) (.i 0))).A5.getD j d = if j = 2 * p.toNat then b.x.A5.getD (2 * p.toNat) (.i 0) else if j = 1 + 2 * p.toNat then b.x.A5.getD (1 + 2 * p.toNat) (.i 0) else x.A5.getD j d := fun d => by
    rw [List.getD_eq_getElem?_getD, V5, if_pos hj]
    split
    ·rfl
    ·split
     ·rfl
     ·rw [List.getD_eq_getElem?_getD]
   rw [hg]
   by_cases c : 2 * (p + 1) ≤ (j : Int)
   ·simp only [c, true_and, show 2 * p ≤ (j : Int) by omega, show ¬ j = 2 * p.toNat by omega, show ¬ j = 1 + 2 * p.toNat by omega, if_false]
   ·by_cases c2 : 2 * p ≤ (j : Int)
    ·have : ((j / 2 : Nat) : Int) = p := by omega
     simp only [c, false_and, if_false, c2, this, hq, show (j : Int) < 2 * a.n by omega, true_and, if_true]
     by_cases c3 : j = 2 * p.toNat
     ·simp only [c3, if_true]
     ·have c4 : j = 1 + 2 * p.toNat := by omega
      simp only [c3, c4, if_true, if_false, show ¬ (1 + 2 * p.toNat = 2 * p.toNat) by omega]
    ·simp only [c, c2, false_and, if_false, show ¬ j = 2 * p.toNat by omega, show ¬ j = 1 + 2 * p.toNat by omega]
  ·simp only [hj, if_false]
def Zb (x : A) : Bool := match x with | .l _ => true | _ => false
theorem Af1 {x : A} (h : Zb x = true) : A.l x.A5 = x := by cases x <;> simp [Zb] at h; rfl
theorem AbX {a : Ls} {p : Int} {x : A} (hx : Zb x = true) (hlt : ¬ p < a.n) : EF a p x = x := by
 conv => rhs; rw [← Af1 hx]
 show A.l (EF a p x).A5 = _
 refine NA fun j => ?_
 rw [F2]
 by_cases hj : j < x.A5.length
 ·simp only [hj, if_true]
  rw [if_neg (by omega), List.getD_eq_getElem?_getD, List.getElem?_eq_getElem hj]
  rfl
 ·simp only [hj, if_false]
  rw [List.getElem?_eq_none (by omega)]
theorem AbY {a b : Ls} {p : Int} {x : A} (hx : Zb x = true) (hlt : ¬ p < a.n) : Fc a b p x = x := by
 conv => rhs; rw [← Af1 hx]
 show A.l (Fc a b p x).A5 = _
 refine NA fun j => ?_
 rw [F3]
 by_cases hj : j < x.A5.length
 ·simp only [hj, if_true]
  rw [if_neg (by omega), List.getD_eq_getElem?_getD, List.getElem?_eq_getElem hj]
  rfl
 ·simp only [hj, if_false]
  rw [List.getElem?_eq_none (by omega)]
theorem Agw {a b : Ls} (ha : (a.x.A5.length : Int) = 2 * a.n) (hb : (b.x.A5.length : Int) = 2 * b.n) (hn : a.n = b.n) : Fc a b 0 a.x = EF a 0 b.x := by
 show A.l (Fc a b 0 a.x).A5 = A.l (EF a 0 b.x).A5
 refine NA fun j => ?_
 rw [F2, F3]
 have hl : a.x.A5.length = b.x.A5.length := by omega
 rw [hl]
 by_cases hj : j < b.x.A5.length
 ·simp only [hj, if_true, Option.some.injEq]
  have c1 : 2 * (0 : Int) ≤ (j : Int) := by omega
  have c2 : (j : Int) < 2 * a.n := by omega
  simp only [c1, c2, true_and]
  cases Er a ((j / 2 : Nat) : Int) <;> simp
 ·simp only [hj, if_false]
theorem Agx {n : Int} {d : Bool} {a b own : Ls} (ha : a.n = n) (hb : b.n = n) (ho : own.n = n) : (Fe d a b own).2 = n := by
 unfold Fe Es
 cases d <;> simp [ha, hb, ho]
theorem AdJ {d : Bool} {a b : HB} (ha : a.ages.length = 8) (hb : b.ages.length = 8) : (Me d a b).ages.length = 8 := by cases d <;> assumption
theorem SN {n : Int} {d : Bool} {a b : HB} (ha : Ak n a = true) (hb : Ak n b = true) : Ak n (Me d a b) = true := by cases d <;> assumption
theorem YH {n : Int} {h0 h1 : HB} {q0 q1 : Ls} (r0 : Ak n h0 = true) (r1 : Ak n h1 = true) (f0 : Cg n q0 = true) (f1 : Cg n q1 = true) : CL n h0 h1 q0 q1 = 0 := by simp [CL, r0, r1, f0, f1]
theorem Rt {n : Int} {d : Bool} {a b own : Ls} (hR : right n = true) (ha : a.n = n) (hb : b.n = n) (ho : own.n = n) : Ls.ok (Md d a b own) = true := by
 have hn : 3 ≤ n ∧ n ≤ 8 := by simpa [right] using hR
 have := Agx (d := d) ha hb ho
 simp only [Ls.ok, Md, this, Bool.and_eq_true, decide_eq_true_eq]
 omega
end Day
namespace Day
open Rx Go
end Day

