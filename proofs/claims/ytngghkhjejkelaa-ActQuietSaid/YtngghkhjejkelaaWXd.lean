import Derived.Test.YtngghkhjejkelaaWXc
set_option linter.unusedVariables false
set_option linter.unusedSimpArgs false
namespace Day
structure Fr where
 kind : Int
 id : Int
 deriving DecidableEq
structure ND where
 id : Int
 mode : Int
 count : Int
 pos : Int
 deriving DecidableEq
structure HB where
 ages : List Int
 port : Int
 age : Int
 hold : Int
 pos : Int
 deriving DecidableEq
def HB.a (h : HB) (p : Nat) : Int := h.ages.getD p 0
def right (n : Int) : Bool := decide (3 ≤ n) && decide (n ≤ 8)
def times (k n : Int) : Int := if right n then k * n else 0
def Dt (n i : Int) : Int := if right n then (if i < 0 ∨ n ≤ i then 2 else 0) else 1
def C7 (k n i : Int) : Int := if Dt n i = 0 then k * n + i + 1 else 0
def Bw (c least most : Int) : Int := if c < least then least else if most < c then most else c
def Kp (c most : Int) : Int := if most ≤ max c 0 then most else max c 0 + 1
def DA (c : Int) : Int := if c ≤ 0 then 0 else c - 1
def Ef (n : Int) : Bool := decide (1 ≤ n) && decide (n ≤ 8)
def Fw (n x : Int) : Int := x % n
def BN (n p : Int) : Bool := Ef n && decide (0 ≤ p) && decide (p < n)
def A8 (n p : Int) : Int := (p + 1) % n
def Qv (n p age : Int) : Bool := Ef n && decide (0 ≤ p) && decide (p ≤ 8) && decide (0 ≤ age) && decide (age ≤ 1099511627776)
def atR (n p age : Int) : Int := (p + age) % n
def Cn (n a b : Int) : Bool := BN n a && BN n b
def Co (n a b : Int) : Int := (b - a) % n
def AE (n : Int) (x : ND) : Bool :=
 right n && decide (0 ≤ x.id) && decide (x.id < n) && decide (0 ≤ x.mode) && decide (x.mode ≤ 3) && decide (0 ≤ x.count) && decide (x.count ≤ 1073741824) &&
 (decide (x.mode ≠ 0) || decide (x.count = 0)) && (decide (x.mode = 3) || decide (x.pos = 0)) && decide (0 ≤ x.pos) && decide (x.pos < n)
def Nj (n i : Int) : Int := if right n then (if i < 0 ∨ n ≤ i then 2 else 0) else 1
def C1 : ND := ⟨0, 0, 0, 0⟩
def BK (n i : Int) : ND := if Nj n i = 0 then ⟨i, 0, 0, 0⟩ else C1
def Cp (n i : Int) (x : ND) : ND :=
 if Nj n i = 0 then
  ⟨i, if 1 ≤ x.mode ∧ x.mode ≤ 3 then x.mode else 1, Bw x.count 0 1073741824, if x.mode = 3 then x.pos % n else 0⟩
 else C1
def DB (x : ND) : ND := ⟨x.id, 1, 0, 0⟩
def CO (n : Int) (x : ND) : Int := if x.mode = 1 then C7 4 n x.id else C7 2 n x.id
def G0 (n : Int) (x : ND) : Int :=
 if AE n x then
  if x.mode = 3 then (x.id - x.pos) % n
  else if x.mode = 1 ∨ x.mode = 2 then max 0 (CO n x - x.count)
  else -1
 else -1
def B6 : Fr := ⟨0, 0⟩
def Pk (n : Int) (x : ND) : Int := if AE n x then 0 else 1
def LH (n : Int) (x : ND) : Fr :=
 if AE n x && decide (G0 n x = 0) then (if x.mode = 3 then ⟨2, x.id⟩ else ⟨1, x.id⟩) else B6
end Day
namespace Day
def i64 (x : Int) : Bool := decide (-9223372036854775808 ≤ x) && decide (x ≤ 9223372036854775807)
def u8 (x : Int) : Bool := decide (0 ≤ x) && decide (x ≤ 255)
def u16 (x : Int) : Bool := decide (0 ≤ x) && decide (x ≤ 65535)
def u32 (x : Int) : Bool := decide (0 ≤ x) && decide (x ≤ 4294967295)
def sm (x : Int) : Bool := decide (-4611686018427387904 ≤ x) && decide (x ≤ 4611686018427387904)
def K8 (s : ByteArray) : Int :=
 let l := s.data.toList
 if l = [98, 108, 111, 99, 107] then 2 else if l = [119, 97, 116, 99, 104] then 8 else if l = [108, 97, 116, 101, 114] then 3 else if l = [115, 116, 97, 114, 116] then 40
 else if l = [115, 116, 97, 98, 108, 101] then 96 else if l = [108, 105, 115, 116, 101, 110] then 4 else if l = [99, 111, 108, 100] then 2 else 0
def G1 (s : ByteArray) : Bool := decide (K8 s ≠ 0)
def ND.i64 (x : ND) : Bool := Day.i64 x.id && Day.i64 x.mode && Day.i64 x.count && Day.i64 x.pos
end Day
namespace Day
theorem Kq : K8 ⟨([98, 108, 111, 99, 107] : List UInt8).toArray⟩ = 2 := by decide
theorem Kr : K8 ⟨([119, 97, 116, 99, 104] : List UInt8).toArray⟩ = 8 := by decide
theorem Ks : K8 ⟨([108, 97, 116, 101, 114] : List UInt8).toArray⟩ = 3 := by decide
theorem Kt : K8 ⟨([115, 116, 97, 114, 116] : List UInt8).toArray⟩ = 40 := by decide
theorem IV : K8 ⟨([115, 116, 97, 98, 108, 101] : List UInt8).toArray⟩ = 96 := by decide
theorem IW : K8 ⟨([108, 105, 115, 116, 101, 110] : List UInt8).toArray⟩ = 4 := by decide
theorem MI : K8 ⟨([99, 111, 108, 100] : List UInt8).toArray⟩ = 2 := by decide
theorem OA (s : ByteArray) : 0 ≤ K8 s ∧ K8 s ≤ 96 := by
 unfold K8
 simp only
 split <;> (try split) <;> (try split) <;> (try split) <;> (try split) <;> (try split) <;> (try split) <;> omega
end Day
namespace Day
theorem Pl {n a b : Int} (hn : 3 ≤ n ∧ n ≤ 8) (ha : 0 ≤ a ∧ a < n) (hb : 0 ≤ b ∧ b < n) : (a - b) % n = 0 ↔ a = b := by
 have hn2 : n = 3 ∨ n = 4 ∨ n = 5 ∨ n = 6 ∨ n = 7 ∨ n = 8 := by omega
 clear hn
 rcases hn2 with rfl | rfl | rfl | rfl | rfl | rfl <;> omega
theorem WM {n : Int} {x : ND} (h : AE n x = true) : (x.id - x.pos) % n = 0 ↔ x.id = x.pos := by
 simp only [AE, right, Bool.and_eq_true, decide_eq_true_eq] at h
 exact Pl (by omega) (by omega) (by omega)
end Day
namespace Day
def V8 (q : Nat → Bool) : Bool := q 0 && q 1 && q 2 && q 3 && q 4 && q 5 && q 6 && q 7
def HB.i64 (h : HB) : Bool := V8 (fun p => Day.i64 (h.a p)) && Day.i64 h.port && Day.i64 h.age && Day.i64 h.hold && Day.i64 h.pos
end Day
namespace Day
end Day
namespace Day
end Day
namespace Day
end Day
namespace Day
end Day
namespace Day
def bv (b : Bool) : Int := if b then 1 else 0
end Day
namespace Day
theorem TL (b : Bool) : 0 ≤ bv b ∧ bv b ≤ 1 := by cases b <;> simp [bv]
end Day
namespace Day
end Day
namespace Day
end Day
namespace Day
theorem bs {l o p p' : Int} {b : Bool} (B : 0 ≤ l ∧ l ≤ p) (R : o = l + bv b) (hp : p' = p + 1) : 0 ≤ o ∧ o ≤ p' := by
 have := TL b
 omega
end Day
namespace Day
end Day
namespace Day
end Day
namespace Day
open Rx
def W4 (a : A) : List Int := a.NS.map A.int
def U6 (l : List Int) : A := .l (l.map A.i)
def UB : List A → List Fr
 | x :: y :: l => ⟨x.int, y.int⟩ :: UB l
 | _ => []
def Xa (a : A) : List Fr := UB a.NS
def V9 (l : List Fr) : A := .l (l.flatMap fun f => [.i f.kind, .i f.id])
theorem RT : ∀ l : List Fr, UB (l.flatMap fun f => [.i f.kind, .i f.id]) = l
 | [] => rfl
 | f :: l => by simp [UB, RT l]
@[simp] theorem WN (l : List Fr) : Xa (V9 l) = l := RT l
@[simp] theorem WO (l : List Int) : W4 (U6 l) = l := by
 induction l with
 | nil => rfl
 | cons a l ih => simpa [W4, U6] using ih
end Day
namespace Day
open Rx Go
def Fx (a b : Fr) : Int := if a.kind = 2 then a.id else if b.kind = 2 then b.id else 0
def EH (a b : Fr) : Bool := decide (a.kind = 2) || decide (b.kind = 2)
def SE (i : Int) (f : Fr) : Bool := decide (f.kind = 1) && decide (f.id ≠ i)
def C8 (a b : Fr) (i : Int) : Int := if SE i a then a.id else if SE i b then b.id else 0
def BV (a b : Fr) (i : Int) : Bool := SE i a || SE i b
def E0 (a b : Fr) (p : Int) : Bool := (decide (a.kind = 2) && decide (a.id ≠ p)) || (decide (b.kind = 2) && decide (b.id ≠ p))
def E1 (a b : Fr) (p : Int) : Bool := (decide (a.kind = 2) && decide (a.id = p)) || (decide (b.kind = 2) && decide (b.id = p))
def E2 (n : Int) (f : Fr) : Bool := (decide (f.kind = 0) && decide (f.id = 0)) || ((decide (f.kind = 1) || decide (f.kind = 2)) && decide (0 ≤ f.id) && decide (f.id < n))
def A4 (n : Int) (a b : Fr) : Bool := E2 n a && E2 n b
def K0 (x : ND) (m p : Int) : ND := ⟨x.id, m, 0, p⟩
def Q6 (x : ND) : ND := ⟨x.id, x.mode, Kp x.count 1073741824, x.pos⟩
def K1 (n : Int) (x : ND) : Bool := decide ((LH n x).kind = 1)
def B7 (n : Int) (x : ND) : Int := if AE n x && decide (x.mode ≠ 0) then 0 else 1
def F2 (a b : Fr) (x : ND) : Int := if E1 a b x.pos then 0 else Kp x.count 1073741824
def HJ (n : Int) (x : ND) (a b : Fr) : ND :=
 if E0 a b x.pos then K0 x 1 0 else if BV a b x.id then K0 x 2 0 else
 if 8 * n ≤ F2 a b x then K0 x 1 0 else ⟨x.id, x.mode, F2 a b x, (x.pos + 1) % n⟩
def HK (n : Int) (x : ND) (a b : Fr) : ND :=
 if EH a b then K0 x 3 ((Fx a b + 1) % n) else if decide (x.mode = 2) && BV a b x.id then K0 x 3 ((C8 a b x.id + 1) % n) else
 if K1 n x || BV a b x.id then K0 x 2 0 else Q6 x
def AZ (n : Int) (x : ND) (a b : Fr) : ND := if B7 n x = 0 then (if x.mode = 3 then HJ n x a b else HK n x a b) else C1
def UC (x : ND) (m : Int) : Bool := decide (x.mode = m)
def Wc (x : ND) : Bool := decide (x.mode ≠ 1) && (decide (x.mode ≠ 2) && decide (x.mode ≠ 3))
def Cq (n : Int) : Nat → ND → ND
 | 0, x => x
 | k + 1, x => Cq n k (AZ n x B6 B6)
def Cr (n : Int) (x : ND) (t : Int) : Int := if B7 n x = 0 then (if t < 0 ∨ 1000 < t then 2 else 0) else 1
def B3 (n : Int) (x : ND) (t : Int) : ND := if Cr n x t = 0 then Cq n t.toNat x else C1
theorem AP {n : Int} {x : ND} : AE n x = true ↔ (3 ≤ n ∧ n ≤ 8) ∧ (0 ≤ x.id ∧ x.id < n) ∧ (0 ≤ x.mode ∧ x.mode ≤ 3) ∧ (0 ≤ x.count ∧ x.count ≤ 1073741824) ∧ (x.mode ≠ 0 ∨ x.count = 0) ∧ (x.mode = 3 ∨ x.pos = 0) ∧ 0 ≤ x.pos ∧ x.pos < n := by
 simp only [AE, right, Bool.and_eq_true, Bool.or_eq_true, decide_eq_true_eq]
 omega
theorem Cy {n : Int} {x : ND} : B7 n x = 0 ↔ AE n x = true ∧ x.mode ≠ 0 := by
 unfold B7
 simp only [Bool.and_eq_true, decide_eq_true_eq]
 split <;> simp_all
theorem Q7 {n : Int} {f : Fr} : E2 n f = true ↔ (f.kind = 0 ∧ f.id = 0) ∨ ((f.kind = 1 ∨ f.kind = 2) ∧ 0 ≤ f.id ∧ f.id < n) := by
 simp only [E2, Bool.and_eq_true, Bool.or_eq_true, decide_eq_true_eq, and_assoc]
theorem Sv {c m : Int} (h : 0 ≤ c ∧ c ≤ m) : 0 ≤ Kp c m ∧ Kp c m ≤ m := by unfold Kp; split <;> omega
theorem modn {n : Int} (hn : 3 ≤ n ∧ n ≤ 8) (p : Int) : 0 ≤ p % n ∧ p % n < n := ⟨Int.emod_nonneg _ (by omega), Int.emod_lt_of_pos _ (by omega)⟩
theorem OB {n : Int} {x : ND} {a b : Fr} (he : B7 n x = 0) (hh : A4 n a b = true) : AE n (AZ n x a b) = true ∧ (AZ n x a b).mode ≠ 0 ∧ (AZ n x a b).id = x.id := by
 obtain ⟨hr, hm⟩ := Cy.1 he
 have h := AP.1 hr
 obtain ⟨hn, hi, hmm, hc, h5, h6, h7, h8⟩ := h
 have m1 := fun p => modn hn p
 have hu := Sv hc
 rw [AZ, if_pos he]
 have tr : ∀ m p, 1 ≤ m → m ≤ 3 → (m = 3 ∨ p = 0) → 0 ≤ p → p < n → AE n (K0 x m p) = true ∧ (K0 x m p).mode ≠ 0 ∧ (K0 x m p).id = x.id := fun m p h1 h2 h3 h4 h5 => by
  refine ⟨AP.2 ?_, ?_, rfl⟩
  ·simp only [K0]; omega
  ·simp only [K0]; omega
 split
 ·rename_i h3
  unfold HJ
  split
  ·exact tr 1 0 (by omega) (by omega) (by omega) (by omega) (by omega)
  ·split
   ·exact tr 2 0 (by omega) (by omega) (by omega) (by omega) (by omega)
   ·split
    ·exact tr 1 0 (by omega) (by omega) (by omega) (by omega) (by omega)
    ·refine ⟨AP.2 ?_, hm, rfl⟩
     have := m1 (x.pos + 1)
     have hcc : 0 ≤ F2 a b x ∧ F2 a b x ≤ 1073741824 := by unfold F2; split <;> omega
     simp only
     omega
 ·rename_i h3
  unfold HK
  split
  ·have := m1 (Fx a b + 1)
   exact tr 3 _ (by omega) (by omega) (by omega) this.1 this.2
  ·split
   ·have := m1 (C8 a b x.id + 1)
    exact tr 3 _ (by omega) (by omega) (by omega) this.1 this.2
   ·split
    ·exact tr 2 0 (by omega) (by omega) (by omega) (by omega) (by omega)
    ·refine ⟨AP.2 ?_, hm, rfl⟩
     simp only [Q6]
     omega
theorem JD {n p : Int} (hR : right n = true) (h : 0 ≤ p ∧ p < n) : BN n p = true := by
 simp only [right, Bool.and_eq_true, decide_eq_true_eq] at hR
 simp only [BN, Ef, Bool.and_eq_true, decide_eq_true_eq]
 omega
theorem JE {n : Int} {f : Fr} (h : E2 n f = true) (hk : f.kind = 1 ∨ f.kind = 2) : 0 ≤ f.id ∧ f.id < n := by
 rcases Q7.1 h with h | h <;> omega
theorem Q8 {n : Int} {a b : Fr} (hh : A4 n a b = true) (hi : EH a b = true) : 0 ≤ Fx a b ∧ Fx a b < n := by
 simp only [A4, Bool.and_eq_true] at hh
 simp only [EH, Bool.or_eq_true, decide_eq_true_eq] at hi
 unfold Fx
 split
 ·exact JE hh.1 (.inr (by assumption))
 ·split
  ·exact JE hh.2 (.inr (by assumption))
  ·omega
theorem Qn {n i : Int} {a b : Fr} (hh : A4 n a b = true) (hi : BV a b i = true) : 0 ≤ C8 a b i ∧ C8 a b i < n := by
 simp only [A4, Bool.and_eq_true] at hh
 unfold C8
 unfold BV at hi
 split
 ·rename_i h
  simp only [SE, Bool.and_eq_true, decide_eq_true_eq] at h
  exact JE hh.1 (.inl h.1)
 ·rename_i h
  split
  ·rename_i h
   simp only [SE, Bool.and_eq_true, decide_eq_true_eq] at h
   exact JE hh.2 (.inl h.1)
  ·simp_all
theorem OC {n : Int} {a b : Fr} (hR : right n = true) (hh : A4 n a b = true) (hi : EH a b = true) : BN n (Fx a b) = true := JD hR (Q8 hh hi)
theorem Q9 {n i : Int} {a b : Fr} (hR : right n = true) (hh : A4 n a b = true) (hi : BV a b i = true) : BN n (C8 a b i) = true := JD hR (Qn hh hi)
theorem Pm (n : Int) (x : ND) : ((LH n x).kind == 1) = K1 n x := by
 unfold K1
 rw [Bool.eq_iff_iff]
 simp
theorem F3 {n : Int} {x : ND} (h : AE n x = true) : right n = true := by
 have := AP.1 h
 simp [right, this]
theorem Ra {n t i : Int} {x : ND} (hi : i < t) : Cq n (t - i).toNat x = Cq n (t - (i + 1)).toNat (AZ n x B6 B6) := by
 rw [show (t - i).toNat = (t - (i + 1)).toNat + 1 by omega]
 rfl
theorem Sw {n t i : Int} {x : ND} (hi : ¬ i < t) : Cq n (t - i).toNat x = x := by
 rw [show (t - i).toNat = 0 by omega]
 rfl
def qI (n : Int) (x : ND) : Bool := decide (B7 n x = 0)
def qT (t i : Int) : Bool := decide (0 ≤ i) && (decide (i ≤ t) && decide (t ≤ 1000))
theorem Rb {n : Int} {x : ND} : qI n x = true ↔ B7 n x = 0 := by simp [qI]
theorem Rc {t i : Int} : qT t i = true ↔ 0 ≤ i ∧ i ≤ t ∧ t ≤ 1000 := by simp [qT]
theorem IX (n : Int) : A4 n B6 B6 = true := by simp [A4, E2, B6]
theorem MJ {n : Int} {x : ND} (h : AE n x = true) : x.i64 = true := by
 have := AP.1 h
 simp only [ND.i64, i64, Bool.and_eq_true, decide_eq_true_eq]
 omega
end Day
namespace Day
open Rx Go
def Xb (x : Int) : Int := 3 + x % 6
theorem Vz {x v13 v14 v15 : Int} (hx : u8 x = true) (h13 : v13 = Ir .rem .u8 x 6) (h14 : v14 = IntKind.wrap .i64 v13) (h15 : v15 = HU .add .i64 3 v14) : v15 = Xb x ∧ right v15 = true := by
 simp only [u8, Bool.and_eq_true, decide_eq_true_eq] at hx
 have e : v13 = x % 6 := by
  rw [h13]
  simp only [Ir]
  rw [Int.tmod_eq_emod_of_nonneg hx.1]
 have hm : 0 ≤ x % 6 ∧ x % 6 < 6 := ⟨Int.emod_nonneg _ (by omega), Int.emod_lt_of_pos _ (by omega)⟩
 rw [wrap64 (by omega) (by omega)] at h14
 simp only [HU] at h15
 rw [wrap64 (by omega) (by omega)] at h15
 refine ⟨by rw [h15, h14, e]; rfl, ?_⟩
 simp only [right, Bool.and_eq_true, decide_eq_true_eq]
 omega
end Day
namespace Day
open Rx Go
theorem Pn {n i c p : Int} (hn : 3 ≤ n ∧ n ≤ 8) (hi : 0 ≤ i ∧ i < n) (hc : 0 ≤ c ∧ c < 8 * n) (hp : 0 ≤ p ∧ p < n) : B7 n ⟨i, 3, c, p⟩ = 0 := by
 exact Cy.2 ⟨AP.2 ⟨hn, hi, ⟨by simp, by simp⟩, ⟨hc.1, by show c ≤ _; omega⟩, .inl (by simp), .inl rfl, hp.1, hp.2⟩, by simp⟩
theorem IY {n i c p : Int} (hn : 3 ≤ n ∧ n ≤ 8) (hi : 0 ≤ i ∧ i < n) (hc : 0 ≤ c ∧ c < 8 * n) (hp : 0 ≤ p ∧ p < n) :
  AZ n ⟨i, 3, c, p⟩ B6 B6 = if 8 * n ≤ c + 1 then ⟨i, 1, 0, 0⟩ else ⟨i, 3, c + 1, (p + 1) % n⟩ := by
 have hu : Kp c 1073741824 = c + 1 := by unfold Kp; split <;> omega
 rw [AZ, if_pos (Pn hn hi hc hp)]
 simp [HJ, E0, BV, SE, F2, E1, B6, hu, K0]
theorem JF {n i : Int} (hn : 3 ≤ n ∧ n ≤ 8) (hi : 0 ≤ i ∧ i < n) : ∀ (k : Nat) {c p : Int}, 0 ≤ c → c + k < 8 * n → 0 ≤ p → p < n → Cq n k ⟨i, 3, c, p⟩ = ⟨i, 3, c + k, (p + k) % n⟩
 | 0, c, p, h1, h2, h3, h4 => by
  show (⟨i, 3, c, p⟩ : ND) = _
  rw [show (p + ((0 : Nat) : Int)) % n = p by rw [Int.natCast_zero, Int.add_zero]; exact Int.emod_eq_of_lt h3 h4]
  simp
 | k + 1, c, p, h1, h2, h3, h4 => by
  have h2' : c + (k : Int) + 1 < 8 * n := by omega
  show Cq n k (AZ n ⟨i, 3, c, p⟩ B6 B6) = _
  rw [IY hn hi ⟨h1, by omega⟩ ⟨h3, h4⟩, if_neg (by omega)]
  have m1 := modn hn (p + 1)
  rw [JF hn hi k (by omega) (by omega) m1.1 m1.2]
  congr 1
  ·omega
  ·rw [Int.emod_add_emod]
   congr 1
   omega
theorem MK {n i : Int} (hn : 3 ≤ n ∧ n ≤ 8) (hi : 0 ≤ i ∧ i < n) : ∀ (k : Nat) {c p : Int}, 0 ≤ c → c < 8 * n → c + k = 8 * n → 0 ≤ p → p < n → Cq n k ⟨i, 3, c, p⟩ = ⟨i, 1, 0, 0⟩
 | 0, c, p, h1, h2, h3, h4, h5 => by omega
 | k + 1, c, p, h1, h2, h3, h4, h5 => by
  show Cq n k (AZ n ⟨i, 3, c, p⟩ B6 B6) = _
  rw [IY hn hi ⟨h1, h2⟩ ⟨h4, h5⟩]
  split
  ·obtain rfl : k = 0 := by omega
   rfl
  ·have m1 := modn hn (p + 1)
   exact MK hn hi k (by omega) (by omega) (by omega) m1.1 m1.2
theorem ML {n : Int} : ∀ (k : Nat) {x : ND}, B7 n x = 0 → x.mode ≠ 3 → (Cq n k x).mode ≠ 3
 | 0, x, _, h => h
 | k + 1, x, hE, h => by
  obtain ⟨h1, h2, _⟩ := OB hE (IX n)
  refine ML k (Cy.2 ⟨h1, h2⟩) ?_
  rw [AZ, if_pos hE, if_neg h]
  unfold HK
  rw [if_neg (by simp [EH, B6]), if_neg (by simp [BV, SE, B6])]
  split
  ·simp [K0]
  ·exact h
theorem MM {n i : Int} (hn : 3 ≤ n ∧ n ≤ 8) (hi : 0 ≤ i ∧ i < n) : ∀ (k : Nat) {c p : Int}, 0 ≤ c → c < 8 * n → 8 * n ≤ c + k → 0 ≤ p → p < n → (Cq n k ⟨i, 3, c, p⟩).mode ≠ 3
 | 0, c, p, h1, h2, h3, h4, h5 => by omega
 | k + 1, c, p, h1, h2, h3, h4, h5 => by
  show (Cq n k (AZ n ⟨i, 3, c, p⟩ B6 B6)).mode ≠ 3
  rw [IY hn hi ⟨h1, h2⟩ ⟨h4, h5⟩]
  split
  ·exact ML k (Cy.2 ⟨AP.2 ⟨hn, hi, ⟨by simp, by simp⟩, ⟨by simp, by simp⟩, .inl (by simp), .inr rfl, by simp, by show (0 : Int) < n; omega⟩, by simp⟩) (by simp)
  ·have m1 := modn hn (p + 1)
   exact MM hn hi k (by omega) (by omega) (by omega) m1.1 m1.2
theorem Sx {n i c p : Int} (hn : 3 ≤ n ∧ n ≤ 8) (hi : 0 ≤ i ∧ i < n) (hc : 0 ≤ c ∧ c < 8 * n) (hp : 0 ≤ p ∧ p < n) :
  Cr n ⟨i, 3, c, p⟩ n = 0 ∧ Cr n ⟨i, 3, c, p⟩ (8 * n - c) = 0 ∧ B3 n ⟨i, 3, c, p⟩ (8 * n - c) = ⟨i, 1, 0, 0⟩ ∧
   (c + n < 8 * n → B3 n ⟨i, 3, c, p⟩ n = ⟨i, 3, c + n, p⟩) ∧ (8 * n ≤ c + n → (B3 n ⟨i, 3, c, p⟩ n).mode ≠ 3) := by
 have hE := Pn hn hi hc hp
 have e1 : Cr n ⟨i, 3, c, p⟩ n = 0 := by rw [Cr, if_pos hE, if_neg (by omega)]
 have e2 : Cr n ⟨i, 3, c, p⟩ (8 * n - c) = 0 := by rw [Cr, if_pos hE, if_neg (by omega)]
 refine ⟨e1, e2, ?_, fun h => ?_, fun h => ?_⟩
 ·rw [B3, if_pos e2]
  exact MK hn hi _ hc.1 hc.2 (by omega) hp.1 hp.2
 ·rw [B3, if_pos e1, JF hn hi _ hc.1 (by omega) hp.1 hp.2]
  rw [show ((n.toNat : Nat) : Int) = n by omega, Int.add_emod_right, Int.emod_eq_of_lt hp.1 hp.2]
 ·rw [B3, if_pos e1]
  exact MM hn hi _ hc.1 hc.2 (by omega) hp.1 hp.2
end Day

