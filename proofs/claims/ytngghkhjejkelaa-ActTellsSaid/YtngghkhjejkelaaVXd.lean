import Derived.Test.YtngghkhjejkelaaVXc
set_option linter.unusedVariables false
set_option linter.unusedSimpArgs false
namespace Day
structure Fr where
 kind : Int
 id : Int
 deriving DecidableEq
structure ND where
 id : Int
 mode : Int
 count : Int
 pos : Int
 deriving DecidableEq
structure HB where
 ages : List Int
 port : Int
 age : Int
 hold : Int
 pos : Int
 deriving DecidableEq
def HB.a (h : HB) (p : Nat) : Int := h.ages.getD p 0
def right (n : Int) : Bool := decide (3 ≤ n) && decide (n ≤ 8)
def times (k n : Int) : Int := if right n then k * n else 0
def Bu (n i : Int) : Int := if right n then (if i < 0 ∨ n ≤ i then 2 else 0) else 1
def Bs (k n i : Int) : Int := if Bu n i = 0 then k * n + i + 1 else 0
def AP (c least most : Int) : Int := if c < least then least else if most < c then most else c
def EP (c most : Int) : Int := if most ≤ max c 0 then most else max c 0 + 1
def Bw (c : Int) : Int := if c ≤ 0 then 0 else c - 1
def BR (n : Int) : Bool := decide (1 ≤ n) && decide (n ≤ 8)
def Ca (n x : Int) : Int := x % n
def A2 (n p : Int) : Bool := BR n && decide (0 ≤ p) && decide (p < n)
def AF (n p : Int) : Int := (p + 1) % n
def Iv (n p age : Int) : Bool := BR n && decide (0 ≤ p) && decide (p ≤ 8) && decide (0 ≤ age) && decide (age ≤ 1099511627776)
def atR (n p age : Int) : Int := (p + age) % n
def AT (n a b : Int) : Bool := A2 n a && A2 n b
def AU (n a b : Int) : Int := (b - a) % n
def Ap (n : Int) (x : ND) : Bool :=
 right n && decide (0 ≤ x.id) && decide (x.id < n) && decide (0 ≤ x.mode) && decide (x.mode ≤ 3) && decide (0 ≤ x.count) && decide (x.count ≤ 1073741824) &&
 (decide (x.mode ≠ 0) || decide (x.count = 0)) && (decide (x.mode = 3) || decide (x.pos = 0)) && decide (0 ≤ x.pos) && decide (x.pos < n)
def GC (n i : Int) : Int := if right n then (if i < 0 ∨ n ≤ i then 2 else 0) else 1
def Bx : ND := ⟨0, 0, 0, 0⟩
def AV (n i : Int) : ND := if GC n i = 0 then ⟨i, 0, 0, 0⟩ else Bx
def A3 (n i : Int) (x : ND) : ND :=
 if GC n i = 0 then
  ⟨i, if 1 ≤ x.mode ∧ x.mode ≤ 3 then x.mode else 1, AP x.count 0 1073741824, if x.mode = 3 then x.pos % n else 0⟩
 else Bx
def By (x : ND) : ND := ⟨x.id, 1, 0, 0⟩
def Bk (n : Int) (x : ND) : Int := if x.mode = 1 then Bs 4 n x.id else Bs 2 n x.id
def Co (n : Int) (x : ND) : Int :=
 if Ap n x then
  if x.mode = 3 then (x.id - x.pos) % n
  else if x.mode = 1 ∨ x.mode = 2 then max 0 (Bk n x - x.count)
  else -1
 else -1
def BS : Fr := ⟨0, 0⟩
def GD (n : Int) (x : ND) : Int := if Ap n x then 0 else 1
def EC (n : Int) (x : ND) : Fr :=
 if Ap n x && decide (Co n x = 0) then (if x.mode = 3 then ⟨2, x.id⟩ else ⟨1, x.id⟩) else BS
end Day
namespace Day
def i64 (x : Int) : Bool := decide (-9223372036854775808 ≤ x) && decide (x ≤ 9223372036854775807)
def u8 (x : Int) : Bool := decide (0 ≤ x) && decide (x ≤ 255)
def u16 (x : Int) : Bool := decide (0 ≤ x) && decide (x ≤ 65535)
def u32 (x : Int) : Bool := decide (0 ≤ x) && decide (x ≤ 4294967295)
def sm (x : Int) : Bool := decide (-4611686018427387904 ≤ x) && decide (x ≤ 4611686018427387904)
def NI (s : ByteArray) : Int :=
 let l := s.data.toList
 if l = [98, 108, 111, 99, 107] then 2 else if l = [119, 97, 116, 99, 104] then 8 else if l = [108, 97, 116, 101, 114] then 3 else if l = [115, 116, 97, 114, 116] then 40
 else if l = [115, 116, 97, 98, 108, 101] then 96 else if l = [108, 105, 115, 116, 101, 110] then 4 else if l = [99, 111, 108, 100] then 2 else 0
def Iw (s : ByteArray) : Bool := decide (NI s ≠ 0)
def ND.i64 (x : ND) : Bool := Day.i64 x.id && Day.i64 x.mode && Day.i64 x.count && Day.i64 x.pos
end Day
namespace Day
theorem Mv : NI ⟨([98, 108, 111, 99, 107] : List UInt8).toArray⟩ = 2 := by decide
theorem Mw : NI ⟨([119, 97, 116, 99, 104] : List UInt8).toArray⟩ = 8 := by decide
theorem Mx : NI ⟨([108, 97, 116, 101, 114] : List UInt8).toArray⟩ = 3 := by decide
theorem My : NI ⟨([115, 116, 97, 114, 116] : List UInt8).toArray⟩ = 40 := by decide
theorem Ky : NI ⟨([115, 116, 97, 98, 108, 101] : List UInt8).toArray⟩ = 96 := by decide
theorem Kz : NI ⟨([108, 105, 115, 116, 101, 110] : List UInt8).toArray⟩ = 4 := by decide
theorem PG : NI ⟨([99, 111, 108, 100] : List UInt8).toArray⟩ = 2 := by decide
theorem R0 (s : ByteArray) : 0 ≤ NI s ∧ NI s ≤ 96 := by
 unfold NI
 simp only
 split <;> (try split) <;> (try split) <;> (try split) <;> (try split) <;> (try split) <;> (try split) <;> omega
end Day
namespace Day
theorem SL {n a b : Int} (hn : 3 ≤ n ∧ n ≤ 8) (ha : 0 ≤ a ∧ a < n) (hb : 0 ≤ b ∧ b < n) : (a - b) % n = 0 ↔ a = b := by
 have hn2 : n = 3 ∨ n = 4 ∨ n = 5 ∨ n = 6 ∨ n = 7 ∨ n = 8 := by omega
 clear hn
 rcases hn2 with rfl | rfl | rfl | rfl | rfl | rfl <;> omega
theorem Aba {n : Int} {x : ND} (h : Ap n x = true) : (x.id - x.pos) % n = 0 ↔ x.id = x.pos := by
 simp only [Ap, right, Bool.and_eq_true, decide_eq_true_eq] at h
 exact SL (by omega) (by omega) (by omega)
end Day
namespace Day
def YE (q : Nat → Bool) : Bool := q 0 && q 1 && q 2 && q 3 && q 4 && q 5 && q 6 && q 7
def HB.i64 (h : HB) : Bool := YE (fun p => Day.i64 (h.a p)) && Day.i64 h.port && Day.i64 h.age && Day.i64 h.hold && Day.i64 h.pos
end Day
namespace Day
end Day
namespace Day
end Day
namespace Day
end Day
namespace Day
end Day
namespace Day
def bv (b : Bool) : Int := if b then 1 else 0
end Day
namespace Day
theorem Xo (b : Bool) : 0 ≤ bv b ∧ bv b ≤ 1 := by cases b <;> simp [bv]
end Day
namespace Day
end Day
namespace Day
end Day
namespace Day
theorem bs {l o p p' : Int} {b : Bool} (B : 0 ≤ l ∧ l ≤ p) (R : o = l + bv b) (hp : p' = p + 1) : 0 ≤ o ∧ o ≤ p' := by
 have := Xo b
 omega
end Day
namespace Day
end Day
namespace Day
end Day
namespace Day
open Rx
def ils (a : A) : List Int := a.Rj.map A.int
def Zv (l : List Int) : A := .l (l.map A.i)
def YF : List A → List Fr
 | x :: y :: l => ⟨x.int, y.int⟩ :: YF l
 | _ => []
def frs (a : A) : List Fr := YF a.Rj
def AaO (l : List Fr) : A := .l (l.flatMap fun f => [.i f.kind, .i f.id])
theorem Vw : ∀ l : List Fr, YF (l.flatMap fun f => [.i f.kind, .i f.id]) = l
 | [] => rfl
 | f :: l => by simp [YF, Vw l]
@[simp] theorem Abb (l : List Fr) : frs (AaO l) = l := Vw l
@[simp] theorem Abc (l : List Int) : ils (Zv l) = l := by
 induction l with
 | nil => rfl
 | cons a l ih => simpa [ils, Zv] using ih
end Day
namespace Day
open Rx Go
def CE (a b : Fr) : Int := if a.kind = 2 then a.id else if b.kind = 2 then b.id else 0
def Ce (a b : Fr) : Bool := decide (a.kind = 2) || decide (b.kind = 2)
def Tf (i : Int) (f : Fr) : Bool := decide (f.kind = 1) && decide (f.id ≠ i)
def BT (a b : Fr) (i : Int) : Int := if Tf i a then a.id else if Tf i b then b.id else 0
def Bl (a b : Fr) (i : Int) : Bool := Tf i a || Tf i b
def BU (a b : Fr) (p : Int) : Bool := (decide (a.kind = 2) && decide (a.id ≠ p)) || (decide (b.kind = 2) && decide (b.id ≠ p))
def Cc (a b : Fr) (p : Int) : Bool := (decide (a.kind = 2) && decide (a.id = p)) || (decide (b.kind = 2) && decide (b.id = p))
def CM (n : Int) (f : Fr) : Bool := (decide (f.kind = 0) && decide (f.id = 0)) || ((decide (f.kind = 1) || decide (f.kind = 2)) && decide (0 ≤ f.id) && decide (f.id < n))
def AE (n : Int) (a b : Fr) : Bool := CM n a && CM n b
def GI (x : ND) (m p : Int) : ND := ⟨x.id, m, 0, p⟩
def NJ (x : ND) : ND := ⟨x.id, x.mode, EP x.count 1073741824, x.pos⟩
def JW (n : Int) (x : ND) : Bool := decide ((EC n x).kind = 1)
def Bm (n : Int) (x : ND) : Int := if Ap n x && decide (x.mode ≠ 0) then 0 else 1
def Dm (a b : Fr) (x : ND) : Int := if Cc a b x.pos then 0 else EP x.count 1073741824
def C2 (n : Int) (x : ND) (a b : Fr) : ND :=
 if BU a b x.pos then GI x 1 0 else if Bl a b x.id then GI x 2 0 else
 if 8 * n ≤ Dm a b x then GI x 1 0 else ⟨x.id, x.mode, Dm a b x, (x.pos + 1) % n⟩
def Dw (n : Int) (x : ND) (a b : Fr) : ND :=
 if Ce a b then GI x 3 ((CE a b + 1) % n) else if decide (x.mode = 2) && Bl a b x.id then GI x 3 ((BT a b x.id + 1) % n) else
 if JW n x || Bl a b x.id then GI x 2 0 else NJ x
def AI (n : Int) (x : ND) (a b : Fr) : ND := if Bm n x = 0 then (if x.mode = 3 then C2 n x a b else Dw n x a b) else Bx
def YG (x : ND) (m : Int) : Bool := decide (x.mode = m)
def noM (x : ND) : Bool := decide (x.mode ≠ 1) && (decide (x.mode ≠ 2) && decide (x.mode ≠ 3))
def DI (n : Int) : Nat → ND → ND
 | 0, x => x
 | k + 1, x => DI n k (AI n x BS BS)
def Cp (n : Int) (x : ND) (t : Int) : Int := if Bm n x = 0 then (if t < 0 ∨ 1000 < t then 2 else 0) else 1
def CF (n : Int) (x : ND) (t : Int) : ND := if Cp n x t = 0 then DI n t.toNat x else Bx
theorem A4 {n : Int} {x : ND} : Ap n x = true ↔ (3 ≤ n ∧ n ≤ 8) ∧ (0 ≤ x.id ∧ x.id < n) ∧ (0 ≤ x.mode ∧ x.mode ≤ 3) ∧ (0 ≤ x.count ∧ x.count ≤ 1073741824) ∧ (x.mode ≠ 0 ∨ x.count = 0) ∧ (x.mode = 3 ∨ x.pos = 0) ∧ 0 ≤ x.pos ∧ x.pos < n := by
 simp only [Ap, right, Bool.and_eq_true, Bool.or_eq_true, decide_eq_true_eq]
 omega
theorem BZ {n : Int} {x : ND} : Bm n x = 0 ↔ Ap n x = true ∧ x.mode ≠ 0 := by
 unfold Bm
 simp only [Bool.and_eq_true, decide_eq_true_eq]
 split <;> simp_all
theorem UI {n : Int} {f : Fr} : CM n f = true ↔ (f.kind = 0 ∧ f.id = 0) ∨ ((f.kind = 1 ∨ f.kind = 2) ∧ 0 ≤ f.id ∧ f.id < n) := by
 simp only [CM, Bool.and_eq_true, Bool.or_eq_true, decide_eq_true_eq, and_assoc]
theorem V7 {c m : Int} (h : 0 ≤ c ∧ c ≤ m) : 0 ≤ EP c m ∧ EP c m ≤ m := by unfold EP; split <;> omega
theorem modn {n : Int} (hn : 3 ≤ n ∧ n ≤ 8) (p : Int) : 0 ≤ p % n ∧ p % n < n := ⟨Int.emod_nonneg _ (by omega), Int.emod_lt_of_pos _ (by omega)⟩
theorem Mz {n : Int} {x : ND} {a b : Fr} (he : Bm n x = 0) (hh : AE n a b = true) : Ap n (AI n x a b) = true ∧ (AI n x a b).mode ≠ 0 ∧ (AI n x a b).id = x.id := by
 obtain ⟨hr, hm⟩ := BZ.1 he
 have h := A4.1 hr
 obtain ⟨hn, hi, hmm, hc, h5, h6, h7, h8⟩ := h
 have m1 := fun p => modn hn p
 have hu := V7 hc
 rw [AI, if_pos he]
 have tr : ∀ m p, 1 ≤ m → m ≤ 3 → (m = 3 ∨ p = 0) → 0 ≤ p → p < n → Ap n (GI x m p) = true ∧ (GI x m p).mode ≠ 0 ∧ (GI x m p).id = x.id := fun m p h1 h2 h3 h4 h5 => by
  refine ⟨A4.2 ?_, ?_, rfl⟩
  ·simp only [GI]; omega
  ·simp only [GI]; omega
 split
 ·rename_i h3
  unfold C2
  split
  ·exact tr 1 0 (by omega) (by omega) (by omega) (by omega) (by omega)
  ·split
   ·exact tr 2 0 (by omega) (by omega) (by omega) (by omega) (by omega)
   ·split
    ·exact tr 1 0 (by omega) (by omega) (by omega) (by omega) (by omega)
    ·refine ⟨A4.2 ?_, hm, rfl⟩
     have := m1 (x.pos + 1)
     have hcc : 0 ≤ Dm a b x ∧ Dm a b x ≤ 1073741824 := by unfold Dm; split <;> omega
     simp only
     omega
 ·rename_i h3
  unfold Dw
  split
  ·have := m1 (CE a b + 1)
   exact tr 3 _ (by omega) (by omega) (by omega) this.1 this.2
  ·split
   ·have := m1 (BT a b x.id + 1)
    exact tr 3 _ (by omega) (by omega) (by omega) this.1 this.2
   ·split
    ·exact tr 2 0 (by omega) (by omega) (by omega) (by omega) (by omega)
    ·refine ⟨A4.2 ?_, hm, rfl⟩
     simp only [NJ]
     omega
theorem Jp {n p : Int} (hR : right n = true) (h : 0 ≤ p ∧ p < n) : A2 n p = true := by
 simp only [right, Bool.and_eq_true, decide_eq_true_eq] at hR
 simp only [A2, BR, Bool.and_eq_true, decide_eq_true_eq]
 omega
theorem GF {n : Int} {f : Fr} (h : CM n f = true) (hk : f.kind = 1 ∨ f.kind = 2) : 0 ≤ f.id ∧ f.id < n := by
 rcases UI.1 h with h | h <;> omega
theorem UJ {n : Int} {a b : Fr} (hh : AE n a b = true) (hi : Ce a b = true) : 0 ≤ CE a b ∧ CE a b < n := by
 simp only [AE, Bool.and_eq_true] at hh
 simp only [Ce, Bool.or_eq_true, decide_eq_true_eq] at hi
 unfold CE
 split
 ·exact GF hh.1 (.inr (by assumption))
 ·split
  ·exact GF hh.2 (.inr (by assumption))
  ·omega
theorem TX {n i : Int} {a b : Fr} (hh : AE n a b = true) (hi : Bl a b i = true) : 0 ≤ BT a b i ∧ BT a b i < n := by
 simp only [AE, Bool.and_eq_true] at hh
 unfold BT
 unfold Bl at hi
 split
 ·rename_i h
  simp only [Tf, Bool.and_eq_true, decide_eq_true_eq] at h
  exact GF hh.1 (.inl h.1)
 ·rename_i h
  split
  ·rename_i h
   simp only [Tf, Bool.and_eq_true, decide_eq_true_eq] at h
   exact GF hh.2 (.inl h.1)
  ·simp_all
theorem MA {n : Int} {a b : Fr} (hR : right n = true) (hh : AE n a b = true) (hi : Ce a b = true) : A2 n (CE a b) = true := Jp hR (UJ hh hi)
theorem PH {n i : Int} {a b : Fr} (hR : right n = true) (hh : AE n a b = true) (hi : Bl a b i = true) : A2 n (BT a b i) = true := Jp hR (TX hh hi)
theorem OJ (n : Int) (x : ND) : ((EC n x).kind == 1) = JW n x := by
 unfold JW
 rw [Bool.eq_iff_iff]
 simp
theorem Dx {n : Int} {x : ND} (h : Ap n x = true) : right n = true := by
 have := A4.1 h
 simp [right, this]
theorem PI {n t i : Int} {x : ND} (hi : i < t) : DI n (t - i).toNat x = DI n (t - (i + 1)).toNat (AI n x BS BS) := by
 rw [show (t - i).toNat = (t - (i + 1)).toNat + 1 by omega]
 rfl
theorem R1 {n t i : Int} {x : ND} (hi : ¬ i < t) : DI n (t - i).toNat x = x := by
 rw [show (t - i).toNat = 0 by omega]
 rfl
def qI (n : Int) (x : ND) : Bool := decide (Bm n x = 0)
def qT (t i : Int) : Bool := decide (0 ≤ i) && (decide (i ≤ t) && decide (t ≤ 1000))
theorem MB {n : Int} {x : ND} : qI n x = true ↔ Bm n x = 0 := by simp [qI]
theorem MC {t i : Int} : qT t i = true ↔ 0 ≤ i ∧ i ≤ t ∧ t ≤ 1000 := by simp [qT]
theorem Hd (n : Int) : AE n BS BS = true := by simp [AE, CM, BS]
theorem KA {n : Int} {x : ND} (h : Ap n x = true) : x.i64 = true := by
 have := A4.1 h
 simp only [ND.i64, i64, Bool.and_eq_true, decide_eq_true_eq]
 omega
end Day
namespace Day
open Rx Go
def u8m (x : Int) : Int := 3 + x % 6
theorem Xp {x v13 v14 v15 : Int} (hx : u8 x = true) (h13 : v13 = Ed .rem .u8 x 6) (h14 : v14 = IntKind.wrap .i64 v13) (h15 : v15 = DZ .add .i64 3 v14) : v15 = u8m x ∧ right v15 = true := by
 simp only [u8, Bool.and_eq_true, decide_eq_true_eq] at hx
 have e : v13 = x % 6 := by
  rw [h13]
  simp only [Ed]
  rw [Int.tmod_eq_emod_of_nonneg hx.1]
 have hm : 0 ≤ x % 6 ∧ x % 6 < 6 := ⟨Int.emod_nonneg _ (by omega), Int.emod_lt_of_pos _ (by omega)⟩
 rw [wrap64 (by omega) (by omega)] at h14
 simp only [DZ] at h15
 rw [wrap64 (by omega) (by omega)] at h15
 refine ⟨by rw [h15, h14, e]; rfl, ?_⟩
 simp only [right, Bool.and_eq_true, decide_eq_true_eq]
 omega
theorem Vx {n p : Int} (hn : 3 ≤ n ∧ n ≤ 8) (hp : 0 ≤ p ∧ p < n) : (IntKind.wrap .i64 (p + 1)).tmod n = (p + 1) % n := by
 rw [wrap64 (by omega) (by omega)]
 exact Int.tmod_eq_emod_of_nonneg (by omega)
theorem Xq {n : Int} {x : ND} {i : Int} (hE : Bm n x = 0) : (AI n x ⟨2, i⟩ ⟨0, 0⟩).mode = 1 ∨ ((AI n x ⟨2, i⟩ ⟨0, 0⟩).mode = 3 ∧ (AI n x ⟨2, i⟩ ⟨0, 0⟩).pos = (i + 1) % n) := by
 have h := A4.1 (BZ.1 hE).1
 rw [AI, if_pos hE]
 by_cases h3 : x.mode = 3
 ·rw [if_pos h3]
  by_cases hp : i = x.pos
  ·right
   have : ¬ 8 * n ≤ 0 := by omega
   simp [C2, BU, Bl, Tf, Dm, Cc, hp, this, h3]
  ·left
   simp [C2, BU, hp, GI]
 ·rw [if_neg h3]
  right
  simp [Dw, Ce, CE, GI]
theorem V8 {n : Int} {x : ND} {i : Int} (hE : Bm n x = 0) : (AI n x ⟨0, 0⟩ ⟨2, i⟩).mode = 1 ∨ ((AI n x ⟨0, 0⟩ ⟨2, i⟩).mode = 3 ∧ (AI n x ⟨0, 0⟩ ⟨2, i⟩).pos = (i + 1) % n) := by
 have h := A4.1 (BZ.1 hE).1
 rw [AI, if_pos hE]
 by_cases h3 : x.mode = 3
 ·rw [if_pos h3]
  by_cases hp : i = x.pos
  ·right
   have : ¬ 8 * n ≤ 0 := by omega
   simp [C2, BU, Bl, Tf, Dm, Cc, hp, this, h3]
  ·left
   simp [C2, BU, hp, GI]
 ·rw [if_neg h3]
  right
  simp [Dw, Ce, CE, GI]
theorem R2 {n : Int} {x : ND} {i : Int} (hE : Bm n x = 0) (h3 : x.mode ≠ 3) : AI n x ⟨2, i⟩ ⟨0, 0⟩ = ⟨x.id, 3, 0, (i + 1) % n⟩ := by
 rw [AI, if_pos hE, if_neg h3]
 simp [Dw, Ce, CE, GI]
theorem Xr {n : Int} {x : ND} {i : Int} (hE : Bm n x = 0) (h2 : x.mode = 2) (hi : x.id ≠ i) : AI n x ⟨0, 0⟩ ⟨1, i⟩ = ⟨x.id, 3, 0, (i + 1) % n⟩ := by
 have hi' : i ≠ x.id := fun h => hi h.symm
 rw [AI, if_pos hE, if_neg (by omega)]
 simp [Dw, Ce, Bl, BT, Tf, GI, h2, hi']
theorem UK {n i : Int} (h : 0 ≤ i ∧ i < n) : AE n ⟨2, i⟩ ⟨0, 0⟩ = true := by simp [AE, CM, h]
theorem Xs {n i : Int} (h : 0 ≤ i ∧ i < n) : AE n ⟨0, 0⟩ ⟨1, i⟩ = true := by simp [AE, CM, h]
end Day

