import Derived.Test.YtmpinegdphkbjaaDoorTXc
set_option linter.unusedVariables false
set_option linter.unusedSimpArgs false
namespace Day
structure Fr where
 kind : Int
 id : Int
 deriving DecidableEq
structure ND where
 id : Int
 mode : Int
 count : Int
 pos : Int
 deriving DecidableEq
structure HB where
 ages : List Int
 port : Int
 age : Int
 hold : Int
 pos : Int
 deriving DecidableEq
def HB.a (h : HB) (p : Nat) : Int := h.ages.getD p 0
def right (n : Int) : Bool := decide (3 ≤ n) && decide (n ≤ 8)
end Day
namespace Day
def i64 (x : Int) : Bool := decide (-9223372036854775808 ≤ x) && decide (x ≤ 9223372036854775807)
def u8 (x : Int) : Bool := decide (0 ≤ x) && decide (x ≤ 255)
def u32 (x : Int) : Bool := decide (0 ≤ x) && decide (x ≤ 4294967295)
def sm (x : Int) : Bool := decide (-4611686018427387904 ≤ x) && decide (x ≤ 4611686018427387904)
def ND.i64 (x : ND) : Bool := Day.i64 x.id && Day.i64 x.mode && Day.i64 x.count && Day.i64 x.pos
end Day
namespace Day
end Day
namespace Day
end Day
namespace Day
def Ws (q : Nat → Bool) : Bool := q 0 && q 1 && q 2 && q 3 && q 4 && q 5 && q 6 && q 7
def HB.i64 (h : HB) : Bool := Ws (fun p => Day.i64 (h.a p)) && Day.i64 h.port && Day.i64 h.age && Day.i64 h.hold && Day.i64 h.pos
end Day
namespace Day
end Day
namespace Day
end Day
namespace Day
end Day
namespace Day
end Day
namespace Day
def bv (b : Bool) : Int := if b then 1 else 0
end Day
namespace Day
theorem T0 (b : Bool) : 0 ≤ bv b ∧ bv b ≤ 1 := by cases b <;> simp [bv]
end Day
namespace Day
end Day
namespace Day
end Day
namespace Day
theorem bs {l o p p' : Int} {b : Bool} (B : 0 ≤ l ∧ l ≤ p) (R : o = l + bv b) (hp : p' = p + 1) : 0 ≤ o ∧ o ≤ p' := by
 have := T0 b
 omega
end Day
namespace Day
end Day
namespace Day
end Day
namespace Day
open Rx
def Xe (a : A) : List Int := a.AW.map A.int
def Vn (l : List Int) : A := .l (l.map A.i)
def UR : List A → List Fr
 | x :: y :: l => ⟨x.int, y.int⟩ :: UR l
 | _ => []
def Xk (a : A) : List Fr := UR a.AW
def Wu (l : List Fr) : A := .l (l.flatMap fun f => [.i f.kind, .i f.id])
theorem RV : ∀ l : List Fr, UR (l.flatMap fun f => [.i f.kind, .i f.id]) = l
 | [] => rfl
 | f :: l => by simp [UR, RV l]
@[simp] theorem W6 (l : List Fr) : Xk (Wu l) = l := RV l
@[simp] theorem W7 (l : List Int) : Xe (Vn l) = l := by
 induction l with
 | nil => rfl
 | cons a l ih => simpa [Xe, Vn] using ih
end Day
namespace Day
open Rx Go
structure L1 where
 x : A
 n : Int
structure Lk where
 t : Int
 k0 : Int
 i0 : Int
 k1 : Int
 i1 : Int
 x : A
 n : Int
def Xf : A → Bool | .l _ => true | _ => false
theorem VP {x : A} (h : Xf x = true) : x = .l x.AW := by
 match x, h with
 | .l as, _ => rfl
def L1.ow (l : L1) (m : Int) : Bool := decide ((l.x.AW.length : Int) = l.n) && (decide (l.n ≤ m) && Xf l.x)
def Jj (u : Nat) : List Int := if h : u < 10 then [48 + (u : Int)] else Jj (u / 10) ++ [48 + ((u % 10 : Nat) : Int)]
def num (x : Int) : List Int := if x < 0 then 45 :: Jj x.natAbs else Jj x.natAbs
def A9 (k i : Int) : List Int := if k = 1 then 99 :: num i else if k = 2 then 105 :: num i else if k = 0 ∧ i = 0 then [45] else [63]
def Ch (m p : Int) : List Int := if m = 3 then 97 :: num p else if m = 0 then [111] else if m = 1 then [108] else if m = 2 then [99] else [63]
def Mg (x : A) (i : Int) : Int := (x.AW.getD (1 + 4 * i.toNat) (.i 0)).int
def N4 (x : A) (i : Int) : Int := (x.AW.getD (3 + 4 * i.toNat) (.i 0)).int
def Ci (x : A) : Nat → Int → List Int
 | 0, _ => []
 | k + 1, i => 32 :: Ch (Mg x i) (N4 x i) ++ Ci x k (i + 1)
def BE (l : Lk) (i : Int) : List Int := if i = 0 then (32 :: A9 l.k0 l.i0) ++ (32 :: A9 l.k1 l.i1) else if i = 1 then 32 :: A9 l.k1 l.i1 else []
def H0 (l : Lk) : List Int := num l.t ++ (BE l 0 ++ Ci l.x l.n.toNat 0)
def CU (l : Lk) : List Int := H0 l ++ [10]
def Dp (x : A) (i : Int) : Lk := ⟨(x.AW.getD (6 * i.toNat) (.i 0)).int, (x.AW.getD (1 + 6 * i.toNat) (.i 0)).int, (x.AW.getD (2 + 6 * i.toNat) (.i 0)).int, (x.AW.getD (3 + 6 * i.toNat) (.i 0)).int, (x.AW.getD (4 + 6 * i.toNat) (.i 0)).int, x.AW.getD (5 + 6 * i.toNat) (.i 0), (((x.AW.getD (5 + 6 * i.toNat) (.i 0)).AW.length / 4 : Nat) : Int)⟩
def DR (x : A) : Nat → Int → List Int
 | 0, _ => []
 | k + 1, i => CU (Dp x i) ++ DR x k (i + 1)
def Ba (l : List Int) : List A := l.map .i
def Cz (l : List Int) : ByteArray := ⟨(l.map fun v => UInt8.ofNat v.toNat).toArray⟩
def Vo (l : L1) (x : Int) : A := .l (l.x.AW ++ Ba (num x))
def Mh (x : Int) : ByteArray := Cz (num x)
def Dq (f : Fr) : ByteArray := Cz (A9 f.kind f.id)
def Jk (x : ND) : ByteArray := Cz (Ch x.mode x.pos)
def Dg (l : Lk) : ByteArray := Cz (CU l)
def GU (l : L1) : ByteArray := Cz (DR l.x l.n.toNat 0)
def H2 (x : A) : Nat → Int → Bool
 | 0, _ => true
 | k + 1, i => i64 (N4 x i) && H2 x k (i + 1)
def Lk.E8 (l : Lk) : Bool := i64 l.t && (i64 l.i0 && (i64 l.i1 && H2 l.x l.n.toNat 0))
def Lk.ok (l : Lk) : Bool := l.E8 && (decide (0 ≤ l.n) && decide (l.n ≤ 20))
def V4 (x : A) : Nat → Int → Bool
 | 0, _ => true
 | k + 1, i => (Dp x i).E8 && V4 x k (i + 1)
def T1 (x : A) : Nat → Int → Bool
 | 0, _ => true
 | k + 1, i => decide ((Dp x i).n ≤ 20) && T1 x k (i + 1)
def H3 (x : A) : Nat → Int → Bool
 | 0, _ => true
 | k + 1, i => (Dp x i).ok && H3 x k (i + 1)
def Ew (i n : Int) : Bool := decide (0 ≤ i) && decide (i ≤ n)
def L1.E8 (l : L1) : Bool := decide (0 ≤ l.n) && V4 l.x l.n.toNat 0
def L1.Ut (l : L1) : Bool := decide (l.n ≤ 60) && T1 l.x l.n.toNat 0
def L1.RW (l : L1) : Bool := Ew l.n 60 && H3 l.x l.n.toNat 0
theorem OZ (x : A) : ∀ (k : Nat) (i : Int), V4 x k i = true → T1 x k i = true → H3 x k i = true
 | 0, _, _, _ => rfl
 | k + 1, i, h1, h2 => by
  simp only [V4, T1, Bool.and_eq_true, decide_eq_true_eq] at h1 h2
  simp only [H3, Lk.ok, Bool.and_eq_true, decide_eq_true_eq]
  exact ⟨⟨h1.1, by show (0 : Int) ≤ ((_ : Nat) : Int); omega, h2.1⟩, OZ x k (i + 1) h1.2 h2.2⟩
theorem L1.OZ {l : L1} (h1 : l.E8 = true) (h2 : l.Ut = true) : l.RW = true := by
 simp only [L1.E8, L1.Ut, Bool.and_eq_true, decide_eq_true_eq] at h1 h2
 simp only [L1.RW, Ew, Bool.and_eq_true, decide_eq_true_eq]
 exact ⟨⟨h1.1, h2.1⟩, Day.OZ l.x _ 0 h1.2 h2.2⟩
def fP (b : L1) (l : Lk) (i : Int) : Bool := b.ow (900000 - 23 * (2 - i)) && (Ew i 2 && l.ok)
def fN (b : L1) (l : Lk) (i : Int) : Int := b.n + ((BE l i).length : Int)
def fX (b : L1) (l : Lk) (i : Int) : A := .l (b.x.AW ++ Ba (BE l i))
def nP (b : L1) (l : Lk) (i : Int) : Bool := b.ow (900000 - 23 * (l.n - i)) && (Ew i l.n && (decide (l.n ≤ 20) && H2 l.x (l.n - i).toNat i))
def nN (b : L1) (l : Lk) (i : Int) : Int := b.n + ((Ci l.x (l.n - i).toNat i).length : Int)
def nX (b : L1) (l : Lk) (i : Int) : A := .l (b.x.AW ++ Ba (Ci l.x (l.n - i).toNat i))
def kP (b l : L1) (i : Int) : Bool := b.ow (800000 - 528 * (l.n - i)) && (Ew i l.n && (decide (l.n ≤ 60) && H3 l.x (l.n - i).toNat i))
def kN (b l : L1) (i : Int) : Int := b.n + ((DR l.x (l.n - i).toNat i).length : Int)
def kX (b l : L1) (i : Int) : A := .l (b.x.AW ++ Ba (DR l.x (l.n - i).toNat i))
def dP (s : ByteArray) (k : Int) : Bool := i64 k && decide (s.size + (Jj k.natAbs).length ≤ 25)
def dS (s : ByteArray) (k : Int) : ByteArray := Cz (Jj k.natAbs) ++ s
def rP (s : ByteArray) (l : L1) (i : Int) : Bool := decide ((s.size : Int) + 23 * (l.n - i) ≤ 100000) && (Ew i l.n && (decide (l.n ≤ 20) && H2 l.x (l.n - i).toNat i))
def rS (s : ByteArray) (l : L1) (i : Int) : ByteArray := s ++ Cz (Ci l.x (l.n - i).toNat i)
def qP (s : ByteArray) (l : L1) (i : Int) : Bool := decide ((s.size : Int) + 528 * (l.n - i) ≤ 100000) && (Ew i l.n && (decide (l.n ≤ 60) && H3 l.x (l.n - i).toNat i))
def qS (s : ByteArray) (l : L1) (i : Int) : ByteArray := s ++ Cz (DR l.x (l.n - i).toNat i)
def HG (l : L1) (i : Int) : Bool := T1 l.x (l.n - i).toNat i
def Mi (l : L1) (i : Int) : Bool := !HG l i
def wP (l : L1) (i : Int) : Bool := Ew i l.n && decide (l.n ≤ 60)
def O0 (l : L1) (i : Int) : Bool := Ew i l.n && (decide (l.n ≤ 60) && H3 l.x (l.n - i).toNat i)
theorem RX : ∀ (k u : Nat), u < 10 ^ (k + 1) → (Jj u).length ≤ k + 1
 | 0, u, h => by
  rw [Jj, dif_pos (by simpa using h)]
  simp
 | k + 1, u, h => by
  rw [Jj]
  split
  ·simp
  ·have := RX k (u / 10) (by rw [Nat.div_lt_iff_lt_mul (by omega)]; rw [Nat.pow_succ] at h; exact h)
   simp
   omega
theorem Jl {x : Int} : i64 x = true ↔ -9223372036854775808 ≤ x ∧ x ≤ 9223372036854775807 := by simp [i64]
theorem RY {x : Int} (h : i64 x = true) : (Jj x.natAbs).length ≤ 20 := by
 rw [Jl] at h
 exact RX 19 _ (by omega)
theorem F5 {x : Int} (h : i64 x = true) : (num x).length ≤ 21 := by
 have := RY h
 unfold num
 split <;> simp <;> omega
theorem Ey {k i : Int} (h : i64 i = true) : (A9 k i).length ≤ 22 := by
 have := F5 h
 unfold A9
 repeat' split
 all_goals simp
 all_goals omega
theorem Kb {k i : Int} (h : i64 i = true) : (Ch k i).length ≤ 22 := by
 have := F5 h
 unfold Ch
 repeat' split
 all_goals simp
 all_goals omega
theorem Mj (x : A) : ∀ (k : Nat) (i : Int), H2 x k i = true → (Ci x k i).length ≤ 23 * k
 | 0, _, _ => by simp [Ci]
 | k + 1, i, h => by
  simp only [H2, Bool.and_eq_true] at h
  have h1 := Kb (k := Mg x i) h.1
  have h2 := Mj x k (i + 1) h.2
  simp only [Ci, List.length_append, List.length_cons]
  omega
theorem KJ {l : Lk} (h : l.ok = true) (i : Int) : (BE l i).length ≤ 46 := by
 simp only [Lk.ok, Lk.E8, Bool.and_eq_true] at h
 have h0 := Ey (k := l.k0) h.1.2.1
 have h1 := Ey (k := l.k1) h.1.2.2.1
 unfold BE
 repeat' split
 all_goals simp
 all_goals omega
theorem N5 {l : Lk} (h : l.ok = true) : (H0 l).length ≤ 527 := by
 have h2 := KJ h 0
 simp only [Lk.ok, Lk.E8, Bool.and_eq_true, decide_eq_true_eq] at h
 have h1 := F5 h.1.1
 have h3 := Mj l.x l.n.toNat 0 h.1.2.2.2
 simp only [H0, List.length_append]
 omega
theorem Kc {l : Lk} (h : l.ok = true) : (CU l).length ≤ 528 := by
 have := N5 h
 simp only [CU, List.length_append, List.length_cons, List.length_nil]
 omega
theorem Bv (a b : List Int) : Cz (a ++ b) = Cz a ++ Cz b := by
 unfold Cz
 apply ByteArray.ext
 rw [ByteArray.data_append]
 simp
theorem A6 (a : List Int) : (Cz a).size = a.length := by
 unfold Cz
 simp [ByteArray.size]
theorem O1 (a : List Int) : (Ba a).length = a.length := by simp [Ba]
theorem Jm (a b : List Int) : Ba (a ++ b) = Ba a ++ Ba b := by simp [Ba]
theorem Le (a : List Int) : (⟨((Ba a).map fun a => UInt8.ofNat a.int.toNat).toArray⟩ : ByteArray) = Cz a := by
 unfold Cz Ba
 rw [List.map_map]
 rfl
theorem DS {b : L1} {m : Int} : b.ow m = true ↔ (b.x.AW.length : Int) = b.n ∧ b.n ≤ m ∧ b.x = .l b.x.AW := by
 simp only [L1.ow, Bool.and_eq_true, decide_eq_true_eq]
 constructor
 ·rintro ⟨h1, h2, h3⟩
  exact ⟨h1, h2, VP h3⟩
 ·rintro ⟨h1, h2, h3⟩
  exact ⟨h1, h2, by rw [h3]; rfl⟩
theorem Aw {i n : Int} : Ew i n = true ↔ 0 ≤ i ∧ i ≤ n := by simp [Ew]
theorem AT (X : List A) (L : List Int) : (A.l (X ++ Ba L)).AW.length = X.length + L.length := by simp [Ba, A.AW]
theorem RZ {b : L1} {l : Lk} {i : Int} (hp : fP b l i = true) (h : i < 2) {k f : Int} (hk : k = [l.k0, l.k1].getD i.toNat 0) (hf : f = [l.i0, l.i1].getD i.toNat 0) :
  i64 f = true ∧ (b.x.AW.length : Int) = b.n ∧ b.n ≤ 899977 ∧ 0 ≤ i ∧ ∀ p : L1, p.x = .l (b.x.AW ++ Ba (32 :: A9 k f)) → p.n = (p.x.AW.length : Int) →
   fP p l (i + 1) = true ∧ fN p l (i + 1) = fN b l i ∧ fX p l (i + 1) = fX b l i := by
 simp only [fP, Bool.and_eq_true, DS, Aw] at hp
 obtain ⟨⟨h1, h2, h3⟩, ⟨h4, h5⟩, h6⟩ := hp
 have hf6 : i64 f = true := by
  simp only [Lk.ok, Lk.E8, Bool.and_eq_true] at h6
  rcases (show i = 0 ∨ i = 1 by omega) with rfl | rfl
  ·rw [hf]; exact h6.1.2.1
  ·rw [hf]; exact h6.1.2.2.1
 refine ⟨hf6, h1, by omega, h4, fun p px pn => ?_⟩
 have hlen := Ey (k := k) hf6
 have pl : p.n = b.n + (1 + (A9 k f).length : Nat) := by
  rw [pn, px, AT, ← h1]
  simp
  omega
 have hfr : BE l i = 32 :: A9 k f ++ BE l (i + 1) := by
  rcases (show i = 0 ∨ i = 1 by omega) with rfl | rfl
  ·rw [hk, hf]; simp [BE]
  ·rw [hk, hf]; simp [BE]
 refine ⟨?_, ?_, ?_⟩
 ·simp only [fP, Bool.and_eq_true, DS, Aw]
  exact ⟨⟨by rw [pn], by omega, by rw [px]; rfl⟩, ⟨by omega, by omega⟩, h6⟩
 ·simp only [fN, hfr, pl, List.length_append, List.length_cons]
  omega
 ·simp only [fX, hfr, px, A.AW, Jm, List.append_assoc]
theorem T2 {b : L1} {l : Lk} {i : Int} (hp : fP b l i = true) (h : ¬ i < 2) : fN b l i = b.n ∧ fX b l i = b.x ∧ i = 2 := by
 simp only [fP, Bool.and_eq_true, DS, Aw] at hp
 obtain ⟨⟨h1, h2, h3⟩, ⟨h4, h5⟩, h6⟩ := hp
 obtain rfl : i = 2 := by omega
 refine ⟨by simp [fN, BE], ?_, rfl⟩
 have : fX b l 2 = .l b.x.AW := by simp [fX, BE, Ba]
 rw [this, ← h3]
theorem R0 {b : L1} {l : Lk} {i : Int} (hp : nP b l i = true) (h : i < l.n) {m q : Int} (hm : m = Mg l.x i) (hq : q = N4 l.x i) :
  i64 q = true ∧ (b.x.AW.length : Int) = b.n ∧ b.n ≤ 899977 ∧ 0 ≤ i ∧ i ≤ 20 ∧ ∀ p : L1, p.x = .l (b.x.AW ++ Ba (32 :: Ch m q)) → p.n = (p.x.AW.length : Int) →
   nP p l (i + 1) = true ∧ nN p l (i + 1) = nN b l i ∧ nX p l (i + 1) = nX b l i ∧ (l.n - (i + 1)).toNat < (l.n - i).toNat := by
 simp only [nP, Bool.and_eq_true, DS, Aw, decide_eq_true_eq] at hp
 obtain ⟨⟨h1, h2, h3⟩, ⟨h4, h5⟩, h6, h7⟩ := hp
 obtain ⟨j, hj⟩ : ∃ j : Nat, (l.n - i).toNat = j + 1 := ⟨(l.n - i).toNat - 1, by omega⟩
 have hj2 : (l.n - (i + 1)).toNat = j := by omega
 rw [hj] at h7
 simp only [H2, Bool.and_eq_true] at h7
 rw [← hq] at h7
 refine ⟨h7.1, h1, by omega, h4, by omega, fun p px pn => ?_⟩
 have hlen := Kb (k := m) h7.1
 have pl : p.n = b.n + (1 + (Ch m q).length : Nat) := by
  rw [pn, px, AT, ← h1]
  simp
  omega
 have hnb : Ci l.x (l.n - i).toNat i = 32 :: Ch m q ++ Ci l.x (l.n - (i + 1)).toNat (i + 1) := by
  rw [hj, hj2, hm, hq]
  rfl
 refine ⟨?_, ?_, ?_, by omega⟩
 ·simp only [nP, Bool.and_eq_true, DS, Aw, decide_eq_true_eq]
  exact ⟨⟨by rw [pn], by omega, by rw [px]; rfl⟩, ⟨by omega, by omega⟩, h6, by rw [hj2]; exact h7.2⟩
 ·simp only [nN, hnb, pl, List.length_append, List.length_cons]
  omega
 ·simp only [nX, hnb, px, A.AW, Jm, List.append_assoc]
theorem T3 {b : L1} {l : Lk} {i : Int} (hp : nP b l i = true) (h : ¬ i < l.n) : nN b l i = b.n ∧ nX b l i = b.x ∧ i = l.n := by
 simp only [nP, Bool.and_eq_true, DS, Aw] at hp
 obtain ⟨⟨h1, h2, h3⟩, ⟨h4, h5⟩, h6⟩ := hp
 have h0 : (l.n - i).toNat = 0 := by omega
 refine ⟨by simp [nN, h0, Ci], ?_, by omega⟩
 have : nX b l i = .l b.x.AW := by simp [nX, h0, Ci, Ba]
 rw [this, ← h3]
theorem BR {a b : Bool} (h : b = true) : (!a || b) = true := by
 rw [h]
 simp
theorem HF (L : List Int) : (A.l (Ba L)).AW = Ba L := rfl
theorem N6 {l : Lk} (h : l.ok = true) {pre : List A} (hpre : pre.length ≤ 800000) {b : L1} (bx : b.x = .l (pre ++ Ba (num l.t))) (bn : b.n = (b.x.AW.length : Int)) :
  i64 l.t = true ∧ fP b l 0 = true ∧ nP ⟨fX b l 0, fN b l 0⟩ l 0 = true ∧ nX ⟨fX b l 0, fN b l 0⟩ l 0 = .l (pre ++ Ba (H0 l)) ∧ pre.length + (H0 l).length ≤ 800527 := by
 have hc := N5 h
 have hf := KJ h 0
 have hh := h
 simp only [Lk.ok, Lk.E8, Bool.and_eq_true, decide_eq_true_eq] at hh
 obtain ⟨⟨h1, h2, h3, h4⟩, h5, h6⟩ := hh
 have hn := F5 h1
 have hb : b.n = (pre.length + (num l.t).length : Nat) := by rw [bn, bx, AT]
 have e1 : fX b l 0 = .l (pre ++ Ba (num l.t ++ BE l 0)) := by simp only [fX, bx, A.AW, Jm, List.append_assoc]
 have e2 : fN b l 0 = (pre.length + (num l.t ++ BE l 0).length : Nat) := by
  simp only [fN, hb, List.length_append]
  omega
 refine ⟨h1, ?_, ?_, ?_, by omega⟩
 ·simp only [fP, Bool.and_eq_true, DS, Aw]
  exact ⟨⟨by rw [bn], by omega, by rw [bx]; rfl⟩, ⟨by omega, by omega⟩, h⟩
 ·simp only [nP, Bool.and_eq_true, DS, Aw, decide_eq_true_eq]
  refine ⟨⟨by rw [e1, e2, AT], ?_, by rw [e1]; rfl⟩, ⟨by omega, by omega⟩, h6, by rw [Int.sub_zero]; exact h4⟩
  rw [e2, List.length_append]
  omega
 ·simp only [nX, e1, A.AW, H0, Jm, List.append_assoc, Int.sub_zero]
theorem US {b l : L1} {i : Int} (hp : kP b l i = true) (h : i < l.n) :
  (Dp l.x i).ok = true ∧ (b.x.AW.length : Int) = b.n ∧ b.n ≤ 799472 ∧ b.x = .l b.x.AW ∧ 0 ≤ i ∧ i ≤ 60 ∧ ∀ p : L1, p.x = .l (b.x.AW ++ Ba (CU (Dp l.x i))) → p.n = (p.x.AW.length : Int) →
   kP p l (i + 1) = true ∧ kN p l (i + 1) = kN b l i ∧ kX p l (i + 1) = kX b l i ∧ (l.n - (i + 1)).toNat < (l.n - i).toNat := by
 simp only [kP, Bool.and_eq_true, DS, Aw, decide_eq_true_eq] at hp
 obtain ⟨⟨h1, h2, h3⟩, ⟨h4, h5⟩, h6, h7⟩ := hp
 obtain ⟨j, hj⟩ : ∃ j : Nat, (l.n - i).toNat = j + 1 := ⟨(l.n - i).toNat - 1, by omega⟩
 have hj2 : (l.n - (i + 1)).toNat = j := by omega
 rw [hj] at h7
 simp only [H3, Bool.and_eq_true] at h7
 refine ⟨h7.1, h1, by omega, h3, h4, by omega, fun p px pn => ?_⟩
 have hlen := Kc h7.1
 have pl : p.n = b.n + ((CU (Dp l.x i)).length : Nat) := by
  rw [pn, px, AT, ← h1]
  omega
 have hnb : DR l.x (l.n - i).toNat i = CU (Dp l.x i) ++ DR l.x (l.n - (i + 1)).toNat (i + 1) := by
  rw [hj, hj2]
  rfl
 refine ⟨?_, ?_, ?_, by omega⟩
 ·simp only [kP, Bool.and_eq_true, DS, Aw, decide_eq_true_eq]
  exact ⟨⟨by rw [pn], by omega, by rw [px]; rfl⟩, ⟨by omega, by omega⟩, h6, by rw [hj2]; exact h7.2⟩
 ·simp only [kN, hnb, pl, List.length_append]
  omega
 ·simp only [kX, hnb, px, A.AW, Jm, List.append_assoc]
theorem VQ {b l : L1} {i : Int} (hp : kP b l i = true) (h : ¬ i < l.n) : kN b l i = b.n ∧ kX b l i = b.x := by
 simp only [kP, Bool.and_eq_true, DS, Aw] at hp
 obtain ⟨⟨h1, h2, h3⟩, ⟨h4, h5⟩, h6⟩ := hp
 have h0 : (l.n - i).toNat = 0 := by omega
 refine ⟨by simp [kN, h0, DR], ?_⟩
 have : kX b l i = .l b.x.AW := by simp [kX, h0, DR, Ba]
 rw [this, ← h3]
theorem UT {l : L1} (h : l.RW = true) : kP ⟨.l [], 0⟩ l 0 = true ∧ kX ⟨.l [], 0⟩ l 0 = .l (Ba (DR l.x l.n.toNat 0)) := by
 simp only [L1.RW, Bool.and_eq_true, Aw] at h
 refine ⟨?_, by simp [kX, A.AW]⟩
 simp only [kP, Bool.and_eq_true, DS, Aw, decide_eq_true_eq, Int.sub_zero]
 exact ⟨⟨rfl, by show (0 : Int) ≤ _; omega, rfl⟩, ⟨by omega, h.1.1⟩, h.1.2, h.2⟩
theorem T4 {u : Nat} (h : ¬ u / 10 = 0) : Jj u = Jj (u / 10) ++ [48 + ((u % 10 : Nat) : Int)] := by
 rw [Jj, dif_neg (by omega)]
theorem UU {u : Nat} (h : u / 10 = 0) : Jj u = [48 + ((u % 10 : Nat) : Int)] := by
 rw [Jj, dif_pos (by omega)]
 congr 3
 omega
theorem T5 {k d m a b c : Int} {g : Bool} (hk : i64 k = true) (hd : d = k.tmod 10) (hg : g = decide (d < 0)) (hm : m = IntKind.wrap .i64 (0 - d)) (ha : a = if g = true then m else d) (hb : b = IntKind.wrap .i64 (48 + a)) (hc : c = IntKind.wrap .u8 b) :
  c = 48 + ((k.natAbs % 10 : Nat) : Int) := by
 rw [Jl] at hk
 have h1 : d.natAbs = k.natAbs % 10 := by rw [hd, Int.natAbs_tmod]; rfl
 have h2 : k.natAbs % 10 < 10 := Nat.mod_lt _ (by omega)
 have hm' : m = 0 - d := by rw [hm]; exact wrap64 (by omega) (by omega)
 have ha' : a = ((k.natAbs % 10 : Nat) : Int) := by
  rw [ha, hg, hm']
  by_cases hlt : d < 0
  ·simp only [hlt, decide_true, if_true]; omega
  ·simp only [hlt, decide_false, Bool.false_eq_true, if_false]; omega
 have hb' : b = 48 + ((k.natAbs % 10 : Nat) : Int) := by rw [hb, ha']; exact wrap64 (by omega) (by omega)
 rw [hc, hb']
 have : IntKind.wrap .u8 (48 + ((k.natAbs % 10 : Nat) : Int)) = (48 + ((k.natAbs % 10 : Nat) : Int)) % 256 := by rfl
 rw [this]
 omega
theorem UW {s s2 : ByteArray} {k c k2 : Int} (hp : dP s k = true) (hc : c = 48 + ((k.natAbs % 10 : Nat) : Int)) (hs : s2 = Cz [c] ++ s) (hk : k2 = IntKind.wrap .i64 (k.tdiv 10)) :
  (¬ k2 = 0 → dP s2 k2 = true ∧ dS s2 k2 = dS s k ∧ k2.natAbs < k.natAbs) ∧ (k2 = 0 → s2 = dS s k) := by
 simp only [dP, Bool.and_eq_true, decide_eq_true_eq, Jl] at hp
 obtain ⟨⟨h1, h2⟩, h3⟩ := hp
 have hq : (k.tdiv 10).natAbs = k.natAbs / 10 := by rw [Int.natAbs_tdiv]; rfl
 have hk' : k2 = k.tdiv 10 := by rw [hk]; exact wrap64 (by omega) (by omega)
 rw [hk']
 have hsz : s2.size = s.size + 1 := by
  rw [hs, ByteArray.size_append, A6]
  simp
  omega
 constructor
 ·intro h0
  have hn : ¬ k.natAbs / 10 = 0 := by omega
  have e := T4 hn
  have hl : (Jj k.natAbs).length = (Jj (k.natAbs / 10)).length + 1 := by rw [e]; simp
  refine ⟨?_, ?_, by omega⟩
  ·simp only [dP, Bool.and_eq_true, decide_eq_true_eq, Jl, hq]
   omega
  ·unfold dS
   rw [hq, e, Bv, hs, hc, ByteArray.append_assoc]
 ·intro h0
  have e := UU (u := k.natAbs) (by omega)
  unfold dS
  rw [e, hs, hc]
theorem UX {k : Int} (h : i64 k = true) : dP ⟨#[]⟩ k = true ∧ dS ⟨#[]⟩ k = Cz (Jj k.natAbs) ∧ (dS ⟨#[]⟩ k).size ≤ 20 := by
 have hl := RY h
 have e : dS ⟨#[]⟩ k = Cz (Jj k.natAbs) := by
  unfold dS
  apply ByteArray.ext
  rw [ByteArray.data_append]
  simp
 refine ⟨?_, e, by rw [e, A6]; exact hl⟩
 simp only [dP, h, Bool.true_and, decide_eq_true_eq]
 show 0 + _ ≤ 25
 omega
theorem UY {s s2 : ByteArray} {l : L1} {i : Int} (hp : rP s l i = true) (h : i < l.n) {m q : Int} (hm : m = Mg l.x i) (hq : q = N4 l.x i) :
  i64 q = true ∧ s.size ≤ 100000 ∧ 0 ≤ i ∧ i ≤ 20 ∧ (Cz (Ch m q)).size ≤ 22 ∧ (s2 = s ++ Cz [32] ++ Cz (Ch m q) → rP s2 l (i + 1) = true ∧ rS s2 l (i + 1) = rS s l i ∧ (l.n - (i + 1)).toNat < (l.n - i).toNat) := by
 simp only [rP, Bool.and_eq_true, Aw, decide_eq_true_eq] at hp
 obtain ⟨h1, ⟨h4, h5⟩, h6, h7⟩ := hp
 obtain ⟨j, hj⟩ : ∃ j : Nat, (l.n - i).toNat = j + 1 := ⟨(l.n - i).toNat - 1, by omega⟩
 have hj2 : (l.n - (i + 1)).toNat = j := by omega
 rw [hj] at h7
 simp only [H2, Bool.and_eq_true] at h7
 rw [← hq] at h7
 have hlen := Kb (k := m) h7.1
 refine ⟨h7.1, by omega, h4, by omega, by rw [A6]; exact hlen, fun hs => ?_⟩
 have hsz : s2.size = s.size + 1 + (Ch m q).length := by
  rw [hs, ByteArray.size_append, ByteArray.size_append, A6, A6]
  rfl
 refine ⟨?_, ?_, by omega⟩
 ·simp only [rP, Bool.and_eq_true, Aw, decide_eq_true_eq]
  exact ⟨by omega, ⟨by omega, by omega⟩, h6, by rw [hj2]; exact h7.2⟩
 ·have hnb : Ci l.x (l.n - i).toNat i = [32] ++ (Ch m q ++ Ci l.x (l.n - (i + 1)).toNat (i + 1)) := by
   rw [hj, hj2, hm, hq]
   rfl
  unfold rS
  rw [hnb, hs, Bv, Bv, ByteArray.append_assoc, ByteArray.append_assoc]
theorem R1 (s : ByteArray) : s ++ Cz [] = s := by
 apply ByteArray.ext
 rw [ByteArray.data_append]
 simp [Cz]
theorem UZ (s : ByteArray) : (⟨#[]⟩ : ByteArray) ++ s = s := by
 apply ByteArray.ext
 rw [ByteArray.data_append]
 simp
theorem VR {s : ByteArray} {l : L1} {i : Int} (h : ¬ i < l.n) : rS s l i = s := by
 unfold rS
 rw [show (l.n - i).toNat = 0 by omega]
 exact R1 s
theorem U0 {s s2 : ByteArray} {l : L1} {i : Int} (hp : qP s l i = true) (h : i < l.n) :
  (Dp l.x i).ok = true ∧ s.size ≤ 100000 ∧ 0 ≤ i ∧ i ≤ 60 ∧ (Dg (Dp l.x i)).size ≤ 528 ∧ (s2 = s ++ Dg (Dp l.x i) → qP s2 l (i + 1) = true ∧ qS s2 l (i + 1) = qS s l i ∧ (l.n - (i + 1)).toNat < (l.n - i).toNat) := by
 simp only [qP, Bool.and_eq_true, Aw, decide_eq_true_eq] at hp
 obtain ⟨h1, ⟨h4, h5⟩, h6, h7⟩ := hp
 obtain ⟨j, hj⟩ : ∃ j : Nat, (l.n - i).toNat = j + 1 := ⟨(l.n - i).toNat - 1, by omega⟩
 have hj2 : (l.n - (i + 1)).toNat = j := by omega
 rw [hj] at h7
 simp only [H3, Bool.and_eq_true] at h7
 have hlen := Kc h7.1
 refine ⟨h7.1, by omega, h4, by omega, by unfold Dg; rw [A6]; exact hlen, fun hs => ?_⟩
 have hsz : s2.size = s.size + (CU (Dp l.x i)).length := by
  rw [hs, ByteArray.size_append]
  unfold Dg
  rw [A6]
 refine ⟨?_, ?_, by omega⟩
 ·simp only [qP, Bool.and_eq_true, Aw, decide_eq_true_eq]
  exact ⟨by omega, ⟨by omega, by omega⟩, h6, by rw [hj2]; exact h7.2⟩
 ·have hnb : DR l.x (l.n - i).toNat i = CU (Dp l.x i) ++ DR l.x (l.n - (i + 1)).toNat (i + 1) := by
   rw [hj, hj2]
   rfl
  unfold qS
  rw [hnb, hs, Bv, ByteArray.append_assoc]
  rfl
theorem VS {s : ByteArray} {l : L1} {i : Int} (h : ¬ i < l.n) : qS s l i = s := by
 unfold qS
 rw [show (l.n - i).toNat = 0 by omega]
 exact R1 s
theorem U1 {l : L1} (h : l.RW = true) : qP ⟨#[]⟩ l 0 = true ∧ qS ⟨#[]⟩ l 0 = GU l := by
 simp only [L1.RW, Bool.and_eq_true, Aw] at h
 refine ⟨?_, by unfold qS GU; rw [UZ, Int.sub_zero]⟩
 simp only [qP, Bool.and_eq_true, Aw, decide_eq_true_eq, Int.sub_zero]
 exact ⟨by show (0 : Int) + _ ≤ _; omega, ⟨by omega, h.1.1⟩, h.1.2, h.2⟩
theorem U2 {l : Lk} (h : l.ok = true) {a b c : ByteArray} (ha : a = Mh l.t ++ Cz [32]) (hb : b = a ++ Dq ⟨l.k0, l.i0⟩ ++ Cz [32]) (hc : c = b ++ Dq ⟨l.k1, l.i1⟩) :
  i64 l.t = true ∧ i64 l.i0 = true ∧ i64 l.i1 = true ∧ (Mh l.t).size ≤ 21 ∧ (Dq ⟨l.k0, l.i0⟩).size ≤ 22 ∧ (Dq ⟨l.k1, l.i1⟩).size ≤ 22 ∧ a.size ≤ 22 ∧ b.size ≤ 45 ∧ rP c ⟨l.x, l.n⟩ 0 = true ∧ (rS c ⟨l.x, l.n⟩ 0).size ≤ 600 ∧ rS c ⟨l.x, l.n⟩ 0 ++ Cz [10] = Dg l := by
 have hh := h
 have hl := Kc h
 simp only [Lk.ok, Lk.E8, Bool.and_eq_true, decide_eq_true_eq] at hh
 obtain ⟨⟨h1, h2, h3, h4⟩, h5, h6⟩ := hh
 have n1 := F5 h1
 have n2 := Ey (k := l.k0) h2
 have n3 := Ey (k := l.k1) h3
 have s1 : (Mh l.t).size = (num l.t).length := A6 _
 have s2 : (Dq ⟨l.k0, l.i0⟩).size = (A9 l.k0 l.i0).length := A6 _
 have s3 : (Dq ⟨l.k1, l.i1⟩).size = (A9 l.k1 l.i1).length := A6 _
 have s4 : (Cz [32]).size = 1 := A6 _
 have a1 : a.size = (num l.t).length + 1 := by rw [ha, ByteArray.size_append, s1, s4]
 have b1 : b.size = a.size + (A9 l.k0 l.i0).length + 1 := by rw [hb, ByteArray.size_append, ByteArray.size_append, s2, s4]
 have c1 : c.size = b.size + (A9 l.k1 l.i1).length := by rw [hc, ByteArray.size_append, s3]
 have e : rS c ⟨l.x, l.n⟩ 0 ++ Cz [10] = Dg l := by
  have hL : CU l = num l.t ++ [32] ++ A9 l.k0 l.i0 ++ [32] ++ A9 l.k1 l.i1 ++ Ci l.x l.n.toNat 0 ++ [10] := by simp [CU, H0, BE]
  unfold Dg
  rw [hL, Bv, Bv, Bv, Bv, Bv, Bv, hc, hb, ha]
  unfold rS
  rw [Int.sub_zero]
  rfl
 have e2 := congrArg ByteArray.size e
 rw [ByteArray.size_append, show (Dg l).size = (CU l).length from A6 _] at e2
 refine ⟨h1, h2, h3, by omega, by omega, by omega, by omega, by omega, ?_, by omega, e⟩
 simp only [rP, Bool.and_eq_true, Aw, decide_eq_true_eq, Int.sub_zero]
 exact ⟨by omega, ⟨by omega, h5⟩, h6, h4⟩
theorem T6 {l : L1} {i : Int} (hp : wP l i = true) (h : i < l.n) : HG l i = (decide ((Dp l.x i).n ≤ 20) && HG l (i + 1)) ∧ wP l (i + 1) = true ∧ (l.n - (i + 1)).toNat < (l.n - i).toNat ∧ 0 ≤ i ∧ i ≤ 60 := by
 simp only [wP, Bool.and_eq_true, Aw, decide_eq_true_eq] at hp ⊢
 refine ⟨?_, by omega, by omega, by omega, by omega⟩
 unfold HG
 rw [show (l.n - i).toNat = (l.n - (i + 1)).toNat + 1 by omega]
 rfl
theorem U3 {l : L1} {i : Int} (h : ¬ i < l.n) : HG l i = true := by
 unfold HG
 rw [show (l.n - i).toNat = 0 by omega]
 rfl
theorem T7 {l : L1} (h : l.E8 = true) (h2 : ¬ l.n > 60) : wP l 0 = true ∧ l.Ut = HG l 0 := by
 simp only [L1.E8, wP, Bool.and_eq_true, Aw, decide_eq_true_eq] at h ⊢
 refine ⟨by omega, ?_⟩
 unfold L1.Ut HG
 rw [Int.sub_zero, decide_eq_true (show l.n ≤ 60 by omega)]
 rfl
theorem T8 {l : L1} {i : Int} (hp : O0 l i = true) (h : i < l.n) : (Dp l.x i).ok = true ∧ O0 l (i + 1) = true ∧ (l.n - (i + 1)).toNat < (l.n - i).toNat ∧ 0 ≤ i ∧ i ≤ 60 := by
 simp only [O0, Bool.and_eq_true, Aw, decide_eq_true_eq] at hp ⊢
 obtain ⟨⟨h1, h2⟩, h3, h4⟩ := hp
 rw [show (l.n - i).toNat = (l.n - (i + 1)).toNat + 1 by omega] at h4
 simp only [H3, Bool.and_eq_true] at h4
 exact ⟨h4.1, ⟨by omega, h3, h4.2⟩, by omega, h1, by omega⟩
theorem T9 {l : L1} (h : l.RW = true) : O0 l 0 = true := by
 simp only [L1.RW, O0, Bool.and_eq_true, Aw, decide_eq_true_eq, Int.sub_zero] at h ⊢
 exact ⟨⟨by omega, h.1.1⟩, h.1.2, h.2⟩
theorem VT : Jj 14 = [49, 52] := by
 rw [Jj, dif_neg (by omega), Jj, dif_pos (by omega)]
 rfl
theorem VU : num 14 = [49, 52] := by
 unfold num
 rw [if_neg (by omega)]
 exact VT
theorem Wv : num 0 = [48] := by
 unfold num
 rw [if_neg (by omega), Jj, dif_pos (by decide)]
 rfl
theorem Ww : num 2 = [50] := by
 unfold num
 rw [if_neg (by omega), Jj, dif_pos (by decide)]
 rfl
theorem U4 : Lk.ok ⟨14, 1, 0, 1, 0, .l [.i 0, .i 2, .i 0, .i 0, .i 0, .i 2, .i 0, .i 0, .i 0, .i 2, .i 0, .i 0], 3⟩ = true ∧
  Dg ⟨14, 1, 0, 1, 0, .l [.i 0, .i 2, .i 0, .i 0, .i 0, .i 2, .i 0, .i 0, .i 0, .i 2, .i 0, .i 0], 3⟩ = ⟨#[49, 52, 32, 99, 48, 32, 99, 48, 32, 99, 32, 99, 32, 99, 10]⟩ ∧ Jk ⟨0, 3, 0, 2⟩ = ⟨#[97, 50]⟩ := by
 refine ⟨by decide +kernel, ?_, ?_⟩
 ·have hf : BE ⟨14, 1, 0, 1, 0, .l [.i 0, .i 2, .i 0, .i 0, .i 0, .i 2, .i 0, .i 0, .i 0, .i 2, .i 0, .i 0], 3⟩ 0 = [32, 99, 48, 32, 99, 48] := by
   simp [BE, A9, Wv]
  have hn : Ci (.l [.i 0, .i 2, .i 0, .i 0, .i 0, .i 2, .i 0, .i 0, .i 0, .i 2, .i 0, .i 0]) 3 0 = [32, 99, 32, 99, 32, 99] := by
   simp [Ci, Ch, Mg, N4, A.AW, A.int]
  unfold Dg CU H0
  rw [hf, show (Lk.n ⟨14, 1, 0, 1, 0, .l [.i 0, .i 2, .i 0, .i 0, .i 0, .i 2, .i 0, .i 0, .i 0, .i 2, .i 0, .i 0], 3⟩).toNat = 3 from rfl, hn, show (Lk.t ⟨14, 1, 0, 1, 0, .l [.i 0, .i 2, .i 0, .i 0, .i 0, .i 2, .i 0, .i 0, .i 0, .i 2, .i 0, .i 0], 3⟩) = 14 from rfl, VU]
  rfl
 ·have : Ch 3 2 = [97, 50] := by simp [Ch, Ww]
  unfold Jk
  rw [this]
  rfl
theorem Jn (s : ByteArray) : (s == s) = true := by
 show (s.data == s.data) = true
 simp
end Day

