import Derived.Test.YtmpinegdphkbjaaDoorUXc
set_option linter.unusedVariables false
set_option linter.unusedSimpArgs false
namespace Day
structure Fr where
 kind : Int
 id : Int
 deriving DecidableEq
structure ND where
 id : Int
 mode : Int
 count : Int
 pos : Int
 deriving DecidableEq
structure HB where
 ages : List Int
 port : Int
 age : Int
 hold : Int
 pos : Int
 deriving DecidableEq
def HB.a (h : HB) (p : Nat) : Int := h.ages.getD p 0
def right (n : Int) : Bool := decide (3 ≤ n) && decide (n ≤ 8)
end Day
namespace Day
def i64 (x : Int) : Bool := decide (-9223372036854775808 ≤ x) && decide (x ≤ 9223372036854775807)
def u8 (x : Int) : Bool := decide (0 ≤ x) && decide (x ≤ 255)
def u32 (x : Int) : Bool := decide (0 ≤ x) && decide (x ≤ 4294967295)
def sm (x : Int) : Bool := decide (-4611686018427387904 ≤ x) && decide (x ≤ 4611686018427387904)
def ND.i64 (x : ND) : Bool := Day.i64 x.id && Day.i64 x.mode && Day.i64 x.count && Day.i64 x.pos
end Day
namespace Day
end Day
namespace Day
end Day
namespace Day
def UX (q : Nat → Bool) : Bool := q 0 && q 1 && q 2 && q 3 && q 4 && q 5 && q 6 && q 7
def HB.i64 (h : HB) : Bool := UX (fun p => Day.i64 (h.a p)) && Day.i64 h.port && Day.i64 h.age && Day.i64 h.hold && Day.i64 h.pos
end Day
namespace Day
end Day
namespace Day
end Day
namespace Day
end Day
namespace Day
end Day
namespace Day
def bv (b : Bool) : Int := if b then 1 else 0
end Day
namespace Day
theorem SQ (b : Bool) : 0 ≤ bv b ∧ bv b ≤ 1 := by cases b <;> simp [bv]
end Day
namespace Day
end Day
namespace Day
end Day
namespace Day
theorem bs {l o p p' : Int} {b : Bool} (B : 0 ≤ l ∧ l ≤ p) (R : o = l + bv b) (hp : p' = p + 1) : 0 ≤ o ∧ o ≤ p' := by
 have := SQ b
 omega
end Day
namespace Day
end Day
namespace Day
end Day
namespace Day
open Rx
def VE (a : A) : List Int := a.AR.map A.int
def TW (l : List Int) : A := .l (l.map A.i)
def TA : List A → List Fr
 | x :: y :: l => ⟨x.int, y.int⟩ :: TA l
 | _ => []
def VK (a : A) : List Fr := TA a.AR
def UY (l : List Fr) : A := .l (l.flatMap fun f => [.i f.kind, .i f.id])
theorem QQ : ∀ l : List Fr, TA (l.flatMap fun f => [.i f.kind, .i f.id]) = l
 | [] => rfl
 | f :: l => by simp [TA, QQ l]
@[simp] theorem Vv (l : List Fr) : VK (UY l) = l := QQ l
@[simp] theorem Vw (l : List Int) : VE (TW l) = l := by
 induction l with
 | nil => rfl
 | cons a l ih => simpa [VE, TW] using ih
end Day
namespace Day
open Rx Go
structure L1 where
 x : A
 n : Int
structure Lk where
 t : Int
 k0 : Int
 i0 : Int
 k1 : Int
 i1 : Int
 x : A
 n : Int
def VF : A → Bool | .l _ => true | _ => false
theorem Um {x : A} (h : VF x = true) : x = .l x.AR := by
 match x, h with
 | .l as, _ => rfl
def L1.ow (l : L1) (m : Int) : Bool := decide ((l.x.AR.length : Int) = l.n) && (decide (l.n ≤ m) && VF l.x)
def NZ (u : Nat) : List Int := if h : u < 10 then [48 + (u : Int)] else NZ (u / 10) ++ [48 + ((u % 10 : Nat) : Int)]
def num (x : Int) : List Int := if x < 0 then 45 :: NZ x.natAbs else NZ x.natAbs
def B7 (k i : Int) : List Int := if k = 1 then 99 :: num i else if k = 2 then 105 :: num i else if k = 0 ∧ i = 0 then [45] else [63]
def CM (m p : Int) : List Int := if m = 3 then 97 :: num p else if m = 0 then [111] else if m = 1 then [108] else if m = 2 then [99] else [63]
def K3 (x : A) (i : Int) : Int := (x.AR.getD (1 + 4 * i.toNat) (.i 0)).int
def MQ (x : A) (i : Int) : Int := (x.AR.getD (3 + 4 * i.toNat) (.i 0)).int
def Ce (x : A) : Nat → Int → List Int
 | 0, _ => []
 | k + 1, i => 32 :: CM (K3 x i) (MQ x i) ++ Ce x k (i + 1)
def Bp (l : Lk) (i : Int) : List Int := if i = 0 then (32 :: B7 l.k0 l.i0) ++ (32 :: B7 l.k1 l.i1) else if i = 1 then 32 :: B7 l.k1 l.i1 else []
def CS (l : Lk) : List Int := num l.t ++ (Bp l 0 ++ Ce l.x l.n.toNat 0)
def Dh (l : Lk) : List Int := CS l ++ [10]
def CC (x : A) (i : Int) : Lk := ⟨(x.AR.getD (6 * i.toNat) (.i 0)).int, (x.AR.getD (1 + 6 * i.toNat) (.i 0)).int, (x.AR.getD (2 + 6 * i.toNat) (.i 0)).int, (x.AR.getD (3 + 6 * i.toNat) (.i 0)).int, (x.AR.getD (4 + 6 * i.toNat) (.i 0)).int, x.AR.getD (5 + 6 * i.toNat) (.i 0), (((x.AR.getD (5 + 6 * i.toNat) (.i 0)).AR.length / 4 : Nat) : Int)⟩
def AJ (x : A) : Nat → Int → List Int
 | 0, _ => []
 | k + 1, i => Dh (CC x i) ++ AJ x k (i + 1)
def Bg (l : List Int) : List A := l.map .i
def JO (l : List Int) : ByteArray := ⟨(l.map fun v => UInt8.ofNat v.toNat).toArray⟩
def TX (l : L1) (x : Int) : A := .l (l.x.AR ++ Bg (num x))
def OQ (x : ND) : ByteArray := JO (CM x.mode x.pos)
def OR (l : Lk) : ByteArray := JO (Dh l)
def Cf (l : L1) : ByteArray := JO (AJ l.x l.n.toNat 0)
def JF (x : A) : Nat → Int → Bool
 | 0, _ => true
 | k + 1, i => i64 (MQ x i) && JF x k (i + 1)
def Lk.Fa (l : Lk) : Bool := i64 l.t && (i64 l.i0 && (i64 l.i1 && JF l.x l.n.toNat 0))
def Lk.ok (l : Lk) : Bool := l.Fa && (decide (0 ≤ l.n) && decide (l.n ≤ 20))
def UB (x : A) : Nat → Int → Bool
 | 0, _ => true
 | k + 1, i => (CC x i).Fa && UB x k (i + 1)
def SR (x : A) : Nat → Int → Bool
 | 0, _ => true
 | k + 1, i => decide ((CC x i).n ≤ 20) && SR x k (i + 1)
def Hg (x : A) : Nat → Int → Bool
 | 0, _ => true
 | k + 1, i => (CC x i).ok && Hg x k (i + 1)
def EJ (i n : Int) : Bool := decide (0 ≤ i) && decide (i ≤ n)
def L1.Fa (l : L1) : Bool := decide (0 ≤ l.n) && UB l.x l.n.toNat 0
def L1.Tb (l : L1) : Bool := decide (l.n ≤ 60) && SR l.x l.n.toNat 0
def L1.SS (l : L1) : Bool := EJ l.n 60 && Hg l.x l.n.toNat 0
theorem NT (x : A) : ∀ (k : Nat) (i : Int), UB x k i = true → SR x k i = true → Hg x k i = true
 | 0, _, _, _ => rfl
 | k + 1, i, h1, h2 => by
  simp only [UB, SR, Bool.and_eq_true, decide_eq_true_eq] at h1 h2
  simp only [Hg, Lk.ok, Bool.and_eq_true, decide_eq_true_eq]
  exact ⟨⟨h1.1, by show (0 : Int) ≤ ((_ : Nat) : Int); omega, h2.1⟩, NT x k (i + 1) h1.2 h2.2⟩
theorem L1.NT {l : L1} (h1 : l.Fa = true) (h2 : l.Tb = true) : l.SS = true := by
 simp only [L1.Fa, L1.Tb, Bool.and_eq_true, decide_eq_true_eq] at h1 h2
 simp only [L1.SS, EJ, Bool.and_eq_true, decide_eq_true_eq]
 exact ⟨⟨h1.1, h2.1⟩, Day.NT l.x _ 0 h1.2 h2.2⟩
def fP (b : L1) (l : Lk) (i : Int) : Bool := b.ow (900000 - 23 * (2 - i)) && (EJ i 2 && l.ok)
def fN (b : L1) (l : Lk) (i : Int) : Int := b.n + ((Bp l i).length : Int)
def fX (b : L1) (l : Lk) (i : Int) : A := .l (b.x.AR ++ Bg (Bp l i))
def nP (b : L1) (l : Lk) (i : Int) : Bool := b.ow (900000 - 23 * (l.n - i)) && (EJ i l.n && (decide (l.n ≤ 20) && JF l.x (l.n - i).toNat i))
def nN (b : L1) (l : Lk) (i : Int) : Int := b.n + ((Ce l.x (l.n - i).toNat i).length : Int)
def nX (b : L1) (l : Lk) (i : Int) : A := .l (b.x.AR ++ Bg (Ce l.x (l.n - i).toNat i))
def kP (b l : L1) (i : Int) : Bool := b.ow (800000 - 528 * (l.n - i)) && (EJ i l.n && (decide (l.n ≤ 60) && Hg l.x (l.n - i).toNat i))
def kN (b l : L1) (i : Int) : Int := b.n + ((AJ l.x (l.n - i).toNat i).length : Int)
def kX (b l : L1) (i : Int) : A := .l (b.x.AR ++ Bg (AJ l.x (l.n - i).toNat i))
def GW (l : L1) (i : Int) : Bool := SR l.x (l.n - i).toNat i
def K4 (l : L1) (i : Int) : Bool := !GW l i
def wP (l : L1) (i : Int) : Bool := EJ i l.n && decide (l.n ≤ 60)
theorem QR : ∀ (k u : Nat), u < 10 ^ (k + 1) → (NZ u).length ≤ k + 1
 | 0, u, h => by
  rw [NZ, dif_pos (by simpa using h)]
  simp
 | k + 1, u, h => by
  rw [NZ]
  split
  ·simp
  ·have := QR k (u / 10) (by rw [Nat.div_lt_iff_lt_mul (by omega)]; rw [Nat.pow_succ] at h; exact h)
   simp
   omega
theorem QS {x : Int} : i64 x = true ↔ -9223372036854775808 ≤ x ∧ x ≤ 9223372036854775807 := by simp [i64]
theorem TB {x : Int} (h : i64 x = true) : (NZ x.natAbs).length ≤ 20 := by
 rw [QS] at h
 exact QR 19 _ (by omega)
theorem J7 {x : Int} (h : i64 x = true) : (num x).length ≤ 21 := by
 have := TB h
 unfold num
 split <;> simp <;> omega
theorem HO {k i : Int} (h : i64 i = true) : (B7 k i).length ≤ 22 := by
 have := J7 h
 unfold B7
 repeat' split
 all_goals simp
 all_goals omega
theorem MR {k i : Int} (h : i64 i = true) : (CM k i).length ≤ 22 := by
 have := J7 h
 unfold CM
 repeat' split
 all_goals simp
 all_goals omega
theorem K5 (x : A) : ∀ (k : Nat) (i : Int), JF x k i = true → (Ce x k i).length ≤ 23 * k
 | 0, _, _ => by simp [Ce]
 | k + 1, i, h => by
  simp only [JF, Bool.and_eq_true] at h
  have h1 := MR (k := K3 x i) h.1
  have h2 := K5 x k (i + 1) h.2
  simp only [Ce, List.length_append, List.length_cons]
  omega
theorem JG {l : Lk} (h : l.ok = true) (i : Int) : (Bp l i).length ≤ 46 := by
 simp only [Lk.ok, Lk.Fa, Bool.and_eq_true] at h
 have h0 := HO (k := l.k0) h.1.2.1
 have h1 := HO (k := l.k1) h.1.2.2.1
 unfold Bp
 repeat' split
 all_goals simp
 all_goals omega
theorem MS {l : Lk} (h : l.ok = true) : (CS l).length ≤ 527 := by
 have h2 := JG h 0
 simp only [Lk.ok, Lk.Fa, Bool.and_eq_true, decide_eq_true_eq] at h
 have h1 := J7 h.1.1
 have h3 := K5 l.x l.n.toNat 0 h.1.2.2.2
 simp only [CS, List.length_append]
 omega
theorem MT {l : Lk} (h : l.ok = true) : (Dh l).length ≤ 528 := by
 have := MS h
 simp only [Dh, List.length_append, List.length_cons, List.length_nil]
 omega
theorem K6 (x : A) : ∀ (k : Nat) (i : Int), Hg x k i = true → (AJ x k i).length ≤ 528 * k
 | 0, _, _ => by simp [AJ]
 | k + 1, i, h => by
  simp only [Hg, Bool.and_eq_true] at h
  have h1 := MT h.1
  have h2 := K6 x k (i + 1) h.2
  simp only [AJ, List.length_append]
  omega
theorem Jf (a : List Int) : (JO a).size = a.length := by
 unfold JO
 simp [ByteArray.size]
theorem NU (a : List Int) : (Bg a).length = a.length := by simp [Bg]
theorem Ip (a b : List Int) : Bg (a ++ b) = Bg a ++ Bg b := by simp [Bg]
theorem NV (a : List Int) : (⟨((Bg a).map fun a => UInt8.ofNat a.int.toNat).toArray⟩ : ByteArray) = JO a := by
 unfold JO Bg
 rw [List.map_map]
 rfl
theorem Dn {b : L1} {m : Int} : b.ow m = true ↔ (b.x.AR.length : Int) = b.n ∧ b.n ≤ m ∧ b.x = .l b.x.AR := by
 simp only [L1.ow, Bool.and_eq_true, decide_eq_true_eq]
 constructor
 ·rintro ⟨h1, h2, h3⟩
  exact ⟨h1, h2, Um h3⟩
 ·rintro ⟨h1, h2, h3⟩
  exact ⟨h1, h2, by rw [h3]; rfl⟩
theorem As {i n : Int} : EJ i n = true ↔ 0 ≤ i ∧ i ≤ n := by simp [EJ]
theorem AN (X : List A) (L : List Int) : (A.l (X ++ Bg L)).AR.length = X.length + L.length := by simp [Bg, A.AR]
theorem QT {b : L1} {l : Lk} {i : Int} (hp : fP b l i = true) (h : i < 2) {k f : Int} (hk : k = [l.k0, l.k1].getD i.toNat 0) (hf : f = [l.i0, l.i1].getD i.toNat 0) :
  i64 f = true ∧ (b.x.AR.length : Int) = b.n ∧ b.n ≤ 899977 ∧ 0 ≤ i ∧ ∀ p : L1, p.x = .l (b.x.AR ++ Bg (32 :: B7 k f)) → p.n = (p.x.AR.length : Int) →
   fP p l (i + 1) = true ∧ fN p l (i + 1) = fN b l i ∧ fX p l (i + 1) = fX b l i := by
 simp only [fP, Bool.and_eq_true, Dn, As] at hp
 obtain ⟨⟨h1, h2, h3⟩, ⟨h4, h5⟩, h6⟩ := hp
 have hf6 : i64 f = true := by
  simp only [Lk.ok, Lk.Fa, Bool.and_eq_true] at h6
  rcases (show i = 0 ∨ i = 1 by omega) with rfl | rfl
  ·rw [hf]; exact h6.1.2.1
  ·rw [hf]; exact h6.1.2.2.1
 refine ⟨hf6, h1, by omega, h4, fun p px pn => ?_⟩
 have hlen := HO (k := k) hf6
 have pl : p.n = b.n + (1 + (B7 k f).length : Nat) := by
  rw [pn, px, AN, ← h1]
  simp
  omega
 have hfr : Bp l i = 32 :: B7 k f ++ Bp l (i + 1) := by
  rcases (show i = 0 ∨ i = 1 by omega) with rfl | rfl
  ·rw [hk, hf]; simp [Bp]
  ·rw [hk, hf]; simp [Bp]
 refine ⟨?_, ?_, ?_⟩
 ·simp only [fP, Bool.and_eq_true, Dn, As]
  exact ⟨⟨by rw [pn], by omega, by rw [px]; rfl⟩, ⟨by omega, by omega⟩, h6⟩
 ·simp only [fN, hfr, pl, List.length_append, List.length_cons]
  omega
 ·simp only [fX, hfr, px, A.AR, Ip, List.append_assoc]
theorem SU {b : L1} {l : Lk} {i : Int} (hp : fP b l i = true) (h : ¬ i < 2) : fN b l i = b.n ∧ fX b l i = b.x ∧ i = 2 := by
 simp only [fP, Bool.and_eq_true, Dn, As] at hp
 obtain ⟨⟨h1, h2, h3⟩, ⟨h4, h5⟩, h6⟩ := hp
 obtain rfl : i = 2 := by omega
 refine ⟨by simp [fN, Bp], ?_, rfl⟩
 have : fX b l 2 = .l b.x.AR := by simp [fX, Bp, Bg]
 rw [this, ← h3]
theorem QU {b : L1} {l : Lk} {i : Int} (hp : nP b l i = true) (h : i < l.n) {m q : Int} (hm : m = K3 l.x i) (hq : q = MQ l.x i) :
  i64 q = true ∧ (b.x.AR.length : Int) = b.n ∧ b.n ≤ 899977 ∧ 0 ≤ i ∧ i ≤ 20 ∧ ∀ p : L1, p.x = .l (b.x.AR ++ Bg (32 :: CM m q)) → p.n = (p.x.AR.length : Int) →
   nP p l (i + 1) = true ∧ nN p l (i + 1) = nN b l i ∧ nX p l (i + 1) = nX b l i ∧ (l.n - (i + 1)).toNat < (l.n - i).toNat := by
 simp only [nP, Bool.and_eq_true, Dn, As, decide_eq_true_eq] at hp
 obtain ⟨⟨h1, h2, h3⟩, ⟨h4, h5⟩, h6, h7⟩ := hp
 obtain ⟨j, hj⟩ : ∃ j : Nat, (l.n - i).toNat = j + 1 := ⟨(l.n - i).toNat - 1, by omega⟩
 have hj2 : (l.n - (i + 1)).toNat = j := by omega
 rw [hj] at h7
 simp only [JF, Bool.and_eq_true] at h7
 rw [← hq] at h7
 refine ⟨h7.1, h1, by omega, h4, by omega, fun p px pn => ?_⟩
 have hlen := MR (k := m) h7.1
 have pl : p.n = b.n + (1 + (CM m q).length : Nat) := by
  rw [pn, px, AN, ← h1]
  simp
  omega
 have hnb : Ce l.x (l.n - i).toNat i = 32 :: CM m q ++ Ce l.x (l.n - (i + 1)).toNat (i + 1) := by
  rw [hj, hj2, hm, hq]
  rfl
 refine ⟨?_, ?_, ?_, by omega⟩
 ·simp only [nP, Bool.and_eq_true, Dn, As, decide_eq_true_eq]
  exact ⟨⟨by rw [pn], by omega, by rw [px]; rfl⟩, ⟨by omega, by omega⟩, h6, by rw [hj2]; exact h7.2⟩
 ·simp only [nN, hnb, pl, List.length_append, List.length_cons]
  omega
 ·simp only [nX, hnb, px, A.AR, Ip, List.append_assoc]
theorem SW {b : L1} {l : Lk} {i : Int} (hp : nP b l i = true) (h : ¬ i < l.n) : nN b l i = b.n ∧ nX b l i = b.x ∧ i = l.n := by
 simp only [nP, Bool.and_eq_true, Dn, As] at hp
 obtain ⟨⟨h1, h2, h3⟩, ⟨h4, h5⟩, h6⟩ := hp
 have h0 : (l.n - i).toNat = 0 := by omega
 refine ⟨by simp [nN, h0, Ce], ?_, by omega⟩
 have : nX b l i = .l b.x.AR := by simp [nX, h0, Ce, Bg]
 rw [this, ← h3]
theorem DM {a b : Bool} (h : b = true) : (!a || b) = true := by
 rw [h]
 simp
theorem Iq (L : List Int) : (A.l (Bg L)).AR = Bg L := rfl
theorem MU {l : Lk} (h : l.ok = true) {pre : List A} (hpre : pre.length ≤ 800000) {b : L1} (bx : b.x = .l (pre ++ Bg (num l.t))) (bn : b.n = (b.x.AR.length : Int)) :
  i64 l.t = true ∧ fP b l 0 = true ∧ nP ⟨fX b l 0, fN b l 0⟩ l 0 = true ∧ nX ⟨fX b l 0, fN b l 0⟩ l 0 = .l (pre ++ Bg (CS l)) ∧ pre.length + (CS l).length ≤ 800527 := by
 have hc := MS h
 have hf := JG h 0
 have hh := h
 simp only [Lk.ok, Lk.Fa, Bool.and_eq_true, decide_eq_true_eq] at hh
 obtain ⟨⟨h1, h2, h3, h4⟩, h5, h6⟩ := hh
 have hn := J7 h1
 have hb : b.n = (pre.length + (num l.t).length : Nat) := by rw [bn, bx, AN]
 have e1 : fX b l 0 = .l (pre ++ Bg (num l.t ++ Bp l 0)) := by simp only [fX, bx, A.AR, Ip, List.append_assoc]
 have e2 : fN b l 0 = (pre.length + (num l.t ++ Bp l 0).length : Nat) := by
  simp only [fN, hb, List.length_append]
  omega
 refine ⟨h1, ?_, ?_, ?_, by omega⟩
 ·simp only [fP, Bool.and_eq_true, Dn, As]
  exact ⟨⟨by rw [bn], by omega, by rw [bx]; rfl⟩, ⟨by omega, by omega⟩, h⟩
 ·simp only [nP, Bool.and_eq_true, Dn, As, decide_eq_true_eq]
  refine ⟨⟨by rw [e1, e2, AN], ?_, by rw [e1]; rfl⟩, ⟨by omega, by omega⟩, h6, by rw [Int.sub_zero]; exact h4⟩
  rw [e2, List.length_append]
  omega
 ·simp only [nX, e1, A.AR, CS, Ip, List.append_assoc, Int.sub_zero]
theorem TC {b l : L1} {i : Int} (hp : kP b l i = true) (h : i < l.n) :
  (CC l.x i).ok = true ∧ (b.x.AR.length : Int) = b.n ∧ b.n ≤ 799472 ∧ b.x = .l b.x.AR ∧ 0 ≤ i ∧ i ≤ 60 ∧ ∀ p : L1, p.x = .l (b.x.AR ++ Bg (Dh (CC l.x i))) → p.n = (p.x.AR.length : Int) →
   kP p l (i + 1) = true ∧ kN p l (i + 1) = kN b l i ∧ kX p l (i + 1) = kX b l i ∧ (l.n - (i + 1)).toNat < (l.n - i).toNat := by
 simp only [kP, Bool.and_eq_true, Dn, As, decide_eq_true_eq] at hp
 obtain ⟨⟨h1, h2, h3⟩, ⟨h4, h5⟩, h6, h7⟩ := hp
 obtain ⟨j, hj⟩ : ∃ j : Nat, (l.n - i).toNat = j + 1 := ⟨(l.n - i).toNat - 1, by omega⟩
 have hj2 : (l.n - (i + 1)).toNat = j := by omega
 rw [hj] at h7
 simp only [Hg, Bool.and_eq_true] at h7
 refine ⟨h7.1, h1, by omega, h3, h4, by omega, fun p px pn => ?_⟩
 have hlen := MT h7.1
 have pl : p.n = b.n + ((Dh (CC l.x i)).length : Nat) := by
  rw [pn, px, AN, ← h1]
  omega
 have hnb : AJ l.x (l.n - i).toNat i = Dh (CC l.x i) ++ AJ l.x (l.n - (i + 1)).toNat (i + 1) := by
  rw [hj, hj2]
  rfl
 refine ⟨?_, ?_, ?_, by omega⟩
 ·simp only [kP, Bool.and_eq_true, Dn, As, decide_eq_true_eq]
  exact ⟨⟨by rw [pn], by omega, by rw [px]; rfl⟩, ⟨by omega, by omega⟩, h6, by rw [hj2]; exact h7.2⟩
 ·simp only [kN, hnb, pl, List.length_append]
  omega
 ·simp only [kX, hnb, px, A.AR, Ip, List.append_assoc]
theorem Un {b l : L1} {i : Int} (hp : kP b l i = true) (h : ¬ i < l.n) : kN b l i = b.n ∧ kX b l i = b.x := by
 simp only [kP, Bool.and_eq_true, Dn, As] at hp
 obtain ⟨⟨h1, h2, h3⟩, ⟨h4, h5⟩, h6⟩ := hp
 have h0 : (l.n - i).toNat = 0 := by omega
 refine ⟨by simp [kN, h0, AJ], ?_⟩
 have : kX b l i = .l b.x.AR := by simp [kX, h0, AJ, Bg]
 rw [this, ← h3]
theorem TD {l : L1} (h : l.SS = true) : kP ⟨.l [], 0⟩ l 0 = true ∧ kX ⟨.l [], 0⟩ l 0 = .l (Bg (AJ l.x l.n.toNat 0)) := by
 simp only [L1.SS, Bool.and_eq_true, As] at h
 refine ⟨?_, by simp [kX, A.AR]⟩
 simp only [kP, Bool.and_eq_true, Dn, As, decide_eq_true_eq, Int.sub_zero]
 exact ⟨⟨rfl, by show (0 : Int) ≤ _; omega, rfl⟩, ⟨by omega, h.1.1⟩, h.1.2, h.2⟩
theorem SX {l : L1} {i : Int} (hp : wP l i = true) (h : i < l.n) : GW l i = (decide ((CC l.x i).n ≤ 20) && GW l (i + 1)) ∧ wP l (i + 1) = true ∧ (l.n - (i + 1)).toNat < (l.n - i).toNat ∧ 0 ≤ i ∧ i ≤ 60 := by
 simp only [wP, Bool.and_eq_true, As, decide_eq_true_eq] at hp ⊢
 refine ⟨?_, by omega, by omega, by omega, by omega⟩
 unfold GW
 rw [show (l.n - i).toNat = (l.n - (i + 1)).toNat + 1 by omega]
 rfl
theorem TE {l : L1} {i : Int} (h : ¬ i < l.n) : GW l i = true := by
 unfold GW
 rw [show (l.n - i).toNat = 0 by omega]
 rfl
theorem SY {l : L1} (h : l.Fa = true) (h2 : ¬ l.n > 60) : wP l 0 = true ∧ l.Tb = GW l 0 := by
 simp only [L1.Fa, wP, Bool.and_eq_true, As, decide_eq_true_eq] at h ⊢
 refine ⟨by omega, ?_⟩
 unfold L1.Tb GW
 rw [Int.sub_zero, decide_eq_true (show l.n ≤ 60 by omega)]
 rfl
theorem Uo : NZ 14 = [49, 52] := by
 rw [NZ, dif_neg (by omega), NZ, dif_pos (by omega)]
 rfl
theorem Up : num 14 = [49, 52] := by
 unfold num
 rw [if_neg (by omega)]
 exact Uo
theorem UZ : num 0 = [48] := by
 unfold num
 rw [if_neg (by omega), NZ, dif_pos (by decide)]
 rfl
theorem U0 : num 2 = [50] := by
 unfold num
 rw [if_neg (by omega), NZ, dif_pos (by decide)]
 rfl
theorem TF : Lk.ok ⟨14, 1, 0, 1, 0, .l [.i 0, .i 2, .i 0, .i 0, .i 0, .i 2, .i 0, .i 0, .i 0, .i 2, .i 0, .i 0], 3⟩ = true ∧
  OR ⟨14, 1, 0, 1, 0, .l [.i 0, .i 2, .i 0, .i 0, .i 0, .i 2, .i 0, .i 0, .i 0, .i 2, .i 0, .i 0], 3⟩ = ⟨#[49, 52, 32, 99, 48, 32, 99, 48, 32, 99, 32, 99, 32, 99, 10]⟩ ∧ OQ ⟨0, 3, 0, 2⟩ = ⟨#[97, 50]⟩ := by
 refine ⟨by decide +kernel, ?_, ?_⟩
 ·have hf : Bp ⟨14, 1, 0, 1, 0, .l [.i 0, .i 2, .i 0, .i 0, .i 0, .i 2, .i 0, .i 0, .i 0, .i 2, .i 0, .i 0], 3⟩ 0 = [32, 99, 48, 32, 99, 48] := by
   simp [Bp, B7, UZ]
  have hn : Ce (.l [.i 0, .i 2, .i 0, .i 0, .i 0, .i 2, .i 0, .i 0, .i 0, .i 2, .i 0, .i 0]) 3 0 = [32, 99, 32, 99, 32, 99] := by
   simp [Ce, CM, K3, MQ, A.AR, A.int]
  unfold OR Dh CS
  rw [hf, show (Lk.n ⟨14, 1, 0, 1, 0, .l [.i 0, .i 2, .i 0, .i 0, .i 0, .i 2, .i 0, .i 0, .i 0, .i 2, .i 0, .i 0], 3⟩).toNat = 3 from rfl, hn, show (Lk.t ⟨14, 1, 0, 1, 0, .l [.i 0, .i 2, .i 0, .i 0, .i 0, .i 2, .i 0, .i 0, .i 0, .i 2, .i 0, .i 0], 3⟩) = 14 from rfl, Up]
  rfl
 ·have : CM 3 2 = [97, 50] := by simp [CM, U0]
  unfold OQ
  rw [this]
  rfl
theorem OS (s : ByteArray) : (s == s) = true := by
 show (s.data == s.data) = true
 simp
def Gi (s : ByteArray) (i : Int) : Int := ((s.data.toList.getD i.toNat 0).toNat : Int)
def Fg (s : ByteArray) : Int := (s.size : Int)
def Tc (s : ByteArray) (i : Int) : Bool := decide (i < Fg s) && !decide (Gi s i = 10)
def SZ (s : ByteArray) : Nat → Int → Int → Int × Int
 | 0, i, w => (i, w)
 | k + 1, i, w => if Tc s i then SZ s k (i + 1) (if Gi s i = 32 then w + 1 else w) else (i, w)
def Lw (s : ByteArray) (i w : Int) : Int := (SZ s (Fg s - i).toNat i w).1
def QV (s : ByteArray) (i w : Int) : Int := (SZ s (Fg s - i).toNat i w).2
def PU (s : ByteArray) (i w : Int) : Bool := decide (Lw s i w < Fg s)
def Td (s : ByteArray) (i w : Int) : Bool := EJ i (Fg s) && (decide (0 ≤ w) && (decide (w + (Fg s - i) ≤ 1000000000) && decide (Fg s ≤ 1000000000)))
theorem TG {s : ByteArray} {i w : Int} (hp : Td s i w = true) (h : Tc s i = true) {w2 : Int} (hw : w2 = if Gi s i = 32 then w + 1 else w) :
  Td s (i + 1) w2 = true ∧ Lw s (i + 1) w2 = Lw s i w ∧ QV s (i + 1) w2 = QV s i w ∧ PU s (i + 1) w2 = PU s i w ∧ (Fg s - (i + 1)).toNat < (Fg s - i).toNat ∧ 0 ≤ i ∧ i ≤ 1000000000 ∧ 0 ≤ w ∧ w ≤ 1000000000 := by
 simp only [Td, Bool.and_eq_true, As, decide_eq_true_eq] at hp ⊢
 have hlt : i < Fg s := by
  simp only [Tc, Bool.and_eq_true, decide_eq_true_eq] at h
  exact h.1
 have e : SZ s (Fg s - i).toNat i w = SZ s (Fg s - (i + 1)).toNat (i + 1) w2 := by
  rw [show (Fg s - i).toNat = (Fg s - (i + 1)).toNat + 1 by omega]
  conv => lhs; unfold SZ
  rw [if_pos h, hw]
 refine ⟨?_, by unfold Lw; rw [e], by unfold QV; rw [e], by unfold PU Lw; rw [e], by omega, by omega, by omega, by omega, by omega⟩
 rw [hw]
 split <;> omega
theorem Uq {s : ByteArray} {i w : Int} (h : ¬ Tc s i = true) : Lw s i w = i ∧ QV s i w = w := by
 have e : ∀ k, SZ s k i w = (i, w) := fun k => by
  cases k with
  | zero => rfl
  | succ k =>
   unfold SZ
   rw [if_neg h]
 unfold Lw QV
 rw [e]
 exact ⟨rfl, rfl⟩
def EK (l : List Int) : Prop := ∀ v ∈ l, 0 ≤ v ∧ v ≤ 255 ∧ v ≠ 10 ∧ v ≠ 32
def GX (l : List Int) : Int := ((l.countP fun v => decide (v = 32) : Nat) : Int)
theorem Fb (a b : List Int) : GX (a ++ b) = GX a + GX b := by
 unfold GX
 rw [List.countP_append]
 omega
theorem K7 {l : List Int} (h : EK l) : GX l = 0 := by
 unfold GX
 have : l.countP (fun v => decide (v = 32)) = 0 := by
  rw [List.countP_eq_zero]
  intro v hv
  simpa using (h v hv).2.2.2
 rw [this]
 rfl
theorem MV : ∀ u : Nat, EK (NZ u) := by
 intro u
 induction u using Nat.strongRecOn with
 | ind u ih =>
  rw [NZ]
  split
  ·intro v hv
   simp at hv
   omega
  ·intro v hv
   rw [List.mem_append] at hv
   rcases hv with hv | hv
   ·exact ih (u / 10) (by omega) v hv
   ·simp at hv
    omega
theorem Bu {v : Int} {l : List Int} (h0 : 0 ≤ v ∧ v ≤ 255 ∧ v ≠ 10 ∧ v ≠ 32) (h : EK l) : EK (v :: l) := fun x hx => by
 rcases List.mem_cons.1 hx with rfl | hx
 ·exact h0
 ·exact h x hx
theorem DN : EK [] := fun v hv => by simp at hv
theorem Fc (x : Int) : EK (num x) := by
 unfold num
 split
 ·exact Bu (by omega) (MV _)
 ·exact MV _
theorem JH (k i : Int) : EK (B7 k i) := by
 unfold B7
 repeat' split
 ·exact Bu (by omega) (Fc _)
 ·exact Bu (by omega) (Fc _)
 ·exact Bu (by omega) DN
 ·exact Bu (by omega) DN
theorem PW (k i : Int) : EK (CM k i) := by
 unfold CM
 repeat' split
 ·exact Bu (by omega) (Fc _)
 ·exact Bu (by omega) DN
 ·exact Bu (by omega) DN
 ·exact Bu (by omega) DN
 ·exact Bu (by omega) DN
def JI (l : List Int) : Prop := ∀ v ∈ l, 0 ≤ v ∧ v ≤ 255 ∧ v ≠ 10
theorem Ir {a b : List Int} (ha : JI a) (hb : JI b) : JI (a ++ b) := fun v hv => by
 rcases List.mem_append.1 hv with h | h
 ·exact ha v h
 ·exact hb v h
theorem K8 {a : List Int} (h : EK a) : JI a := fun v hv => ⟨(h v hv).1, (h v hv).2.1, (h v hv).2.2.1⟩
theorem NW {a : List Int} (h : EK a) : JI (32 :: a) ∧ GX (32 :: a) = 1 := by
 refine ⟨fun v hv => ?_, ?_⟩
 ·rcases List.mem_cons.1 hv with rfl | hv
  ·omega
  ·exact K8 h v hv
 ·rw [show (32 :: a) = [32] ++ a from rfl, Fb, K7 h]
  rfl
theorem K9 (x : A) : ∀ (k : Nat) (i : Int), JI (Ce x k i) ∧ GX (Ce x k i) = k
 | 0, _ => ⟨fun v hv => by simp [Ce] at hv, rfl⟩
 | k + 1, i => by
  obtain ⟨h1, h2⟩ := K9 x k (i + 1)
  obtain ⟨h3, h4⟩ := NW (PW (K3 x i) (MQ x i))
  refine ⟨Ir h3 h1, ?_⟩
  show GX ((32 :: CM _ _) ++ _) = _
  rw [Fb, h2, h4]
  omega
theorem Rw (l : Lk) (h : 0 ≤ l.n) : JI (CS l) ∧ GX (CS l) = 2 + l.n := by
 obtain ⟨h1, h2⟩ := K9 l.x l.n.toNat 0
 obtain ⟨h3, h4⟩ := NW (JH l.k0 l.i0)
 obtain ⟨h5, h6⟩ := NW (JH l.k1 l.i1)
 have hf : Bp l 0 = (32 :: B7 l.k0 l.i0) ++ (32 :: B7 l.k1 l.i1) := by simp [Bp]
 refine ⟨Ir (K8 (Fc _)) (Ir (by rw [hf]; exact Ir h3 h5) h1), ?_⟩
 unfold CS
 rw [Fb, Fb, K7 (Fc _), hf, Fb, h4, h6, h2]
 omega
theorem OT (pre post : List Int) {v : Int} (h : 0 ≤ v ∧ v ≤ 255) : Gi (JO (pre ++ v :: post)) (pre.length : Nat) = v ∧ ((pre.length : Nat) : Int) < Fg (JO (pre ++ v :: post)) := by
 constructor
 ·unfold Gi JO
  rw [show (((pre.length : Nat) : Int)).toNat = pre.length from rfl]
  simp only [List.map_append, List.map_cons]
  have e : ∀ (a : List UInt8) (x : UInt8) (b : List UInt8), (a ++ x :: b).getD a.length 0 = x := fun a x b => by simp [List.getD]
  have e2 := e (pre.map fun v => UInt8.ofNat v.toNat) (UInt8.ofNat v.toNat) (post.map fun v => UInt8.ofNat v.toNat)
  rw [List.length_map] at e2
  rw [e2, UInt8.toNat_ofNat']
  omega
 ·unfold Fg
  rw [Jf, List.length_append, List.length_cons]
  omega
theorem MW (post : List Int) : ∀ (core pre : List Int) (w : Int) (k : Nat), JI core → core.length < k → SZ (JO (pre ++ (core ++ 10 :: post))) k (pre.length : Nat) w = (((pre.length + core.length : Nat) : Int), w + GX core)
 | [], pre, w, k, _, hk => by
  obtain ⟨k, rfl⟩ : ∃ j, k = j + 1 := ⟨k - 1, by simp at hk; omega⟩
  have hb := OT pre post (v := 10) (by omega)
  unfold SZ
  rw [List.nil_append, if_neg (by simp only [Tc, hb.1]; simp)]
  simp [GX]
 | v :: core, pre, w, k, hl, hk => by
  obtain ⟨k, rfl⟩ : ∃ j, k = j + 1 := ⟨k - 1, by simp at hk; omega⟩
  have hv := hl v (by simp)
  have hb := OT pre (core ++ 10 :: post) (v := v) (by omega)
  have ih := MW post core (pre ++ [v]) (if v = 32 then w + 1 else w) k (fun x hx => hl x (by simp [hx])) (by simp at hk; omega)
  rw [show pre ++ (v :: core ++ 10 :: post) = pre ++ v :: (core ++ 10 :: post) by simp]
  unfold SZ
  have hg : Tc (JO (pre ++ v :: (core ++ 10 :: post))) (pre.length : Nat) = true := by
   simp only [Tc, hb.1, hb.2, decide_true, Bool.true_and]
   simp [hv.2.2]
  rw [if_pos hg, hb.1]
  rw [show pre ++ [v] ++ (core ++ 10 :: post) = pre ++ v :: (core ++ 10 :: post) by simp] at ih
  rw [show (((pre.length : Nat) : Int) + 1) = (((pre ++ [v]).length : Nat) : Int) by simp, ih]
  have hc : GX (v :: core) = (if v = 32 then 1 else 0) + GX core := by
   rw [show (v :: core) = [v] ++ core from rfl, Fb]
   congr 1
   unfold GX
   by_cases h : v = 32 <;> simp [h]
  refine Prod.ext ?_ ?_
  ·simp
   omega
  ·rw [hc]
   split <;> simp <;> omega
theorem Jg (x : A) : ∀ (a b : Nat) (i : Int), AJ x (a + b) i = AJ x a i ++ AJ x b (i + a)
 | 0, b, i => by simp [AJ]
 | a + 1, b, i => by
  rw [show a + 1 + b = (a + b) + 1 by omega]
  simp only [AJ]
  rw [Jg x a b (i + 1), List.append_assoc]
  congr 3
  omega
def RN (s : ByteArray) (l : L1) (at' i : Int) : Bool := decide (s = Cf l) && (EJ i l.n && (l.SS && decide (at' = ((AJ l.x i.toNat 0).length : Int))))
theorem TH {s : ByteArray} {l : L1} {q i : Int} (hp : RN s l q i = true) (h : i < l.n) :
  Td s q 1 = true ∧ 0 ≤ i ∧ i ≤ 60 ∧ 0 ≤ (CC l.x i).n ∧ (CC l.x i).n ≤ 20 ∧ QV s q 1 = 3 + (CC l.x i).n ∧ 0 ≤ Lw s q 1 ∧ Lw s q 1 < Fg s ∧ Fg s ≤ 100000 ∧ RN s l (Lw s q 1 + 1) (i + 1) = true ∧ (l.n - (i + 1)).toNat < (l.n - i).toNat := by
 simp only [RN, Bool.and_eq_true, As, decide_eq_true_eq] at hp
 obtain ⟨rfl, ⟨h0, h1⟩, h2, rfl⟩ := hp
 have hl := h2
 simp only [L1.SS, Bool.and_eq_true, As] at h2
 have hall : ∀ (k : Nat) (j : Int), Hg l.x k j = true → ∀ a : Nat, a < k → (CC l.x (j + a)).ok = true := by
  intro k
  induction k with
  | zero => intro j _ a ha; omega
  | succ k ih =>
   intro j hj a ha
   simp only [Hg, Bool.and_eq_true] at hj
   cases a with
   | zero => simpa using hj.1
   | succ a =>
    have := ih (j + 1) hj.2 a (by omega)
    rw [show j + ((a + 1 : Nat) : Int) = j + 1 + (a : Int) by omega]
    exact this
 have hk := hall l.n.toNat 0 h2.2 i.toNat (by omega)
 rw [show (0 : Int) + (i.toNat : Int) = i by omega] at hk
 have hkk := hk
 simp only [Lk.ok, Bool.and_eq_true, decide_eq_true_eq] at hk
 obtain ⟨c1, c2⟩ := Rw (CC l.x i) hk.2.1
 have hsplit : AJ l.x l.n.toNat 0 = AJ l.x i.toNat 0 ++ (CS (CC l.x i) ++ 10 :: AJ l.x (l.n.toNat - (i.toNat + 1)) (i + 1)) := by
  have e := Jg l.x i.toNat (l.n.toNat - i.toNat) 0
  rw [show i.toNat + (l.n.toNat - i.toNat) = l.n.toNat by omega, show (0 : Int) + (i.toNat : Int) = i by omega] at e
  rw [e, show l.n.toNat - i.toNat = (l.n.toNat - (i.toNat + 1)) + 1 by omega]
  simp [AJ, Dh]
 have hnext : AJ l.x (i + 1).toNat 0 = AJ l.x i.toNat 0 ++ (CS (CC l.x i) ++ [10]) := by
  have e := Jg l.x i.toNat 1 0
  rw [show (0 : Int) + (i.toNat : Int) = i by omega] at e
  rw [show (i + 1).toNat = i.toNat + 1 by omega, e]
  simp [AJ, Dh]
 have hsz : Fg (Cf l) = ((AJ l.x l.n.toNat 0).length : Int) := by unfold Fg Cf; rw [Jf]
 have hlen := K6 l.x l.n.toNat 0 h2.2
 have hfull : Fg (Cf l) = ((AJ l.x i.toNat 0).length + ((CS (CC l.x i)).length + ((AJ l.x (l.n.toNat - (i.toNat + 1)) (i + 1)).length + 1)) : Nat) := by
  rw [hsz, hsplit]
  simp only [List.length_append, List.length_cons]
 have hscan := MW (AJ l.x (l.n.toNat - (i.toNat + 1)) (i + 1)) (CS (CC l.x i)) (AJ l.x i.toNat 0) 1 (Fg (Cf l) - ((AJ l.x i.toNat 0).length : Int)).toNat c1 (by omega)
 rw [← hsplit] at hscan
 have hA : Lw (Cf l) ((AJ l.x i.toNat 0).length : Int) 1 = ((AJ l.x i.toNat 0).length + (CS (CC l.x i)).length : Nat) := by
  unfold Lw Cf
  unfold Cf at hscan
  rw [hscan]
 have hW : QV (Cf l) ((AJ l.x i.toNat 0).length : Int) 1 = 1 + GX (CS (CC l.x i)) := by
  unfold QV Cf
  unfold Cf at hscan
  rw [hscan]
 refine ⟨?_, h0, by omega, hk.2.1, hk.2.2, by rw [hW, c2]; omega, by rw [hA]; omega, by rw [hA, hfull]; omega, by omega, ?_, by omega⟩
 ·simp only [Td, Bool.and_eq_true, As, decide_eq_true_eq]
  omega
 ·simp only [RN, Bool.and_eq_true, As, decide_eq_true_eq]
  refine ⟨trivial, ⟨by omega, by omega⟩, hl, ?_⟩
  rw [hA, hnext]
  simp only [List.length_append, List.length_cons, List.length_nil]
  omega
theorem Ur {s : ByteArray} {l : L1} {q i : Int} (hp : RN s l q i = true) (h : ¬ i < l.n) : q = Fg s := by
 simp only [RN, Bool.and_eq_true, As, decide_eq_true_eq] at hp
 obtain ⟨rfl, ⟨h0, h1⟩, h2, rfl⟩ := hp
 obtain rfl : i = l.n := by omega
 unfold Fg Cf
 rw [Jf]
theorem TI {l : L1} (h : l.SS = true) : RN (Cf l) l 0 0 = true := by
 have h2 := h
 simp only [L1.SS, Bool.and_eq_true, As] at h2
 simp only [RN, Bool.and_eq_true, As, decide_eq_true_eq]
 exact ⟨trivial, ⟨by omega, by omega⟩, h, rfl⟩
end Day

