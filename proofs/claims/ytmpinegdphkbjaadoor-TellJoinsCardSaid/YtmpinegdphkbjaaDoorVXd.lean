import Derived.Test.YtmpinegdphkbjaaDoorVXc
set_option linter.unusedVariables false
set_option linter.unusedSimpArgs false
namespace Day
structure Fr where
 kind : Int
 id : Int
 deriving DecidableEq
structure ND where
 id : Int
 mode : Int
 count : Int
 pos : Int
 deriving DecidableEq
structure HB where
 ages : List Int
 port : Int
 age : Int
 hold : Int
 pos : Int
 deriving DecidableEq
def HB.a (h : HB) (p : Nat) : Int := h.ages.getD p 0
def right (n : Int) : Bool := decide (3 ≤ n) && decide (n ≤ 8)
end Day
namespace Day
def i64 (x : Int) : Bool := decide (-9223372036854775808 ≤ x) && decide (x ≤ 9223372036854775807)
def u8 (x : Int) : Bool := decide (0 ≤ x) && decide (x ≤ 255)
def u32 (x : Int) : Bool := decide (0 ≤ x) && decide (x ≤ 4294967295)
def sm (x : Int) : Bool := decide (-4611686018427387904 ≤ x) && decide (x ≤ 4611686018427387904)
def ND.i64 (x : ND) : Bool := Day.i64 x.id && Day.i64 x.mode && Day.i64 x.count && Day.i64 x.pos
end Day
namespace Day
end Day
namespace Day
end Day
namespace Day
def UB (q : Nat → Bool) : Bool := q 0 && q 1 && q 2 && q 3 && q 4 && q 5 && q 6 && q 7
def HB.i64 (h : HB) : Bool := UB (fun p => Day.i64 (h.a p)) && Day.i64 h.port && Day.i64 h.age && Day.i64 h.hold && Day.i64 h.pos
end Day
namespace Day
end Day
namespace Day
end Day
namespace Day
end Day
namespace Day
end Day
namespace Day
def bv (b : Bool) : Int := if b then 1 else 0
end Day
namespace Day
theorem Sy (b : Bool) : 0 ≤ bv b ∧ bv b ≤ 1 := by cases b <;> simp [bv]
end Day
namespace Day
end Day
namespace Day
def QD : List Int → Int → Int → Int
 | [], _, _ => -1
 | l :: ls, i, m => if m = l then i else QD ls (i + 1) m
end Day
namespace Day
theorem bs {l o p p' : Int} {b : Bool} (B : 0 ≤ l ∧ l ≤ p) (R : o = l + bv b) (hp : p' = p + 1) : 0 ≤ o ∧ o ≤ p' := by
 have := Sy b
 omega
end Day
namespace Day
end Day
namespace Day
end Day
namespace Day
open Rx
def Vk (a : A) : List Int := a.AL.map A.int
def TB (l : List Int) : A := .l (l.map A.i)
def Tg : List A → List Fr
 | x :: y :: l => ⟨x.int, y.int⟩ :: Tg l
 | _ => []
def Vq (a : A) : List Fr := Tg a.AL
def UC (l : List Fr) : A := .l (l.flatMap fun f => [.i f.kind, .i f.id])
theorem Qr : ∀ l : List Fr, Tg (l.flatMap fun f => [.i f.kind, .i f.id]) = l
 | [] => rfl
 | f :: l => by simp [Tg, Qr l]
@[simp] theorem Va (l : List Fr) : Vq (UC l) = l := Qr l
@[simp] theorem Vb (l : List Int) : Vk (TB l) = l := by
 induction l with
 | nil => rfl
 | cons a l ih => simpa [Vk, TB] using ih
end Day
namespace Day
open Rx Go
structure L1 where
 x : A
 n : Int
structure Lk where
 t : Int
 k0 : Int
 i0 : Int
 k1 : Int
 i1 : Int
 x : A
 n : Int
def Vc : A → Bool | .l _ => true | _ => false
theorem Sz {x : A} (h : Vc x = true) : x = .l x.AL := by
 match x, h with
 | .l as, _ => rfl
def L1.ow (l : L1) (m : Int) : Bool := decide ((l.x.AL.length : Int) = l.n) && (decide (l.n ≤ m) && Vc l.x)
def OU (u : Nat) : List Int := if h : u < 10 then [48 + (u : Int)] else OU (u / 10) ++ [48 + ((u % 10 : Nat) : Int)]
def num (x : Int) : List Int := if x < 0 then 45 :: OU x.natAbs else OU x.natAbs
def CO (k i : Int) : List Int := if k = 1 then 99 :: num i else if k = 2 then 105 :: num i else if k = 0 ∧ i = 0 then [45] else [63]
def Dk (m p : Int) : List Int := if m = 3 then 97 :: num p else if m = 0 then [111] else if m = 1 then [108] else if m = 2 then [99] else [63]
def NC (x : A) (i : Int) : Int := (x.AL.getD (1 + 4 * i.toNat) (.i 0)).int
def OE (x : A) (i : Int) : Int := (x.AL.getD (3 + 4 * i.toNat) (.i 0)).int
def CP (x : A) : Nat → Int → List Int
 | 0, _ => []
 | k + 1, i => 32 :: Dk (NC x i) (OE x i) ++ CP x k (i + 1)
def BF (l : Lk) (i : Int) : List Int := if i = 0 then (32 :: CO l.k0 l.i0) ++ (32 :: CO l.k1 l.i1) else if i = 1 then 32 :: CO l.k1 l.i1 else []
def Ig (l : Lk) : List Int := num l.t ++ (BF l 0 ++ CP l.x l.n.toNat 0)
def DU (l : Lk) : List Int := Ig l ++ [10]
def Ey (x : A) (i : Int) : Lk := ⟨(x.AL.getD (6 * i.toNat) (.i 0)).int, (x.AL.getD (1 + 6 * i.toNat) (.i 0)).int, (x.AL.getD (2 + 6 * i.toNat) (.i 0)).int, (x.AL.getD (3 + 6 * i.toNat) (.i 0)).int, (x.AL.getD (4 + 6 * i.toNat) (.i 0)).int, x.AL.getD (5 + 6 * i.toNat) (.i 0), (((x.AL.getD (5 + 6 * i.toNat) (.i 0)).AL.length / 4 : Nat) : Int)⟩
def Bg (x : A) : Nat → Int → List Int
 | 0, _ => []
 | k + 1, i => DU (Ey x i) ++ Bg x k (i + 1)
def Bk (l : List Int) : List A := l.map .i
def KO (l : List Int) : ByteArray := ⟨(l.map fun v => UInt8.ofNat v.toNat).toArray⟩
def TC (l : L1) (x : Int) : A := .l (l.x.AL ++ Bk (num x))
def OF (x : ND) : ByteArray := KO (Dk x.mode x.pos)
def OG (l : Lk) : ByteArray := KO (DU l)
def DV (l : L1) : ByteArray := KO (Bg l.x l.n.toNat 0)
def Jo (x : A) : Nat → Int → Bool
 | 0, _ => true
 | k + 1, i => i64 (OE x i) && Jo x k (i + 1)
def Lk.EY (l : Lk) : Bool := i64 l.t && (i64 l.i0 && (i64 l.i1 && Jo l.x l.n.toNat 0))
def Lk.ok (l : Lk) : Bool := l.EY && (decide (0 ≤ l.n) && decide (l.n ≤ 20))
def Ue (x : A) : Nat → Int → Bool
 | 0, _ => true
 | k + 1, i => (Ey x i).EY && Ue x k (i + 1)
def SA (x : A) : Nat → Int → Bool
 | 0, _ => true
 | k + 1, i => decide ((Ey x i).n ≤ 20) && SA x k (i + 1)
def Ce (x : A) : Nat → Int → Bool
 | 0, _ => true
 | k + 1, i => (Ey x i).ok && Ce x k (i + 1)
def F8 (i n : Int) : Bool := decide (0 ≤ i) && decide (i ≤ n)
def L1.EY (l : L1) : Bool := decide (0 ≤ l.n) && Ue l.x l.n.toNat 0
def L1.SR (l : L1) : Bool := decide (l.n ≤ 60) && SA l.x l.n.toNat 0
def L1.Qs (l : L1) : Bool := F8 l.n 60 && Ce l.x l.n.toNat 0
theorem NF (x : A) : ∀ (k : Nat) (i : Int), Ue x k i = true → SA x k i = true → Ce x k i = true
 | 0, _, _, _ => rfl
 | k + 1, i, h1, h2 => by
  simp only [Ue, SA, Bool.and_eq_true, decide_eq_true_eq] at h1 h2
  simp only [Ce, Lk.ok, Bool.and_eq_true, decide_eq_true_eq]
  exact ⟨⟨h1.1, by show (0 : Int) ≤ ((_ : Nat) : Int); omega, h2.1⟩, NF x k (i + 1) h1.2 h2.2⟩
theorem L1.NF {l : L1} (h1 : l.EY = true) (h2 : l.SR = true) : l.Qs = true := by
 simp only [L1.EY, L1.SR, Bool.and_eq_true, decide_eq_true_eq] at h1 h2
 simp only [L1.Qs, F8, Bool.and_eq_true, decide_eq_true_eq]
 exact ⟨⟨h1.1, h2.1⟩, Day.NF l.x _ 0 h1.2 h2.2⟩
def fP (b : L1) (l : Lk) (i : Int) : Bool := b.ow (900000 - 23 * (2 - i)) && (F8 i 2 && l.ok)
def fN (b : L1) (l : Lk) (i : Int) : Int := b.n + ((BF l i).length : Int)
def fX (b : L1) (l : Lk) (i : Int) : A := .l (b.x.AL ++ Bk (BF l i))
def nP (b : L1) (l : Lk) (i : Int) : Bool := b.ow (900000 - 23 * (l.n - i)) && (F8 i l.n && (decide (l.n ≤ 20) && Jo l.x (l.n - i).toNat i))
def nN (b : L1) (l : Lk) (i : Int) : Int := b.n + ((CP l.x (l.n - i).toNat i).length : Int)
def nX (b : L1) (l : Lk) (i : Int) : A := .l (b.x.AL ++ Bk (CP l.x (l.n - i).toNat i))
def kP (b l : L1) (i : Int) : Bool := b.ow (800000 - 528 * (l.n - i)) && (F8 i l.n && (decide (l.n ≤ 60) && Ce l.x (l.n - i).toNat i))
def kN (b l : L1) (i : Int) : Int := b.n + ((Bg l.x (l.n - i).toNat i).length : Int)
def kX (b l : L1) (i : Int) : A := .l (b.x.AL ++ Bk (Bg l.x (l.n - i).toNat i))
def GM (l : L1) (i : Int) : Bool := SA l.x (l.n - i).toNat i
def KP (l : L1) (i : Int) : Bool := !GM l i
def wP (l : L1) (i : Int) : Bool := F8 i l.n && decide (l.n ≤ 60)
theorem Qt : ∀ (k u : Nat), u < 10 ^ (k + 1) → (OU u).length ≤ k + 1
 | 0, u, h => by
  rw [OU, dif_pos (by simpa using h)]
  simp
 | k + 1, u, h => by
  rw [OU]
  split
  ·simp
  ·have := Qt k (u / 10) (by rw [Nat.div_lt_iff_lt_mul (by omega)]; rw [Nat.pow_succ] at h; exact h)
   simp
   omega
theorem Qu {x : Int} : i64 x = true ↔ -9223372036854775808 ≤ x ∧ x ≤ 9223372036854775807 := by simp [i64]
theorem Th {x : Int} (h : i64 x = true) : (OU x.natAbs).length ≤ 20 := by
 rw [Qu] at h
 exact Qt 19 _ (by omega)
theorem JR {x : Int} (h : i64 x = true) : (num x).length ≤ 21 := by
 have := Th h
 unfold num
 split <;> simp <;> omega
theorem HG {k i : Int} (h : i64 i = true) : (CO k i).length ≤ 22 := by
 have := JR h
 unfold CO
 repeat' split
 all_goals simp
 all_goals omega
theorem Mz {k i : Int} (h : i64 i = true) : (Dk k i).length ≤ 22 := by
 have := JR h
 unfold Dk
 repeat' split
 all_goals simp
 all_goals omega
theorem KQ (x : A) : ∀ (k : Nat) (i : Int), Jo x k i = true → (CP x k i).length ≤ 23 * k
 | 0, _, _ => by simp [CP]
 | k + 1, i, h => by
  simp only [Jo, Bool.and_eq_true] at h
  have h1 := Mz (k := NC x i) h.1
  have h2 := KQ x k (i + 1) h.2
  simp only [CP, List.length_append, List.length_cons]
  omega
theorem Jp {l : Lk} (h : l.ok = true) (i : Int) : (BF l i).length ≤ 46 := by
 simp only [Lk.ok, Lk.EY, Bool.and_eq_true] at h
 have h0 := HG (k := l.k0) h.1.2.1
 have h1 := HG (k := l.k1) h.1.2.2.1
 unfold BF
 repeat' split
 all_goals simp
 all_goals omega
theorem MA {l : Lk} (h : l.ok = true) : (Ig l).length ≤ 527 := by
 have h2 := Jp h 0
 simp only [Lk.ok, Lk.EY, Bool.and_eq_true, decide_eq_true_eq] at h
 have h1 := JR h.1.1
 have h3 := KQ l.x l.n.toNat 0 h.1.2.2.2
 simp only [Ig, List.length_append]
 omega
theorem MB {l : Lk} (h : l.ok = true) : (DU l).length ≤ 528 := by
 have := MA h
 simp only [DU, List.length_append, List.length_cons, List.length_nil]
 omega
theorem HH (x : A) : ∀ (k : Nat) (i : Int), Ce x k i = true → (Bg x k i).length ≤ 528 * k
 | 0, _, _ => by simp [Bg]
 | k + 1, i, h => by
  simp only [Ce, Bool.and_eq_true] at h
  have h1 := MB h.1
  have h2 := HH x k (i + 1) h.2
  simp only [Bg, List.length_append]
  omega
theorem SB (a b : List Int) : KO (a ++ b) = KO a ++ KO b := by
 unfold KO
 apply ByteArray.ext
 rw [ByteArray.data_append]
 simp
theorem MC (a : List Int) : (KO a).size = a.length := by
 unfold KO
 simp [ByteArray.size]
theorem NG (a : List Int) : (Bk a).length = a.length := by simp [Bk]
theorem Ih (a b : List Int) : Bk (a ++ b) = Bk a ++ Bk b := by simp [Bk]
theorem NH (a : List Int) : (⟨((Bk a).map fun a => UInt8.ofNat a.int.toNat).toArray⟩ : ByteArray) = KO a := by
 unfold KO Bk
 rw [List.map_map]
 rfl
theorem De {b : L1} {m : Int} : b.ow m = true ↔ (b.x.AL.length : Int) = b.n ∧ b.n ≤ m ∧ b.x = .l b.x.AL := by
 simp only [L1.ow, Bool.and_eq_true, decide_eq_true_eq]
 constructor
 ·rintro ⟨h1, h2, h3⟩
  exact ⟨h1, h2, Sz h3⟩
 ·rintro ⟨h1, h2, h3⟩
  exact ⟨h1, h2, by rw [h3]; rfl⟩
theorem AA {i n : Int} : F8 i n = true ↔ 0 ≤ i ∧ i ≤ n := by simp [F8]
theorem AN (X : List A) (L : List Int) : (A.l (X ++ Bk L)).AL.length = X.length + L.length := by simp [Bk, A.AL]
theorem Qv {b : L1} {l : Lk} {i : Int} (hp : fP b l i = true) (h : i < 2) {k f : Int} (hk : k = [l.k0, l.k1].getD i.toNat 0) (hf : f = [l.i0, l.i1].getD i.toNat 0) :
  i64 f = true ∧ (b.x.AL.length : Int) = b.n ∧ b.n ≤ 899977 ∧ 0 ≤ i ∧ ∀ p : L1, p.x = .l (b.x.AL ++ Bk (32 :: CO k f)) → p.n = (p.x.AL.length : Int) →
   fP p l (i + 1) = true ∧ fN p l (i + 1) = fN b l i ∧ fX p l (i + 1) = fX b l i := by
 simp only [fP, Bool.and_eq_true, De, AA] at hp
 obtain ⟨⟨h1, h2, h3⟩, ⟨h4, h5⟩, h6⟩ := hp
 have hf6 : i64 f = true := by
  simp only [Lk.ok, Lk.EY, Bool.and_eq_true] at h6
  rcases (show i = 0 ∨ i = 1 by omega) with rfl | rfl
  ·rw [hf]; exact h6.1.2.1
  ·rw [hf]; exact h6.1.2.2.1
 refine ⟨hf6, h1, by omega, h4, fun p px pn => ?_⟩
 have hlen := HG (k := k) hf6
 have pl : p.n = b.n + (1 + (CO k f).length : Nat) := by
  rw [pn, px, AN, ← h1]
  simp
  omega
 have hfr : BF l i = 32 :: CO k f ++ BF l (i + 1) := by
  rcases (show i = 0 ∨ i = 1 by omega) with rfl | rfl
  ·rw [hk, hf]; simp [BF]
  ·rw [hk, hf]; simp [BF]
 refine ⟨?_, ?_, ?_⟩
 ·simp only [fP, Bool.and_eq_true, De, AA]
  exact ⟨⟨by rw [pn], by omega, by rw [px]; rfl⟩, ⟨by omega, by omega⟩, h6⟩
 ·simp only [fN, hfr, pl, List.length_append, List.length_cons]
  omega
 ·simp only [fX, hfr, px, A.AL, Ih, List.append_assoc]
theorem SC {b : L1} {l : Lk} {i : Int} (hp : fP b l i = true) (h : ¬ i < 2) : fN b l i = b.n ∧ fX b l i = b.x ∧ i = 2 := by
 simp only [fP, Bool.and_eq_true, De, AA] at hp
 obtain ⟨⟨h1, h2, h3⟩, ⟨h4, h5⟩, h6⟩ := hp
 obtain rfl : i = 2 := by omega
 refine ⟨by simp [fN, BF], ?_, rfl⟩
 have : fX b l 2 = .l b.x.AL := by simp [fX, BF, Bk]
 rw [this, ← h3]
theorem Qw {b : L1} {l : Lk} {i : Int} (hp : nP b l i = true) (h : i < l.n) {m q : Int} (hm : m = NC l.x i) (hq : q = OE l.x i) :
  i64 q = true ∧ (b.x.AL.length : Int) = b.n ∧ b.n ≤ 899977 ∧ 0 ≤ i ∧ i ≤ 20 ∧ ∀ p : L1, p.x = .l (b.x.AL ++ Bk (32 :: Dk m q)) → p.n = (p.x.AL.length : Int) →
   nP p l (i + 1) = true ∧ nN p l (i + 1) = nN b l i ∧ nX p l (i + 1) = nX b l i ∧ (l.n - (i + 1)).toNat < (l.n - i).toNat := by
 simp only [nP, Bool.and_eq_true, De, AA, decide_eq_true_eq] at hp
 obtain ⟨⟨h1, h2, h3⟩, ⟨h4, h5⟩, h6, h7⟩ := hp
 obtain ⟨j, hj⟩ : ∃ j : Nat, (l.n - i).toNat = j + 1 := ⟨(l.n - i).toNat - 1, by omega⟩
 have hj2 : (l.n - (i + 1)).toNat = j := by omega
 rw [hj] at h7
 simp only [Jo, Bool.and_eq_true] at h7
 rw [← hq] at h7
 refine ⟨h7.1, h1, by omega, h4, by omega, fun p px pn => ?_⟩
 have hlen := Mz (k := m) h7.1
 have pl : p.n = b.n + (1 + (Dk m q).length : Nat) := by
  rw [pn, px, AN, ← h1]
  simp
  omega
 have hnb : CP l.x (l.n - i).toNat i = 32 :: Dk m q ++ CP l.x (l.n - (i + 1)).toNat (i + 1) := by
  rw [hj, hj2, hm, hq]
  rfl
 refine ⟨?_, ?_, ?_, by omega⟩
 ·simp only [nP, Bool.and_eq_true, De, AA, decide_eq_true_eq]
  exact ⟨⟨by rw [pn], by omega, by rw [px]; rfl⟩, ⟨by omega, by omega⟩, h6, by rw [hj2]; exact h7.2⟩
 ·simp only [nN, hnb, pl, List.length_append, List.length_cons]
  omega
 ·simp only [nX, hnb, px, A.AL, Ih, List.append_assoc]
theorem SD {b : L1} {l : Lk} {i : Int} (hp : nP b l i = true) (h : ¬ i < l.n) : nN b l i = b.n ∧ nX b l i = b.x ∧ i = l.n := by
 simp only [nP, Bool.and_eq_true, De, AA] at hp
 obtain ⟨⟨h1, h2, h3⟩, ⟨h4, h5⟩, h6⟩ := hp
 have h0 : (l.n - i).toNat = 0 := by omega
 refine ⟨by simp [nN, h0, CP], ?_, by omega⟩
 have : nX b l i = .l b.x.AL := by simp [nX, h0, CP, Bk]
 rw [this, ← h3]
theorem CF {a b : Bool} (h : b = true) : (!a || b) = true := by
 rw [h]
 simp
theorem Ii (L : List Int) : (A.l (Bk L)).AL = Bk L := rfl
theorem MD {l : Lk} (h : l.ok = true) {pre : List A} (hpre : pre.length ≤ 800000) {b : L1} (bx : b.x = .l (pre ++ Bk (num l.t))) (bn : b.n = (b.x.AL.length : Int)) :
  i64 l.t = true ∧ fP b l 0 = true ∧ nP ⟨fX b l 0, fN b l 0⟩ l 0 = true ∧ nX ⟨fX b l 0, fN b l 0⟩ l 0 = .l (pre ++ Bk (Ig l)) ∧ pre.length + (Ig l).length ≤ 800527 := by
 have hc := MA h
 have hf := Jp h 0
 have hh := h
 simp only [Lk.ok, Lk.EY, Bool.and_eq_true, decide_eq_true_eq] at hh
 obtain ⟨⟨h1, h2, h3, h4⟩, h5, h6⟩ := hh
 have hn := JR h1
 have hb : b.n = (pre.length + (num l.t).length : Nat) := by rw [bn, bx, AN]
 have e1 : fX b l 0 = .l (pre ++ Bk (num l.t ++ BF l 0)) := by simp only [fX, bx, A.AL, Ih, List.append_assoc]
 have e2 : fN b l 0 = (pre.length + (num l.t ++ BF l 0).length : Nat) := by
  simp only [fN, hb, List.length_append]
  omega
 refine ⟨h1, ?_, ?_, ?_, by omega⟩
 ·simp only [fP, Bool.and_eq_true, De, AA]
  exact ⟨⟨by rw [bn], by omega, by rw [bx]; rfl⟩, ⟨by omega, by omega⟩, h⟩
 ·simp only [nP, Bool.and_eq_true, De, AA, decide_eq_true_eq]
  refine ⟨⟨by rw [e1, e2, AN], ?_, by rw [e1]; rfl⟩, ⟨by omega, by omega⟩, h6, by rw [Int.sub_zero]; exact h4⟩
  rw [e2, List.length_append]
  omega
 ·simp only [nX, e1, A.AL, Ig, Ih, List.append_assoc, Int.sub_zero]
theorem Ti {b l : L1} {i : Int} (hp : kP b l i = true) (h : i < l.n) :
  (Ey l.x i).ok = true ∧ (b.x.AL.length : Int) = b.n ∧ b.n ≤ 799472 ∧ b.x = .l b.x.AL ∧ 0 ≤ i ∧ i ≤ 60 ∧ ∀ p : L1, p.x = .l (b.x.AL ++ Bk (DU (Ey l.x i))) → p.n = (p.x.AL.length : Int) →
   kP p l (i + 1) = true ∧ kN p l (i + 1) = kN b l i ∧ kX p l (i + 1) = kX b l i ∧ (l.n - (i + 1)).toNat < (l.n - i).toNat := by
 simp only [kP, Bool.and_eq_true, De, AA, decide_eq_true_eq] at hp
 obtain ⟨⟨h1, h2, h3⟩, ⟨h4, h5⟩, h6, h7⟩ := hp
 obtain ⟨j, hj⟩ : ∃ j : Nat, (l.n - i).toNat = j + 1 := ⟨(l.n - i).toNat - 1, by omega⟩
 have hj2 : (l.n - (i + 1)).toNat = j := by omega
 rw [hj] at h7
 simp only [Ce, Bool.and_eq_true] at h7
 refine ⟨h7.1, h1, by omega, h3, h4, by omega, fun p px pn => ?_⟩
 have hlen := MB h7.1
 have pl : p.n = b.n + ((DU (Ey l.x i)).length : Nat) := by
  rw [pn, px, AN, ← h1]
  omega
 have hnb : Bg l.x (l.n - i).toNat i = DU (Ey l.x i) ++ Bg l.x (l.n - (i + 1)).toNat (i + 1) := by
  rw [hj, hj2]
  rfl
 refine ⟨?_, ?_, ?_, by omega⟩
 ·simp only [kP, Bool.and_eq_true, De, AA, decide_eq_true_eq]
  exact ⟨⟨by rw [pn], by omega, by rw [px]; rfl⟩, ⟨by omega, by omega⟩, h6, by rw [hj2]; exact h7.2⟩
 ·simp only [kN, hnb, pl, List.length_append]
  omega
 ·simp only [kX, hnb, px, A.AL, Ih, List.append_assoc]
theorem T1 {b l : L1} {i : Int} (hp : kP b l i = true) (h : ¬ i < l.n) : kN b l i = b.n ∧ kX b l i = b.x := by
 simp only [kP, Bool.and_eq_true, De, AA] at hp
 obtain ⟨⟨h1, h2, h3⟩, ⟨h4, h5⟩, h6⟩ := hp
 have h0 : (l.n - i).toNat = 0 := by omega
 refine ⟨by simp [kN, h0, Bg], ?_⟩
 have : kX b l i = .l b.x.AL := by simp [kX, h0, Bg, Bk]
 rw [this, ← h3]
theorem Tj {l : L1} (h : l.Qs = true) : kP ⟨.l [], 0⟩ l 0 = true ∧ kX ⟨.l [], 0⟩ l 0 = .l (Bk (Bg l.x l.n.toNat 0)) := by
 simp only [L1.Qs, Bool.and_eq_true, AA] at h
 refine ⟨?_, by simp [kX, A.AL]⟩
 simp only [kP, Bool.and_eq_true, De, AA, decide_eq_true_eq, Int.sub_zero]
 exact ⟨⟨rfl, by show (0 : Int) ≤ _; omega, rfl⟩, ⟨by omega, h.1.1⟩, h.1.2, h.2⟩
theorem SE {l : L1} {i : Int} (hp : wP l i = true) (h : i < l.n) : GM l i = (decide ((Ey l.x i).n ≤ 20) && GM l (i + 1)) ∧ wP l (i + 1) = true ∧ (l.n - (i + 1)).toNat < (l.n - i).toNat ∧ 0 ≤ i ∧ i ≤ 60 := by
 simp only [wP, Bool.and_eq_true, AA, decide_eq_true_eq] at hp ⊢
 refine ⟨?_, by omega, by omega, by omega, by omega⟩
 unfold GM
 rw [show (l.n - i).toNat = (l.n - (i + 1)).toNat + 1 by omega]
 rfl
theorem Tk {l : L1} {i : Int} (h : ¬ i < l.n) : GM l i = true := by
 unfold GM
 rw [show (l.n - i).toNat = 0 by omega]
 rfl
theorem SF {l : L1} (h : l.EY = true) (h2 : ¬ l.n > 60) : wP l 0 = true ∧ l.SR = GM l 0 := by
 simp only [L1.EY, wP, Bool.and_eq_true, AA, decide_eq_true_eq] at h ⊢
 refine ⟨by omega, ?_⟩
 unfold L1.SR GM
 rw [Int.sub_zero, decide_eq_true (show l.n ≤ 60 by omega)]
 rfl
theorem T2 : OU 14 = [49, 52] := by
 rw [OU, dif_neg (by omega), OU, dif_pos (by omega)]
 rfl
theorem T3 : num 14 = [49, 52] := by
 unfold num
 rw [if_neg (by omega)]
 exact T2
theorem UD : num 0 = [48] := by
 unfold num
 rw [if_neg (by omega), OU, dif_pos (by decide)]
 rfl
theorem UE : num 2 = [50] := by
 unfold num
 rw [if_neg (by omega), OU, dif_pos (by decide)]
 rfl
theorem Tl : Lk.ok ⟨14, 1, 0, 1, 0, .l [.i 0, .i 2, .i 0, .i 0, .i 0, .i 2, .i 0, .i 0, .i 0, .i 2, .i 0, .i 0], 3⟩ = true ∧
  OG ⟨14, 1, 0, 1, 0, .l [.i 0, .i 2, .i 0, .i 0, .i 0, .i 2, .i 0, .i 0, .i 0, .i 2, .i 0, .i 0], 3⟩ = ⟨#[49, 52, 32, 99, 48, 32, 99, 48, 32, 99, 32, 99, 32, 99, 10]⟩ ∧ OF ⟨0, 3, 0, 2⟩ = ⟨#[97, 50]⟩ := by
 refine ⟨by decide +kernel, ?_, ?_⟩
 ·have hf : BF ⟨14, 1, 0, 1, 0, .l [.i 0, .i 2, .i 0, .i 0, .i 0, .i 2, .i 0, .i 0, .i 0, .i 2, .i 0, .i 0], 3⟩ 0 = [32, 99, 48, 32, 99, 48] := by
   simp [BF, CO, UD]
  have hn : CP (.l [.i 0, .i 2, .i 0, .i 0, .i 0, .i 2, .i 0, .i 0, .i 0, .i 2, .i 0, .i 0]) 3 0 = [32, 99, 32, 99, 32, 99] := by
   simp [CP, Dk, NC, OE, A.AL, A.int]
  unfold OG DU Ig
  rw [hf, show (Lk.n ⟨14, 1, 0, 1, 0, .l [.i 0, .i 2, .i 0, .i 0, .i 0, .i 2, .i 0, .i 0, .i 0, .i 2, .i 0, .i 0], 3⟩).toNat = 3 from rfl, hn, show (Lk.t ⟨14, 1, 0, 1, 0, .l [.i 0, .i 2, .i 0, .i 0, .i 0, .i 2, .i 0, .i 0, .i 0, .i 2, .i 0, .i 0], 3⟩) = 14 from rfl, T3]
  rfl
 ·have : Dk 3 2 = [97, 50] := by simp [Dk, UE]
  unfold OF
  rw [this]
  rfl
theorem KR (s : ByteArray) : (s == s) = true := by
 show (s.data == s.data) = true
 simp
theorem ME (x : A) : ∀ (a b : Nat) (i : Int), Bg x (a + b) i = Bg x a i ++ Bg x b (i + a)
 | 0, b, i => by simp [Bg]
 | a + 1, b, i => by
  rw [show a + 1 + b = (a + b) + 1 by omega]
  simp only [Bg]
  rw [ME x a b (i + 1), List.append_assoc]
  congr 3
  omega
theorem getD_take {ys : List A} {m j : Nat} (h : j < m) (d : A) : (ys.take m).getD j d = ys.getD j d := by
 simp [List.getD, List.getElem?_take, h]
theorem Ra {ys : List A} {m j : Nat} (d : A) : (ys.drop m).getD j d = ys.getD (m + j) d := by
 simp [List.getD, List.getElem?_drop]
theorem Rb {ys : List A} {k : Nat} {i : Int} (h : i.toNat < k) : Ey (.l (ys.take (k * 6))) i = Ey (.l ys) i := by
 simp only [Ey, A.AL]
 rw [getD_take (by omega), getD_take (by omega), getD_take (by omega), getD_take (by omega), getD_take (by omega), getD_take (by omega)]
theorem Rc {ys : List A} {k : Nat} {i : Int} (h : 0 ≤ i) : Ey (.l (ys.drop (k * 6))) i = Ey (.l ys) (i + k) := by
 have e : (i + (k : Int)).toNat = i.toNat + k := by omega
 simp only [Ey, A.AL, e, Ra]
 rw [show k * 6 + 6 * i.toNat = 6 * (i.toNat + k) by omega, show k * 6 + (1 + 6 * i.toNat) = 1 + 6 * (i.toNat + k) by omega, show k * 6 + (2 + 6 * i.toNat) = 2 + 6 * (i.toNat + k) by omega, show k * 6 + (3 + 6 * i.toNat) = 3 + 6 * (i.toNat + k) by omega, show k * 6 + (4 + 6 * i.toNat) = 4 + 6 * (i.toNat + k) by omega, show k * 6 + (5 + 6 * i.toNat) = 5 + 6 * (i.toNat + k) by omega]
theorem Jq {ys : List A} {k : Nat} : ∀ (n : Nat) (i : Int), 0 ≤ i → i.toNat + n ≤ k → Bg (.l (ys.take (k * 6))) n i = Bg (.l ys) n i ∧ Ce (.l (ys.take (k * 6))) n i = Ce (.l ys) n i
 | 0, _, _, _ => ⟨rfl, rfl⟩
 | n + 1, i, h0, h => by
  obtain ⟨a, b⟩ := Jq (ys := ys) (k := k) n (i + 1) (by omega) (by omega)
  simp only [Bg, Ce, a, b, Rb (ys := ys) (k := k) (i := i) (by omega), and_self]
theorem Jr {ys : List A} {k : Nat} : ∀ (n : Nat) (i : Int), 0 ≤ i → Bg (.l (ys.drop (k * 6))) n i = Bg (.l ys) n (i + k) ∧ Ce (.l (ys.drop (k * 6))) n i = Ce (.l ys) n (i + k)
 | 0, _, _ => ⟨rfl, rfl⟩
 | n + 1, i, h0 => by
  obtain ⟨a, b⟩ := Jr (ys := ys) (k := k) n (i + 1) (by omega)
  simp only [Bg, Ce, a, b, Rc (ys := ys) (k := k) (i := i) h0]
  rw [show i + 1 + (k : Int) = i + k + 1 by omega]
  simp only [and_self]
theorem MF (x : A) : ∀ (a b : Nat) (i : Int), Ce x (a + b) i = (Ce x a i && Ce x b (i + a))
 | 0, b, i => by simp [Ce]
 | a + 1, b, i => by
  rw [show a + 1 + b = (a + b) + 1 by omega]
  simp only [Ce]
  rw [MF x a b (i + 1), Bool.and_assoc]
  congr 3
  omega
def L1.Uf (l : L1) : Bool := decide ((l.x.AL.length : Int) = 6 * l.n) && Vc l.x
theorem Re {x : A} {n c : Int} (h6 : L1.Uf ⟨x, n⟩ = true) (hl : L1.Qs ⟨x, n⟩ = true) (h0 : 0 ≤ c) (hc : c ≤ n)
  {y z : A} (hy : y = .l (List.drop (Int.toNat 0 * 6) (List.take (c.toNat * 6) x.AL))) (hz : z = .l (List.drop (c.toNat * 6) (List.take (n.toNat * 6) x.AL)))
  {p q : Int} (hp : p = ((y.AL.length / 6 : Nat) : Int)) (hq : q = ((z.AL.length / 6 : Nat) : Int)) :
  L1.Qs ⟨y, p⟩ = true ∧ L1.Qs ⟨z, q⟩ = true ∧ DV ⟨y, p⟩ ++ DV ⟨z, q⟩ = DV ⟨x, n⟩ ∧
   ((DV ⟨y, p⟩).size : Int) ≤ 100000 ∧ ((DV ⟨z, q⟩).size : Int) ≤ 100000 := by
 simp only [L1.Uf, Bool.and_eq_true, decide_eq_true_eq] at h6
 obtain ⟨e6, ex⟩ := h6
 rw [Sz ex] at hl ⊢
 generalize x.AL = ys at *
 simp only [L1.Qs, Bool.and_eq_true, AA] at hl
 obtain ⟨⟨_, n60⟩, hl⟩ := hl
 obtain ⟨N, rfl⟩ : ∃ N : Nat, n = N := ⟨n.toNat, by omega⟩
 obtain ⟨C, rfl⟩ : ∃ C : Nat, c = C := ⟨c.toNat, by omega⟩
 have e6 : ys.length = 6 * N := by omega
 simp only [Int.toNat_natCast] at hy hz hl
 have hy : y = .l (ys.take (C * 6)) := by rw [hy]; rfl
 have hz : z = .l (ys.drop (C * 6)) := by rw [hz, List.take_of_length_le (by omega)]
 have hp : p = (C : Int) := by rw [hp, hy]; simp [A.AL]; omega
 have hq : q = ((N - C : Nat) : Int) := by rw [hq, hz]; simp [A.AL]; omega
 subst hp hq hy hz
 have hl2 := hl
 rw [show N = C + (N - C) by omega, MF, Bool.and_eq_true] at hl2
 obtain ⟨t1, t2⟩ := Jq (ys := ys) (k := C) C 0 (by omega) (by omega)
 obtain ⟨d1, d2⟩ := Jr (ys := ys) (k := C) (N - C) 0 (by omega)
 have k1 : Ce (.l (ys.take (C * 6))) C 0 = true := by rw [t2]; exact hl2.1
 have k2 : Ce (.l (ys.drop (C * 6))) (N - C) 0 = true := by rw [d2]; exact hl2.2
 have l1 := HH _ _ _ k1
 have l2 := HH _ _ _ k2
 refine ⟨?_, ?_, ?_, ?_, ?_⟩
 ·simp only [L1.Qs, Bool.and_eq_true, AA, Int.toNat_natCast]
  exact ⟨⟨by omega, by omega⟩, k1⟩
 ·simp only [L1.Qs, Bool.and_eq_true, AA, Int.toNat_natCast]
  exact ⟨⟨by omega, by omega⟩, k2⟩
 ·simp only [DV, Int.toNat_natCast]
  rw [← SB, t1, d1, ← ME, show C + (N - C) = N by omega]
 ·simp only [DV, Int.toNat_natCast, MC]
  omega
 ·simp only [DV, Int.toNat_natCast, MC]
  omega
end Day

