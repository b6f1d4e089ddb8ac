import Derived.Test.YtikhhempbdimhaaSXc
set_option linter.unusedVariables false
set_option linter.unusedSimpArgs false
namespace Day
structure Fr where
 kind : Int
 id : Int
 deriving DecidableEq
structure ND where
 id : Int
 mode : Int
 count : Int
 pos : Int
 deriving DecidableEq
structure HB where
 ages : List Int
 port : Int
 age : Int
 hold : Int
 pos : Int
 deriving DecidableEq
def HB.a (h : HB) (p : Nat) : Int := h.ages.getD p 0
def right (n : Int) : Bool := decide (3 ≤ n) && decide (n ≤ 8)
def many (n c : Int) : Int := if c = 0 then 1 else if c = 1 then n else if c = 2 then 2 else 0
def Xo (n : Int) : Int := if right n then 0 else 1
end Day
namespace Day
def i64 (x : Int) : Bool := decide (-9223372036854775808 ≤ x) && decide (x ≤ 9223372036854775807)
def u8 (x : Int) : Bool := decide (0 ≤ x) && decide (x ≤ 255)
def u32 (x : Int) : Bool := decide (0 ≤ x) && decide (x ≤ 4294967295)
def sm (x : Int) : Bool := decide (-4611686018427387904 ≤ x) && decide (x ≤ 4611686018427387904)
def ND.i64 (x : ND) : Bool := Day.i64 x.id && Day.i64 x.mode && Day.i64 x.count && Day.i64 x.pos
end Day
namespace Day
end Day
namespace Day
end Day
namespace Day
def Aca (q : Nat → Bool) : Bool := q 0 && q 1 && q 2 && q 3 && q 4 && q 5 && q 6 && q 7
def HB.i64 (h : HB) : Bool := Aca (fun p => Day.i64 (h.a p)) && Day.i64 h.port && Day.i64 h.age && Day.i64 h.hold && Day.i64 h.pos
end Day
namespace Day
end Day
namespace Day
end Day
namespace Day
end Day
namespace Day
end Day
namespace Day
def bv (b : Bool) : Int := if b then 1 else 0
end Day
namespace Day
theorem Z7 (b : Bool) : 0 ≤ bv b ∧ bv b ≤ 1 := by cases b <;> simp [bv]
end Day
namespace Day
end Day
namespace Day
def Qy : List Int → Int → Int → Int
 | [], _, _ => -1
 | l :: ls, i, m => if m = l then i else Qy ls (i + 1) m
end Day
namespace Day
theorem bs {l o p p' : Int} {b : Bool} (B : 0 ≤ l ∧ l ≤ p) (R : o = l + bv b) (hp : p' = p + 1) : 0 ≤ o ∧ o ≤ p' := by
 have := Z7 b
 omega
end Day
namespace Day
end Day
namespace Day
end Day
namespace Day
open Rx
def ils (a : A) : List Int := a.AJ.map A.int
def AbF (l : List Int) : A := .l (l.map A.i)
def Aa4 : List A → List Fr
 | x :: y :: l => ⟨x.int, y.int⟩ :: Aa4 l
 | _ => []
def frs (a : A) : List Fr := Aa4 a.AJ
def AcZ (l : List Fr) : A := .l (l.flatMap fun f => [.i f.kind, .i f.id])
theorem Xp : ∀ l : List Fr, Aa4 (l.flatMap fun f => [.i f.kind, .i f.id]) = l
 | [] => rfl
 | f :: l => by simp [Aa4, Xp l]
@[simp] theorem AdC (l : List Fr) : frs (AcZ l) = l := Xp l
@[simp] theorem AdD (l : List Int) : ils (AbF l) = l := by
 induction l with
 | nil => rfl
 | cons a l ih => simpa [ils, AbF] using ih
end Day
namespace Day
open Rx Go
structure Fl where
 cls : Int
 who : Int
 deriving DecidableEq
structure Ch where
 a : ByteArray
 b : ByteArray
 x : A
 n : Int
 link : Int
def LF (a b : Int) : Int := CW .xor .u32 a b
def LG (r : Int) : Int := if r % 2 = 1 then LF (r / 2) 3988292384 else r / 2
def Eo : Nat → Int → Int
 | 0, r => r
 | k + 1, r => Eo k (LG r)
def M7 (r b : Int) : Int := Eo 8 (LF r b)
def Cv (l : List A) (r : Int) : Int := l.foldl (fun r a => M7 r a.int) r
def BS (s : ByteArray) : List A := s.data.toList.map fun b => .i (b.toNat : Int)
def KX (s : ByteArray) : Int := 4294967295 - Cv (BS s) 4294967295
def RV (n k : Int) : UInt8 := UInt8.ofNat (n / k % 256).toNat
def LH (n : Int) : ByteArray := ⟨[RV n 16777216, RV n 65536, RV n 256, RV n 1].toArray⟩
def CV (i n : Int) : Bool := decide (0 ≤ i) && decide (i ≤ n)
def Fs (s : ByteArray) : Int := (s.size : Int)
def Kk (n : Int) : Bool := decide (n ≤ 1000)
def Ft (x : A) (n : Int) : Bool := decide ((x.AJ.length : Int) = n) && x.AJ.all fun a => u8 a.int
def Fu (f : Fr) : Bool := (decide (f.kind = 1) || decide (f.kind = 2)) && (decide (0 ≤ f.id) && decide (f.id < 8))
def IB (f : Fr) : ByteArray := ⟨[216, UInt8.ofNat f.kind.toNat, UInt8.ofNat f.id.toNat].toArray⟩
def Py : ByteArray := ⟨([0] : List UInt8).toArray⟩
def Ud : ByteArray := ⟨([] : List UInt8).toArray⟩
def J2 (f : Fr) : ByteArray := if f.kind = 3 then Py else if Fu f then IB f ++ LH (KX (IB f)) else Ud
def VI (n : Int) (f : Fl) : Bool := right n && (decide (0 ≤ f.who) && decide (f.who < many n f.cls))
def Z8 (n : Int) (f : Fl) : Fl := if VI n f then f else ⟨0, 0⟩
def isNode (f : Fl) (i : Int) : Bool := decide (f.cls = 1) && decide (f.who = i)
def Xq (f : Fl) (i : Int) : Bool := decide (f.cls = 2) && decide (f.who = i)
def AbG (f : Fl) (c : Ch) (i : Int) (x : Fr) : ByteArray := if isNode f i then c.a else J2 x
def AbH (f : Fl) (c : Ch) (i : Int) (x : Fr) : ByteArray := if isNode f i then c.b else J2 x
def Xr (f : Fl) (c : Ch) (h p : Int) : Int := if Xq f h && (decide (0 ≤ p) && decide (p < c.n)) then (c.x.AJ.getD p.toNat (.i 0)).int else 0
def Ac0 (f : Fl) (c : Ch) (h p : Int) (x : Fr) : ByteArray := if Xr f c h p = 1 then Ud else if Xr f c h p = 2 then Py else J2 x
def Ac1 (f : Fl) (c : Ch) (i : Int) : Bool := decide (c.link = 0) || !Xq f i
def Z9 (c : Ch) : Bool := decide ((c.a.size : Int) ≤ 100) && (decide ((c.b.size : Int) ≤ 100) && decide (c.n ≤ 20))
theorem C0 {x : Int} : u32 x = true ↔ 0 ≤ x ∧ x ≤ 4294967295 := by simp [u32]
theorem VJ {x : Int} : u8 x = true ↔ 0 ≤ x ∧ x ≤ 255 := by simp [u8]
theorem wrap_u32 (x : Int) : IntKind.wrap .u32 x = x % 4294967296 := by simp [IntKind.wrap, IntKind.signed, IntKind.bits]
theorem wrap_u8 (x : Int) : IntKind.wrap .u8 x = x % 256 := by simp [IntKind.wrap, IntKind.signed, IntKind.bits]
theorem Xs (x : BitVec 32) : IntKind.wrap .u32 ((x.toNat : Nat) : Int) = (x.toNat : Int) := by
 rw [wrap_u32]
 have := x.isLt
 omega
theorem xor_eq (a b : Int) : CW .xor .u32 a b = ((BitVec.ofInt 32 a ^^^ BitVec.ofInt 32 b).toNat : Int) := Xs (BitVec.ofInt 32 a ^^^ BitVec.ofInt 32 b)
theorem and_eq (a b : Int) : CW .and .u32 a b = ((BitVec.ofInt 32 a &&& BitVec.ofInt 32 b).toNat : Int) := Xs (BitVec.ofInt 32 a &&& BitVec.ofInt 32 b)
theorem JR (a b : Int) : 0 ≤ LF a b ∧ LF a b ≤ 4294967295 := by
 unfold LF
 rw [xor_eq]
 have := (BitVec.ofInt 32 a ^^^ BitVec.ofInt 32 b).isLt
 omega
theorem xor_zero {a : Int} (h : 0 ≤ a ∧ a ≤ 4294967295) : LF a 0 = a := by
 unfold LF
 rw [xor_eq]
 obtain ⟨n, rfl⟩ := Int.eq_ofNat_of_zero_le h.1
 simp
 omega
theorem Aa5 {a : Int} (h : 0 ≤ a ∧ a ≤ 4294967295) : CW .and .u32 a 1 = a % 2 := by
 rw [and_eq]
 obtain ⟨n, rfl⟩ := Int.eq_ofNat_of_zero_le h.1
 have e : (BitVec.ofInt 32 (n : Int) &&& BitVec.ofInt 32 1).toNat = n % 2 := by
  have h1 : (BitVec.ofInt 32 1).toNat = 1 := by decide
  rw [BitVec.toNat_and, h1, Nat.and_one_is_mod]
  simp
 rw [e]
 omega
theorem step_eq {r s a g p x : Int} (h : 0 ≤ r ∧ r ≤ 4294967295) (hs : s = Ef .shr .u32 r 1) (ha : a = CW .and .u32 r 1) (hg : g = IntKind.wrap .u32 (0 - a)) (hp : p = CW .and .u32 3988292384 g)
  (hx : x = CW .xor .u32 s p) : x = LG r := by
 have hs : s = r / 2 := by
  rw [hs]
  show r.fdiv (2 ^ 1) = r / 2
  rw [Int.fdiv_eq_ediv_of_nonneg _ (by decide)]
  rfl
 rw [Aa5 h] at ha
 unfold LG
 by_cases h1 : r % 2 = 1
 ·rw [if_pos h1, hx, hs, hp, hg, ha, h1]
  have e : CW .and .u32 3988292384 (IntKind.wrap .u32 (0 - 1)) = 3988292384 := by decide
  rw [e]
  rfl
 ·rw [if_neg h1, hx, hs, hp, hg, ha]
  have h0 : r % 2 = 0 := by omega
  rw [h0]
  have e : CW .and .u32 3988292384 (IntKind.wrap .u32 (0 - 0)) = 0 := by decide
  rw [e]
  exact xor_zero (by omega)
theorem Pz {r : Int} (h : 0 ≤ r ∧ r ≤ 4294967295) : 0 ≤ LG r ∧ LG r ≤ 4294967295 := by
 unfold LG
 split
 ·exact JR _ _
 ·omega
theorem NP : ∀ (k : Nat) {r : Int}, 0 ≤ r ∧ r ≤ 4294967295 → 0 ≤ Eo k r ∧ Eo k r ≤ 4294967295
 | 0, _, h => h
 | k + 1, _, h => NP k (Pz h)
theorem M8 (r b : Int) : 0 ≤ M7 r b ∧ M7 r b ≤ 4294967295 := NP 8 (JR _ _)
theorem FU : ∀ (l : List A) {r : Int}, 0 ≤ r ∧ r ≤ 4294967295 → 0 ≤ Cv l r ∧ Cv l r ≤ 4294967295
 | [], _, h => h
 | a :: l, r, h => by
  show 0 ≤ Cv l (M7 r a.int) ∧ _
  exact FU l (M8 _ _)
theorem Yb (s : ByteArray) : 0 ≤ KX s ∧ KX s ≤ 4294967295 := by
 have := FU (BS s) (r := 4294967295) (by omega)
 unfold KX
 omega
theorem Ac2 {r x : Int} (h : 0 ≤ r ∧ r ≤ 4294967295) (hx : x = CW .xor .u32 4294967295 r) : x = 4294967295 - r := by
 rw [hx, xor_eq]
 obtain ⟨n, rfl⟩ := Int.eq_ofNat_of_zero_le h.1
 have e : BitVec.ofInt 32 4294967295 ^^^ BitVec.ofInt 32 (n : Int) = ~~~(BitVec.ofInt 32 (n : Int)) := by
  have h1 : BitVec.ofInt 32 4294967295 = BitVec.allOnes 32 := by decide
  rw [h1, BitVec.allOnes_xor]
 rw [e, BitVec.toNat_not]
 simp
 omega
theorem Aaa {r a c d x : Int} {b : Bool} (h : 0 ≤ r ∧ r ≤ 4294967295) (ha : a = r.tmod 2) (hb : b = (a == 1)) (hc : c = IntKind.wrap .u32 (r.tdiv 2)) (hd : d = CW .xor .u32 c 3988292384)
  (hx : x = if b = true then d else c) : x = LG r := by
 have hc : c = r / 2 := by
  rw [hc, wrap_u32, Int.tdiv_eq_ediv_of_nonneg h.1]
  omega
 rw [Int.tmod_eq_emod_of_nonneg h.1] at ha
 unfold LG
 subst hb ha hd
 rw [hx, hc]
 by_cases h1 : r % 2 = 1
 ·rw [if_pos h1, if_pos (by simp [h1])]
  rfl
 ·rw [if_neg h1, if_neg (by simpa using h1)]
theorem PA {r i x j : Int} (hp : (u32 r && CV i 8) = true) (hlt : i < 8) (hx : x = LG r) (hj : j = IntKind.wrap .i64 (i + 1)) :
  (u32 x && CV j 8) = true ∧ Eo (8 - j).toNat x = Eo (8 - i).toNat r ∧ (8 - j).toNat < (8 - i).toNat := by
 simp only [Bool.and_eq_true, C0, CV, decide_eq_true_eq] at hp ⊢
 rw [wrap64 (by omega) (by omega)] at hj
 have hr := Pz hp.1
 rw [hx, hj, show (8 - i).toNat = (8 - (i + 1)).toNat + 1 by omega]
 exact ⟨⟨hr, by omega⟩, rfl, by omega⟩
theorem RW {r i : Int} (hp : (u32 r && CV i 8) = true) (hlt : ¬ i < 8) : r = Eo (8 - i).toNat r := by
 simp only [Bool.and_eq_true, C0, CV, decide_eq_true_eq] at hp
 rw [show (8 - i).toNat = 0 by omega]
 rfl
theorem PB {l : List A} {i : Nat} (h : i < l.length) (r : Int) : Cv (l.drop i) r = Cv (l.drop (i + 1)) (M7 r (l.getD i (.i 0)).int) := by
 have e : l.getD i (.i 0) = l[i] := by simp [List.getD, List.getElem?_eq_getElem h]
 rw [e, List.drop_eq_getElem_cons h]
 rfl
def CH (s : ByteArray) : Bool := decide ((s.size : Int) ≤ 1000)
theorem KY (s : ByteArray) : (BS s).length = s.size := by simp [BS]
theorem VK (s : ByteArray) (i : Nat) : ((BS s).getD i (.i 0)).int = ((s.data.toList.getD i 0).toNat : Int) := by
 simp only [BS, List.getD, List.getElem?_map]
 cases s.data.toList[i]? <;> rfl
theorem Xt (b : UInt8) : u8 (b.toNat : Int) = true := by
 rw [VJ]
 have := b.toNat_lt
 omega
theorem Yc (s : ByteArray) {x : A} (hx : x = .l (BS s)) : Ft x (s.size : Int) = true := by
 subst hx
 simp only [Ft, A.AJ, KY, Bool.and_eq_true, decide_eq_true_eq, List.all_eq_true, true_and]
 intro a ha
 simp only [BS, List.mem_map] at ha
 obtain ⟨b, _, rfl⟩ := ha
 exact Xt b
theorem VL {r i n z y j : Int} {x : A} (hp : (u32 r && (CV i n && (Ft x n && Kk n))) = true) (hlt : i < n) (hz : z = (x.AJ.getD i.toNat (.i 0)).int) (hy : y = M7 r z) (hj : j = IntKind.wrap .i64 (i + 1)) :
  (u32 r && u8 z) = true ∧ (0 ≤ i) ∧ (u32 y && (CV j n && (Ft x n && Kk n))) = true ∧ Cv (x.AJ.drop j.toNat) y = Cv (x.AJ.drop i.toNat) r ∧ (n - j).toNat < (n - i).toNat := by
 simp only [Bool.and_eq_true, C0, CV, Kk, Ft, decide_eq_true_eq, List.all_eq_true] at hp ⊢
 obtain ⟨h1, ⟨h2, h3⟩, ⟨h4, h5⟩, h6⟩ := hp
 rw [wrap64 (by omega) (by omega)] at hj
 have hl : i.toNat < x.AJ.length := by omega
 have hz8 : u8 z = true := by
  rw [hz]
  simp only [List.getD, List.getElem?_eq_getElem hl, Option.getD_some]
  exact h5 _ (List.getElem_mem hl)
 refine ⟨⟨h1, hz8⟩, h2, ⟨by rw [hy]; exact M8 _ _, by omega, ⟨h4, h5⟩, h6⟩, ?_, by omega⟩
 rw [PB hl, hy, hz, hj, show (i + 1).toNat = i.toNat + 1 by omega]
theorem Yd {r i n : Int} {x : A} (hp : (u32 r && (CV i n && (Ft x n && Kk n))) = true) (hlt : ¬ i < n) : r = Cv (x.AJ.drop i.toNat) r := by
 simp only [Bool.and_eq_true, C0, CV, Kk, Ft, decide_eq_true_eq] at hp
 rw [List.drop_eq_nil_of_le (by omega)]
 rfl
theorem VM {r i z y j : Int} {s : ByteArray} (hp : (u32 r && (CV i (Fs s) && CH s)) = true) (hlt : i < (s.size : Int)) (hz : z = ((s.data.toList.getD i.toNat 0).toNat : Int)) (hy : y = M7 r z) (hj : j = IntKind.wrap .i64 (i + 1)) :
  (u32 r && u8 z) = true ∧ (0 ≤ i) ∧ (u32 y && (CV j (Fs s) && CH s)) = true ∧ Cv ((BS s).drop j.toNat) y = Cv ((BS s).drop i.toNat) r ∧ (Fs s - j).toNat < (Fs s - i).toNat := by
 unfold Fs at *
 simp only [Bool.and_eq_true, C0, CV, CH, decide_eq_true_eq] at hp ⊢
 obtain ⟨h1, ⟨h2, h3⟩, h4⟩ := hp
 rw [wrap64 (by omega) (by omega)] at hj
 have hl : i.toNat < (BS s).length := by rw [KY]; omega
 refine ⟨⟨h1, by rw [hz]; exact Xt _⟩, h2, ⟨by rw [hy]; exact M8 _ _, by omega, h4⟩, ?_, by omega⟩
 rw [PB hl, VK, hy, hz, hj, show (i + 1).toNat = i.toNat + 1 by omega]
theorem Ye {r i : Int} {s : ByteArray} (hp : (u32 r && (CV i (Fs s) && CH s)) = true) (hlt : ¬ i < (s.size : Int)) : r = Cv ((BS s).drop i.toNat) r := by
 unfold Fs at *
 simp only [Bool.and_eq_true, C0, CV, CH, decide_eq_true_eq] at hp
 rw [List.drop_eq_nil_of_le (by rw [KY]; omega)]
 rfl
theorem Aab (s : ByteArray) : KX s = 4294967295 - Cv (BS s) 4294967295 := rfl
theorem LI {n k v w : Int} (hv : v = n / k) (hw : w = IntKind.wrap .u8 v) : UInt8.ofNat w.toNat = RV n k := by
 rw [hw, wrap_u8, hv]
 rfl
theorem PC {n k v w : Int} (hv : v = n / k % 256) (hw : w = IntKind.wrap .u8 v) : UInt8.ofNat w.toNat = RV n k := by
 rw [hw, wrap_u8, hv, Int.emod_emod]
 rfl
theorem VN {n k v : Int} (h : 0 ≤ n ∧ n ≤ 4294967295) (hk : 0 < k) (hv : v = IntKind.wrap .u32 (n.tdiv k)) : v = n / k := by
 rw [hv, wrap_u32, Int.tdiv_eq_ediv_of_nonneg h.1]
 refine Int.emod_eq_of_lt (Int.ediv_nonneg h.1 (by omega)) ?_
 exact Int.lt_of_le_of_lt (Int.ediv_le_self _ h.1) (by omega)
theorem Aac {v q : Int} {n k : Int} (h : 0 ≤ n) (hk : 0 < k) (hq : q = n / k) (hv : v = q.tmod 256) : v = n / k % 256 := by
 rw [hv, hq]
 exact Int.tmod_eq_emod_of_nonneg (Int.ediv_nonneg h (by omega))
theorem M9 (f : Fr) : (IB f).size = 3 := rfl
theorem RX (n : Int) : (LH n).size = 4 := rfl
theorem PD (f : Fr) : CH (IB f) = true := by simp [CH, M9]
theorem Xu (s : ByteArray) : u32 (KX s) = true := C0.2 (Yb s)
theorem Xv {k i v w : Int} {s : ByteArray} (hs : Fu ⟨k, i⟩ = true) (hv : v = IntKind.wrap .u8 k) (hw : w = IntKind.wrap .u8 i)
  (h : s = ⟨([UInt8.ofNat (Int.toNat 216), UInt8.ofNat v.toNat, UInt8.ofNat w.toNat] : List UInt8).toArray⟩) : s = IB ⟨k, i⟩ := by
 simp only [Fu, Bool.and_eq_true, Bool.or_eq_true, decide_eq_true_eq] at hs
 have e1 : v = k := by rw [hv, wrap_u8]; omega
 have e2 : w = i := by rw [hw, wrap_u8]; omega
 rw [h, e1, e2]
 rfl
theorem Ue {f : Fr} (h3 : f.kind ≠ 3) (hs : Fu f = false) : J2 f = Ud := by simp [J2, h3, hs]
theorem Uf {f : Fr} (h3 : f.kind ≠ 3) (hs : Fu f = true) : J2 f = IB f ++ LH (KX (IB f)) := by simp [J2, h3, hs]
theorem AbI {f : Fr} (h3 : f.kind = 3) : J2 f = Py := by simp [J2, h3]
end Day
namespace Day
open Rx Go
structure L1 where
 x : A
 n : Int
structure Sc where
 n : Int
 px : A
 pn : Int
 cls : Int
 who : Int
 ld : Bool
 nx : A
 nn : Int
 h0 : HB
 h1 : HB
 tx : A
 tn : Int
def K6 (l : List Int) : List A := l.map .i
def Yf (l : List Int) : ByteArray := ⟨(l.map fun v => UInt8.ofNat v.toNat).toArray⟩
def Ci (s : ByteArray) (i : Int) : Int := if (s.size : Int) ≤ i then 0 else ((s.data.toList.getD i.toNat 0).toNat : Int)
def JS (s : ByteArray) (m : Int) : Nat → Int → List Int
 | 0, _ => []
 | k + 1, i => (if m = 0 then Ci s i else Ci s i % m) :: JS s m k (i + 1)
def J3 (s : ByteArray) (i : Int) : Int := 256 * Ci s i + Ci s (i + 1)
def HE (s : ByteArray) (i who : Int) : ByteArray :=
 if Ci s i % 4 = 0 then Ud else if Ci s i % 4 = 3 then Yf (JS s 0 (Ci s (i + 1) % 16).toNat (i + 2)) else J2 ⟨Ci s i % 4, who⟩
def DS (s : ByteArray) (i : Int) : Int := if Ci s i % 4 = 3 then i + 2 + Ci s (i + 1) % 16 else i + 1
def GI (s : ByteArray) (i n cls who : Int) : Ch :=
 if cls = 1 then ⟨HE s i who, HE s (DS s i) who, .l [], 0, 0⟩
 else if cls = 2 then ⟨Ud, Ud, .l (K6 (JS s 3 n.toNat i)), n, Ci s (i + n) % 2⟩
 else ⟨Ud, Ud, .l [], 0, 0⟩
def HY (s : ByteArray) (i n cls : Int) : Int := if cls = 1 then DS s (DS s i) else if cls = 2 then i + n + 1 else i
def tkS (s : ByteArray) (n cls who : Int) : Nat → Int → List A
 | 0, _ => []
 | k + 1, i => .v (.string (GI s i n cls who).a) :: .v (.string (GI s i n cls who).b) :: (GI s i n cls who).x :: .i (GI s i n cls who).link :: tkS s n cls who k (HY s i n cls)
def Fv (s : ByteArray) : Nat → Int → Int → List A
 | 0, _, _ => []
 | m + 1, k, i => .i k :: .i (Ci s i) :: .i (J3 s (i + 1)) :: .i (Ci s (i + 3)) :: Fv s m (k + 1) (i + 4)
def Ug (s : ByteArray) (n i : Int) : HB := ⟨JS s 0 n.toNat i ++ List.replicate (8 - n.toNat) 0, Ci s (i + n), Ci s (i + n + 1), Ci s (i + n + 2), Ci s (i + n + 3)⟩
def AbJ : HB := ⟨[0, 0, 0, 0, 0, 0, 0, 0], 0, 0, 0, 0⟩
def DT (s : ByteArray) : Int := 3 + Ci s 0 % 6
def EE (s : ByteArray) : Int := Ci s 1 % 3
def Kl (s : ByteArray) : Int := if EE s = 1 then Ci s 2 % DT s else if EE s = 2 then Ci s 2 % 2 else 0
def HZ (s : ByteArray) : Bool := decide (Ci s 1 / 3 % 2 = 1)
def Uh (s : ByteArray) : Int := if HZ s then 3 + 4 * DT s + 2 * (DT s + 4) else 3 + DT s
def Yg (s : ByteArray) : Int := min (J3 s (Uh s)) 2000
def Cu (s : ByteArray) : Sc :=
 ⟨DT s, if HZ s then .l [] else .l (K6 (JS s 0 (DT s).toNat 3)), if HZ s then 0 else DT s, EE s, Kl s, HZ s,
  if HZ s then .l (Fv s (DT s).toNat 0 3) else .l [], if HZ s then DT s else 0,
  if HZ s then Ug s (DT s) (3 + 4 * DT s) else AbJ, if HZ s then Ug s (DT s) (3 + 4 * DT s + (DT s + 4)) else AbJ,
  .l (tkS s (DT s) (EE s) (Kl s) (Yg s).toNat (Uh s + 2)), Yg s⟩
def Aa6 (d : Int → Bool) : Nat → Int → Bool
 | 0, _ => true
 | k + 1, i => d i && Aa6 d k (i + 1)
def PE (d : Int → Bool) (n i : Int) : Bool := Aa6 d (n - i).toNat i
theorem Na {d : Int → Bool} {n i : Int} (h : i < n) : PE d n i = (d i && PE d n (i + 1)) ∧ (n - (i + 1)).toNat < (n - i).toNat := by
 refine ⟨?_, by omega⟩
 unfold PE
 rw [show (n - i).toNat = (n - (i + 1)).toNat + 1 by omega]
 rfl
theorem PF {d : Int → Bool} {n i : Int} (h : ¬ i < n) : PE d n i = true := by
 unfold PE
 rw [show (n - i).toNat = 0 by omega]
 rfl
theorem LJ {d : Int → Bool} (h : ∀ i, d i = true) : ∀ (k : Nat) (i : Int), Aa6 d k i = true
 | 0, _ => rfl
 | k + 1, i => by simp [Aa6, h i, LJ h k (i + 1)]
def Yh (a : L1) : Bool := decide (0 ≤ a.n) && decide (a.n ≤ 1000000)
def Y0 (a b : L1) (i : Int) : Bool := decide (0 ≤ i) && (decide (i ≤ a.n) && (decide (a.n ≤ 1000000) && decide (a.n = b.n)))
theorem Hf {a b : L1} {i : Int} : Y0 a b i = true ↔ 0 ≤ i ∧ i ≤ a.n ∧ a.n ≤ 1000000 ∧ a.n = b.n := by simp [Y0]
theorem Aad {a b : L1} (h : Yh a = true) (e : a.n = b.n) : Y0 a b 0 = true := by
 simp only [Yh, Bool.and_eq_true, decide_eq_true_eq] at h
 rw [Hf]
 omega
def Ac3 (x : A) (i : Int) : Int := (x.AJ.getD i.toNat (.i 0)).int
def Aae (x y : A) (i : Int) : Bool := decide (Ac3 x i = Ac3 y i)
def Nb (a b : L1) (i : Int) : Bool := PE (Aae a.x b.x) a.n i
def VO (a b : L1) (i : Int) : Bool := !Nb a b i
def GJ (a b : L1) : Bool := decide (a.n = b.n) && Nb a b 0
def Acb (x : A) (i : Int) : ND := ⟨(x.AJ.getD (4 * i.toNat) (.i 0)).int, (x.AJ.getD (1 + 4 * i.toNat) (.i 0)).int, (x.AJ.getD (2 + 4 * i.toNat) (.i 0)).int, (x.AJ.getD (3 + 4 * i.toNat) (.i 0)).int⟩
def Acd (a b : ND) : Bool := decide (a.id = b.id) && (decide (a.mode = b.mode) && (decide (a.count = b.count) && decide (a.pos = b.pos)))
def Ui (x y : A) (i : Int) : Bool := Acd (Acb x i) (Acb y i)
def GK (a b : L1) (i : Int) : Bool := PE (Ui a.x b.x) a.n i
def PG (a b : L1) (i : Int) : Bool := !GK a b i
def D8 (a b : L1) : Bool := decide (a.n = b.n) && GK a b 0
def Ace (x : A) (i : Int) : Ch := ⟨(x.AJ.getD (4 * i.toNat) (.i 0)).str, (x.AJ.getD (1 + 4 * i.toNat) (.i 0)).str, x.AJ.getD (2 + 4 * i.toNat) (.i 0), ((x.AJ.getD (2 + 4 * i.toNat) (.i 0)).AJ.length / 1 : Nat), (x.AJ.getD (3 + 4 * i.toNat) (.i 0)).int⟩
def Acf (a b : Ch) : Bool := a.a == b.a && (a.b == b.b && (decide (a.link = b.link) && GJ ⟨a.x, a.n⟩ ⟨b.x, b.n⟩))
def Uj (x y : A) (i : Int) : Bool := Acf (Ace x i) (Ace y i)
def GL (a b : L1) (i : Int) : Bool := PE (Uj a.x b.x) a.n i
def PH (a b : L1) (i : Int) : Bool := !GL a b i
def Km (a b : L1) : Bool := decide (a.n = b.n) && GL a b 0
def PI (x : A) : Nat → Int → Bool
 | 0, _ => true
 | k + 1, i => decide ((Ace x i).n ≤ 1000000) && PI x k (i + 1)
def chP (a b : L1) (i : Int) : Bool := Y0 a b i && PI a.x (a.n - i).toNat i
def VP (a : L1) : Bool := Yh a && PI a.x a.n.toNat 0
theorem Ac4 {a b : L1} (h : VP a = true) (e : a.n = b.n) : chP a b 0 = true := by
 simp only [VP, Bool.and_eq_true] at h
 simp only [chP, Bool.and_eq_true, Int.sub_zero]
 exact ⟨Aad h.1 e, h.2⟩
def Ac5 (a b : HB) (r : Bool) : Bool :=
 (a.a 0 == b.a 0) && ((a.a 1 == b.a 1) && ((a.a 2 == b.a 2) && ((a.a 3 == b.a 3) && ((a.a 4 == b.a 4) && ((a.a 5 == b.a 5) && ((a.a 6 == b.a 6) && ((a.a 7 == b.a 7) &&
  ((a.port == b.port) && ((a.age == b.age) && ((a.hold == b.hold) && ((a.pos == b.pos) && r)))))))))))
def UY (a b : HB) : Bool :=
 (a.a 0 == b.a 0) && ((a.a 1 == b.a 1) && ((a.a 2 == b.a 2) && ((a.a 3 == b.a 3) && ((a.a 4 == b.a 4) && ((a.a 5 == b.a 5) && ((a.a 6 == b.a 6) && ((a.a 7 == b.a 7) &&
  ((a.port == b.port) && ((a.age == b.age) && ((a.hold == b.hold) && (a.pos == b.pos)))))))))))
def Uk (a b : Sc) : Bool :=
 if (if (if (if (if (if (a.n == b.n) = true then GJ ⟨a.px, a.pn⟩ ⟨b.px, b.pn⟩ else false) = true then ((a.cls == b.cls) && (a.who == b.who)) else false) = true then (a.ld == b.ld) else false) = true then D8 ⟨a.nx, a.nn⟩ ⟨b.nx, b.nn⟩ else false) = true
  then Ac5 a.h0 b.h0 (UY a.h1 b.h1) else false) = true then Km ⟨a.tx, a.tn⟩ ⟨b.tx, b.tn⟩ else false
def Yi (a : Sc) : Bool := Yh ⟨a.px, a.pn⟩ && (Yh ⟨a.nx, a.nn⟩ && VP ⟨a.tx, a.tn⟩)
theorem BF {a b : Bool} (h : b = true) : (!a || b) = true := by
 rw [h]
 exact Bool.or_true _
def C1 (i : Int) : Bool := decide (0 ≤ i) && decide (i ≤ 1000000)
def IC (i : Int) : Bool := decide (0 ≤ i) && decide (i ≤ 900000)
def isL : A → Bool | .l _ => true | _ => false
theorem KZ {x : A} (h : isL x = true) : x = .l x.AJ := by
 match x, h with
 | .l as, _ => rfl
def cP (s : ByteArray) (i n j : Int) (b : L1) : Bool := IC i && (decide (0 ≤ j) && (decide (j ≤ n) && (decide (n ≤ 16) && (decide (b.n = j) && (decide ((b.x.AJ.length : Int) = j) && isL b.x)))))
def cX (s : ByteArray) (i n j : Int) (b : L1) : A := .l (b.x.AJ ++ K6 (JS s 0 (n - j).toNat (i + 2 + j)))
theorem Az (s : ByteArray) (i : Int) : 0 ≤ Ci s i ∧ Ci s i ≤ 255 := by
 unfold Ci
 split
 ·omega
 ·have := UInt8.toNat_lt (s.data.toList.getD i.toNat 0)
  omega
theorem Acg {s : ByteArray} {i v : Int} (h : v = Ci s i) : IntKind.wrap .u8 v = v := by
 have := Az s i
 rw [← h] at this
 show v % 256 = v
 omega
theorem Aaf {s : ByteArray} {i n j : Int} {b : L1} (hp : cP s i n j b = true) (h : j < n) :
  0 ≤ i ∧ i ≤ 900000 ∧ 0 ≤ j ∧ n ≤ 16 ∧ (b.x.AJ.length : Int) = j ∧ b.n = j ∧
   ∀ p : L1, p.x = .l (b.x.AJ ++ [.i (Ci s (i + 2 + j))]) → p.n = (p.x.AJ.length : Int) → cP s i n (j + 1) p = true ∧ cX s i n (j + 1) p = cX s i n j b ∧ (n - (j + 1)).toNat < (n - j).toNat := by
 simp only [cP, IC, Bool.and_eq_true, decide_eq_true_eq] at hp
 refine ⟨hp.1.1, hp.1.2, hp.2.1, hp.2.2.2.1, hp.2.2.2.2.2.1, hp.2.2.2.2.1, fun p hx hn => ?_⟩
 have e : p.x.AJ = b.x.AJ ++ [.i (Ci s (i + 2 + j))] := by rw [hx]; rfl
 rw [e, List.length_append, List.length_singleton] at hn
 refine ⟨?_, ?_, by omega⟩
 ·simp only [cP, IC, Bool.and_eq_true, decide_eq_true_eq]
  refine ⟨hp.1, by omega, by omega, by omega, by omega, ?_, by rw [hx]; rfl⟩
  rw [e, List.length_append, List.length_singleton]
  omega
 ·unfold cX
  rw [e, show (n - j).toNat = (n - (j + 1)).toNat + 1 by omega]
  simp [JS, K6, show i + 2 + j + 1 = i + 2 + (j + 1) by omega]
theorem AbK {s : ByteArray} {i n j : Int} {b : L1} (hp : cP s i n j b = true) (h : ¬ j < n) : b.n = n ∧ cX s i n j b = b.x := by
 simp only [cP, IC, Bool.and_eq_true, decide_eq_true_eq] at hp
 refine ⟨by omega, ?_⟩
 unfold cX
 rw [show (n - j).toNat = 0 by omega]
 simp only [JS, K6, List.map_nil, List.append_nil]
 exact (KZ hp.2.2.2.2.2.2).symm
theorem Aag {s : ByteArray} {i n : Int} (hi : IC i = true) (h0 : 0 ≤ n) (h1 : n ≤ 16) : cP s i n 0 ⟨.l [], 0⟩ = true ∧ cX s i n 0 ⟨.l [], 0⟩ = .l (K6 (JS s 0 n.toNat (i + 2))) := by
 refine ⟨?_, ?_⟩
 ·simp only [cP, hi, Bool.and_eq_true, decide_eq_true_eq, true_and]
  refine ⟨by omega, h0, h1, ?_⟩
  simp [A.AJ, isL]
 ·unfold cX
  simp [A.AJ]
def ndP (s : ByteArray) (i n k : Int) (b : L1) : Bool := decide (0 ≤ i) && (decide (i + 4 * (n - k) ≤ 100000) && (decide (0 ≤ k) && (decide (k ≤ n) && (decide (n ≤ 8) && (decide (b.n = k) && (decide ((b.x.AJ.length : Int) = 4 * k) && isL b.x))))))
def ndI (i n k : Int) : Int := i + 4 * (n - k)
def Y1 (s : ByteArray) (i n k : Int) (b : L1) : A := .l (b.x.AJ ++ Fv s (n - k).toNat k i)
theorem Ach {s : ByteArray} {i n k : Int} {b : L1} (hp : ndP s i n k b = true) (h : k < n) :
  0 ≤ i ∧ i ≤ 100000 ∧ 0 ≤ k ∧ n ≤ 8 ∧ (b.x.AJ.length : Int) = 4 * k ∧
   ∀ p : L1, p.x = .l (b.x.AJ ++ [.i k, .i (Ci s i), .i (J3 s (i + 1)), .i (Ci s (i + 3))]) → p.n = ((p.x.AJ.length / 4 : Nat) : Int) →
    ndP s (i + 4) n (k + 1) p = true ∧ ndI (i + 4) n (k + 1) = ndI i n k ∧ Y1 s (i + 4) n (k + 1) p = Y1 s i n k b ∧ (n - (k + 1)).toNat < (n - k).toNat := by
 simp only [ndP, Bool.and_eq_true, decide_eq_true_eq] at hp
 obtain ⟨a1, a2, a3, a4, a5, a6, a7, a8⟩ := hp
 refine ⟨a1, by omega, a3, a5, a7, fun p hx hn => ?_⟩
 have e : p.x.AJ = b.x.AJ ++ [.i k, .i (Ci s i), .i (J3 s (i + 1)), .i (Ci s (i + 3))] := by rw [hx]; rfl
 have hl : p.x.AJ.length = b.x.AJ.length + 4 := by rw [e, List.length_append]; rfl
 refine ⟨?_, by unfold ndI; omega, ?_, by omega⟩
 ·simp only [ndP, Bool.and_eq_true, decide_eq_true_eq]
  exact ⟨by omega, by omega, by omega, by omega, a5, by omega, by omega, by rw [hx]; rfl⟩
 ·unfold Y1
  rw [e, show (n - k).toNat = (n - (k + 1)).toNat + 1 by omega]
  simp [Fv]
theorem Ac6 {s : ByteArray} {i n k : Int} {b : L1} (hp : ndP s i n k b = true) (h : ¬ k < n) : ndI i n k = i ∧ b.n = n ∧ Y1 s i n k b = b.x := by
 simp only [ndP, Bool.and_eq_true, decide_eq_true_eq] at hp
 obtain ⟨a1, a2, a3, a4, a5, a6, a7, a8⟩ := hp
 refine ⟨by unfold ndI; omega, by omega, ?_⟩
 unfold Y1
 rw [show (n - k).toNat = 0 by omega]
 simp only [Fv, List.append_nil]
 exact (KZ a8).symm
def VQ : A → Bool | .i _ => true | _ => false
theorem Xw {x : A} (h : VQ x = true) : x = .i x.int := by
 match x, h with
 | .i k, _ => rfl
def ndQ (s : ByteArray) (i n : Int) (k : A) (b : L1) : Bool := VQ k && ndP s i n k.int b
def BT (s : ByteArray) (i n p a j : Int) : Int := if p ≤ j ∧ j < n then Ci s (i + j) else a
def agP (i n p : Int) : Bool := decide (0 ≤ i) && (decide (i ≤ 100000) && (decide (0 ≤ p) && (decide (p ≤ n) && decide (n ≤ 8))))
theorem JT {i n p : Int} : agP i n p = true ↔ 0 ≤ i ∧ i ≤ 100000 ∧ 0 ≤ p ∧ p ≤ n ∧ n ≤ 8 := by simp [agP]
theorem Cc {s : ByteArray} {i n p a b c : Int} {j : Nat} (h0 : 0 ≤ p) (h : p < n) (hb : b = Ci s (i + p)) (hc : c = if p.toNat = j then b else a) : BT s i n (p + 1) c j = BT s i n p a j := by
 unfold BT
 rw [hc, hb]
 by_cases e : p.toNat = j
 ·have e : p = (j : Int) := by omega
  subst e
  rw [if_neg (by omega), if_pos (by omega), if_pos (by omega)]
 ·rw [if_neg e]
  by_cases k : p ≤ (j : Int) ∧ (j : Int) < n
  ·rw [if_pos k, if_pos (by omega)]
  ·rw [if_neg k, if_neg (by omega)]
theorem C5 {s : ByteArray} {i n p a j : Int} (h : ¬ p < n) : BT s i n p a j = a := by
 unfold BT
 rw [if_neg (by omega)]
theorem Aa7 (l : List Int) : (⟨((K6 l).map fun a => UInt8.ofNat a.int.toNat).toArray⟩ : ByteArray) = Yf l := by
 unfold K6 Yf
 rw [List.map_map]
 rfl
def FC (s : ByteArray) : Bool := decide (s.size ≤ 3000)
theorem Aa8 (a b : Int) : decide (a = b) = !(a != b) := by by_cases h : a = b <;> simp [h]
theorem Aa9 (s : ByteArray) : (s == s) = true := by
 show (s.data == s.data) = true
 simp
theorem PJ (a : L1) : GJ a a = true := by
 unfold GJ Nb PE
 rw [LJ fun i => by simp [Aae]]
 simp
theorem Ul (a : L1) : D8 a a = true := by
 unfold D8 GK PE
 rw [LJ fun i => by simp [Ui, Acd]]
 simp
theorem Yj (a : Ch) : Acf a a = true := by simp [Acf, Aa9, PJ]
theorem VR (a : L1) : Km a a = true := by
 unfold Km GL PE
 rw [LJ (d := Uj a.x a.x) fun i => Yj _]
 simp
theorem VS (a : Sc) : Uk a a = true := by
 simp [Uk, PJ, Ul, VR, Ac5, UY]
def Y2 (s : ByteArray) (i n j : Int) (b : L1) : A := .l (b.x.AJ ++ K6 (JS s 3 (n - j).toNat (i + j)))
theorem Aci {s : ByteArray} {i n j : Int} {b : L1} (hp : cP s i n j b = true) (h : j < n) :
  0 ≤ i ∧ i ≤ 900000 ∧ 0 ≤ j ∧ n ≤ 16 ∧ (b.x.AJ.length : Int) = j ∧ b.n = j ∧
   ∀ p : L1, p.x = .l (b.x.AJ ++ [.i (Ci s (i + j) % 3)]) → p.n = (p.x.AJ.length : Int) → cP s i n (j + 1) p = true ∧ Y2 s i n (j + 1) p = Y2 s i n j b ∧ (n - (j + 1)).toNat < (n - j).toNat := by
 simp only [cP, IC, Bool.and_eq_true, decide_eq_true_eq] at hp
 refine ⟨hp.1.1, hp.1.2, hp.2.1, hp.2.2.2.1, hp.2.2.2.2.2.1, hp.2.2.2.2.1, fun p hx hn => ?_⟩
 have e : p.x.AJ = b.x.AJ ++ [.i (Ci s (i + j) % 3)] := by rw [hx]; rfl
 rw [e, List.length_append, List.length_singleton] at hn
 refine ⟨?_, ?_, by omega⟩
 ·simp only [cP, IC, Bool.and_eq_true, decide_eq_true_eq]
  refine ⟨hp.1, by omega, by omega, by omega, by omega, ?_, by rw [hx]; rfl⟩
  rw [e, List.length_append, List.length_singleton]
  omega
 ·unfold Y2
  rw [e, show (n - j).toNat = (n - (j + 1)).toNat + 1 by omega]
  simp [JS, K6, show i + j + 1 = i + (j + 1) by omega]
theorem Ac7 {s : ByteArray} {i n j : Int} {b : L1} (hp : cP s i n j b = true) (h : ¬ j < n) : b.n = n ∧ j = n ∧ Y2 s i n j b = b.x := by
 simp only [cP, IC, Bool.and_eq_true, decide_eq_true_eq] at hp
 refine ⟨by omega, by omega, ?_⟩
 unfold Y2
 rw [show (n - j).toNat = 0 by omega]
 simp only [JS, K6, List.map_nil, List.append_nil]
 exact (KZ hp.2.2.2.2.2.2).symm
theorem Aba {s : ByteArray} {i n : Int} (hi : IC i = true) (h0 : 0 ≤ n) (h1 : n ≤ 16) : cP s i n 0 ⟨.l [], 0⟩ = true ∧ Y2 s i n 0 ⟨.l [], 0⟩ = .l (K6 (JS s 3 n.toNat i)) := by
 refine ⟨?_, ?_⟩
 ·simp only [cP, hi, Bool.and_eq_true, decide_eq_true_eq, true_and]
  refine ⟨by omega, h0, h1, ?_⟩
  simp [A.AJ, isL]
 ·unfold Y2
  simp [A.AJ]
def Xx (s : ByteArray) (n cls : Int) : Nat → Int → Int
 | 0, i => i
 | k + 1, i => Xx s n cls k (HY s i n cls)
def UZ (m k i n : Int) (b : L1) : Bool :=
 decide (0 ≤ k) && (decide (k ≤ m) && (decide (m ≤ 2000) && (decide (0 ≤ i) && (decide (i ≤ 1000 + 40 * k) && (decide (0 ≤ n) && (decide (n ≤ 8) && (decide (b.n = k) && (decide ((b.x.AJ.length : Int) = 4 * k) && isL b.x))))))))
def Um (s : ByteArray) (m k i n cls who : Int) (b : L1) : A := .l (b.x.AJ ++ tkS s n cls who (m - k).toNat i)
theorem PK (s : ByteArray) (i : Int) : i + 1 ≤ DS s i ∧ DS s i ≤ i + 17 := by
 unfold DS
 split <;> omega
theorem Abb (s : ByteArray) (i n cls : Int) (h0 : 0 ≤ n) (h : n ≤ 8) : i ≤ HY s i n cls ∧ HY s i n cls ≤ i + 40 := by
 have h1 := PK s i
 have h2 := PK s (DS s i)
 unfold HY
 split
 ·omega
 ·split <;> omega
def ID (c : Ch) : List A := [.v (.string c.a), .v (.string c.b), c.x, .i c.link]
theorem Xy {s : ByteArray} {m k i n cls who : Int} {b : L1} (hp : UZ m k i n b = true) (h : k < m) :
  0 ≤ k ∧ m ≤ 2000 ∧ 0 ≤ i ∧ i ≤ 90000 ∧ 0 ≤ n ∧ n ≤ 8 ∧ (b.x.AJ.length : Int) = 4 * k ∧
   ∀ p : L1, p.x = .l (b.x.AJ ++ ID (GI s i n cls who)) → p.n = ((p.x.AJ.length / 4 : Nat) : Int) →
    UZ m (k + 1) (HY s i n cls) n p = true ∧ Xx s n cls (m - (k + 1)).toNat (HY s i n cls) = Xx s n cls (m - k).toNat i ∧
    Um s m (k + 1) (HY s i n cls) n cls who p = Um s m k i n cls who b ∧ (m - (k + 1)).toNat < (m - k).toNat := by
 simp only [UZ, Bool.and_eq_true, decide_eq_true_eq] at hp
 obtain ⟨a1, a2, a3, a4, a5, a6, a7, a8, a9, a0⟩ := hp
 refine ⟨a1, a3, a4, by omega, a6, a7, a9, fun p hx hn => ?_⟩
 have e : p.x.AJ = b.x.AJ ++ ID (GI s i n cls who) := by rw [hx]; rfl
 have hl : p.x.AJ.length = b.x.AJ.length + 4 := by rw [e, List.length_append]; rfl
 have hc := Abb s i n cls a6 a7
 refine ⟨?_, ?_, ?_, by omega⟩
 ·simp only [UZ, Bool.and_eq_true, decide_eq_true_eq]
  exact ⟨by omega, by omega, a3, by omega, by omega, a6, a7, by omega, by omega, by rw [hx]; rfl⟩
 ·rw [show (m - k).toNat = (m - (k + 1)).toNat + 1 by omega]
  rfl
 ·unfold Um
  rw [e, show (m - k).toNat = (m - (k + 1)).toNat + 1 by omega]
  simp [tkS, ID]
theorem Aah {s : ByteArray} {m k i n cls who : Int} {b : L1} (hp : UZ m k i n b = true) (h : ¬ k < m) :
  Xx s n cls (m - k).toNat i = i ∧ b.n = m ∧ Um s m k i n cls who b = b.x := by
 simp only [UZ, Bool.and_eq_true, decide_eq_true_eq] at hp
 obtain ⟨a1, a2, a3, a4, a5, a6, a7, a8, a9, a0⟩ := hp
 have : (m - k).toNat = 0 := by omega
 refine ⟨by rw [this]; rfl, by omega, ?_⟩
 unfold Um
 rw [this]
 simp only [tkS, List.append_nil]
 exact (KZ a0).symm
theorem Aai {s : ByteArray} {i n who : Int} : ID (GI s i n 1 who) = [.v (.string (HE s i who)), .v (.string (HE s (DS s i) who)), .l [], .i 0] := by simp [GI, ID]
theorem Aaj {s : ByteArray} {i n who : Int} : ID (GI s i n 2 who) = [.v (.string Ud), .v (.string Ud), .l (K6 (JS s 3 n.toNat i)), .i (Ci s (i + n) % 2)] := by simp [GI, ID]
theorem Aak {s : ByteArray} {i n cls who : Int} (h1 : cls ≠ 1) (h2 : cls ≠ 2) : ID (GI s i n cls who) = [.v (.string Ud), .v (.string Ud), .l [], .i 0] := by simp [GI, ID, h1, h2]
theorem Aal {s : ByteArray} {i n : Int} : HY s i n 1 = DS s (DS s i) := by simp [HY]
theorem Aam {s : ByteArray} {i n : Int} : HY s i n 2 = i + n + 1 := by simp [HY]
theorem Aan {s : ByteArray} {i n cls : Int} (h1 : cls ≠ 1) (h2 : cls ≠ 2) : HY s i n cls = i := by simp [HY, h1, h2]
theorem S1 (s : ByteArray) : ∀ (k : Nat) (i : Int) (j : Nat), j < k → (JS s 0 k i).getD j 0 = Ci s (i + j)
 | 0, _, _, h => absurd h (by omega)
 | k + 1, i, 0, _ => by simp [JS]
 | k + 1, i, j + 1, h => by
  have := S1 s k (i + 1) j (by omega)
  simp only [JS, List.getD_cons_succ]
  rw [this]
  congr 1
  omega
theorem Hg (s : ByteArray) (m : Int) : ∀ (k : Nat) (i : Int), (JS s m k i).length = k
 | 0, _ => rfl
 | k + 1, i => by simp [JS, Hg s m k]
theorem Xz {s : ByteArray} {n i : Int} (h0 : 0 ≤ n) (h : n ≤ 8) (j : Nat) (hj : j < 8) : (Ug s n i).a j = BT s i n 0 0 j := by
 unfold Ug HB.a BT
 simp only
 by_cases c : (j : Int) < n
 ·rw [if_pos ⟨by omega, c⟩, ← S1 s n.toNat i j (by omega)]
  simp only [List.getD_eq_getElem?_getD]
  rw [List.getElem?_append_left (by rw [Hg]; omega)]
 ·rw [if_neg (by omega)]
  simp only [List.getD_eq_getElem?_getD]
  rw [List.getElem?_append_right (by rw [Hg]; omega), List.getElem?_replicate]
  split <;> rfl
theorem GM (s : ByteArray) : 3 ≤ DT s ∧ DT s ≤ 8 := by unfold DT; omega
theorem JU (s : ByteArray) : 6 ≤ Uh s ∧ Uh s ≤ 100 := by
 have := GM s
 unfold Uh
 split <;> omega
theorem VT (s : ByteArray) (i : Int) : 0 ≤ J3 s i ∧ J3 s i ≤ 65535 := by
 have := Az s i
 have := Az s (i + 1)
 unfold J3
 omega
theorem JV (s : ByteArray) : 0 ≤ Yg s ∧ Yg s ≤ 2000 := by
 have := VT s (Uh s)
 unfold Yg
 omega
theorem XA (s : ByteArray) : UZ (Yg s) 0 (Uh s + 2) (DT s) ⟨.l [], 0⟩ = true := by
 have := JV s
 have := JU s
 have := GM s
 simp only [UZ, Bool.and_eq_true, decide_eq_true_eq]
 exact ⟨by omega, by omega, by omega, by omega, by omega, by omega, by omega, trivial, by simp [A.AJ], rfl⟩
theorem Abc (s : ByteArray) {n : Int} (h0 : 0 ≤ n) (h : n ≤ 8) : ndQ s 3 n (.i 0) ⟨.l [], 0⟩ = true ∧ Y1 s 3 n 0 ⟨.l [], 0⟩ = .l (Fv s n.toNat 0 3) := by
 refine ⟨?_, ?_⟩
 ·simp only [ndQ, ndP, VQ, Bool.and_eq_true, decide_eq_true_eq]
  refine ⟨trivial, by omega, ?_, by simp [A.int], by simp [A.int]; omega, h, by simp [A.int], by simp [A.AJ, A.int], rfl⟩
  simp [A.int]
  omega
 ·unfold Y1
  simp [A.AJ]
theorem XB {s : ByteArray} {m i n cls who : Int} : A.l (tkS s n cls who m.toNat i) = Um s m 0 i n cls who ⟨.l [], 0⟩ := by
 unfold Um
 simp [A.AJ]
theorem Ox {s : ByteArray} {t a1 sz su sg cv iv : Int} {c gt ng x2 x4 le ls an ob : Bool} (h0 : 0 ≤ t) (h1 : t ≤ 1000000) (q1 : a1 = IntKind.i64.wrap (t + 1)) (q2 : sz = (s.size : Int)) (q3 : gt = decide (a1 > sz)) (q4 : ng = !gt)
  (q5 : x2 = (c && ng)) (q6 : x4 = (ng && x2)) (q7 : su = IntKind.i64.wrap (a1 - 1)) (q8 : le = decide (0 ≤ su)) (q9 : ls = decide (su < sz)) (q10 : an = (le && ls)) (q11 : ob = (!x4 || an))
  (q12 : sg = ((s.data.toList.getD su.toNat 0).toNat : Int)) (q13 : cv = IntKind.i64.wrap sg) (q14 : iv = if x4 = true then cv else 0) : a1 = t + 1 ∧ ob = true ∧ iv = if c = true then Ci s t else 0 := by
 have w1 : a1 = t + 1 := by rw [q1]; exact wrap64 (by omega) (by omega)
 have w2 : su = t := by rw [q7, w1, show t + 1 - 1 = t by omega]; exact wrap64 (by omega) (by omega)
 have w3 : cv = sg := by
  have := UInt8.toNat_lt (s.data.toList.getD su.toNat 0)
  rw [q13]
  exact wrap64 (by omega) (by omega)
 refine ⟨w1, ?_, ?_⟩
 ·rw [q11, q10, q8, q9, q6, q5, q4, q3, w1, w2, q2]
  by_cases h : t + 1 > (s.size : Int)
  ·simp [h]
  ·have h2 : t < (s.size : Int) := by omega
   simp [h0, h2]
 ·rw [q14, w3, q12, w2, q6, q5, q4, q3, w1, q2]
  unfold Ci
  cases c
  ·simp
  ·by_cases h : t + 1 > (s.size : Int)
   ·have h2 : (s.size : Int) ≤ t := by omega
    simp [h, h2]
   ·have h2 : ¬ (s.size : Int) ≤ t := by omega
    simp [h, h2]
def bm (m b : Int) : Int := if m = 0 then b else b % m
def Kn (t i n : Int) (x : A) : Bool := decide (0 ≤ t) && (decide (t + (n - i) ≤ 900000) && (decide (0 ≤ i) && (decide (i ≤ n) && (decide (n ≤ 1000) && (decide ((x.AJ.length : Int) = n) && isL x)))))
def H0 (s : ByteArray) (m t i n : Int) (x : A) : A := .l (x.AJ.take i.toNat ++ K6 (JS s m (n - i).toNat t))
def H2 (t i n : Int) : Int := t + (n - i)
theorem Un (s : ByteArray) (m : Int) (k : Nat) (i : Int) : JS s m (k + 1) i = bm m (Ci s i) :: JS s m k (i + 1) := rfl
theorem JW {s : ByteArray} {m t i n : Int} {x : A} (hp : Kn t i n x = true) (h : i < n) :
  0 ≤ t ∧ t ≤ 900000 ∧ 0 ≤ i ∧ n ≤ 1000 ∧ (x.AJ.length : Int) = n ∧
   ∀ y : A, y = .l (x.AJ.set i.toNat (.i (bm m (Ci s t)))) → Kn (t + 1) (i + 1) n y = true ∧ H2 (t + 1) (i + 1) n = H2 t i n ∧ H0 s m (t + 1) (i + 1) n y = H0 s m t i n x ∧ (n - (i + 1)).toNat < (n - i).toNat := by
 simp only [Kn, Bool.and_eq_true, decide_eq_true_eq] at hp
 obtain ⟨a1, a2, a3, a4, a5, a6, a7⟩ := hp
 refine ⟨a1, by omega, a3, a5, a6, fun y hy => ⟨?_, by unfold H2; omega, ?_, by omega⟩⟩
 ·simp only [Kn, Bool.and_eq_true, decide_eq_true_eq]
  refine ⟨by omega, by omega, by omega, by omega, a5, ?_, by rw [hy]; rfl⟩
  rw [hy]
  simp only [A.AJ, List.length_set]
  exact a6
 ·unfold H0
  have e : y.AJ = x.AJ.set i.toNat (.i (bm m (Ci s t))) := by rw [hy]; rfl
  rw [e, show (n - i).toNat = (n - (i + 1)).toNat + 1 by omega, Un, show (i + 1).toNat = i.toNat + 1 by omega]
  have : (x.AJ.set i.toNat (A.i (bm m (Ci s t)))).take (i.toNat + 1) = x.AJ.take i.toNat ++ [A.i (bm m (Ci s t))] := by
   rw [List.take_add_one, List.take_set_of_le (Nat.le_refl _), List.getElem?_set_self (by omega)]
   rfl
  rw [this]
  simp [K6]
theorem Nc {s : ByteArray} {m t i n : Int} {x : A} (hp : Kn t i n x = true) (h : ¬ i < n) : H2 t i n = t ∧ i = n ∧ H0 s m t i n x = x := by
 simp only [Kn, Bool.and_eq_true, decide_eq_true_eq] at hp
 obtain ⟨a1, a2, a3, a4, a5, a6, a7⟩ := hp
 refine ⟨by unfold H2; omega, by omega, ?_⟩
 unfold H0
 rw [show (n - i).toNat = 0 by omega, List.take_of_length_le (by omega)]
 simp only [JS, K6, List.map_nil, List.append_nil]
 exact (KZ a7).symm
theorem Aao (k : Nat) : (List.replicate k [A.i 0]).flatten = List.replicate k (A.i 0) := by
 induction k with
 | zero => rfl
 | succ k ih => rw [List.replicate_succ, List.replicate_succ, List.flatten_cons, ih]; rfl
theorem JX {s : ByteArray} {m t n : Int} (h0 : 0 ≤ n) (h1 : n ≤ 1000) (h2 : 0 ≤ t) (h3 : t ≤ 800000) :
  Kn t 0 n (.l (List.replicate n.toNat [A.i 0]).flatten) = true ∧ H2 t 0 n = t + n ∧ H0 s m t 0 n (.l (List.replicate n.toNat [A.i 0]).flatten) = .l (K6 (JS s m n.toNat t)) := by
 refine ⟨?_, by unfold H2; omega, ?_⟩
 ·simp only [Kn, Bool.and_eq_true, decide_eq_true_eq]
  refine ⟨h2, by omega, by omega, h0, h1, ?_, rfl⟩
  rw [Aao]
  simp [A.AJ]
  omega
 ·unfold H0
  simp [A.AJ]
def Y3 (t i n : Int) (x : A) : Bool := decide (0 ≤ t) && (decide (t + 4 * (n - i) ≤ 900000) && (decide (0 ≤ i) && (decide (i ≤ n) && (decide (n ≤ 1000) && (decide ((x.AJ.length : Int) = 4 * n) && isL x)))))
def Y4 (s : ByteArray) (t i n : Int) (x : A) : A := .l (x.AJ.take (4 * i.toNat) ++ Fv s (n - i).toNat i t)
def Y5 (t i n : Int) : Int := t + 4 * (n - i)
theorem AdE (l : List A) (k : Nat) (a b c d : A) (h : k + 4 ≤ l.length) : ((((l.set k a).set (1 + k) b).set (2 + k) c).set (3 + k) d).take (k + 4) = l.take k ++ [a, b, c, d] := by
 refine List.ext_getElem? fun j => ?_
 rw [List.getElem?_take, List.getElem?_append]
 simp only [List.getElem?_set, List.length_set, List.length_take, List.getElem?_take]
 by_cases h1 : j < k
 ·rw [if_pos (by omega), if_neg (by omega), if_neg (by omega), if_neg (by omega), if_neg (by omega), if_pos (by omega), if_pos h1]
 ·rw [show (min k l.length) = k by omega, if_neg h1]
  by_cases h2 : j < k + 4
  ·rw [if_pos h2]
   obtain h3 | h3 | h3 | h3 : j = k ∨ j = 1 + k ∨ j = 2 + k ∨ j = 3 + k := by omega
   ·subst h3
    rw [if_neg (by omega), if_neg (by omega), if_neg (by omega), if_pos rfl, if_pos (by omega)]
    simp
   ·subst h3
    rw [if_neg (by omega), if_neg (by omega), if_pos rfl, if_pos (by omega), show 1 + k - k = 1 by omega]
    rfl
   ·subst h3
    rw [if_neg (by omega), if_pos rfl, if_pos (by omega), show 2 + k - k = 2 by omega]
    rfl
   ·subst h3
    rw [if_pos rfl, if_pos (by omega), show 3 + k - k = 3 by omega]
    rfl
  ·rw [if_neg h2]
   rw [List.getElem?_eq_none]
   simp only [List.length_cons, List.length_nil]
   omega
theorem Abd {s : ByteArray} {t i n : Int} {x : A} (hp : Y3 t i n x = true) (h : i < n) :
  0 ≤ t ∧ t ≤ 900000 ∧ 0 ≤ i ∧ n ≤ 1000 ∧
   ∀ y : A, y = .l ((((x.AJ.set (4 * i.toNat) (.i i)).set (1 + 4 * i.toNat) (.i (Ci s t))).set (2 + 4 * i.toNat) (.i (J3 s (t + 1)))).set (3 + 4 * i.toNat) (.i (Ci s (t + 3)))) →
    Y3 (t + 4) (i + 1) n y = true ∧ Y5 (t + 4) (i + 1) n = Y5 t i n ∧ Y4 s (t + 4) (i + 1) n y = Y4 s t i n x ∧ (n - (i + 1)).toNat < (n - i).toNat := by
 simp only [Y3, Bool.and_eq_true, decide_eq_true_eq] at hp
 obtain ⟨a1, a2, a3, a4, a5, a6, a7⟩ := hp
 refine ⟨a1, by omega, a3, a5, fun y hy => ⟨?_, by unfold Y5; omega, ?_, by omega⟩⟩
 ·simp only [Y3, Bool.and_eq_true, decide_eq_true_eq]
  refine ⟨by omega, by omega, by omega, by omega, a5, ?_, by rw [hy]; rfl⟩
  rw [hy]
  simp only [A.AJ, List.length_set]
  exact a6
 ·unfold Y4
  have e : y.AJ = (((x.AJ.set (4 * i.toNat) (.i i)).set (1 + 4 * i.toNat) (.i (Ci s t))).set (2 + 4 * i.toNat) (.i (J3 s (t + 1)))).set (3 + 4 * i.toNat) (.i (Ci s (t + 3))) := by rw [hy]; rfl
  rw [e, show (n - i).toNat = (n - (i + 1)).toNat + 1 by omega, show 4 * (i + 1).toNat = 4 * i.toNat + 4 by omega, AdE _ _ _ _ _ _ (by omega)]
  simp [Fv]
theorem Acj {s : ByteArray} {t i n : Int} {x : A} (hp : Y3 t i n x = true) (h : ¬ i < n) : Y5 t i n = t ∧ Y4 s t i n x = x := by
 simp only [Y3, Bool.and_eq_true, decide_eq_true_eq] at hp
 obtain ⟨a1, a2, a3, a4, a5, a6, a7⟩ := hp
 refine ⟨by unfold Y5; omega, ?_⟩
 unfold Y4
 rw [show (n - i).toNat = 0 by omega, List.take_of_length_le (by omega)]
 simp only [Fv, List.append_nil]
 exact (KZ a7).symm
theorem Yk (k : Nat) : (List.replicate k [A.i 0, .i 0, .i 0, .i 0]).flatten.length = 4 * k := by simp; omega
theorem Abe {s : ByteArray} {t n : Int} (h0 : 0 ≤ n) (h1 : n ≤ 1000) (h2 : 0 ≤ t) (h3 : t ≤ 800000) :
  Y3 t 0 n (.l (List.replicate n.toNat [A.i 0, .i 0, .i 0, .i 0]).flatten) = true ∧ Y5 t 0 n = t + 4 * n ∧ Y4 s t 0 n (.l (List.replicate n.toNat [A.i 0, .i 0, .i 0, .i 0]).flatten) = .l (Fv s n.toNat 0 t) := by
 refine ⟨?_, by unfold Y5; omega, ?_⟩
 ·simp only [Y3, Bool.and_eq_true, decide_eq_true_eq]
  refine ⟨h2, by omega, by omega, h0, h1, ?_, rfl⟩
  show ((List.replicate n.toNat [A.i 0, .i 0, .i 0, .i 0]).flatten.length : Int) = _
  rw [Yk]
  omega
 ·unfold Y4
  simp [A.AJ]
def u8A (a : A) : A := .i (IntKind.wrap .u8 a.int)
def U0 (n i c : Int) (x y : A) : Bool := decide (0 ≤ i) && (decide (i ≤ n) && (decide (n ≤ 1000) && (decide ((x.AJ.length : Int) = n) && (decide (c = i) && (decide ((y.AJ.length : Int) = i) && isL y)))))
def Uo (i : Int) (x y : A) : A := .l (y.AJ ++ (x.AJ.drop i.toNat).map u8A)
theorem XC {n i c : Int} {x y : A} (hp : U0 n i c x y = true) (h : i < n) :
  0 ≤ i ∧ n ≤ 1000 ∧ (y.AJ.length : Int) = i ∧
   ∀ (z : A) (d : Int), z = .l (y.AJ ++ [u8A (x.AJ.getD i.toNat (.i 0))]) → d = (z.AJ.length : Int) → U0 n (i + 1) d x z = true ∧ Uo (i + 1) x z = Uo i x y ∧ (n - (i + 1)).toNat < (n - i).toNat := by
 simp only [U0, Bool.and_eq_true, decide_eq_true_eq] at hp
 obtain ⟨a1, a2, a3, a4, a5, a6, a7⟩ := hp
 refine ⟨a1, a3, a6, fun z d hz hd => ⟨?_, ?_, by omega⟩⟩
 ·have : z.AJ.length = y.AJ.length + 1 := by rw [hz]; simp [A.AJ]
  simp only [U0, Bool.and_eq_true, decide_eq_true_eq]
  exact ⟨by omega, by omega, a3, a4, by omega, by omega, by rw [hz]; rfl⟩
 ·unfold Uo
  have e : z.AJ = y.AJ ++ [u8A (x.AJ.getD i.toNat (.i 0))] := by rw [hz]; rfl
  have g : x.AJ.drop i.toNat = x.AJ.getD i.toNat (.i 0) :: x.AJ.drop (i + 1).toNat := by
   rw [List.drop_eq_getElem_cons (by omega), show (i + 1).toNat = i.toNat + 1 by omega]
   congr 1
   simp [List.getD, List.getElem?_eq_getElem (show i.toNat < x.AJ.length by omega)]
  rw [e, g]
  simp
theorem Aap {n i c : Int} {x y : A} (hp : U0 n i c x y = true) (h : ¬ i < n) : c = n ∧ i = n ∧ Uo i x y = y := by
 simp only [U0, Bool.and_eq_true, decide_eq_true_eq] at hp
 obtain ⟨a1, a2, a3, a4, a5, a6, a7⟩ := hp
 refine ⟨by omega, by omega, ?_⟩
 unfold Uo
 rw [List.drop_of_length_le (by omega)]
 simp only [List.map_nil, List.append_nil]
 exact (KZ a7).symm
theorem XD {n : Int} {x : A} (h0 : 0 ≤ n) (h1 : n ≤ 1000) (hx : (x.AJ.length : Int) = n) : U0 n 0 0 x (.l []) = true := by
 simp only [U0, Bool.and_eq_true, decide_eq_true_eq]
 exact ⟨by omega, h0, h1, hx, trivial, rfl, rfl⟩
theorem Up (s : ByteArray) : ∀ (k : Nat) (i v : Int), v ∈ JS s 0 k i → 0 ≤ v ∧ v ≤ 255
 | 0, _, _, h => by cases h
 | k + 1, i, v, h => by
  rw [Un, List.mem_cons] at h
  rcases h with h | h
  ·have := Az s i
   rw [h]
   exact this
  ·exact Up s k (i + 1) v h
theorem Aaq {s : ByteArray} {k : Nat} {t : Int} {x : A} (hx : x = .l (K6 (JS s 0 k t))) : (⟨((Uo 0 x (.l [])).AJ.map fun a => UInt8.ofNat a.int.toNat).toArray⟩ : ByteArray) = Yf (JS s 0 k t) := by
 subst hx
 unfold Uo Yf K6
 congr 2
 show List.map _ ([] ++ ((JS s 0 k t).map A.i |>.drop 0).map u8A) = _
 simp only [List.nil_append, List.drop_zero, List.map_map]
 refine List.map_congr_left fun v hv => ?_
 have := Up s k t v hv
 show UInt8.ofNat (IntKind.wrap .u8 v).toNat = _
 rw [show IntKind.wrap .u8 v = v % 256 from rfl, Int.emod_eq_of_lt this.1 (by omega)]
theorem Aar {a b c d : Int} (ha : 0 ≤ a ∧ a ≤ 255) (hb : 0 ≤ b ∧ b ≤ 255) (hc : c = Ef .shl .i64 a 8) (hd : d = CW .or .i64 c b) : d = 256 * a + b := by
 obtain ⟨m, rfl⟩ := Int.eq_ofNat_of_zero_le ha.1
 obtain ⟨k, rfl⟩ := Int.eq_ofNat_of_zero_le hb.1
 have hc2 : c = ((256 * m : Nat) : Int) := by
  rw [hc]
  show IntKind.i64.wrap ((m : Int) * 2 ^ 8) = _
  rw [wrap64 (by omega) (by omega)]
  omega
 rw [hd, hc2]
 show IntKind.i64.wrap ((BitVec.ofInt 64 ((256 * m : Nat) : Int) ||| BitVec.ofInt 64 (k : Int)).toNat : Int) = _
 rw [BitVec.toNat_or, BitVec.toNat_ofInt, BitVec.toNat_ofInt]
 have e1 : (((256 * m : Nat) : Int) % (2 ^ 64 : Nat)).toNat = m <<< 8 := by
  rw [Nat.shiftLeft_eq]
  omega
 have e2 : ((k : Int) % (2 ^ 64 : Nat)).toNat = k := by omega
 rw [e1, e2, ← Nat.shiftLeft_add_eq_or_of_lt (by omega), Nat.shiftLeft_eq]
 rw [wrap64 (by omega) (by omega)]
 omega
theorem and_1 {a c : Int} (ha : 0 ≤ a ∧ a ≤ 255) (hc : c = CW .and .i64 a 1) : c = a % 2 := by
 obtain ⟨m, rfl⟩ := Int.eq_ofNat_of_zero_le ha.1
 rw [hc]
 show IntKind.i64.wrap ((BitVec.ofInt 64 (m : Int) &&& BitVec.ofInt 64 1).toNat : Int) = _
 rw [BitVec.toNat_and, BitVec.toNat_ofInt, BitVec.toNat_ofInt]
 have e1 : ((m : Int) % (2 ^ 64 : Nat)).toNat = m := by omega
 have e2 : ((1 : Int) % (2 ^ 64 : Nat)).toNat = 1 := by omega
 rw [e1, e2, Nat.and_one_is_mod, wrap64 (by omega) (by omega)]
 omega
theorem Ac8 {s : ByteArray} {t a1 sz su sg cv iv : Int} {gt ng le ls an ob : Bool} (h0 : 0 ≤ t) (h1 : t ≤ 1000000) (q1 : a1 = IntKind.i64.wrap (t + 1)) (q2 : sz = (s.size : Int)) (q3 : gt = decide (a1 > sz)) (q4 : ng = !gt)
  (q7 : su = IntKind.i64.wrap (a1 - 1)) (q8 : le = decide (0 ≤ su)) (q9 : ls = decide (su < sz)) (q10 : an = (le && ls)) (q11 : ob = (!ng || an))
  (q12 : sg = ((s.data.toList.getD su.toNat 0).toNat : Int)) (q13 : cv = IntKind.i64.wrap sg) (q14 : iv = if ng = true then cv else 0) : a1 = t + 1 ∧ ob = true ∧ iv = Ci s t := by
 have := Ox (c := true) h0 h1 q1 q2 q3 q4 rfl (Bool.and_self ng).symm q7 q8 q9 q10 q11 q12 q13 q14
 rwa [if_pos rfl] at this
theorem Ack {s : ByteArray} {k k1 sz sg cv iv : Int} {gt ng ls ob : Bool} (h0 : 0 ≤ k) (hk : k1 = k + 1) (q2 : sz = (s.size : Int)) (q3 : gt = decide (k1 > sz)) (q4 : ng = !gt) (q9 : ls = decide (k < sz)) (q11 : ob = (!ng || ls))
  (q12 : sg = ((s.data.toList.getD k.toNat 0).toNat : Int)) (q13 : cv = IntKind.i64.wrap sg) (q14 : iv = if ng = true then cv else 0) : ob = true ∧ iv = Ci s k := by
 have w3 : cv = sg := by
  have := UInt8.toNat_lt (s.data.toList.getD k.toNat 0)
  rw [q13]
  exact wrap64 (by omega) (by omega)
 rw [q11, q14, w3, q12, q4, q3, q9, q2, hk]
 unfold Ci
 by_cases h : k + 1 > (s.size : Int)
 ·have h2 : (s.size : Int) ≤ k := by omega
  simp [h, h2]
 ·have h2 : ¬ (s.size : Int) ≤ k := by omega
  have h3 : k < (s.size : Int) := by omega
  simp [h, h2, h3]
theorem Ac9 {s : ByteArray} {i n : Int} {x y z : A} (hx : x = .l (K6 (JS s 0 n.toNat i))) (hz : z = .l [.i 0, .i 0, .i 0, .i 0, .i 0, .i 0, .i 0, .i 0]) (hy : y = .l (x.AJ.take n.toNat ++ z.AJ.drop n.toNat)) (h0 : 0 ≤ n) (h : n ≤ 8) (j : Nat) (hj : j < 8) :
  (y.AJ.getD j (.i 0)).int = BT s i n 0 0 j := by
 subst hy hx hz
 show ((((K6 (JS s 0 n.toNat i)).take n.toNat ++ (List.replicate 8 (A.i 0)).drop n.toNat)).getD j (.i 0)).int = _
 have e : (K6 (JS s 0 n.toNat i)).length = n.toNat := by rw [K6, List.length_map, Hg]
 rw [List.take_of_length_le (by omega)]
 unfold BT
 simp only [List.getD_eq_getElem?_getD]
 by_cases c : (j : Int) < n
 ·rw [if_pos ⟨by omega, c⟩, ← S1 s n.toNat i j (by omega), List.getElem?_append_left (by omega)]
  simp only [K6, List.getD_eq_getElem?_getD, List.getElem?_map]
  cases (JS s 0 n.toNat i)[j]? <;> rfl
 ·rw [if_neg (by omega), List.getElem?_append_right (by omega), List.drop_replicate, List.getElem?_replicate]
  split <;> rfl
theorem Uq (s : ByteArray) (n cls who : Int) (hn : n ≤ 8) : ∀ (m : Nat) (pre : List A) (i : Int) (j : Nat), pre.length = 4 * j → PI (.l (pre ++ tkS s n cls who m i)) m j = true
 | 0, _, _, _, _ => rfl
 | m + 1, pre, i, j, hj => by
  have ih := Uq s n cls who hn m (pre ++ ID (GI s i n cls who)) (HY s i n cls) (j + 1) (by rw [List.length_append]; show pre.length + 4 = _; omega)
  have e : pre ++ ID (GI s i n cls who) ++ tkS s n cls who m (HY s i n cls) = pre ++ tkS s n cls who (m + 1) i := by
   rw [List.append_assoc]
   rfl
  rw [e] at ih
  have e2 : ((j : Int) + 1) = ((j + 1 : Nat) : Int) := by omega
  unfold PI
  rw [e2, ih, Bool.and_true, decide_eq_true_eq]
  have e3 : (pre ++ tkS s n cls who (m + 1) i).getD (2 + 4 * (j : Int).toNat) (.i 0) = (GI s i n cls who).x := by
   rw [List.getD_eq_getElem?_getD, List.getElem?_append_right (by omega), show 2 + 4 * (j : Int).toNat - pre.length = 2 by omega]
   rfl
  show ((((pre ++ tkS s n cls who (m + 1) i).getD (2 + 4 * (j : Int).toNat) (.i 0)).AJ.length / 1 : Nat) : Int) ≤ 1000000
  rw [e3]
  unfold GI
  split
  ·simp [A.AJ]
  ·split
   ·show ((((K6 (JS s 3 n.toNat i)).length) / 1 : Nat) : Int) ≤ _
    rw [K6, List.length_map, Hg]
    omega
   ·simp [A.AJ]
theorem Yl (s : ByteArray) : Yi (Cu s) = true := by
 have r1 := GM s
 have r2 := JV s
 unfold Yi VP Yh Cu
 have := Uq s (DT s) (EE s) (Kl s) r1.2 (Yg s).toNat [] (Uh s + 2) 0 rfl
 simp only [Bool.and_eq_true, decide_eq_true_eq]
 refine ⟨?_, ?_, ?_, this⟩
 ·split <;> omega
 ·split <;> omega
 ·omega
theorem Aas {s : ByteArray} (h : 3 ≤ (s.size : Int)) : (s.extract 0 3).size = 3 := by
 rw [ByteArray.size_extract]
 omega
theorem Acl {s : ByteArray} (h : 3 ≤ (s.size : Int)) {i : Int} (h0 : 0 ≤ i) (h3 : i < 3) : Ci (s.extract 0 3) i = Ci s i := by
 unfold Ci
 rw [Aas h, if_neg (by omega), if_neg (by omega), ByteArray.data_extract, Array.toList_extract, List.extract_eq_take_drop, List.drop_zero]
 simp only [List.getD_eq_getElem?_getD]
 rw [List.getElem?_take_of_lt (by omega)]
theorem Aat {s : ByteArray} (h : 3 ≤ (s.size : Int)) {i : Int} (h3 : 3 ≤ i) : Ci (s.extract 0 3) i = 0 := by
 unfold Ci
 rw [Aas h, if_pos (by omega)]
theorem Ada {s : ByteArray} (h : 3 ≤ (s.size : Int)) : DT (s.extract 0 3) = DT s ∧ EE (s.extract 0 3) = EE s ∧ Kl (s.extract 0 3) = Kl s ∧ HZ (s.extract 0 3) = HZ s ∧ Yg (s.extract 0 3) = 0 := by
 have e0 := Acl h (i := 0) (by omega) (by omega)
 have e1 := Acl h (i := 1) (by omega) (by omega)
 have e2 := Acl h (i := 2) (by omega) (by omega)
 have a : DT (s.extract 0 3) = DT s := by unfold DT; rw [e0]
 have b : EE (s.extract 0 3) = EE s := by unfold EE; rw [e1]
 have c : HZ (s.extract 0 3) = HZ s := by unfold HZ; rw [e1]
 refine ⟨a, b, by unfold Kl; rw [a, b, e2], c, ?_⟩
 have := JU (s.extract 0 3)
 unfold Yg J3
 rw [Aat h (by omega), Aat h (by omega)]
 rfl
theorem Abf {s : ByteArray} : (if HZ s = true then ((Cu s).nn == (Cu s).n) && ((Cu s).pn == 0) else ((Cu s).pn == (Cu s).n) && ((Cu s).nn == 0)) = true := by
 unfold Cu
 cases h : HZ s <;> simp
end Day

