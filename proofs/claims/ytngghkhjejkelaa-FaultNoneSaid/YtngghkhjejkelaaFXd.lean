import Derived.Test.YtngghkhjejkelaaFXc
set_option linter.unusedVariables false
set_option linter.unusedSimpArgs false
namespace Day
structure Fr where
 kind : Int
 id : Int
 deriving DecidableEq
structure ND where
 id : Int
 mode : Int
 count : Int
 pos : Int
 deriving DecidableEq
structure HB where
 ages : List Int
 port : Int
 age : Int
 hold : Int
 pos : Int
 deriving DecidableEq
def HB.a (h : HB) (p : Nat) : Int := h.ages.getD p 0
def right (n : Int) : Bool := decide (3 ≤ n) && decide (n ≤ 8)
def times (k n : Int) : Int := if right n then k * n else 0
def Xn (n i : Int) : Int := if right n then (if i < 0 ∨ n ≤ i then 2 else 0) else 1
def V4 (k n i : Int) : Int := if Xn n i = 0 then k * n + i + 1 else 0
def R9 (c least most : Int) : Int := if c < least then least else if most < c then most else c
def Yz (c most : Int) : Int := if most ≤ max c 0 then most else max c 0 + 1
def WN (c : Int) : Int := if c ≤ 0 then 0 else c - 1
def V5 (n : Int) : Bool := decide (1 ≤ n) && decide (n ≤ 8)
def X2 (n x : Int) : Int := x % n
def S5 (n p : Int) : Bool := V5 n && decide (0 ≤ p) && decide (p < n)
def WO (n p : Int) : Int := (p + 1) % n
def YA (n p age : Int) : Bool := V5 n && decide (0 ≤ p) && decide (p ≤ 8) && decide (0 ≤ age) && decide (age ≤ 1099511627776)
def atR (n p age : Int) : Int := (p + age) % n
def UX (n a b : Int) : Bool := S5 n a && S5 n b
def UY (n a b : Int) : Int := (b - a) % n
def Nl (n : Int) (x : ND) : Bool :=
 right n && decide (0 ≤ x.id) && decide (x.id < n) && decide (0 ≤ x.mode) && decide (x.mode ≤ 3) && decide (0 ≤ x.count) && decide (x.count ≤ 1073741824) &&
 (decide (x.mode ≠ 0) || decide (x.count = 0)) && (decide (x.mode = 3) || decide (x.pos = 0)) && decide (0 ≤ x.pos) && decide (x.pos < n)
def Yb (n i : Int) : Int := if right n then (if i < 0 ∨ n ≤ i then 2 else 0) else 1
def V6 : ND := ⟨0, 0, 0, 0⟩
def UZ (n i : Int) : ND := if Yb n i = 0 then ⟨i, 0, 0, 0⟩ else V6
def U0 (n i : Int) (x : ND) : ND :=
 if Yb n i = 0 then
  ⟨i, if 1 ≤ x.mode ∧ x.mode ≤ 3 then x.mode else 1, R9 x.count 0 1073741824, if x.mode = 3 then x.pos % n else 0⟩
 else V6
def WQ (x : ND) : ND := ⟨x.id, 1, 0, 0⟩
def U1 (n : Int) (x : ND) : Int := if x.mode = 1 then V4 4 n x.id else V4 2 n x.id
def Xo (n : Int) (x : ND) : Int :=
 if Nl n x then
  if x.mode = 3 then (x.id - x.pos) % n
  else if x.mode = 1 ∨ x.mode = 2 then max 0 (U1 n x - x.count)
  else -1
 else -1
def Xp : Fr := ⟨0, 0⟩
def YB (n : Int) (x : ND) : Int := if Nl n x then 0 else 1
def YC (n : Int) (x : ND) : Fr :=
 if Nl n x && decide (Xo n x = 0) then (if x.mode = 3 then ⟨2, x.id⟩ else ⟨1, x.id⟩) else Xp
def many (n c : Int) : Int := if c = 0 then 1 else if c = 1 then n else if c = 2 then 2 else 0
def AZ (n : Int) : Int := if right n then 0 else 1
end Day
namespace Day
def i64 (x : Int) : Bool := decide (-9223372036854775808 ≤ x) && decide (x ≤ 9223372036854775807)
def u8 (x : Int) : Bool := decide (0 ≤ x) && decide (x ≤ 255)
def u16 (x : Int) : Bool := decide (0 ≤ x) && decide (x ≤ 65535)
def u32 (x : Int) : Bool := decide (0 ≤ x) && decide (x ≤ 4294967295)
def sm (x : Int) : Bool := decide (-4611686018427387904 ≤ x) && decide (x ≤ 4611686018427387904)
def ND.i64 (x : ND) : Bool := Day.i64 x.id && Day.i64 x.mode && Day.i64 x.count && Day.i64 x.pos
end Day
namespace Day
end Day
namespace Day
end Day
namespace Day
def Xq (q : Nat → Bool) : Bool := q 0 && q 1 && q 2 && q 3 && q 4 && q 5 && q 6 && q 7
def HB.i64 (h : HB) : Bool := Xq (fun p => Day.i64 (h.a p)) && Day.i64 h.port && Day.i64 h.age && Day.i64 h.hold && Day.i64 h.pos
end Day
namespace Day
end Day
namespace Day
end Day
namespace Day
end Day
namespace Day
end Day
namespace Day
def bv (b : Bool) : Int := if b then 1 else 0
end Day
namespace Day
theorem U2 (b : Bool) : 0 ≤ bv b ∧ bv b ≤ 1 := by cases b <;> simp [bv]
end Day
namespace Day
end Day
namespace Day
end Day
namespace Day
theorem bs {l o p p' : Int} {b : Bool} (B : 0 ≤ l ∧ l ≤ p) (R : o = l + bv b) (hp : p' = p + 1) : 0 ≤ o ∧ o ≤ p' := by
 have := U2 b
 omega
end Day
namespace Day
end Day
namespace Day
end Day
namespace Day
open Rx
def YD (a : A) : List Int := a.GW.map A.int
def WR (l : List Int) : A := .l (l.map A.i)
def V7 : List A → List Fr
 | x :: y :: l => ⟨x.int, y.int⟩ :: V7 l
 | _ => []
def YJ (a : A) : List Fr := V7 a.GW
def X3 (l : List Fr) : A := .l (l.flatMap fun f => [.i f.kind, .i f.id])
theorem S6 : ∀ l : List Fr, V7 (l.flatMap fun f => [.i f.kind, .i f.id]) = l
 | [] => rfl
 | f :: l => by simp [V7, S6 l]
@[simp] theorem Yv (l : List Fr) : YJ (X3 l) = l := S6 l
@[simp] theorem Yw (l : List Int) : YD (WR l) = l := by
 induction l with
 | nil => rfl
 | cons a l ih => simpa [YD, WR] using ih
end Day
namespace Day
open Rx Go
structure Fl where
 cls : Int
 who : Int
 deriving DecidableEq
structure Ch where
 a : ByteArray
 b : ByteArray
 x : A
 n : Int
 link : Int
def JR (a b : Int) : Int := Db .xor .u32 a b
def JS (r : Int) : Int := if r % 2 = 1 then JR (r / 2) 3988292384 else r / 2
def DG : Nat → Int → Int
 | 0, r => r
 | k + 1, r => DG k (JS r)
def KJ (r b : Int) : Int := DG 8 (JR r b)
def BR (l : List A) (r : Int) : Int := l.foldl (fun r a => KJ r a.int) r
def Bp (s : ByteArray) : List A := s.data.toList.map fun b => .i (b.toNat : Int)
def Je (s : ByteArray) : Int := 4294967295 - BR (Bp s) 4294967295
def Pn (n k : Int) : UInt8 := UInt8.ofNat (n / k % 256).toNat
def JT (n : Int) : ByteArray := ⟨[Pn n 16777216, Pn n 65536, Pn n 256, Pn n 1].toArray⟩
def upto (i n : Int) : Bool := decide (0 ≤ i) && decide (i ≤ n)
def Er (s : ByteArray) : Int := (s.size : Int)
def Iy (n : Int) : Bool := decide (n ≤ 1000)
def Es (x : A) (n : Int) : Bool := decide ((x.GW.length : Int) = n) && x.GW.all fun a => u8 a.int
def BA (f : Fr) : Bool := (decide (f.kind = 1) || decide (f.kind = 2)) && (decide (0 ≤ f.id) && decide (f.id < 8))
def Hh (f : Fr) : ByteArray := ⟨[216, UInt8.ofNat f.kind.toNat, UInt8.ofNat f.id.toNat].toArray⟩
def Hi : ByteArray := ⟨([0] : List UInt8).toArray⟩
def Nm : ByteArray := ⟨([] : List UInt8).toArray⟩
def D1 (f : Fr) : ByteArray := if f.kind = 3 then Hi else if BA f then Hh f ++ JT (Je (Hh f)) else Nm
def Bq (n : Int) (f : Fl) : Bool := right n && (decide (0 ≤ f.who) && decide (f.who < many n f.cls))
def AY (n : Int) (f : Fl) : Fl := if Bq n f then f else ⟨0, 0⟩
def isNode (f : Fl) (i : Int) : Bool := decide (f.cls = 1) && decide (f.who = i)
def Bt (f : Fl) (i : Int) : Bool := decide (f.cls = 2) && decide (f.who = i)
def BS (f : Fl) (c : Ch) (i : Int) (x : Fr) : ByteArray := if isNode f i then c.a else D1 x
def BT (f : Fl) (c : Ch) (i : Int) (x : Fr) : ByteArray := if isNode f i then c.b else D1 x
def Cw (f : Fl) (c : Ch) (h p : Int) : Int := if Bt f h && (decide (0 ≤ p) && decide (p < c.n)) then (c.x.GW.getD p.toNat (.i 0)).int else 0
def CI (f : Fl) (c : Ch) (h p : Int) (x : Fr) : ByteArray := if Cw f c h p = 1 then Nm else if Cw f c h p = 2 then Hi else D1 x
def Cf (f : Fl) (c : Ch) (i : Int) : Bool := decide (c.link = 0) || !Bt f i
def BE (c : Ch) : Bool := decide ((c.a.size : Int) ≤ 100) && (decide ((c.b.size : Int) ≤ 100) && decide (c.n ≤ 20))
theorem Ck {x : Int} : u32 x = true ↔ 0 ≤ x ∧ x ≤ 4294967295 := by simp [u32]
theorem Sa {x : Int} : u8 x = true ↔ 0 ≤ x ∧ x ≤ 255 := by simp [u8]
theorem wrap_u32 (x : Int) : IntKind.wrap .u32 x = x % 4294967296 := by simp [IntKind.wrap, IntKind.signed, IntKind.bits]
theorem wrap_u8 (x : Int) : IntKind.wrap .u8 x = x % 256 := by simp [IntKind.wrap, IntKind.signed, IntKind.bits]
theorem S7 (x : BitVec 32) : IntKind.wrap .u32 ((x.toNat : Nat) : Int) = (x.toNat : Int) := by
 rw [wrap_u32]
 have := x.isLt
 omega
theorem xor_eq (a b : Int) : Db .xor .u32 a b = ((BitVec.ofInt 32 a ^^^ BitVec.ofInt 32 b).toNat : Int) := S7 (BitVec.ofInt 32 a ^^^ BitVec.ofInt 32 b)
theorem and_eq (a b : Int) : Db .and .u32 a b = ((BitVec.ofInt 32 a &&& BitVec.ofInt 32 b).toNat : Int) := S7 (BitVec.ofInt 32 a &&& BitVec.ofInt 32 b)
theorem H8 (a b : Int) : 0 ≤ JR a b ∧ JR a b ≤ 4294967295 := by
 unfold JR
 rw [xor_eq]
 have := (BitVec.ofInt 32 a ^^^ BitVec.ofInt 32 b).isLt
 omega
theorem xor_zero {a : Int} (h : 0 ≤ a ∧ a ≤ 4294967295) : JR a 0 = a := by
 unfold JR
 rw [xor_eq]
 obtain ⟨n, rfl⟩ := Int.eq_ofNat_of_zero_le h.1
 simp
 omega
theorem V8 {a : Int} (h : 0 ≤ a ∧ a ≤ 4294967295) : Db .and .u32 a 1 = a % 2 := by
 rw [and_eq]
 obtain ⟨n, rfl⟩ := Int.eq_ofNat_of_zero_le h.1
 have e : (BitVec.ofInt 32 (n : Int) &&& BitVec.ofInt 32 1).toNat = n % 2 := by
  have h1 : (BitVec.ofInt 32 1).toNat = 1 := by decide
  rw [BitVec.toNat_and, h1, Nat.and_one_is_mod]
  simp
 rw [e]
 omega
theorem step_eq {r s a g p x : Int} (h : 0 ≤ r ∧ r ≤ 4294967295) (hs : s = Fo .shr .u32 r 1) (ha : a = Db .and .u32 r 1) (hg : g = IntKind.wrap .u32 (0 - a)) (hp : p = Db .and .u32 3988292384 g)
  (hx : x = Db .xor .u32 s p) : x = JS r := by
 have hs : s = r / 2 := by
  rw [hs]
  show r.fdiv (2 ^ 1) = r / 2
  rw [Int.fdiv_eq_ediv_of_nonneg _ (by decide)]
  rfl
 rw [V8 h] at ha
 unfold JS
 by_cases h1 : r % 2 = 1
 ·rw [if_pos h1, hx, hs, hp, hg, ha, h1]
  have e : Db .and .u32 3988292384 (IntKind.wrap .u32 (0 - 1)) = 3988292384 := by decide
  rw [e]
  rfl
 ·rw [if_neg h1, hx, hs, hp, hg, ha]
  have h0 : r % 2 = 0 := by omega
  rw [h0]
  have e : Db .and .u32 3988292384 (IntKind.wrap .u32 (0 - 0)) = 0 := by decide
  rw [e]
  exact xor_zero (by omega)
theorem Nn {r : Int} (h : 0 ≤ r ∧ r ≤ 4294967295) : 0 ≤ JS r ∧ JS r ≤ 4294967295 := by
 unfold JS
 split
 ·exact H8 _ _
 ·omega
theorem Lr : ∀ (k : Nat) {r : Int}, 0 ≤ r ∧ r ≤ 4294967295 → 0 ≤ DG k r ∧ DG k r ≤ 4294967295
 | 0, _, h => h
 | k + 1, _, h => Lr k (Nn h)
theorem KK (r b : Int) : 0 ≤ KJ r b ∧ KJ r b ≤ 4294967295 := Lr 8 (H8 _ _)
theorem ET : ∀ (l : List A) {r : Int}, 0 ≤ r ∧ r ≤ 4294967295 → 0 ≤ BR l r ∧ BR l r ≤ 4294967295
 | [], _, h => h
 | a :: l, r, h => by
  show 0 ≤ BR l (KJ r a.int) ∧ _
  exact ET l (KK _ _)
theorem TH (s : ByteArray) : 0 ≤ Je s ∧ Je s ≤ 4294967295 := by
 have := ET (Bp s) (r := 4294967295) (by omega)
 unfold Je
 omega
theorem X4 {r x : Int} (h : 0 ≤ r ∧ r ≤ 4294967295) (hx : x = Db .xor .u32 4294967295 r) : x = 4294967295 - r := by
 rw [hx, xor_eq]
 obtain ⟨n, rfl⟩ := Int.eq_ofNat_of_zero_le h.1
 have e : BitVec.ofInt 32 4294967295 ^^^ BitVec.ofInt 32 (n : Int) = ~~~(BitVec.ofInt 32 (n : Int)) := by
  have h1 : BitVec.ofInt 32 4294967295 = BitVec.allOnes 32 := by decide
  rw [h1, BitVec.allOnes_xor]
 rw [e, BitVec.toNat_not]
 simp
 omega
theorem U3 {r a c d x : Int} {b : Bool} (h : 0 ≤ r ∧ r ≤ 4294967295) (ha : a = r.tmod 2) (hb : b = (a == 1)) (hc : c = IntKind.wrap .u32 (r.tdiv 2)) (hd : d = Db .xor .u32 c 3988292384)
  (hx : x = if b = true then d else c) : x = JS r := by
 have hc : c = r / 2 := by
  rw [hc, wrap_u32, Int.tdiv_eq_ediv_of_nonneg h.1]
  omega
 rw [Int.tmod_eq_emod_of_nonneg h.1] at ha
 unfold JS
 subst hb ha hd
 rw [hx, hc]
 by_cases h1 : r % 2 = 1
 ·rw [if_pos h1, if_pos (by simp [h1])]
  rfl
 ·rw [if_neg h1, if_neg (by simpa using h1)]
theorem No {r i x j : Int} (hp : (u32 r && upto i 8) = true) (hlt : i < 8) (hx : x = JS r) (hj : j = IntKind.wrap .i64 (i + 1)) :
  (u32 x && upto j 8) = true ∧ DG (8 - j).toNat x = DG (8 - i).toNat r ∧ (8 - j).toNat < (8 - i).toNat := by
 simp only [Bool.and_eq_true, Ck, upto, decide_eq_true_eq] at hp ⊢
 rw [wrap64 (by omega) (by omega)] at hj
 have hr := Nn hp.1
 rw [hx, hj, show (8 - i).toNat = (8 - (i + 1)).toNat + 1 by omega]
 exact ⟨⟨hr, by omega⟩, rfl, by omega⟩
theorem Po {r i : Int} (hp : (u32 r && upto i 8) = true) (hlt : ¬ i < 8) : r = DG (8 - i).toNat r := by
 simp only [Bool.and_eq_true, Ck, upto, decide_eq_true_eq] at hp
 rw [show (8 - i).toNat = 0 by omega]
 rfl
theorem Np {l : List A} {i : Nat} (h : i < l.length) (r : Int) : BR (l.drop i) r = BR (l.drop (i + 1)) (KJ r (l.getD i (.i 0)).int) := by
 have e : l.getD i (.i 0) = l[i] := by simp [List.getD, List.getElem?_eq_getElem h]
 rw [e, List.drop_eq_getElem_cons h]
 rfl
def B0 (s : ByteArray) : Bool := decide ((s.size : Int) ≤ 1000)
theorem Jf (s : ByteArray) : (Bp s).length = s.size := by simp [Bp]
theorem Sb (s : ByteArray) (i : Nat) : ((Bp s).getD i (.i 0)).int = ((s.data.toList.getD i 0).toNat : Int) := by
 simp only [Bp, List.getD, List.getElem?_map]
 cases s.data.toList[i]? <;> rfl
theorem S8 (b : UInt8) : u8 (b.toNat : Int) = true := by
 rw [Sa]
 have := b.toNat_lt
 omega
theorem TI (s : ByteArray) {x : A} (hx : x = .l (Bp s)) : Es x (s.size : Int) = true := by
 subst hx
 simp only [Es, A.GW, Jf, Bool.and_eq_true, decide_eq_true_eq, List.all_eq_true, true_and]
 intro a ha
 simp only [Bp, List.mem_map] at ha
 obtain ⟨b, _, rfl⟩ := ha
 exact S8 b
theorem Sc {r i n z y j : Int} {x : A} (hp : (u32 r && (upto i n && (Es x n && Iy n))) = true) (hlt : i < n) (hz : z = (x.GW.getD i.toNat (.i 0)).int) (hy : y = KJ r z) (hj : j = IntKind.wrap .i64 (i + 1)) :
  (u32 r && u8 z) = true ∧ (0 ≤ i) ∧ (u32 y && (upto j n && (Es x n && Iy n))) = true ∧ BR (x.GW.drop j.toNat) y = BR (x.GW.drop i.toNat) r ∧ (n - j).toNat < (n - i).toNat := by
 simp only [Bool.and_eq_true, Ck, upto, Iy, Es, decide_eq_true_eq, List.all_eq_true] at hp ⊢
 obtain ⟨h1, ⟨h2, h3⟩, ⟨h4, h5⟩, h6⟩ := hp
 rw [wrap64 (by omega) (by omega)] at hj
 have hl : i.toNat < x.GW.length := by omega
 have hz8 : u8 z = true := by
  rw [hz]
  simp only [List.getD, List.getElem?_eq_getElem hl, Option.getD_some]
  exact h5 _ (List.getElem_mem hl)
 refine ⟨⟨h1, hz8⟩, h2, ⟨by rw [hy]; exact KK _ _, by omega, ⟨h4, h5⟩, h6⟩, ?_, by omega⟩
 rw [Np hl, hy, hz, hj, show (i + 1).toNat = i.toNat + 1 by omega]
theorem TJ {r i n : Int} {x : A} (hp : (u32 r && (upto i n && (Es x n && Iy n))) = true) (hlt : ¬ i < n) : r = BR (x.GW.drop i.toNat) r := by
 simp only [Bool.and_eq_true, Ck, upto, Iy, Es, decide_eq_true_eq] at hp
 rw [List.drop_eq_nil_of_le (by omega)]
 rfl
theorem Sd {r i z y j : Int} {s : ByteArray} (hp : (u32 r && (upto i (Er s) && B0 s)) = true) (hlt : i < (s.size : Int)) (hz : z = ((s.data.toList.getD i.toNat 0).toNat : Int)) (hy : y = KJ r z) (hj : j = IntKind.wrap .i64 (i + 1)) :
  (u32 r && u8 z) = true ∧ (0 ≤ i) ∧ (u32 y && (upto j (Er s) && B0 s)) = true ∧ BR ((Bp s).drop j.toNat) y = BR ((Bp s).drop i.toNat) r ∧ (Er s - j).toNat < (Er s - i).toNat := by
 unfold Er at *
 simp only [Bool.and_eq_true, Ck, upto, B0, decide_eq_true_eq] at hp ⊢
 obtain ⟨h1, ⟨h2, h3⟩, h4⟩ := hp
 rw [wrap64 (by omega) (by omega)] at hj
 have hl : i.toNat < (Bp s).length := by rw [Jf]; omega
 refine ⟨⟨h1, by rw [hz]; exact S8 _⟩, h2, ⟨by rw [hy]; exact KK _ _, by omega, h4⟩, ?_, by omega⟩
 rw [Np hl, Sb, hy, hz, hj, show (i + 1).toNat = i.toNat + 1 by omega]
theorem TL {r i : Int} {s : ByteArray} (hp : (u32 r && (upto i (Er s) && B0 s)) = true) (hlt : ¬ i < (s.size : Int)) : r = BR ((Bp s).drop i.toNat) r := by
 unfold Er at *
 simp only [Bool.and_eq_true, Ck, upto, B0, decide_eq_true_eq] at hp
 rw [List.drop_eq_nil_of_le (by rw [Jf]; omega)]
 rfl
theorem U4 (s : ByteArray) : Je s = 4294967295 - BR (Bp s) 4294967295 := rfl
theorem JU {n k v w : Int} (hv : v = n / k) (hw : w = IntKind.wrap .u8 v) : UInt8.ofNat w.toNat = Pn n k := by
 rw [hw, wrap_u8, hv]
 rfl
theorem Nq {n k v w : Int} (hv : v = n / k % 256) (hw : w = IntKind.wrap .u8 v) : UInt8.ofNat w.toNat = Pn n k := by
 rw [hw, wrap_u8, hv, Int.emod_emod]
 rfl
theorem Se {n k v : Int} (h : 0 ≤ n ∧ n ≤ 4294967295) (hk : 0 < k) (hv : v = IntKind.wrap .u32 (n.tdiv k)) : v = n / k := by
 rw [hv, wrap_u32, Int.tdiv_eq_ediv_of_nonneg h.1]
 refine Int.emod_eq_of_lt (Int.ediv_nonneg h.1 (by omega)) ?_
 exact Int.lt_of_le_of_lt (Int.ediv_le_self _ h.1) (by omega)
theorem U5 {v q : Int} {n k : Int} (h : 0 ≤ n) (hk : 0 < k) (hq : q = n / k) (hv : v = q.tmod 256) : v = n / k % 256 := by
 rw [hv, hq]
 exact Int.tmod_eq_emod_of_nonneg (Int.ediv_nonneg h (by omega))
theorem KL (f : Fr) : (Hh f).size = 3 := rfl
theorem Pp (n : Int) : (JT n).size = 4 := rfl
theorem Nr (f : Fr) : B0 (Hh f) = true := by simp [B0, KL]
theorem S9 (s : ByteArray) : u32 (Je s) = true := Ck.2 (TH s)
theorem head_eq {k i v w : Int} {s : ByteArray} (hs : BA ⟨k, i⟩ = true) (hv : v = IntKind.wrap .u8 k) (hw : w = IntKind.wrap .u8 i)
  (h : s = ⟨([UInt8.ofNat (Int.toNat 216), UInt8.ofNat v.toNat, UInt8.ofNat w.toNat] : List UInt8).toArray⟩) : s = Hh ⟨k, i⟩ := by
 simp only [BA, Bool.and_eq_true, Bool.or_eq_true, decide_eq_true_eq] at hs
 have e1 : v = k := by rw [hv, wrap_u8]; omega
 have e2 : w = i := by rw [hw, wrap_u8]; omega
 rw [h, e1, e2]
 rfl
theorem Pq : D1 ⟨3, 0⟩ = Hi := by simp [D1]
theorem Ra {f : Fr} (h3 : f.kind ≠ 3) (hs : BA f = false) : D1 f = Nm := by simp [D1, h3, hs]
theorem Rb {f : Fr} (h3 : f.kind ≠ 3) (hs : BA f = true) : D1 f = Hh f ++ JT (Je (Hh f)) := by simp [D1, h3, hs]
theorem WS {f : Fr} (h3 : f.kind = 3) : D1 f = Hi := by simp [D1, h3]
theorem TM {f : Fl} {c : Ch} {i : Int} {x : Fr} (h : isNode f i = false) : BS f c i x = D1 x ∧ BT f c i x = D1 x := by simp [BS, BT, h]
theorem U6 {f : Fl} {c : Ch} {h p : Int} {x : Fr} (hh : Bt f h = false) : CI f c h p x = D1 x := by simp [CI, Cw, hh]
theorem U7 (f : Fl) (c : Ch) (h p : Int) (x : Fr) : CI f c h p x = D1 x ∨ CI f c h p x = ⟨([] : List UInt8).toArray⟩ ∨ CI f c h p x = ⟨([0] : List UInt8).toArray⟩ := by
 unfold CI
 split
 ·exact .inr (.inl rfl)
 ·split
  ·exact .inr (.inr rfl)
  ·exact .inl rfl
theorem V9 (f : Fl) (c : Ch) : Cf f c 0 = true ∨ Cf f c 1 = true := by
 simp only [Cf, Bt, Bool.or_eq_true, decide_eq_true_eq, Bool.not_eq_true', Bool.and_eq_false_iff, decide_eq_false_iff_not]
 omega
theorem Rc {f : Fl} (c : Ch) (h : f.cls ≠ 2) (i : Int) : Cf f c i = true := by simp [Cf, Bt, h]
theorem RJ (a b : ByteArray) : (a == b) = decide (a = b) := by
 rw [Bool.eq_iff_iff]
 obtain ⟨a⟩ := a
 obtain ⟨b⟩ := b
 simp only [decide_eq_true_eq, ByteArray.mk.injEq]
 constructor
 ·intro h
  have h : (a == b) = true := h
  simpa using h
 ·rintro rfl
  show (a == a) = true
  simp
end Day

