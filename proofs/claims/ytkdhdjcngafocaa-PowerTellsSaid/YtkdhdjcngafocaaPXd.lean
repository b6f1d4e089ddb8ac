import Derived.Test.YtkdhdjcngafocaaPXc
set_option linter.unusedVariables false
set_option linter.unusedSimpArgs false
namespace Day
structure Fr where
 kind : Int
 id : Int
 deriving DecidableEq
structure ND where
 id : Int
 mode : Int
 count : Int
 pos : Int
 deriving DecidableEq
structure HB where
 ages : List Int
 port : Int
 age : Int
 hold : Int
 pos : Int
 deriving DecidableEq
def HB.a (h : HB) (p : Nat) : Int := h.ages.getD p 0
def right (n : Int) : Bool := decide (3 ≤ n) && decide (n ≤ 8)
def times (k n : Int) : Int := if right n then k * n else 0
def Vy (n i : Int) : Int := if right n then (if i < 0 ∨ n ≤ i then 2 else 0) else 1
def T5 (k n i : Int) : Int := if Vy n i = 0 then k * n + i + 1 else 0
def C5 (c least most : Int) : Int := if c < least then least else if most < c then most else c
def Yt (c most : Int) : Int := if most ≤ max c 0 then most else max c 0 + 1
def To (c : Int) : Int := if c ≤ 0 then 0 else c - 1
def T6 (n : Int) : Bool := decide (1 ≤ n) && decide (n ≤ 8)
def Wy (n x : Int) : Int := x % n
def Pj (n p : Int) : Bool := T6 n && decide (0 ≤ p) && decide (p < n)
def Tp (n p : Int) : Int := (p + 1) % n
def Yu (n p age : Int) : Bool := T6 n && decide (0 ≤ p) && decide (p ≤ 8) && decide (0 ≤ age) && decide (age ≤ 1099511627776)
def atR (n p age : Int) : Int := (p + age) % n
def Qe (n a b : Int) : Bool := Pj n a && Pj n b
def Qf (n a b : Int) : Int := (b - a) % n
def Jk (n : Int) (x : ND) : Bool :=
 right n && decide (0 ≤ x.id) && decide (x.id < n) && decide (0 ≤ x.mode) && decide (x.mode ≤ 3) && decide (0 ≤ x.count) && decide (x.count ≤ 1073741824) &&
 (decide (x.mode ≠ 0) || decide (x.count = 0)) && (decide (x.mode = 3) || decide (x.pos = 0)) && decide (0 ≤ x.pos) && decide (x.pos < n)
def XJ (n i : Int) : Int := if right n then (if i < 0 ∨ n ≤ i then 2 else 0) else 1
def T7 : ND := ⟨0, 0, 0, 0⟩
def Qg (n i : Int) : ND := if XJ n i = 0 then ⟨i, 0, 0, 0⟩ else T7
def Qh (n i : Int) (x : ND) : ND :=
 if XJ n i = 0 then
  ⟨i, if 1 ≤ x.mode ∧ x.mode ≤ 3 then x.mode else 1, C5 x.count 0 1073741824, if x.mode = 3 then x.pos % n else 0⟩
 else T7
def Tq (x : ND) : ND := ⟨x.id, 1, 0, 0⟩
def Rj (n : Int) (x : ND) : Int := if x.mode = 1 then T5 4 n x.id else T5 2 n x.id
def Vz (n : Int) (x : ND) : Int :=
 if Jk n x then
  if x.mode = 3 then (x.id - x.pos) % n
  else if x.mode = 1 ∨ x.mode = 2 then max 0 (Rj n x - x.count)
  else -1
 else -1
def VA : Fr := ⟨0, 0⟩
def Yv (n : Int) (x : ND) : Int := if Jk n x then 0 else 1
def Yw (n : Int) (x : ND) : Fr :=
 if Jk n x && decide (Vz n x = 0) then (if x.mode = 3 then ⟨2, x.id⟩ else ⟨1, x.id⟩) else VA
end Day
namespace Day
def i64 (x : Int) : Bool := decide (-9223372036854775808 ≤ x) && decide (x ≤ 9223372036854775807)
def u8 (x : Int) : Bool := decide (0 ≤ x) && decide (x ≤ 255)
def u16 (x : Int) : Bool := decide (0 ≤ x) && decide (x ≤ 65535)
def u32 (x : Int) : Bool := decide (0 ≤ x) && decide (x ≤ 4294967295)
def sm (x : Int) : Bool := decide (-4611686018427387904 ≤ x) && decide (x ≤ 4611686018427387904)
def ND.i64 (x : ND) : Bool := Day.i64 x.id && Day.i64 x.mode && Day.i64 x.count && Day.i64 x.pos
end Day
namespace Day
end Day
namespace Day
end Day
namespace Day
def Yg (q : Nat → Bool) : Bool := q 0 && q 1 && q 2 && q 3 && q 4 && q 5 && q 6 && q 7
def HB.i64 (h : HB) : Bool := Yg (fun p => Day.i64 (h.a p)) && Day.i64 h.port && Day.i64 h.age && Day.i64 h.hold && Day.i64 h.pos
end Day
namespace Day
end Day
namespace Day
end Day
namespace Day
end Day
namespace Day
end Day
namespace Day
def bv (b : Bool) : Int := if b then 1 else 0
end Day
namespace Day
theorem VB (b : Bool) : 0 ≤ bv b ∧ bv b ≤ 1 := by cases b <;> simp [bv]
end Day
namespace Day
end Day
namespace Day
end Day
namespace Day
theorem bs {l o p p' : Int} {b : Bool} (B : 0 ≤ l ∧ l ≤ p) (R : o = l + bv b) (hp : p' = p + 1) : 0 ≤ o ∧ o ≤ p' := by
 have := VB b
 omega
end Day
namespace Day
end Day
namespace Day
end Day
namespace Day
open Rx
def Y3 (a : A) : List Int := a.Bq.map A.int
def W8 (l : List Int) : A := .l (l.map A.i)
def Wz : List A → List Fr
 | x :: y :: l => ⟨x.int, y.int⟩ :: Wz l
 | _ => []
def Y9 (a : A) : List Fr := Wz a.Bq
def Yh (l : List Fr) : A := .l (l.flatMap fun f => [.i f.kind, .i f.id])
theorem Tr : ∀ l : List Fr, Wz (l.flatMap fun f => [.i f.kind, .i f.id]) = l
 | [] => rfl
 | f :: l => by simp [Wz, Tr l]
@[simp] theorem YW (l : List Fr) : Y9 (Yh l) = l := Tr l
@[simp] theorem YX (l : List Int) : Y3 (W8 l) = l := by
 induction l with
 | nil => rfl
 | cons a l ih => simpa [Y3, W8] using ih
end Day
namespace Day
open Rx Go
structure Fl where
 cls : Int
 who : Int
 deriving DecidableEq
structure L1 where
 x : A
 n : Int
def L1.ok (l : L1) : Bool := decide ((l.x.Bq.length : Int) = l.n) && decide (l.n ≤ 1000)
def L1.k (l : L1) (i : Int) : Int := (l.x.Bq.getD i.toNat (.i 0)).int
def L1.ints (l : L1) : List Int := l.x.Bq.map A.int
def isNode (f : Fl) (i : Int) : Bool := decide (f.cls = 1) && decide (f.who = i)
def CQ (t : Int) : Bool := decide (0 ≤ t) && decide (t ≤ 2000)
def EZ (t : Int) : Bool := !CQ t
def Fk (l : L1) : Bool := l.ints.all CQ
def HH (n : Int) (l : L1) : Bool := right n && (decide (l.n = n) && Fk l)
def VC (l : List Int) : A := .l (l.map .i)
def Gv (n : Int) (l : L1) : List Int := (List.range n.toNat).map fun i => C5 (l.ints.getD i 0) 0 2000
def B1 (n : Int) (l : L1) : L1 := if right n then ⟨VC (Gv n l), n⟩ else ⟨.l [], 0⟩
def E0 (n : Int) : Int := if right n then 0 else 1
def Og (l : L1) (i t : Int) : Bool := decide (0 ≤ i) && (decide (i < l.n) && decide (l.k i ≤ t))
def C6 (l : L1) (i t : Int) : Int := if Og l i t then t - l.k i else -1
def Hd (f : Fl) : List A → Int → List A
 | [], _ => []
 | a :: r, i => (if isNode f i then [] else [a]) ++ Hd f r (i + 1)
def EB (l : L1) (f : Fl) : List Int := (Hd f l.x.Bq 0).map A.int
def GV (l : List Int) : List Int := l.mergeSort fun x y => decide (x ≤ y)
def Ts (l : L1) : A := VC (GV l.ints)
def JR (l : L1) (f : Fl) : Int := if (EB l f).length < 2 then -1 else (GV (EB l f)).getD 1 0
def JS (a b : L1) : Bool := decide (a.ints = b.ints)
end Day
namespace Day
open Rx Go
def L1.at (l : L1) (i : Int) : Bool := l.ok && (decide (0 ≤ i) && decide (i ≤ l.n))
def AQ (l : L1) (i : Int) : Bool := (l.ints.drop i.toNat).all CQ
def Qi : List Int → Int → Int
 | [], i => i
 | t :: r, i => if CQ t then Qi r (i + 1) else i
def FY (l : L1) (i : Int) : Int := Qi (l.ints.drop i.toNat) i
theorem L1.DO {l : L1} : l.ok = true ↔ (l.x.Bq.length : Int) = l.n ∧ l.n ≤ 1000 := by simp [L1.ok]
theorem L1.B3 {l : L1} {i : Int} : l.at i = true ↔ ((l.x.Bq.length : Int) = l.n ∧ l.n ≤ 1000) ∧ 0 ≤ i ∧ i ≤ l.n := by simp [L1.at, L1.ok]
theorem L1.EC (l : L1) : l.ints.length = l.x.Bq.length := by simp [L1.ints]
theorem L1.Rk {l : L1} {i : Int} (h0 : 0 ≤ i) (h1 : i < (l.x.Bq.length : Int)) : l.ints[i.toNat]'(by rw [L1.EC]; omega) = l.k i := by
 have hl : i.toNat < l.x.Bq.length := by omega
 simp [L1.ints, L1.k, List.getD, List.getElem?_eq_getElem hl]
theorem FZ {l : L1} {i : Int} (h : l.at i = true) (hlt : i < l.n) : l.ints.drop i.toNat = l.k i :: l.ints.drop (i + 1).toNat := by
 obtain ⟨⟨h1, h2⟩, h3, h4⟩ := L1.B3.1 h
 have hl : i.toNat < l.ints.length := by rw [L1.EC]; omega
 rw [List.drop_eq_getElem_cons hl, L1.Rk h3 (by omega), show (i + 1).toNat = i.toNat + 1 by omega]
theorem JT {l : L1} {i : Int} (h : l.at i = true) (hlt : ¬ i < l.n) : l.ints.drop i.toNat = [] := by
 obtain ⟨⟨h1, h2⟩, h3, h4⟩ := L1.B3.1 h
 exact List.drop_eq_nil_of_le (by rw [L1.EC]; omega)
theorem Gw {l : L1} {i j : Int} (h : l.at i = true) (hlt : i < l.n) (hj : j = IntKind.wrap .i64 (i + 1)) : j = i + 1 ∧ l.at j = true := by
 obtain ⟨⟨h1, h2⟩, h3, h4⟩ := L1.B3.1 h
 rw [wrap64 (by omega) (by omega)] at hj
 exact ⟨hj, L1.B3.2 ⟨⟨h1, h2⟩, by omega, by omega⟩⟩
theorem Np {l : L1} {i : Int} (h : l.at i = true) (hlt : i < l.n) : AQ l i = (CQ (l.k i) && AQ l (i + 1)) := by
 unfold AQ
 rw [FZ h hlt]
 rfl
theorem Qj {l : L1} {i : Int} (h : l.at i = true) (hlt : ¬ i < l.n) : AQ l i = true := by
 unfold AQ
 rw [JT h hlt]
 rfl
theorem Nq {l : L1} {i : Int} (h : l.at i = true) (hlt : i < l.n) : FY l i = if CQ (l.k i) then FY l (i + 1) else i := by
 unfold FY
 rw [FZ h hlt]
 rfl
theorem all_zero (l : L1) : AQ l 0 = Fk l := rfl
theorem Pk : ∀ (l : List Int) (i : Int), i ≤ Qi l i
 | [], i => Int.le_refl _
 | t :: r, i => by
  unfold Qi
  split
  ·exact Int.le_trans (by omega) (Pk r (i + 1))
  ·exact Int.le_refl _
def AU (l : L1) (i : Int) : Bool := !AQ l i
theorem Rl {v : Int} {a b c : Bool} (ha : a = decide (v < 0)) (hb : b = decide (v > 2000)) (hc : c = if a = true then true else b) : c = !CQ v := by
 subst ha hb hc
 unfold CQ
 by_cases h1 : v < 0
 ·have : ¬ 0 ≤ v := by omega
  simp [h1, this]
 ·have h2 : 0 ≤ v := by omega
  by_cases h3 : v > 2000
  ·have : ¬ v ≤ 2000 := by omega
   simp [h1, h2, h3, this]
  ·have : v ≤ 2000 := by omega
   simp [h1, h2, h3, this]
theorem Gx {l : L1} (h : l.ok = true) : l.at 0 = true := by
 obtain ⟨h1, h2⟩ := L1.DO.1 h
 exact L1.B3.2 ⟨⟨h1, h2⟩, by omega, by omega⟩
theorem Xz (l : L1) : 0 ≤ FY l 0 := Pk _ 0
theorem Yi {l : L1} {i : Int} (ha : Fk l = true) (h0 : 0 ≤ i) (hl : i < (l.x.Bq.length : Int)) : 0 ≤ l.k i ∧ l.k i ≤ 2000 := by
 have := List.all_eq_true.1 ha (l.k i) (by rw [← L1.Rk h0 hl]; exact List.getElem_mem _)
 simpa [CQ] using this
theorem Rm {l : L1} {i t : Int} (hk : l.ok = true) (ha : Fk l = true) (ht : i64 t = true) (hon : Og l i t = true) : IntKind.wrap .i64 (t - l.k i) = t - l.k i := by
 obtain ⟨h1, h2⟩ := L1.DO.1 hk
 simp only [Og, Bool.and_eq_true, decide_eq_true_eq] at hon
 have := Yi ha hon.1 (by omega)
 simp only [i64, Bool.and_eq_true, decide_eq_true_eq] at ht
 exact wrap64 (by omega) (by omega)
theorem Pl {l : L1} {i t : Int} (hon : Og l i t = true) : 0 ≤ i ∧ i < l.n ∧ l.k i ≤ t := by
 simpa [Og] using hon
def BG (a b : L1) (i : Int) : Bool := decide (a.ints.drop i.toNat = b.ints.drop i.toNat)
def DH (a b : L1) (i : Int) : Bool := !BG a b i
def XA (a b : Int) : Bool := decide (a = b)
theorem T8 {a b : L1} {i : Int} (ha : a.at i = true) (hb : b.at i = true) (h1 : i < a.n) (h2 : i < b.n) : BG a b i = (decide (a.k i = b.k i) && BG a b (i + 1)) := by
 unfold BG
 rw [FZ ha h1, FZ hb h2]
 simp
theorem VD {a b : L1} {i : Int} (ha : a.at i = true) (hb : b.at i = true) (h1 : ¬ i < a.n) (h2 : ¬ i < b.n) : BG a b i = true := by
 unfold BG
 rw [JT ha h1, JT hb h2]
 simp
theorem T9 (a b : L1) : BG a b 0 = JS a b := rfl
theorem VE {a b : L1} (ha : a.ok = true) (hb : b.ok = true) (h : a.n ≠ b.n) : JS a b = false := by
 obtain ⟨h1, _⟩ := L1.DO.1 ha
 obtain ⟨h2, _⟩ := L1.DO.1 hb
 unfold JS
 refine decide_eq_false fun h0 => h ?_
 have := congrArg List.length h0
 rw [L1.EC, L1.EC] at this
 omega
def C7 (v : Int) : A := .i (C5 v 0 2000)
def C8 (x : A) : Nat → Nat → A
 | 0, _ => x
 | k + 1, i => C8 (.l (x.Bq.set i (C7 (x.Bq.getD i (.i 0)).int))) k (i + 1)
def JU (l : L1) (x : A) : Nat → Nat → A
 | 0, _ => x
 | k + 1, i => JU l (.l (x.Bq.set i (C7 (l.k i)))) k (i + 1)
def Fm (a b : Int) : Int := if b < a then b else a
def CR (i n : Int) : Bool := decide (0 ≤ i) && (decide (i ≤ n) && decide (n ≤ 1000))
def He (x : A) (n : Int) : Bool := decide ((x.Bq.length : Int) = n)
theorem Qk {α : Type} (a y : α) (r : List α) : ∀ pre : List α, (pre ++ a :: r).set pre.length y = pre ++ y :: r
 | [] => rfl
 | b :: pre => by
  show b :: (pre ++ a :: r).set pre.length y = _
  rw [Qk a y r pre]
  rfl
theorem Tt {α : Type} (a d : α) (r : List α) : ∀ pre : List α, (pre ++ a :: r).getD pre.length d = a
 | [] => rfl
 | b :: pre => Tt a d r pre
theorem Pm : ∀ (rest pre : List A), C8 (.l (pre ++ rest)) rest.length pre.length = .l (pre ++ rest.map fun a => C7 a.int)
 | [], pre => by simp [C8]
 | a :: r, pre => by
  have := Pm r (pre ++ [C7 a.int])
  simp only [List.length_append, List.length_cons, List.length_nil, Nat.zero_add, List.append_assoc, List.cons_append, List.nil_append] at this
  show C8 _ (r.length + 1) pre.length = _
  unfold C8
  simp only [A.Bq]
  rw [Qk, Tt, this]
  rfl
theorem Tu (l : L1) : ∀ (k : Nat) (pre rest : List A), k ≤ rest.length → JU l (.l (pre ++ rest)) k pre.length = .l (pre ++ ((List.range k).map fun j => C7 (l.k ((pre.length + j : Nat) : Int))) ++ rest.drop k)
 | 0, pre, rest, _ => by simp [JU]
 | k + 1, pre, [], h => by simp at h
 | k + 1, pre, a :: r, h => by
  have := Tu l k (pre ++ [C7 (l.k pre.length)]) r (by simpa using h)
  simp only [List.length_append, List.length_cons, List.length_nil, Nat.zero_add, List.append_assoc, List.cons_append, List.nil_append] at this
  unfold JU
  simp only [A.Bq]
  rw [Qk, this]
  simp only [List.drop_succ_cons, List.range_succ_eq_map, List.map_cons, List.map_map, Nat.add_zero, List.append_assoc, List.cons_append]
  congr 4
  refine List.map_congr_left fun j _ => ?_
  show C7 (l.k ((pre.length + 1 + j : Nat) : Int)) = C7 (l.k ((pre.length + (j + 1) : Nat) : Int))
  rw [show pre.length + 1 + j = pre.length + (j + 1) by omega]
theorem Rn {x y : A} {i n : Int} (h : CR i n = true) (hl : He x n = true) (hlt : i < n) (hy : y = .l (x.Bq.set i.toNat (C7 (x.Bq.getD i.toNat (.i 0)).int))) :
  C8 y (n - (i + 1)).toNat (i + 1).toNat = C8 x (n - i).toNat i.toNat ∧ CR (i + 1) n = true ∧ He y n = true ∧ (n - (i + 1)).toNat < (n - i).toNat ∧ IntKind.wrap .i64 (i + 1) = i + 1 := by
 simp only [CR, He, Bool.and_eq_true, decide_eq_true_eq] at h hl ⊢
 refine ⟨?_, by omega, ?_, by omega, wrap64 (by omega) (by omega)⟩
 ·rw [show (n - i).toNat = (n - (i + 1)).toNat + 1 by omega, show (i + 1).toNat = i.toNat + 1 by omega, hy]
  rfl
 ·rw [hy]
  simpa using hl
theorem Sl {x : A} {i n : Int} (hlt : ¬ i < n) : C8 x (n - i).toNat i.toNat = x := by
 rw [show (n - i).toNat = 0 by omega]
 rfl
theorem Ua {l : L1} {x y : A} {i n : Int} (h : CR i n = true) (hl : He x n = true) (hlt : i < n ∧ i < l.n) (hy : y = .l (x.Bq.set i.toNat (C7 (l.k i)))) :
  JU l y (Fm n l.n - (i + 1)).toNat (i + 1).toNat = JU l x (Fm n l.n - i).toNat i.toNat ∧ CR (i + 1) n = true ∧ He y n = true ∧ (Fm n l.n - (i + 1)).toNat < (Fm n l.n - i).toNat ∧ IntKind.wrap .i64 (i + 1) = i + 1 := by
 simp only [CR, He, Bool.and_eq_true, decide_eq_true_eq] at h hl ⊢
 have hm : i < Fm n l.n := by unfold Fm; split <;> omega
 refine ⟨?_, by omega, ?_, by omega, wrap64 (by omega) (by omega)⟩
 ·rw [show (Fm n l.n - i).toNat = (Fm n l.n - (i + 1)).toNat + 1 by omega, show (i + 1).toNat = i.toNat + 1 by omega, hy]
  show _ = JU l (.l (x.Bq.set i.toNat (C7 (l.k (i.toNat : Nat))))) _ _
  rw [show ((i.toNat : Nat) : Int) = i by omega]
 ·rw [hy]
  simpa using hl
theorem VF {l : L1} {x : A} {i n : Int} (hlt : ¬ (i < n ∧ i < l.n)) : JU l x (Fm n l.n - i).toNat i.toNat = x := by
 rw [show (Fm n l.n - i).toNat = 0 by unfold Fm; split <;> omega]
 rfl
theorem WA {n : Int} {l : L1} {z c : A} (hn : 3 ≤ n ∧ n ≤ 8) (hl : l.ok = true) (hz : z = .l (List.replicate n.toNat [A.i 0]).flatten) (hc : c = .l (l.x.Bq.take (Fm n l.n).toNat ++ z.Bq.drop (Fm n l.n).toNat)) :
  He c n = true ∧ C8 c n.toNat 0 = VC (Gv n l) := by
 obtain ⟨h1, h2⟩ := L1.DO.1 hl
 have hz' : z.Bq = List.replicate n.toNat (.i 0) := by
  rw [hz]
  simp only [A.Bq]
  apply List.ext_getElem?
  intro j
  simp [List.flatten_replicate_singleton]
 have hm : (Fm n l.n).toNat ≤ l.x.Bq.length ∧ (Fm n l.n).toNat ≤ n.toNat := by unfold Fm; split <;> omega
 have hlen : (l.x.Bq.take (Fm n l.n).toNat ++ z.Bq.drop (Fm n l.n).toNat).length = n.toNat := by
  simp only [List.length_append, List.length_take, List.length_drop, hz', List.length_replicate]
  omega
 refine ⟨?_, ?_⟩
 ·rw [hc]
  show decide ((((l.x.Bq.take (Fm n l.n).toNat ++ z.Bq.drop (Fm n l.n).toNat).length : Nat) : Int) = n) = true
  rw [hlen]
  exact decide_eq_true (by omega)
 ·have := Pm (l.x.Bq.take (Fm n l.n).toNat ++ z.Bq.drop (Fm n l.n).toNat) []
  rw [hlen] at this
  simp only [List.nil_append, List.length_nil] at this
  rw [hc, this]
  unfold VC Gv
  congr 1
  apply List.ext_getElem?
  intro j
  rw [List.getElem?_map, List.getElem?_map, List.getElem?_map]
  by_cases hj : j < n.toNat
  ·rw [List.getElem?_range hj]
   by_cases hjm : j < (Fm n l.n).toNat
   ·rw [List.getElem?_append_left (by rw [List.length_take]; omega), List.getElem?_take_of_lt hjm]
    have hjl : j < l.x.Bq.length := by omega
    simp [C7, L1.ints, List.getD, List.getElem?_eq_getElem hjl]
   ·have hml : (Fm n l.n).toNat = l.x.Bq.length := by unfold Fm at hjm ⊢; split at hjm <;> split <;> omega
    rw [List.getElem?_append_right (by rw [List.length_take]; omega), List.length_take, hz', List.getElem?_drop, List.getElem?_replicate, if_pos (by omega)]
    have : l.ints[j]?.getD 0 = 0 := by
     rw [List.getElem?_eq_none (by rw [L1.EC]; omega)]
     rfl
    simp [C7, this, A.int]
  ·rw [List.getElem?_eq_none (by rw [hlen]; omega), List.getElem?_eq_none (by simp; omega)]
   rfl
theorem WB {n : Int} {l : L1} {z : A} (hn : 3 ≤ n ∧ n ≤ 8) (hl : l.ok = true) (hz : z = .l (List.replicate n.toNat [A.i 0]).flatten) :
  He z n = true ∧ JU l z (Fm n l.n).toNat 0 = VC (Gv n l) := by
 obtain ⟨h1, h2⟩ := L1.DO.1 hl
 have hz' : z = .l (List.replicate n.toNat (.i 0)) := by
  rw [hz]
  congr 1
  apply List.ext_getElem?
  intro j
  simp [List.flatten_replicate_singleton]
 have hm : (Fm n l.n).toNat ≤ l.x.Bq.length ∧ (Fm n l.n).toNat ≤ n.toNat := by unfold Fm; split <;> omega
 refine ⟨?_, ?_⟩
 ·rw [hz']
  show decide ((((List.replicate n.toNat (A.i 0)).length : Nat) : Int) = n) = true
  rw [List.length_replicate]
  exact decide_eq_true (by omega)
 ·have := Tu l (Fm n l.n).toNat [] (List.replicate n.toNat (.i 0)) (by simp; omega)
  simp only [List.nil_append, List.length_nil] at this
  rw [hz', this]
  unfold VC Gv
  congr 1
  apply List.ext_getElem?
  intro j
  rw [List.getElem?_map, List.getElem?_map]
  by_cases hj : j < n.toNat
  ·rw [List.getElem?_range hj]
   by_cases hjm : j < (Fm n l.n).toNat
   ·rw [List.getElem?_append_left (by simp; omega), List.getElem?_map, List.getElem?_range hjm]
    have hjl : j < l.x.Bq.length := by omega
    simp [C7, L1.ints, L1.k, List.getD, List.getElem?_eq_getElem hjl]
   ·have hml : (Fm n l.n).toNat = l.x.Bq.length := by unfold Fm at hjm ⊢; split at hjm <;> split <;> omega
    rw [List.getElem?_append_right (by simp; omega), List.length_map, List.length_range, List.getElem?_drop, List.getElem?_replicate, if_pos (by omega)]
    have : l.ints[j]?.getD 0 = 0 := by
     rw [List.getElem?_eq_none (by rw [L1.EC]; omega)]
     rfl
    have hc0 : C5 0 0 2000 = 0 := by decide
    simp [this, hc0]
  ·rw [List.getElem?_eq_none (by simp; omega), List.getElem?_eq_none (by simp; omega)]
   rfl
def JV (l : L1) (f : Fl) (i : Int) (o : L1) : A := .l (o.x.Bq ++ Hd f (l.x.Bq.drop i.toNat) i)
def JW (l : L1) (f : Fl) (i : Int) (o : L1) : Int := ((o.x.Bq ++ Hd f (l.x.Bq.drop i.toNat) i).length : Int)
def Y4 : A → Bool | .l _ => true | _ => false
def E1 (o : L1) (i : Int) : Bool := decide ((o.x.Bq.length : Int) = o.n) && (decide (o.n ≤ i) && Y4 o.x)
theorem Ro {l : L1} {i : Int} (h : l.at i = true) (hlt : i < l.n) : l.x.Bq.drop i.toNat = l.x.Bq.getD i.toNat (.i 0) :: l.x.Bq.drop (i + 1).toNat := by
 obtain ⟨⟨h1, h2⟩, h3, h4⟩ := L1.B3.1 h
 have hl : i.toNat < l.x.Bq.length := by omega
 rw [List.drop_eq_getElem_cons hl, show (i + 1).toNat = i.toNat + 1 by omega]
 simp [List.getD, List.getElem?_eq_getElem hl]
theorem XB {x : A} (h : Y4 x = true) : x = .l x.Bq := by
 match x, h with
 | .l as, _ => rfl
theorem VG {l o : L1} {f : Fl} {i : Int} (h : l.at i = true) (hlt : i < l.n) (hn : isNode f i = true) (ho : E1 o i = true) :
  JV l f (i + 1) o = JV l f i o ∧ JW l f (i + 1) o = JW l f i o ∧ E1 o (i + 1) = true := by
 unfold JV JW
 rw [Ro h hlt]
 refine ⟨by simp [Hd, hn], by simp [Hd, hn], ?_⟩
 simp only [E1, Bool.and_eq_true, decide_eq_true_eq] at ho ⊢
 exact ⟨ho.1, by omega, ho.2.2⟩
theorem VH {l o p : L1} {f : Fl} {i : Int} (h : l.at i = true) (hlt : i < l.n) (hn : isNode f i = false) (ho : E1 o i = true) (hx : p.x = .l (o.x.Bq ++ [l.x.Bq.getD i.toNat (.i 0)])) (hp : p.n = ((p.x.Bq.length : Nat) : Int)) :
  JV l f (i + 1) p = JV l f i o ∧ JW l f (i + 1) p = JW l f i o ∧ E1 p (i + 1) = true := by
 obtain ⟨⟨h1, h2⟩, h3, h4⟩ := L1.B3.1 h
 have he : p.x.Bq = o.x.Bq ++ [l.x.Bq.getD i.toNat (.i 0)] := by rw [hx]; rfl
 unfold JV JW
 rw [Ro h hlt, he]
 refine ⟨by simp [Hd, hn], by simp [Hd, hn], ?_⟩
 simp only [E1, Bool.and_eq_true, decide_eq_true_eq] at ho ⊢
 have : p.x.Bq.length = o.x.Bq.length + 1 := by rw [he]; simp
 exact ⟨hp.symm, by omega, by rw [hx]; rfl⟩
theorem WC {l o : L1} {f : Fl} {i : Int} (h : l.at i = true) (hlt : ¬ i < l.n) (ho : E1 o i = true) : JV l f i o = o.x ∧ JW l f i o = o.n := by
 obtain ⟨⟨h1, h2⟩, h3, h4⟩ := L1.B3.1 h
 simp only [E1, Bool.and_eq_true, decide_eq_true_eq] at ho
 unfold JV JW
 rw [List.drop_eq_nil_of_le (by omega)]
 simp only [Hd, List.append_nil]
 exact ⟨(XB ho.2.2).symm, ho.1⟩
theorem Rp (f : Fl) : ∀ (l : List A) (i : Int), (Hd f l i).length ≤ l.length
 | [], _ => Nat.le_refl _
 | a :: r, i => by
  have := Rp f r (i + 1)
  unfold Hd
  split <;> simp <;> omega
theorem VI {l : L1} {f : Fl} {n : Int} {x : A} (hl : l.ok = true) (hn : n = JW l f 0 ⟨.l [], 0⟩) (hx : x = JV l f 0 ⟨.l [], 0⟩) :
  L1.ok ⟨x, n⟩ = true ∧ n = ((EB l f).length : Int) ∧ ((Ts ⟨x, n⟩).Bq.getD 1 (.i 0)).int = (GV (EB l f)).getD 1 0 := by
 obtain ⟨h1, h2⟩ := L1.DO.1 hl
 have hx' : x = .l (Hd f l.x.Bq 0) := by rw [hx]; rfl
 have hn' : n = ((Hd f l.x.Bq 0).length : Int) := by rw [hn]; rfl
 have hlen := Rp f l.x.Bq 0
 refine ⟨L1.DO.2 ⟨by rw [hx', hn']; rfl, by show n ≤ 1000; omega⟩, by rw [hn']; simp [EB], ?_⟩
 have hi : (L1.mk x n).ints = EB l f := by rw [hx']; rfl
 unfold Ts
 rw [hi]
 simp only [VC, A.Bq, List.getD, List.getElem?_map]
 cases (GV (EB l f))[1]? <;> rfl
def WD (f : Fl) (t : Int) : List Int → Int → Int
 | [], _ => 0
 | v :: r, i => (if decide (v ≤ t) && !isNode f i then 1 else 0) + WD f t r (i + 1)
def F0 (l : L1) (f : Fl) (t i : Int) : Int := WD f t (l.ints.drop i.toNat) i
def no (_ : Int) : Bool := false
def V8 (k i : Int) : Bool := decide (0 ≤ k) && decide (k ≤ i)
theorem VJ {l : L1} {f : Fl} {t i : Int} (h : l.at i = true) (hlt : i < l.n) : F0 l f t i = (if decide (l.k i ≤ t) && !isNode f i then 1 else 0) + F0 l f t (i + 1) := by
 unfold F0
 rw [FZ h hlt]
 rfl
theorem WE {l : L1} {f : Fl} {t i : Int} (h : l.at i = true) (hlt : ¬ i < l.n) : F0 l f t i = 0 := by
 unfold F0
 rw [JT h hlt]
 rfl
theorem Yj {l : L1} {t i : Int} (h : l.at i = true) (hlt : i < l.n) : Og l i t = decide (l.k i ≤ t) := by
 have := L1.B3.1 h
 simp [Og, this.2.1, hlt]
def LB (l : L1) (f : Fl) (t : Int) : Bool := decide (2 ≤ F0 l f t 0)
def Ub (l : L1) (f : Fl) : Nat → Int → Bool
 | 0, _ => false
 | k + 1, t => LB l f t || Ub l f k (t + 1)
def WG (l : L1) (f : Fl) : Nat → Int → Int
 | 0, t => t
 | k + 1, t => if LB l f t then t else WG l f k (t + 1)
def HI (l : L1) (f : Fl) (t : Int) : Bool := Ub l f (2001 - t).toNat t
def W9 (l : L1) (f : Fl) (t : Int) : Bool := !HI l f t
def Oh (l : L1) (f : Fl) (t : Int) : Int := WG l f (2001 - t).toNat t
def Xa (t : Int) : Bool := decide (0 ≤ t) && decide (t ≤ 2001)
theorem VK {l : L1} {f : Fl} {t : Int} (h : t ≤ 2000) : HI l f t = (LB l f t || HI l f (t + 1)) ∧ Oh l f t = if LB l f t then t else Oh l f (t + 1) := by
 unfold HI Oh
 rw [show (2001 - t).toNat = (2001 - (t + 1)).toNat + 1 by omega]
 exact ⟨rfl, rfl⟩
theorem WH {l : L1} {f : Fl} {t : Int} (h : ¬ t ≤ 2000) : HI l f t = false := by
 unfold HI
 rw [show (2001 - t).toNat = 0 by omega]
 rfl
theorem Tv (f : Fl) (t : Int) : ∀ (l : List A) (i : Int), WD f t (l.map A.int) i = ((((Hd f l i).map A.int).countP fun v => decide (v ≤ t) : Nat) : Int)
 | [], i => rfl
 | a :: r, i => by
  have ih := Tv f t r (i + 1)
  simp only [List.map_cons, WD, ih, Hd]
  cases isNode f i
  ·by_cases h : a.int ≤ t
   ·simp [h]
    omega
   ·simp [h]
  ·simp
theorem Tw (l : L1) (f : Fl) (t : Int) : F0 l f t 0 = (((EB l f).countP fun v => decide (v ≤ t) : Nat) : Int) := Tv f t l.x.Bq 0
theorem KR (l : List Int) : (GV l).Perm l := List.mergeSort_perm ..
theorem Uc (l : List Int) : (GV l).Pairwise fun x y => x ≤ y := by
 have := List.pairwise_mergeSort (le := fun x y : Int => decide (x ≤ y)) (by intro a b c h1 h2; simp at *; omega) (by intro a b; simp; omega) l
 exact this.imp fun h => by simpa using h
theorem WI {l : L1} {f : Fl} {a b : Int} {r : List Int} (hs : GV (EB l f) = a :: b :: r) (t : Int) : LB l f t = decide (b ≤ t) := by
 have hp := Uc (EB l f)
 rw [hs] at hp
 have hc : (EB l f).countP (fun v => decide (v ≤ t)) = (a :: b :: r).countP (fun v => decide (v ≤ t)) := by
  rw [← hs]
  exact ((KR (EB l f)).countP_eq _).symm
 unfold LB
 rw [Tw, hc]
 obtain ⟨h1, h2⟩ := List.pairwise_cons.1 hp
 obtain ⟨h3, _⟩ := List.pairwise_cons.1 h2
 have hab := h1 b (by simp)
 by_cases h : b ≤ t
 ·have ha : a ≤ t := by omega
  simp [h, ha]
  omega
 ·have hr : r.countP (fun v => decide (v ≤ t)) = 0 := by
   rw [List.countP_eq_zero]
   intro x hx
   have := h3 x hx
   simp
   omega
  simp only [List.countP_cons, hr, h, decide_false]
  by_cases ha : a ≤ t <;> simp [ha]
theorem VL {l : L1} {f : Fl} {b : Int} (hb : ∀ t, LB l f t = decide (b ≤ t)) : ∀ (k : Nat) (t : Int), t ≤ b → b < t + k → Ub l f k t = true ∧ WG l f k t = b
 | 0, t, h1, h2 => by omega
 | k + 1, t, h1, h2 => by
  unfold Ub WG
  rw [hb t]
  by_cases h : b ≤ t
  ·have : t = b := by omega
   simp [h, this]
  ·obtain ⟨i1, i2⟩ := VL hb k (t + 1) (by omega) (by omega)
   simp [h, i1, i2]
theorem Rq {l : L1} {f : Fl} (hb : ∀ t, LB l f t = false) : ∀ (k : Nat) (t : Int), Ub l f k t = false
 | 0, _ => rfl
 | k + 1, t => by
  unfold Ub
  rw [hb t, Rq hb k (t + 1)]
  rfl
theorem Rr (f : Fl) : ∀ (l : List A) (i : Int) (a : A), a ∈ Hd f l i → a ∈ l
 | [], _, a, h => by simp [Hd] at h
 | b :: r, i, a, h => by
  unfold Hd at h
  rw [List.mem_append] at h
  rcases h with h | h
  ·split at h
   ·simp at h
   ·simp at h
    simp [h]
  ·exact List.mem_cons_of_mem _ (Rr f r _ a h)
theorem WJ {l : L1} (f : Fl) (ha : Fk l = true) : (HI l f 0 = true → JR l f = Oh l f 0) ∧ (HI l f 0 = false → JR l f = -1) := by
 by_cases hlen : (EB l f).length < 2
 ·have hb : ∀ t, LB l f t = false := fun t => by
   unfold LB
   rw [Tw]
   have := List.countP_le_length (p := fun v => decide (v ≤ t)) (l := EB l f)
   exact decide_eq_false (by omega)
  have := Rq hb (2001 - (0 : Int)).toNat 0
  refine ⟨fun h => ?_, fun _ => by rw [JR, if_pos hlen]⟩
  unfold HI at h
  rw [this] at h
  cases h
 ·have hl : (GV (EB l f)).length = (EB l f).length := (KR _).length_eq
  match hs : GV (EB l f) with
  | [] => rw [hs] at hl; simp at hl; omega
  | [a] => rw [hs] at hl; simp at hl; omega
  | a :: b :: r =>
   have hb := WI hs
   have hmem : b ∈ EB l f := (KR (EB l f)).mem_iff.1 (by rw [hs]; simp)
   have hr : 0 ≤ b ∧ b ≤ 2000 := by
    obtain ⟨x, hx, rfl⟩ := List.mem_map.1 hmem
    have := List.all_eq_true.1 ha x.int (List.mem_map.2 ⟨x, Rr f _ _ _ hx, rfl⟩)
    simpa [CQ] using this
   obtain ⟨i1, i2⟩ := VL hb (2001 - (0 : Int)).toNat 0 hr.1 (by omega)
   have ht : JR l f = b := by
    rw [JR, if_neg hlen, hs]
    rfl
   refine ⟨fun _ => by rw [ht]; exact i2.symm, fun h => ?_⟩
   unfold HI at h
   rw [i1] at h
   cases h
def L1.len (l : L1) : Bool := decide ((l.x.Bq.length : Int) = l.n)
theorem Yk {l : L1} (h : l.len = true) (hn : ¬ l.n > 20) : l.ok = true := L1.DO.2 ⟨by simpa [L1.len] using h, by omega⟩
theorem XC : JR ⟨.l [.i 5, .i 0, .i 9], 3⟩ ⟨0, 0⟩ = 5 := by
 have h : GV [5, 0, 9] = [0, 5, 9] := by simp [GV, List.mergeSort, List.MergeSort.Internal.splitInTwo]
 have ho : EB ⟨.l [.i 5, .i 0, .i 9], 3⟩ ⟨0, 0⟩ = [5, 0, 9] := by decide
 rw [JR, ho, h]
 rfl
theorem VM (n : Int) (l : L1) : (B1 n l).ok = true := by
 unfold B1
 split
 ·rename_i h
  have hn : 3 ≤ n ∧ n ≤ 8 := by simpa [right] using h
  refine L1.DO.2 ⟨?_, by show n ≤ 1000; omega⟩
  show (((VC (Gv n l)).Bq.length : Nat) : Int) = n
  simp [VC, A.Bq, Gv]
  omega
 ·rfl
theorem Ud (l : L1) : JS l l = true := by simp [JS]
end Day

