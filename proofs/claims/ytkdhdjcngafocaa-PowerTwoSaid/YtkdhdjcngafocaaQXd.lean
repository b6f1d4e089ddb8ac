import Derived.Test.YtkdhdjcngafocaaQXc
set_option linter.unusedVariables false
set_option linter.unusedSimpArgs false
namespace Day
structure Fr where
 kind : Int
 id : Int
 deriving DecidableEq
structure ND where
 id : Int
 mode : Int
 count : Int
 pos : Int
 deriving DecidableEq
structure HB where
 ages : List Int
 port : Int
 age : Int
 hold : Int
 pos : Int
 deriving DecidableEq
def HB.a (h : HB) (p : Nat) : Int := h.ages.getD p 0
def right (n : Int) : Bool := decide (3 ≤ n) && decide (n ≤ 8)
def times (k n : Int) : Int := if right n then k * n else 0
def UH (n i : Int) : Int := if right n then (if i < 0 ∨ n ≤ i then 2 else 0) else 1
def TQ (k n i : Int) : Int := if UH n i = 0 then k * n + i + 1 else 0
def GH (c least most : Int) : Int := if c < least then least else if most < c then most else c
def VZ (c most : Int) : Int := if most ≤ max c 0 then most else max c 0 + 1
def Ue (c : Int) : Int := if c ≤ 0 then 0 else c - 1
def TR (n : Int) : Bool := decide (1 ≤ n) && decide (n ≤ 8)
def Vk (n x : Int) : Int := x % n
def Q3 (n p : Int) : Bool := TR n && decide (0 ≤ p) && decide (p < n)
def Uf (n p : Int) : Int := (p + 1) % n
def V0 (n p age : Int) : Bool := TR n && decide (0 ≤ p) && decide (p ≤ 8) && decide (0 ≤ age) && decide (age ≤ 1099511627776)
def atR (n p age : Int) : Int := (p + age) % n
def S6 (n a b : Int) : Bool := Q3 n a && Q3 n b
def S7 (n a b : Int) : Int := (b - a) % n
def LA (n : Int) (x : ND) : Bool :=
 right n && decide (0 ≤ x.id) && decide (x.id < n) && decide (0 ≤ x.mode) && decide (x.mode ≤ 3) && decide (0 ≤ x.count) && decide (x.count ≤ 1073741824) &&
 (decide (x.mode ≠ 0) || decide (x.count = 0)) && (decide (x.mode = 3) || decide (x.pos = 0)) && decide (0 ≤ x.pos) && decide (x.pos < n)
def Vv (n i : Int) : Int := if right n then (if i < 0 ∨ n ≤ i then 2 else 0) else 1
def TS : ND := ⟨0, 0, 0, 0⟩
def S8 (n i : Int) : ND := if Vv n i = 0 then ⟨i, 0, 0, 0⟩ else TS
def S9 (n i : Int) (x : ND) : ND :=
 if Vv n i = 0 then
  ⟨i, if 1 ≤ x.mode ∧ x.mode ≤ 3 then x.mode else 1, GH x.count 0 1073741824, if x.mode = 3 then x.pos % n else 0⟩
 else TS
def Ug (x : ND) : ND := ⟨x.id, 1, 0, 0⟩
def Ta (n : Int) (x : ND) : Int := if x.mode = 1 then TQ 4 n x.id else TQ 2 n x.id
def UI (n : Int) (x : ND) : Int :=
 if LA n x then
  if x.mode = 3 then (x.id - x.pos) % n
  else if x.mode = 1 ∨ x.mode = 2 then max 0 (Ta n x - x.count)
  else -1
 else -1
def UJ : Fr := ⟨0, 0⟩
def V1 (n : Int) (x : ND) : Int := if LA n x then 0 else 1
def V2 (n : Int) (x : ND) : Fr :=
 if LA n x && decide (UI n x = 0) then (if x.mode = 3 then ⟨2, x.id⟩ else ⟨1, x.id⟩) else UJ
end Day
namespace Day
def i64 (x : Int) : Bool := decide (-9223372036854775808 ≤ x) && decide (x ≤ 9223372036854775807)
def u8 (x : Int) : Bool := decide (0 ≤ x) && decide (x ≤ 255)
def u16 (x : Int) : Bool := decide (0 ≤ x) && decide (x ≤ 65535)
def u32 (x : Int) : Bool := decide (0 ≤ x) && decide (x ≤ 4294967295)
def sm (x : Int) : Bool := decide (-4611686018427387904 ≤ x) && decide (x ≤ 4611686018427387904)
def ND.i64 (x : ND) : Bool := Day.i64 x.id && Day.i64 x.mode && Day.i64 x.count && Day.i64 x.pos
end Day
namespace Day
end Day
namespace Day
end Day
namespace Day
def UK (q : Nat → Bool) : Bool := q 0 && q 1 && q 2 && q 3 && q 4 && q 5 && q 6 && q 7
def HB.i64 (h : HB) : Bool := UK (fun p => Day.i64 (h.a p)) && Day.i64 h.port && Day.i64 h.age && Day.i64 h.hold && Day.i64 h.pos
end Day
namespace Day
end Day
namespace Day
end Day
namespace Day
end Day
namespace Day
end Day
namespace Day
def bv (b : Bool) : Int := if b then 1 else 0
end Day
namespace Day
theorem Tb (b : Bool) : 0 ≤ bv b ∧ bv b ≤ 1 := by cases b <;> simp [bv]
end Day
namespace Day
end Day
namespace Day
end Day
namespace Day
theorem bs {l o p p' : Int} {b : Bool} (B : 0 ≤ l ∧ l ≤ p) (R : o = l + bv b) (hp : p' = p + 1) : 0 ≤ o ∧ o ≤ p' := by
 have := Tb b
 omega
end Day
namespace Day
end Day
namespace Day
end Day
namespace Day
open Rx
def V3 (a : A) : List Int := a.AW.map A.int
def Uh (l : List Int) : A := .l (l.map A.i)
def TT : List A → List Fr
 | x :: y :: l => ⟨x.int, y.int⟩ :: TT l
 | _ => []
def Wc (a : A) : List Fr := TT a.AW
def Vl (l : List Fr) : A := .l (l.flatMap fun f => [.i f.kind, .i f.id])
theorem Q4 : ∀ l : List Fr, TT (l.flatMap fun f => [.i f.kind, .i f.id]) = l
 | [] => rfl
 | f :: l => by simp [TT, Q4 l]
@[simp] theorem VU (l : List Fr) : Wc (Vl l) = l := Q4 l
@[simp] theorem VV (l : List Int) : V3 (Uh l) = l := by
 induction l with
 | nil => rfl
 | cons a l ih => simpa [V3, Uh] using ih
end Day
namespace Day
open Rx Go
structure Fl where
 cls : Int
 who : Int
 deriving DecidableEq
structure L1 where
 x : A
 n : Int
def L1.ok (l : L1) : Bool := decide ((l.x.AW.length : Int) = l.n) && decide (l.n ≤ 1000)
def L1.k (l : L1) (i : Int) : Int := (l.x.AW.getD i.toNat (.i 0)).int
def L1.ints (l : L1) : List Int := l.x.AW.map A.int
def isNode (f : Fl) (i : Int) : Bool := decide (f.cls = 1) && decide (f.who = i)
def LB (t : Int) : Bool := decide (0 ≤ t) && decide (t ≤ 2000)
def TU (t : Int) : Bool := !LB t
def N8 (l : L1) : Bool := l.ints.all LB
def UU (l : List Int) : A := .l (l.map .i)
def N9 (n : Int) (l : L1) : List Int := (List.range n.toNat).map fun i => GH (l.ints.getD i 0) 0 2000
def Ih (n : Int) (l : L1) : L1 := if right n then ⟨UU (N9 n l), n⟩ else ⟨.l [], 0⟩
def Ky (n : Int) : Int := if right n then 0 else 1
def Nb (l : L1) (i t : Int) : Bool := decide (0 ≤ i) && (decide (i < l.n) && decide (l.k i ≤ t))
def BD (l : L1) (i t : Int) : Int := if Nb l i t then t - l.k i else -1
def Fj (f : Fl) : List A → Int → List A
 | [], _ => []
 | a :: r, i => (if isNode f i then [] else [a]) ++ Fj f r (i + 1)
def DN (l : L1) (f : Fl) : List Int := (Fj f l.x.AW 0).map A.int
def F2 (l : List Int) : List Int := l.mergeSort fun x y => decide (x ≤ y)
def Q5 (l : L1) : A := UU (F2 l.ints)
def Hr (l : L1) (f : Fl) : Int := if (DN l f).length < 2 then -1 else (F2 (DN l f)).getD 1 0
def LC (a b : L1) : Bool := decide (a.ints = b.ints)
end Day
namespace Day
open Rx Go
def L1.at (l : L1) (i : Int) : Bool := l.ok && (decide (0 ≤ i) && decide (i ≤ l.n))
theorem L1.Dw {l : L1} : l.ok = true ↔ (l.x.AW.length : Int) = l.n ∧ l.n ≤ 1000 := by simp [L1.ok]
theorem L1.BE {l : L1} {i : Int} : l.at i = true ↔ ((l.x.AW.length : Int) = l.n ∧ l.n ≤ 1000) ∧ 0 ≤ i ∧ i ≤ l.n := by simp [L1.at, L1.ok]
theorem L1.Fk (l : L1) : l.ints.length = l.x.AW.length := by simp [L1.ints]
theorem L1.O9 {l : L1} {i : Int} (h0 : 0 ≤ i) (h1 : i < (l.x.AW.length : Int)) : l.ints[i.toNat]'(by rw [L1.Fk]; omega) = l.k i := by
 have hl : i.toNat < l.x.AW.length := by omega
 simp [L1.ints, L1.k, List.getD, List.getElem?_eq_getElem hl]
theorem JC {l : L1} {i : Int} (h : l.at i = true) (hlt : i < l.n) : l.ints.drop i.toNat = l.k i :: l.ints.drop (i + 1).toNat := by
 obtain ⟨⟨h1, h2⟩, h3, h4⟩ := L1.BE.1 h
 have hl : i.toNat < l.ints.length := by rw [L1.Fk]; omega
 rw [List.drop_eq_getElem_cons hl, L1.O9 h3 (by omega), show (i + 1).toNat = i.toNat + 1 by omega]
theorem LD {l : L1} {i : Int} (h : l.at i = true) (hlt : ¬ i < l.n) : l.ints.drop i.toNat = [] := by
 obtain ⟨⟨h1, h2⟩, h3, h4⟩ := L1.BE.1 h
 exact List.drop_eq_nil_of_le (by rw [L1.Fk]; omega)
theorem Ho {l : L1} {i j : Int} (h : l.at i = true) (hlt : i < l.n) (hj : j = IntKind.wrap .i64 (i + 1)) : j = i + 1 ∧ l.at j = true := by
 obtain ⟨⟨h1, h2⟩, h3, h4⟩ := L1.BE.1 h
 rw [wrap64 (by omega) (by omega)] at hj
 exact ⟨hj, L1.BE.2 ⟨⟨h1, h2⟩, by omega, by omega⟩⟩
theorem Hp {l : L1} (h : l.ok = true) : l.at 0 = true := by
 obtain ⟨h1, h2⟩ := L1.Dw.1 h
 exact L1.BE.2 ⟨⟨h1, h2⟩, by omega, by omega⟩
theorem Ui {l : L1} {i : Int} (ha : N8 l = true) (h0 : 0 ≤ i) (hl : i < (l.x.AW.length : Int)) : 0 ≤ l.k i ∧ l.k i ≤ 2000 := by
 have := List.all_eq_true.1 ha (l.k i) (by rw [← L1.O9 h0 hl]; exact List.getElem_mem _)
 simpa [LB] using this
theorem Tc {l : L1} {i t : Int} (hk : l.ok = true) (ha : N8 l = true) (ht : i64 t = true) (hon : Nb l i t = true) : IntKind.wrap .i64 (t - l.k i) = t - l.k i := by
 obtain ⟨h1, h2⟩ := L1.Dw.1 hk
 simp only [Nb, Bool.and_eq_true, decide_eq_true_eq] at hon
 have := Ui ha hon.1 (by omega)
 simp only [i64, Bool.and_eq_true, decide_eq_true_eq] at ht
 exact wrap64 (by omega) (by omega)
theorem JD {l : L1} {i t : Int} (hon : Nb l i t = true) : 0 ≤ i ∧ i < l.n ∧ l.k i ≤ t := by
 simpa [Nb] using hon
def Bv (a b : L1) (i : Int) : Bool := decide (a.ints.drop i.toNat = b.ints.drop i.toNat)
def Dq (a b : L1) (i : Int) : Bool := !Bv a b i
def UL (a b : Int) : Bool := decide (a = b)
theorem RN {a b : L1} {i : Int} (ha : a.at i = true) (hb : b.at i = true) (h1 : i < a.n) (h2 : i < b.n) : Bv a b i = (decide (a.k i = b.k i) && Bv a b (i + 1)) := by
 unfold Bv
 rw [JC ha h1, JC hb h2]
 simp
theorem Td {a b : L1} {i : Int} (ha : a.at i = true) (hb : b.at i = true) (h1 : ¬ i < a.n) (h2 : ¬ i < b.n) : Bv a b i = true := by
 unfold Bv
 rw [LD ha h1, LD hb h2]
 simp
theorem RO (a b : L1) : Bv a b 0 = LC a b := rfl
theorem Te {a b : L1} (ha : a.ok = true) (hb : b.ok = true) (h : a.n ≠ b.n) : LC a b = false := by
 obtain ⟨h1, _⟩ := L1.Dw.1 ha
 obtain ⟨h2, _⟩ := L1.Dw.1 hb
 unfold LC
 refine decide_eq_false fun h0 => h ?_
 have := congrArg List.length h0
 rw [L1.Fk, L1.Fk] at this
 omega
def JE (v : Int) : A := .i (GH v 0 2000)
def CV (x : A) : Nat → Nat → A
 | 0, _ => x
 | k + 1, i => CV (.l (x.AW.set i (JE (x.AW.getD i (.i 0)).int))) k (i + 1)
def Q6 (a b : Int) : Int := if b < a then b else a
def HL (i n : Int) : Bool := decide (0 ≤ i) && (decide (i ≤ n) && decide (n ≤ 1000))
def Pa (x : A) (n : Int) : Bool := decide ((x.AW.length : Int) = n)
theorem Q7 {α : Type} (a y : α) (r : List α) : ∀ pre : List α, (pre ++ a :: r).set pre.length y = pre ++ y :: r
 | [] => rfl
 | b :: pre => by
  show b :: (pre ++ a :: r).set pre.length y = _
  rw [Q7 a y r pre]
  rfl
theorem Q8 {α : Type} (a d : α) (r : List α) : ∀ pre : List α, (pre ++ a :: r).getD pre.length d = a
 | [] => rfl
 | b :: pre => Q8 a d r pre
theorem Nc : ∀ (rest pre : List A), CV (.l (pre ++ rest)) rest.length pre.length = .l (pre ++ rest.map fun a => JE a.int)
 | [], pre => by simp [CV]
 | a :: r, pre => by
  have := Nc r (pre ++ [JE a.int])
  simp only [List.length_append, List.length_cons, List.length_nil, Nat.zero_add, List.append_assoc, List.cons_append, List.nil_append] at this
  show CV _ (r.length + 1) pre.length = _
  unfold CV
  simp only [A.AW]
  rw [Q7, Q8, this]
  rfl
theorem Pb {x y : A} {i n : Int} (h : HL i n = true) (hl : Pa x n = true) (hlt : i < n) (hy : y = .l (x.AW.set i.toNat (JE (x.AW.getD i.toNat (.i 0)).int))) :
  CV y (n - (i + 1)).toNat (i + 1).toNat = CV x (n - i).toNat i.toNat ∧ HL (i + 1) n = true ∧ Pa y n = true ∧ (n - (i + 1)).toNat < (n - i).toNat ∧ IntKind.wrap .i64 (i + 1) = i + 1 := by
 simp only [HL, Pa, Bool.and_eq_true, decide_eq_true_eq] at h hl ⊢
 refine ⟨?_, by omega, ?_, by omega, wrap64 (by omega) (by omega)⟩
 ·rw [show (n - i).toNat = (n - (i + 1)).toNat + 1 by omega, show (i + 1).toNat = i.toNat + 1 by omega, hy]
  rfl
 ·rw [hy]
  simpa using hl
theorem Qb {x : A} {i n : Int} (hlt : ¬ i < n) : CV x (n - i).toNat i.toNat = x := by
 rw [show (n - i).toNat = 0 by omega]
 rfl
theorem TV {n : Int} {l : L1} {z c : A} (hn : 3 ≤ n ∧ n ≤ 8) (hl : l.ok = true) (hz : z = .l (List.replicate n.toNat [A.i 0]).flatten) (hc : c = .l (l.x.AW.take (Q6 n l.n).toNat ++ z.AW.drop (Q6 n l.n).toNat)) :
  Pa c n = true ∧ CV c n.toNat 0 = UU (N9 n l) := by
 obtain ⟨h1, h2⟩ := L1.Dw.1 hl
 have hz' : z.AW = List.replicate n.toNat (.i 0) := by
  rw [hz]
  simp only [A.AW]
  apply List.ext_getElem?
  intro j
  simp [List.flatten_replicate_singleton]
 have hm : (Q6 n l.n).toNat ≤ l.x.AW.length ∧ (Q6 n l.n).toNat ≤ n.toNat := by unfold Q6; split <;> omega
 have hlen : (l.x.AW.take (Q6 n l.n).toNat ++ z.AW.drop (Q6 n l.n).toNat).length = n.toNat := by
  simp only [List.length_append, List.length_take, List.length_drop, hz', List.length_replicate]
  omega
 refine ⟨?_, ?_⟩
 ·rw [hc]
  show decide ((((l.x.AW.take (Q6 n l.n).toNat ++ z.AW.drop (Q6 n l.n).toNat).length : Nat) : Int) = n) = true
  rw [hlen]
  exact decide_eq_true (by omega)
 ·have := Nc (l.x.AW.take (Q6 n l.n).toNat ++ z.AW.drop (Q6 n l.n).toNat) []
  rw [hlen] at this
  simp only [List.nil_append, List.length_nil] at this
  rw [hc, this]
  unfold UU N9
  congr 1
  apply List.ext_getElem?
  intro j
  rw [List.getElem?_map, List.getElem?_map, List.getElem?_map]
  by_cases hj : j < n.toNat
  ·rw [List.getElem?_range hj]
   by_cases hjm : j < (Q6 n l.n).toNat
   ·rw [List.getElem?_append_left (by rw [List.length_take]; omega), List.getElem?_take_of_lt hjm]
    have hjl : j < l.x.AW.length := by omega
    simp [JE, L1.ints, List.getD, List.getElem?_eq_getElem hjl]
   ·have hml : (Q6 n l.n).toNat = l.x.AW.length := by unfold Q6 at hjm ⊢; split at hjm <;> split <;> omega
    rw [List.getElem?_append_right (by rw [List.length_take]; omega), List.length_take, hz', List.getElem?_drop, List.getElem?_replicate, if_pos (by omega)]
    have : l.ints[j]?.getD 0 = 0 := by
     rw [List.getElem?_eq_none (by rw [L1.Fk]; omega)]
     rfl
    simp [JE, this, A.int]
  ·rw [List.getElem?_eq_none (by rw [hlen]; omega), List.getElem?_eq_none (by simp; omega)]
   rfl
def IP (l : L1) (f : Fl) (i : Int) (o : L1) : A := .l (o.x.AW ++ Fj f (l.x.AW.drop i.toNat) i)
def IQ (l : L1) (f : Fl) (i : Int) (o : L1) : Int := ((o.x.AW ++ Fj f (l.x.AW.drop i.toNat) i).length : Int)
def V4 : A → Bool | .l _ => true | _ => false
def Be (o : L1) (i : Int) : Bool := decide ((o.x.AW.length : Int) = o.n) && (decide (o.n ≤ i) && V4 o.x)
theorem IS {l : L1} {i : Int} (h : l.at i = true) (hlt : i < l.n) : l.x.AW.drop i.toNat = l.x.AW.getD i.toNat (.i 0) :: l.x.AW.drop (i + 1).toNat := by
 obtain ⟨⟨h1, h2⟩, h3, h4⟩ := L1.BE.1 h
 have hl : i.toNat < l.x.AW.length := by omega
 rw [List.drop_eq_getElem_cons hl, show (i + 1).toNat = i.toNat + 1 by omega]
 simp [List.getD, List.getElem?_eq_getElem hl]
theorem Tf {x : A} (h : V4 x = true) : x = .l x.AW := by
 match x, h with
 | .l as, _ => rfl
theorem Tg {l o : L1} {f : Fl} {i : Int} (h : l.at i = true) (hlt : i < l.n) (hn : isNode f i = true) (ho : Be o i = true) :
  IP l f (i + 1) o = IP l f i o ∧ IQ l f (i + 1) o = IQ l f i o ∧ Be o (i + 1) = true := by
 unfold IP IQ
 rw [IS h hlt]
 refine ⟨by simp [Fj, hn], by simp [Fj, hn], ?_⟩
 simp only [Be, Bool.and_eq_true, decide_eq_true_eq] at ho ⊢
 exact ⟨ho.1, by omega, ho.2.2⟩
theorem Th {l o p : L1} {f : Fl} {i : Int} (h : l.at i = true) (hlt : i < l.n) (hn : isNode f i = false) (ho : Be o i = true) (hx : p.x = .l (o.x.AW ++ [l.x.AW.getD i.toNat (.i 0)])) (hp : p.n = ((p.x.AW.length : Nat) : Int)) :
  IP l f (i + 1) p = IP l f i o ∧ IQ l f (i + 1) p = IQ l f i o ∧ Be p (i + 1) = true := by
 obtain ⟨⟨h1, h2⟩, h3, h4⟩ := L1.BE.1 h
 have he : p.x.AW = o.x.AW ++ [l.x.AW.getD i.toNat (.i 0)] := by rw [hx]; rfl
 unfold IP IQ
 rw [IS h hlt, he]
 refine ⟨by simp [Fj, hn], by simp [Fj, hn], ?_⟩
 simp only [Be, Bool.and_eq_true, decide_eq_true_eq] at ho ⊢
 have : p.x.AW.length = o.x.AW.length + 1 := by rw [he]; simp
 exact ⟨hp.symm, by omega, by rw [hx]; rfl⟩
theorem TW {l o : L1} {f : Fl} {i : Int} (h : l.at i = true) (hlt : ¬ i < l.n) (ho : Be o i = true) : IP l f i o = o.x ∧ IQ l f i o = o.n := by
 obtain ⟨⟨h1, h2⟩, h3, h4⟩ := L1.BE.1 h
 simp only [Be, Bool.and_eq_true, decide_eq_true_eq] at ho
 unfold IP IQ
 rw [List.drop_eq_nil_of_le (by omega)]
 simp only [Fj, List.append_nil]
 exact ⟨(Tf ho.2.2).symm, ho.1⟩
theorem Pc (f : Fl) : ∀ (l : List A) (i : Int), (Fj f l i).length ≤ l.length
 | [], _ => Nat.le_refl _
 | a :: r, i => by
  have := Pc f r (i + 1)
  unfold Fj
  split <;> simp <;> omega
theorem Ti {l : L1} {f : Fl} {n : Int} {x : A} (hl : l.ok = true) (hn : n = IQ l f 0 ⟨.l [], 0⟩) (hx : x = IP l f 0 ⟨.l [], 0⟩) :
  L1.ok ⟨x, n⟩ = true ∧ n = ((DN l f).length : Int) ∧ ((Q5 ⟨x, n⟩).AW.getD 1 (.i 0)).int = (F2 (DN l f)).getD 1 0 := by
 obtain ⟨h1, h2⟩ := L1.Dw.1 hl
 have hx' : x = .l (Fj f l.x.AW 0) := by rw [hx]; rfl
 have hn' : n = ((Fj f l.x.AW 0).length : Int) := by rw [hn]; rfl
 have hlen := Pc f l.x.AW 0
 refine ⟨L1.Dw.2 ⟨by rw [hx', hn']; rfl, by show n ≤ 1000; omega⟩, by rw [hn']; simp [DN], ?_⟩
 have hi : (L1.mk x n).ints = DN l f := by rw [hx']; rfl
 unfold Q5
 rw [hi]
 simp only [UU, A.AW, List.getD, List.getElem?_map]
 cases (F2 (DN l f))[1]? <;> rfl
def TX (f : Fl) (t : Int) : List Int → Int → Int
 | [], _ => 0
 | v :: r, i => (if decide (v ≤ t) && !isNode f i then 1 else 0) + TX f t r (i + 1)
def B5 (l : L1) (f : Fl) (t i : Int) : Int := TX f t (l.ints.drop i.toNat) i
def no (_ : Int) : Bool := false
def I6 (k i : Int) : Bool := decide (0 ≤ k) && decide (k ≤ i)
theorem Pd {l : L1} {f : Fl} {t i : Int} (h : l.at i = true) (hlt : i < l.n) : B5 l f t i = (if decide (l.k i ≤ t) && !isNode f i then 1 else 0) + B5 l f t (i + 1) := by
 unfold B5
 rw [JC h hlt]
 rfl
theorem Q9 {l : L1} {f : Fl} {t i : Int} (h : l.at i = true) (hlt : ¬ i < l.n) : B5 l f t i = 0 := by
 unfold B5
 rw [LD h hlt]
 rfl
theorem Uj {l : L1} {t i : Int} (h : l.at i = true) (hlt : i < l.n) : Nb l i t = decide (l.k i ≤ t) := by
 have := L1.BE.1 h
 simp [Nb, this.2.1, hlt]
def TY (l : L1) (f : Fl) (t : Int) : Bool := decide (2 ≤ B5 l f t 0)
theorem Ra (f : Fl) (t : Int) : ∀ (l : List A) (i : Int), TX f t (l.map A.int) i = ((((Fj f l i).map A.int).countP fun v => decide (v ≤ t) : Nat) : Int)
 | [], i => rfl
 | a :: r, i => by
  have ih := Ra f t r (i + 1)
  simp only [List.map_cons, TX, ih, Fj]
  cases isNode f i
  ·by_cases h : a.int ≤ t
   ·simp [h]
    omega
   ·simp [h]
  ·simp
theorem TZ (l : L1) (f : Fl) (t : Int) : B5 l f t 0 = (((DN l f).countP fun v => decide (v ≤ t) : Nat) : Int) := Ra f t l.x.AW 0
theorem JF (l : List Int) : (F2 l).Perm l := List.mergeSort_perm ..
theorem RP (l : List Int) : (F2 l).Pairwise fun x y => x ≤ y := by
 have := List.pairwise_mergeSort (le := fun x y : Int => decide (x ≤ y)) (by intro a b c h1 h2; simp at *; omega) (by intro a b; simp; omega) l
 exact this.imp fun h => by simpa using h
theorem T0 {l : L1} {f : Fl} {a b : Int} {r : List Int} (hs : F2 (DN l f) = a :: b :: r) (t : Int) : TY l f t = decide (b ≤ t) := by
 have hp := RP (DN l f)
 rw [hs] at hp
 have hc : (DN l f).countP (fun v => decide (v ≤ t)) = (a :: b :: r).countP (fun v => decide (v ≤ t)) := by
  rw [← hs]
  exact ((JF (DN l f)).countP_eq _).symm
 unfold TY
 rw [TZ, hc]
 obtain ⟨h1, h2⟩ := List.pairwise_cons.1 hp
 obtain ⟨h3, _⟩ := List.pairwise_cons.1 h2
 have hab := h1 b (by simp)
 by_cases h : b ≤ t
 ·have ha : a ≤ t := by omega
  simp [h, ha]
  omega
 ·have hr : r.countP (fun v => decide (v ≤ t)) = 0 := by
   rw [List.countP_eq_zero]
   intro x hx
   have := h3 x hx
   simp
   omega
  simp only [List.countP_cons, hr, h, decide_false]
  by_cases ha : a ≤ t <;> simp [ha]
theorem Pe (f : Fl) : ∀ (l : List A) (i : Int) (a : A), a ∈ Fj f l i → a ∈ l
 | [], _, a, h => by simp [Fj] at h
 | b :: r, i, a, h => by
  unfold Fj at h
  rw [List.mem_append] at h
  rcases h with h | h
  ·split at h
   ·simp at h
   ·simp at h
    simp [h]
  ·exact List.mem_cons_of_mem _ (Pe f r _ a h)
def L1.len (l : L1) : Bool := decide ((l.x.AW.length : Int) = l.n)
theorem Uk {l : L1} (h : l.len = true) (hn : ¬ l.n > 20) : l.ok = true := L1.Dw.2 ⟨by simpa [L1.len] using h, by omega⟩
theorem UM : Hr ⟨.l [.i 5, .i 0, .i 9], 3⟩ ⟨0, 0⟩ = 5 := by
 have h : F2 [5, 0, 9] = [0, 5, 9] := by simp [F2, List.mergeSort, List.MergeSort.Internal.splitInTwo]
 have ho : DN ⟨.l [.i 5, .i 0, .i 9], 3⟩ ⟨0, 0⟩ = [5, 0, 9] := by decide
 rw [Hr, ho, h]
 rfl
def RQ (a : A) : A := .i ((IntKind.wrap .i64 a.int).tmod 2001)
def Hs (l : L1) (i : Int) (o : L1) : A := .l (o.x.AW ++ (l.x.AW.drop i.toNat).map RQ)
def Ht (l : L1) (i : Int) (o : L1) : Int := ((o.x.AW ++ (l.x.AW.drop i.toNat).map RQ).length : Int)
theorem Pf {l o p : L1} {i : Int} (h : l.at i = true) (hlt : i < l.n) (ho : Be o i = true) (hx : p.x = .l (o.x.AW ++ [RQ (l.x.AW.getD i.toNat (.i 0))])) (hp : p.n = ((p.x.AW.length : Nat) : Int)) :
  Hs l (i + 1) p = Hs l i o ∧ Ht l (i + 1) p = Ht l i o ∧ Be p (i + 1) = true := by
 have he : p.x.AW = o.x.AW ++ [RQ (l.x.AW.getD i.toNat (.i 0))] := by rw [hx]; rfl
 unfold Hs Ht
 rw [IS h hlt, he]
 refine ⟨by simp, by simp, ?_⟩
 simp only [Be, Bool.and_eq_true, decide_eq_true_eq] at ho ⊢
 have : p.x.AW.length = o.x.AW.length + 1 := by rw [he]; simp
 exact ⟨hp.symm, by omega, by rw [hx]; rfl⟩
theorem Rb {l o : L1} {i : Int} (h : l.at i = true) (hlt : ¬ i < l.n) (ho : Be o i = true) : Hs l i o = o.x ∧ Ht l i o = o.n := by
 obtain ⟨⟨h1, h2⟩, h3, h4⟩ := L1.BE.1 h
 simp only [Be, Bool.and_eq_true, decide_eq_true_eq] at ho
 unfold Hs Ht
 rw [List.drop_eq_nil_of_le (by omega)]
 simp only [List.map_nil, List.append_nil]
 exact ⟨(Tf ho.2.2).symm, ho.1⟩
def Oa (l : L1) : Bool := l.x.AW.all fun a => decide (0 ≤ a.int) && decide (a.int ≤ 65535)
theorem Pg {l : L1} {n : Int} {x : A} (hl : l.len = true) (ha : Oa l = true) (h : ¬ l.n > 20) (hn : n = Ht l 0 ⟨.l [], 0⟩) (hx : x = Hs l 0 ⟨.l [], 0⟩) :
  L1.ok ⟨x, n⟩ = true ∧ N8 ⟨x, n⟩ = true := by
 have h1 : (l.x.AW.length : Int) = l.n := by simpa [L1.len] using hl
 have hx' : x = .l (l.x.AW.map RQ) := by rw [hx]; rfl
 have hn' : n = ((l.x.AW.map RQ).length : Int) := by rw [hn]; rfl
 refine ⟨L1.Dw.2 ⟨by rw [hx', hn']; rfl, by show n ≤ 1000; rw [hn', List.length_map]; omega⟩, ?_⟩
 subst hx'
 simp only [N8, L1.ints, A.AW, List.map_map, List.all_eq_true, List.mem_map]
 rintro v ⟨a, hm, rfl⟩
 have := List.all_eq_true.1 ha a hm
 simp only [Bool.and_eq_true, decide_eq_true_eq] at this
 show LB ((IntKind.wrap .i64 a.int).tmod 2001) = true
 rw [wrap64 (by omega) (by omega), Int.tmod_eq_emod_of_nonneg this.1]
 simp only [LB, Bool.and_eq_true, decide_eq_true_eq]
 omega
theorem stays {l : L1} {i t : Int} (hk : l.ok = true) (ha : N8 l = true) :
  (Nb l i t = true → 0 ≤ BD l i t ∧ BD l i t ≤ t ∧ BD l i (t + 1) = BD l i t + 1) ∧ (Nb l i t = false → BD l i t = -1 ∧ (BD l i (t + 1) = -1 ∨ BD l i (t + 1) = 0)) := by
 obtain ⟨h1, h2⟩ := L1.Dw.1 hk
 constructor
 ·intro hon
  obtain ⟨b1, b2, b3⟩ := JD hon
  have hr := Ui ha b1 (by omega)
  have hon2 : Nb l i (t + 1) = true := by
   simp only [Nb, Bool.and_eq_true, decide_eq_true_eq]
   omega
  rw [BD, BD, if_pos hon, if_pos hon2]
  omega
 ·intro hon
  rw [BD, if_neg (by rw [hon]; simp)]
  refine ⟨rfl, ?_⟩
  rw [BD]
  split
  ·rename_i h3
   obtain ⟨b1, b2, b3⟩ := JD h3
   have : ¬ l.k i ≤ t := fun h => by
    have : Nb l i t = true := by
     simp only [Nb, Bool.and_eq_true, decide_eq_true_eq]
     omega
    rw [hon] at this
    cases this
   omega
  ·exact .inl rfl
def DA (l : L1) (f : Fl) (i : Int) : Int := ((Fj f (l.x.AW.drop i.toNat) i).length : Int)
theorem Tj {l : L1} {f : Fl} {i : Int} (h : l.at i = true) (hlt : i < l.n) : DA l f i = (if isNode f i then 0 else 1) + DA l f (i + 1) := by
 unfold DA
 rw [IS h hlt]
 show ((((if isNode f i then [] else [_]) ++ Fj f (l.x.AW.drop (i + 1).toNat) (i + 1)).length : Nat) : Int) = _
 cases isNode f i
 ·simp
  omega
 ·simp
theorem T1 {l : L1} {f : Fl} {i : Int} (h : l.at i = true) (hlt : ¬ i < l.n) : DA l f i = 0 := by
 obtain ⟨⟨h1, h2⟩, h3, h4⟩ := L1.BE.1 h
 unfold DA
 rw [List.drop_eq_nil_of_le (by omega)]
 rfl
theorem Tk (l : L1) (f : Fl) : DA l f 0 = ((DN l f).length : Int) := by simp [DA, DN]
def UN (t : Int) : Bool := decide (-1 ≤ t) && decide (t ≤ 2000)
theorem T2 {l : L1} (f : Fl) (ha : N8 l = true) :
  UN (Hr l f) = true ∧ (DA l f 0 < 2 → Hr l f = -1) ∧ (¬ DA l f 0 < 2 → 0 ≤ Hr l f ∧ 2 ≤ B5 l f (Hr l f) 0 ∧ B5 l f (Hr l f - 1) 0 < 2) := by
 rw [Tk]
 by_cases hlen : (DN l f).length < 2
 ·have ht : Hr l f = -1 := by rw [Hr, if_pos hlen]
  rw [ht]
  exact ⟨rfl, fun _ => rfl, fun h => absurd hlen (by omega)⟩
 ·have hl : (F2 (DN l f)).length = (DN l f).length := (JF _).length_eq
  match hs : F2 (DN l f) with
  | [] => rw [hs] at hl; simp at hl; omega
  | [a] => rw [hs] at hl; simp at hl; omega
  | a :: b :: r =>
   have hb := T0 hs
   have hmem : b ∈ DN l f := (JF (DN l f)).mem_iff.1 (by rw [hs]; simp)
   have hr : 0 ≤ b ∧ b ≤ 2000 := by
    obtain ⟨x, hx, rfl⟩ := List.mem_map.1 hmem
    have := List.all_eq_true.1 ha x.int (List.mem_map.2 ⟨x, Pe f _ _ _ hx, rfl⟩)
    simpa [LB] using this
   have ht : Hr l f = b := by
    rw [Hr, if_neg hlen, hs]
    rfl
   rw [ht]
   refine ⟨by simp only [UN, Bool.and_eq_true, decide_eq_true_eq]; omega, fun h => absurd h (by omega), fun _ => ⟨hr.1, ?_, ?_⟩⟩
   ·have := hb b
    simpa [TY] using this
   ·have := hb (b - 1)
    have h9 : ¬ b ≤ b - 1 := by omega
    simp only [TY, h9, decide_false, decide_eq_false_iff_not] at this
    omega
end Day

