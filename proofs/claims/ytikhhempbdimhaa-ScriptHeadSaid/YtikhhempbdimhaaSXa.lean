import Derived.Deep.Quiet
import Derived.StillTail
import Derived.Below
import Derived.Laws.AppendOwn
import Derived.Laws.CopyRow
import Derived.Laws.OwnMore
import Derived.Maps.AppendAt
import Derived.Laws.MakeOwn
import Derived.Laws.StructEq
import Derived.ChangeKeysEq
set_option linter.unusedVariables false
set_option linter.unusedSimpArgs false
namespace Rx
open Go
inductive A where
 | i (n : Int) | b (t : Bool) | v (x : Value) | l (as : List A)
def A.AJ : A → List A | .l as => as | _ => []
def A.int : A → Int | .i n => n | _ => 0
def A.bool : A → Bool | .b t => t | _ => false
def A.val : A → Value | .v x => x | _ => undef
def strOf : Value → ByteArray | .string s => s | _ => ⟨#[]⟩
def GS : Value → Value | .slice a n c => .slice a n c | _ => .slice none 0 0
def A.str (a : A) : ByteArray := strOf a.val
inductive L where
 | n (x : Int) | t (b : Bool) | s (l : List UInt8) | var (i : Nat) | e
 deriving Repr, Inhabited
def L.ev (e : Nat → A) : L → A
 | .n x => .i x
 | .t b => .b b
 | .s l => .v (.string ⟨l.toArray⟩)
 | .var i => e i
 | .e => .l []
def R1 (a b : Int) : Bool := decide (a = b)
def E0 : List UInt8 → List UInt8 → Bool
 | [], [] => true
 | a :: l, b :: m => a.toNat == b.toNat && E0 l m
 | _, _ => false
def L.same : L → L → Bool
 | .n x, .n y => R1 x y
 | .t x, .t y => x == y
 | .s x, .s y => E0 x y
 | .var i, .var j => i == j
 | .e, .e => true
 | _, _ => false
inductive D where
 | ar (op : BinOp) (k : IntKind) | dv (op : BinOp) (k : IntKind) | bt (op : BinOp) (k : IntKind) | cmp (op : BinOp) | conv (k : IntKind) | neg (k : IntKind)
 | not | and | or | imp | iteI | iteB | iteV | eqB | eqS | mn | mx | len | slen | sel | upd | call (f : Nat)
 | iteA | pix (off es : Nat) | pset (off es : Nat) | lln (es : Nat) | rep | mkl | cat
 | scat | sget | ssub | mks | sby | sh (op : BinOp) (k : IntKind) | cpy | lsub (es : Nat)
 deriving Repr, Inhabited, DecidableEq
def D0 (op : BinOp) (k : IntKind) (x y : Int) : Int :=
 match op with | .add => k.wrap (x + y) | .sub => k.wrap (x - y) | _ => k.wrap (x * y)
def Ee (op : BinOp) (k : IntKind) (x y : Int) : Int :=
 match op with | .quo => k.wrap (x.tdiv y) | _ => x.tmod y
def CW (op : BinOp) (k : IntKind) (x y : Int) : Int :=
 let a := BitVec.ofInt k.bits x
 let b := BitVec.ofInt k.bits y
 k.wrap (match op with | .and => a &&& b | .or => a ||| b | .xor => a ^^^ b | _ => a &&& ~~~b).toNat
def Ef (op : BinOp) (k : IntKind) (x y : Int) : Int :=
 match op with | .shl => k.wrap (x * 2 ^ (min y.toNat k.bits)) | _ => x.fdiv (2 ^ (min y.toNat k.bits))
def Bg (op : BinOp) (x y : Int) : Bool :=
 match op with | .eql => x == y | .neq => x != y | .lss => decide (x < y) | .leq => decide (x ≤ y) | .gtr => decide (x > y) | _ => decide (x ≥ y)
def AaL : Value → Int
 | .slice _ n _ => n
 | _ => 0
def D.ev (T : Nat → List A → Bool × List A) : D → List A → List A
 | .ar op k, [a, b] => [.i (D0 op k a.int b.int)]
 | .dv op k, [a, b] => [.i (Ee op k a.int b.int)]
 | .bt op k, [a, b] => [.i (CW op k a.int b.int)]
 | .cmp op, [a, b] => [.b (Bg op a.int b.int)]
 | .conv k, [a] => [.i (k.wrap a.int)]
 | .neg k, [a] => [.i (k.wrap (0 - a.int))]
 | .not, [a] => [.b (!a.bool)]
 | .and, [a, b] => [.b (a.bool && b.bool)]
 | .or, [a, b] => [.b (a.bool || b.bool)]
 | .imp, [a, b] => [.b (!a.bool || b.bool)]
 | .iteI, [c, a, b] => [.i (if c.bool then a.int else b.int)]
 | .iteB, [c, a, b] => [.b (if c.bool then a.bool else b.bool)]
 | .iteV, [c, a, b] => [.v (if c.bool then a.val else b.val)]
 | .eqB, [a, b] => [.b (a.bool == b.bool)]
 | .eqS, [a, b] => [.b (a.str == b.str)]
 | .mn, [a, b] => [.i (if b.int < a.int then b.int else a.int)]
 | .mx, [a, b] => [.i (if a.int < b.int then b.int else a.int)]
 | .len, [a] => [.i (AaL a.val)]
 | .slen, [a] => [.i a.str.size]
 | .sel, x :: l => [l[x.int.toNat]?.getD (.i 0)]
 | .upd, x :: y :: l => (l.set x.int.toNat y)
 | .call f, l => .b (T f l).1 :: (T f l).2
 | .iteA, [c, a, b] => [if c.bool then a else b]
 | .pix off es, [x, i] => [x.AJ.getD (off + es * i.int.toNat) (.i 0)]
 | .pset off es, [x, i, y] => [.l (x.AJ.set (off + es * i.int.toNat) y)]
 | .lln es, [x] => [.i ((x.AJ.length / es : Nat) : Int)]
 | .rep, n :: zs => [.l (List.replicate n.int.toNat zs).flatten]
 | .mkl, l => [.l l]
 | .cat, [x, y] => [.l (x.AJ ++ y.AJ)]
 | .scat, [a, b] => [.v (.string (a.str ++ b.str))]
 | .sget, [a, i] => [.i ((a.str.data.toList.getD i.int.toNat 0).toNat : Int)]
 | .ssub, [a, i, j] => [.v (.string (a.str.extract i.int.toNat j.int.toNat))]
 | .mks, [x] => [.v (.string ⟨(x.AJ.map fun a => UInt8.ofNat a.int.toNat).toArray⟩)]
 | .sby, [a] => [.l (a.str.data.toList.map fun b => .i (b.toNat : Int))]
 | .sh op k, [a, b] => [.i (Ef op k a.int b.int)]
 | .lsub es, [x, i, j] => [.l ((x.AJ.take (j.int.toNat * es)).drop (i.int.toNat * es))]
 | .cpy, [x, y, m] => [.l (y.AJ.take m.int.toNat ++ x.AJ.drop m.int.toNat)]
 | _, _ => []
structure Def where
 base : Nat
 d : D
 args : List L
 deriving Repr, Inhabited
def Def.holds (T : Nat → List A → Bool × List A) (e : Nat → A) (x : Def) : Prop :=
 ∀ j a, (x.d.ev T (x.args.map (L.ev e)))[j]? = some a → e (x.base + j) = a
structure ED where
 d : D
 args : List L
 res : List L
 deriving Repr, Inhabited
def L.J1 : List L → List L → Bool
 | [], [] => true
 | a :: l, b :: m => a.same b && L.J1 l m
 | _, _ => false
def D.same (a b : D) : Bool := decide (a = b)
def Tf (d : D) (args : List L) : List ED → Option (List L)
 | [] => none
 | k :: l => if k.d.same d && L.J1 k.args args then some k.res else Tf d args l
def ED.holds (T : Nat → List A → Bool × List A) (e : Nat → A) (k : ED) : Prop := k.d.ev T (k.args.map (L.ev e)) = k.res.map (L.ev e)
structure G where
 next : Nat
 defs : List Def
 obs : List L
 known : List ED := []
 deriving Repr, Inhabited
def findD (d : D) (args : List L) : Nat → List Def → Option Nat
 | n + 1, x :: l => if L.J1 x.args args && x.d.same d then some x.base else findD d args n l
 | _, _ => none
def Aco : ED := ⟨.mn, [], []⟩
def R2 (k : ED) : Bool := k.d.same .mn && k.args.isEmpty && k.res.isEmpty
def marked (g : G) : Bool := match g.known with | k :: _ => R2 k | [] => false
def wnd (g : G) : Nat := if marked g then 4000 else 40
def G.push (g : G) (d : D) (args : List L) : L × G :=
 match Tf d args g.known with
 | some (x :: _) => (x, g)
 | _ =>
  match findD d args (wnd g) g.defs with
  | some b => (.var b, g)
  | none => (.var g.next, { g with next := g.next + 1, defs := ⟨g.next, d, args⟩ :: g.defs })
def G.BJ (g : G) (d : D) (args : List L) (n : Nat) : Nat × G := (g.next, { g with next := g.next + n, defs := ⟨g.next, d, args⟩ :: g.defs })
def Qt (op : BinOp) (k : IntKind) (a b : L) (g : G) : L × G :=
 match a, b with | .n x, .n y => (.n (D0 op k x y), g) | _, _ => g.push (.ar op k) [a, b]
def Tg (op : BinOp) (k : IntKind) (a b : L) (g : G) : L × G :=
 match a, b with | .n x, .n y => (.n (Ee op k x y), g) | _, _ => g.push (.dv op k) [a, b]
def My (op : BinOp) (k : IntKind) (a b : L) (g : G) : L × G :=
 match a, b with | .n x, .n y => (.n (CW op k x y), g) | _, _ => g.push (.bt op k) [a, b]
def AK (op : BinOp) (a b : L) (g : G) : L × G :=
 match a, b with | .n x, .n y => (.t (Bg op x y), g) | _, _ => g.push (.cmp op) [a, b]
def AaM (op : BinOp) (k : IntKind) (a b : L) (g : G) : L × G :=
 match a, b with | .n x, .n y => (.n (Ef op k x y), g) | _, _ => g.push (.sh op k) [a, b]
def Mz (k : IntKind) (a : L) (g : G) : L × G :=
 match a with | .n x => (.n (k.wrap x), g) | _ => g.push (.conv k) [a]
def mkNeg (k : IntKind) (a : L) (g : G) : L × G :=
 match a with | .n x => (.n (k.wrap (0 - x)), g) | _ => g.push (.neg k) [a]
def mkNot (a : L) (g : G) : L × G :=
 match a with | .t x => (.t (!x), g) | _ => g.push .not [a]
def mkAnd (a b : L) (g : G) : L × G :=
 match a, b with
 | .t true, _ => (b, g) | .t false, _ => (.t false, g) | _, .t true => (a, g) | _, .t false => (.t false, g) | _, _ => if a.same b then (a, g) else g.push .and [a, b]
def E6 (c a b : L) (g : G) : L × G :=
 match c with | .t true => (a, g) | .t false => (b, g) | _ => if a.same b then (a, g) else g.push .iteI [c, a, b]
def R3 (c a b : L) (g : G) : L × G :=
 match findD .iteI [c, a, b] 300 g.defs with
 | some x => (.var x, g)
 | none => E6 c a b g
def MA (c a b : L) (g : G) : L × G :=
 match c with | .t true => (a, g) | .t false => (b, g) | _ => if a.same b then (a, g) else g.push .iteB [c, a, b]
def Oy (c a b : L) (g : G) : L × G :=
 match c with | .t true => (a, g) | .t false => (b, g) | _ => if a.same b then (a, g) else g.push .iteV [c, a, b]
def F2 (c a b : L) (g : G) : L × G :=
 match c with | .t true => (a, g) | .t false => (b, g) | _ => if a.same b then (a, g) else g.push .iteA [c, a, b]
def H6 (x : L) (g : G) : L × G :=
 match x with | .s l => (.n l.length, g) | _ => g.push .slen [x]
def AaN (a b : L) (g : G) : L × G :=
 match a, b with | .n x, .n y => (.n (if y < x then y else x), g) | _, _ => g.push .mn [a, b]
def Q9 (a b : L) (g : G) : L × G :=
 match a, b with | .t x, .t y => (.t (x == y), g) | _, _ => g.push .eqB [a, b]
def G.note (g : G) (c : L) : G := if g.obs.any (fun x => x.same c) then g else { g with obs := c :: g.obs }
def G.Bo (g : G) (pc c : L) : G :=
 match c, pc with
 | .t true, _ => g
 | _, .t false => g
 | _, .t true => g.note c
 | _, _ => let (o, g) := g.push .imp [pc, c]; g.note o
inductive Au where
 | int (k : IntKind) | bool | str | val | sl (ss : List Au)
 deriving Repr, Inhabited
inductive K where
 | int (k : IntKind) (x : L) | bool (x : L) | str (x : L) | val (x : L)
 | ptr (r off : Nat) | sptr (r off st num : Nat) (x : L)
 | slc (r off len : Nat)
 | aslc (r off es len cap : Nat)
 | lsl (r : Nat) (n : L) | fsl (r : Nat) (n : L) | lptr (r off es : Nat) (x n : L)
 | nilslc | nilptr | nilfn | junk
 deriving Repr, Inhabited
inductive C where
 | k (x : K) | clo (f : FuncId) (first caps : List K) | cfn (x : L) (f h : FuncId)
 deriving Repr, Inhabited
inductive PV where
 | one (c : C) | agg (l : List C)
 deriving Repr, Inhabited
inductive SV where
 | pv (p : PV) | tup (l : List PV) | cond (gs : List (L × Bool)) (p : PV) | undef | junk
 deriving Repr, Inhabited
structure FD where
 own : Bool
 ty : TypeId
 ss : List Au
 x : L
 n : L
 deriving Repr, Inhabited
structure Row where
 own : Bool
 ty : TypeId
 es : Nat
 cells : List C
 lst : Option FD := none
 deriving Repr, Inhabited
structure St where
 fr : List SV
 rows : List Row
 pc : L
 deriving Repr, Inhabited
inductive Gk where
 | norm | exit (id : Nat) | ret
 deriving Repr, Inhabited
inductive TK where
 | int (k : IntKind) | bool | string | ptr (e : TypeId) | slice (e : TypeId) | arr (n : Nat) (e : TypeId) | struct (fs : List (TypeId × Nat)) | func | other
 deriving Repr, Inhabited
structure Ty where
 kind : TK
 size : Nat
 bytes : Nat
 zero : List K
 deriving Repr, Inhabited
inductive PS where
 | c (agg : Bool) (l : List Au) | slc (l : List Au) | nil | lst (l : List Au) | d (agg : Bool) (l : List Au)
 deriving Repr, Inhabited
structure J7 where
 f : Nat
 ps : List PS
 rs : List (Bool × List Au)
 ok : List (Option Int) → Bool
inductive RS where
 | c (agg : Bool) (l : List Au) | lst (l : List Au) (ty : Nat) | d (agg : Bool) (l : List Au)
structure YZ where
 f : Nat
 ss : List Au
 ty : Nat := 0
 grow : Bool := false
structure WQ where
 f : Nat
 ps : List PS
 rs : List RS
 ok : List (Option Int) → Bool
 w : Nat := 0
inductive Tag where
 | i | b | v | s | any | no
 deriving Repr, Inhabited, DecidableEq
structure Lp where
 f : Nat
 p : List Bool
 id : Nat
 k : Nat
 w : Nat
 m : Nat
 tm : St
 outs : List (Gk × St)
 MB : List Bool
 tags : List Tag
structure Ctx where
 Ay : List (Nat × Ty)
 eqs : List (Nat × List (Nat × Au))
 fns : Nat → Option Func
 ctr : List (Nat × J7)
 lim : Nat
 big : List (Nat × WQ) := []
 lps : List Lp := []
 muts : List (Nat × YZ) := []
def look {α : Type} (t : Nat) : List (Nat × α) → Option α
 | [] => none
 | (u, x) :: l => if u == t then some x else look t l
def TK.agg : TK → Bool
 | .arr .. | .struct _ => true
 | _ => false
def CM (a b : IntKind) : Bool := decide (a = b)
mutual
def Au.same : Au → Au → Bool
 | .int a, .int b => CM a b
 | .bool, .bool | .val, .val | .str, .str => true
 | .sl a, .sl b => Ce a b
 | _, _ => false
def Ce : List Au → List Au → Bool
 | [], [] => true
 | a :: l, b :: m => a.same b && Ce l m
 | _, _ => false
end
def Au.single : Au → Bool
 | .sl _ => false
 | _ => true
def K.Qr : K → Option (Au × L)
 | .int k x => some (.int k, x)
 | .bool x => some (.bool, x)
 | .str x => some (.str, x)
 | .val x => some (.val, x)
 | _ => none
def Au.mk : Au → L → K
 | .int k, x => .int k x
 | .bool, x => .bool x
 | .str, x => .str x
 | .val, x => .val x
 | .sl _, _ => .nilslc
def K.same : K → K → Bool
 | .int k x, .int k' y => CM k k' && x.same y
 | .bool x, .bool y => x.same y
 | .str x, .str y => x.same y
 | .val x, .val y => x.same y
 | .ptr r o, .ptr r' o' => r == r' && o == o'
 | .sptr r o s n x, .sptr r' o' s' n' x' => r == r' && o == o' && s == s' && n == n' && x.same x'
 | .slc r o n, .slc r' o' n' => r == r' && o == o' && n == n'
 | .aslc r o s n c, .aslc r' o' s' n' c' => r == r' && o == o' && s == s' && n == n' && c == c'
 | .lsl r n, .lsl r' n' => r == r' && n.same n'
 | .fsl r n, .fsl r' n' => r == r' && n.same n'
 | .lptr r o s x n, .lptr r' o' s' x' n' => r == r' && o == o' && s == s' && x.same x' && n.same n'
 | .nilslc, .nilslc | .nilptr, .nilptr | .nilfn, .nilfn => true
 | _, _ => false
def H7 : List K → List K → Bool
 | [], [] => true
 | a :: l, b :: m => a.same b && H7 l m
 | _, _ => false
def C.same : C → C → Bool
 | .k a, .k b => a.same b
 | .clo f a b, .clo g c d => f == g && H7 a c && H7 b d
 | .cfn x f h, .cfn y f' h' => x.same y && f == f' && h == h'
 | _, _ => false
def Kw : List C → List C → Bool
 | [], [] => true
 | a :: l, b :: m => a.same b && Kw l m
 | _, _ => false
def K.Dm : K → Bool
 | .junk => false
 | _ => true
def C.Dm : C → Bool
 | .k x => x.Dm
 | .clo _ a b => a.all K.Dm && b.all K.Dm
 | .cfn .. => true
def PV.cells : PV → List C
 | .one c => [c]
 | .agg l => l
def Et (agg : Bool) (l : List C) : Option PV :=
 if agg then some (.agg l) else match l with | [c] => some (.one c) | _ => none
def PV.int? : PV → Option (IntKind × L)
 | .one (.k (.int k x)) => some (k, x)
 | _ => none
def PV.bool? : PV → Option L
 | .one (.k (.bool x)) => some x
 | _ => none
def R4 : Value → Option C
 | .int k n => some (.k (.int k (.n n)))
 | .bool b => some (.k (.bool (.t b)))
 | .string s => some (.k (.str (.s s.data.toList)))
 | .slice none 0 0 => some (.k .nilslc)
 | .pointer none => some (.k .nilptr)
 | .nilFunc => some (.k .nilfn)
 | _ => none
def K7 : List Value → Option (List C)
 | [] => some []
 | v :: l => do let c ← R4 v; let r ← K7 l; some (c :: r)
def R5 : Value → Option PV
 | .agg cs => (K7 cs.toList).map .agg
 | v => (R4 v).map .one
def Y6 (g : L × Bool) : List (L × Bool) → Bool
 | [] => false
 | h :: l => (g.1.same h.1 && g.2 == h.2) || Y6 g l
def Y7 : List (L × Bool) → List (L × Bool) → Bool
 | [], _ => true
 | g :: l, gs => Y6 g gs && Y7 l gs
def slot (fr : List SV) (gs : List (L × Bool)) (t : Nat) : Option PV :=
 match fr[t]? with
 | some (.pv p) => some p
 | some (.cond hs p) => if Y7 hs gs then some p else none
 | _ => none
def Db (fr : List SV) (gs : List (L × Bool)) : Operand → Option PV
 | .tmp t => slot fr gs t
 | .const v => R5 v
 | .func f => some (.one (.clo f [] []))
 | .global _ => none
def Qu (fr : List SV) (gs : List (L × Bool)) : List Operand → Option (List PV)
 | [] => some []
 | x :: l => do let p ← Db fr gs x; let r ← Qu fr gs l; some (p :: r)
def GU (fr : List SV) (gs : List (L × Bool)) : Option Operand → Option (Option PV)
 | none => some none
 | some y => do let p ← Db fr gs y; some (some p)
def R6 (c : L) (a b : K) (g : G) : K × G :=
 match a, b with
 | .int k x, .int k' y => if CM k k' then let (z, g) := E6 c x y g; (.int k z, g) else (.junk, g)
 | .bool x, .bool y => let (z, g) := MA c x y g; (.bool z, g)
 | .str x, .str y => let (z, g) := Oy c x y g; (.str z, g)
 | .val x, .val y => let (z, g) := Oy c x y g; (.val z, g)
 | .lsl r n, .lsl r' m => if r == r' then let (z, g) := E6 c n m g; (.lsl r z, g) else (.junk, g)
 | .fsl r n, .fsl r' m => if r == r' then let (z, g) := E6 c n m g; (.fsl r z, g) else (.junk, g)
 | a, b => if a.same b then (a, g) else (.junk, g)
def H8 (c : L) (a b : C) (g : G) : C × G :=
 match a, b with
 | .k x, .k y => let (z, g) := R6 c x y g; (.k z, g)
 | .clo f [] [], .clo h [] [] => if f == h then (.clo f [] [], g) else (.cfn c f h, g)
 | a, b => if a.same b then (a, g) else (.k .junk, g)
def Bh (c : L) : List C → List C → G → List C × G
 | a :: l, b :: m, g => let (z, g) := H8 c a b g; let (zs, g) := Bh c l m g; (z :: zs, g)
 | _, _, g => ([], g)
def Oe (c : L) (a b : SV) (g : G) : SV × G :=
 match a, b with
 | .pv (.one x), .pv (.one y) => let (z, g) := H8 c x y g; (.pv (.one z), g)
 | .pv (.agg x), .pv (.agg y) => if x.length == y.length then let (z, g) := Bh c x y g; (.pv (.agg z), g) else (.junk, g)
 | .undef, .undef => (.undef, g)
 | _, _ => (.junk, g)
def Bu (c : L) : List SV → List SV → G → List SV × G
 | a :: l, b :: m, g => let (z, g) := Oe c a b g; let (zs, g) := Bu c l m g; (z :: zs, g)
 | _, _, g => ([], g)
def Row.dead : Row := { own := false, ty := 0, es := 0, cells := [] }
def K8 (c : L) (a b : Option FD) (g : G) : Option (Option FD) × G :=
 match a, b with
 | none, none => (some none, g)
 | some p, some q => if p.own == q.own && p.ty == q.ty && Ce p.ss q.ss then
   let (x, g) := F2 c p.x q.x g; let (n, g) := R3 c p.n q.n g; (some (some { p with x, n }), g)
  else (none, g)
 | _, _ => (none, g)
def K9 (c : L) (a b : Row) (g : G) : Row × G :=
 if a.own == b.own && a.ty == b.ty && a.es == b.es && a.cells.length == b.cells.length then
  match K8 c a.lst b.lst g with
  | (some l, g) => let (z, g) := Bh c a.cells b.cells g; ({ a with cells := z, lst := l }, g)
  | (none, g) => (Row.dead, g)
 else (Row.dead, g)
def Bq (c : L) : List Row → List Row → G → List Row × G
 | a :: l, b :: m, g => let (z, g) := K9 c a b g; let (zs, g) := Bq c l m g; (z :: zs, g)
 | [], m, g => (m.map fun _ => Row.dead, g)
 | l, [], g => (l.map fun _ => Row.dead, g)
def Gk.same : Gk → Gk → Bool
 | .norm, .norm | .ret, .ret => true
 | .exit a, .exit b => a == b
 | _, _ => false
abbrev Aq := List (Gk × St)
def Aq.get (x : Gk) : Aq → Option St
 | [] => none
 | (y, s) :: l => if x.same y then some s else Aq.get x l
def Aq.drop (x : Gk) : Aq → Aq
 | [] => []
 | (y, s) :: l => if x.same y then Aq.drop x l else (y, s) :: Aq.drop x l
def FE (c : L) (both : Option (L × L × L)) (s t : L) (g : G) : L × G :=
 match both with
 | some (p, x, y) => if s.same x && t.same y then (p, g) else MA c s t g
 | none => MA c s t g
def AM (rows : List Row) (q : FD) : List Row := rows ++ [{ own := false, ty := 0, es := 0, cells := [], lst := some q }]
def mvK (r R : Nat) : K → K
 | .lsl r' n => if r' == r then .lsl R n else .lsl r' n
 | k => k
def mvC (r R : Nat) : C → C
 | .k x => .k (mvK r R x)
 | c => c
def Y8 (r R : Nat) : PV → PV
 | .one c => .one (mvC r R c)
 | .agg l => .agg (l.map (mvC r R))
def Acp (r R : Nat) : SV → SV
 | .pv p => .pv (Y8 r R p)
 | .tup l => .tup (l.map (Y8 r R))
 | .cond gs p => .cond gs (Y8 r R p)
 | s => s
def Av (l : List Row) (n : Nat) : List Row := l ++ List.replicate (n - l.length) Row.dead
def Kx : List SV → List SV → Nat → List ((Nat × Bool) × (Nat × Bool)) → List ((Nat × Bool) × (Nat × Bool))
 | .pv (.one (.k (.lsl r _))) :: l, .pv (.one (.k (.lsl s _))) :: m, i, acc => Kx l m (i + 1) (if r == s || acc.any (fun x => x.1 == (r, true) || x.2 == (s, true)) then acc else ((r, true), (s, true)) :: acc)
 | .pv (.one (.k (.lsl r _))) :: l, .pv (.one (.k .nilslc)) :: m, i, acc => Kx l m (i + 1) (if acc.any (fun x => x.1 == (r, true)) then acc else ((r, true), (i, false)) :: acc)
 | .pv (.one (.k .nilslc)) :: l, .pv (.one (.k (.lsl s _))) :: m, i, acc => Kx l m (i + 1) (if acc.any (fun x => x.2 == (s, true)) then acc else ((i, false), (s, true)) :: acc)
 | _ :: l, _ :: m, i, acc => Kx l m (i + 1) acc
 | _, _, _, acc => acc
def Abt (r R : Nat) (x : Row) : Row := if x.own then { x with cells := x.cells.map (mvC r R) } else x
def La (p : Nat) : List C → List C → Nat → List ((Nat × Bool) × (Nat × Bool)) → List ((Nat × Bool) × (Nat × Bool))
 | .k (.lsl r _) :: l, .k (.lsl s _) :: m, i, acc => La p l m (i + 1) (if r == s || acc.any (fun x => x.1 == (r, true) || x.2 == (s, true)) then acc else ((r, true), (s, true)) :: acc)
 | .k (.lsl r _) :: l, .k .nilslc :: m, i, acc => La p l m (i + 1) (if acc.any (fun x => x.1 == (r, true)) then acc else ((r, true), (p + i, false)) :: acc)
 | .k .nilslc :: l, .k (.lsl s _) :: m, i, acc => La p l m (i + 1) (if acc.any (fun x => x.2 == (s, true)) then acc else ((p + i, false), (s, true)) :: acc)
 | _ :: l, _ :: m, i, acc => La p l m (i + 1) acc
 | _, _, _, acc => acc
def Of : List Row → List Row → Nat → List ((Nat × Bool) × (Nat × Bool)) → List ((Nat × Bool) × (Nat × Bool))
 | a :: l, b :: m, r, acc => Of l m (r + 1) (if a.own && b.own then La (100000 + 1000 * r) a.cells b.cells 0 acc else acc)
 | _, _, _, acc => acc
def U1 (r R : Nat) (s : St) : St :=
 match s.rows[r]? with
 | some row => match row.lst with
  | some q => if q.own && decide (s.rows.length ≤ R) then ⟨s.fr.map (Acp r R), (AM (Av (s.rows.set r Row.dead) R) q).map (Abt r R), s.pc⟩ else s
  | none => s
 | none => s
def Oz (i R : Nat) (o : Option FD) (s : St) : St :=
 match o with
 | some q => match s.fr[i]? with
  | some (.pv (.one (.k .nilslc))) => if q.own && q.ss.length != 0 && decide (s.rows.length ≤ R) then ⟨s.fr.set i (.pv (.one (.k (.lsl R (.n 0))))), AM (Av s.rows R) { own := true, ty := q.ty, ss := q.ss, x := .e, n := .n 0 }, s.pc⟩ else s
  | _ => s
 | none => s
def GV (r j R : Nat) (o : Option FD) (s : St) : St :=
 match o with
 | some q => match s.rows[r]? with
  | some row => match row.cells[j]? with
   | some (.k .nilslc) => if q.own && q.ss.length != 0 && row.own && decide (s.rows.length ≤ R) then ⟨s.fr, (AM (Av s.rows R) { own := true, ty := q.ty, ss := q.ss, x := .e, n := .n 0 }).set r { row with cells := row.cells.set j (.k (.lsl R (.n 0))) }, s.pc⟩ else s
   | _ => s
  | none => s
 | none => s
def WR (x : Nat × Bool) (s : St) : Option FD := match s.rows[x.1]? with | some row => row.lst | none => none
def Qv (x : Nat × Bool) (R : Nat) (o : Option FD) (s : St) : St := if x.2 then U1 x.1 R s else if x.1 < 100000 then Oz x.1 R o s else GV ((x.1 - 100000) / 1000) ((x.1 - 100000) % 1000) R o s
def GW : List ((Nat × Bool) × (Nat × Bool)) → Nat → St × St → St × St
 | [], _, x => x
 | (a, b) :: l, R, (s, t) => GW l (R + 1) (Qv a R (WR b t) s, Qv b R (WR a s) t)
inductive Pos where
 | slot (i : Nat) | cell (r j : Nat)
 deriving Repr, Inhabited
def WS : K → K → Bool
 | .fsl r _, .fsl s _ => r != s
 | .fsl .., .lsl .. | .lsl .., .fsl .. | .fsl .., .nilslc | .nilslc, .fsl .. => true
 | _, _ => false
def Og : List SV → List SV → Nat → List (Pos × K × K)
 | .pv (.one (.k a)) :: l, .pv (.one (.k b)) :: m, i => if WS a b then (.slot i, a, b) :: Og l m (i + 1) else Og l m (i + 1)
 | _ :: l, _ :: m, i => Og l m (i + 1)
 | _, _, _ => []
def Oh (r : Nat) : List C → List C → Nat → List (Pos × K × K)
 | .k a :: l, .k b :: m, j => if WS a b then (.cell r j, a, b) :: Oh r l m (j + 1) else Oh r l m (j + 1)
 | _ :: l, _ :: m, j => Oh r l m (j + 1)
 | _, _, _ => []
def MC : List Row → List Row → Nat → List (Pos × K × K)
 | a :: l, b :: m, r => if a.own && b.own then Oh r a.cells b.cells 0 ++ MC l m (r + 1) else MC l m (r + 1)
 | _, _, _ => []
def OA (s t : St) : List (Pos × K × K) := Og s.fr t.fr 0 ++ MC s.rows t.rows 0
def addNat (r : Nat) (l : List Nat) : List Nat := if l.any (fun x => x == r) then l else r :: l
def Ra : List (Pos × K × K) → List Nat
 | [] => []
 | (_, .lsl r _, _) :: l => addNat r (Ra l)
 | (_, _, .lsl r _) :: l => addNat r (Ra l)
 | _ :: l => Ra l
def BK (ss : List Au) (x n : L) : Row := { own := false, ty := 0, es := 0, cells := [], lst := some ⟨false, 0, ss, x, n⟩ }
def fzK (r R : Nat) (q : L) : K → K
 | .lsl r' n => if r' == r then (if n.same q then .fsl R n else .junk) else .lsl r' n
 | k => k
def fzC (r R : Nat) (q : L) : C → C
 | .k x => .k (fzK r R q x)
 | c => c
def Y9 (r R : Nat) (q : L) : PV → PV
 | .one c => .one (fzC r R q c)
 | .agg l => .agg (l.map (fzC r R q))
def AbL (r R : Nat) (q : L) : SV → SV
 | .pv p => .pv (Y9 r R q p)
 | .tup l => .tup (l.map (Y9 r R q))
 | .cond gs p => .cond gs (Y9 r R q p)
 | s => s
def Za (r R : Nat) (q : L) (x : Row) : Row := if x.own then { x with cells := x.cells.map (fzC r R q) } else x
def H9 (r R : Nat) (s : St) : St :=
 match s.rows[r]? with
 | some row => match row.lst with
  | some q => if q.own && decide (s.rows.length ≤ R) then ⟨s.fr.map (AbL r R q.n), (Av (s.rows.set r Row.dead) R ++ [BK q.ss q.x q.n]).map (Za r R q.n), s.pc⟩ else s
  | none => s
 | none => s
def kAt (s : St) : Pos → Option K
 | .slot i => (match s.fr[i]? with | some (.pv (.one (.k k))) => some k | _ => none)
 | .cell r j => (match s.rows[r]? with | some row => (match row.cells[j]? with | some (.k k) => if row.own then some k else none | _ => none) | none => none)
def HX (s : St) (p : Pos) (k : K) : St :=
 match p with
 | .slot i => { s with fr := s.fr.set i (.pv (.one (.k k))) }
 | .cell r j => (match s.rows[r]? with | some row => { s with rows := s.rows.set r { row with cells := row.cells.set j (.k k) } } | none => s)
def Qw (p : Pos) (R : Nat) (ss : List Au) (s : St) : St :=
 match kAt s p with
 | some (.fsl r n) => (match s.rows[r]? with
  | some row => (match row.lst with
   | some q => if !q.own && n.same q.n && decide (s.rows.length ≤ R) then HX { s with rows := Av s.rows R ++ [BK q.ss q.x q.n] } p (.fsl R q.n) else s
   | none => s)
  | none => s)
 | some .nilslc => if ss.length != 0 && decide (s.rows.length ≤ R) then HX { s with rows := Av s.rows R ++ [BK ss .e (.n 0)] } p (.fsl R (.n 0)) else s
 | _ => s
def AaO (p : Pos) (s : St) : List Au :=
 match kAt s p with
 | some (.fsl r _) => (match s.rows[r]? with | some row => (match row.lst with | some q => q.ss | none => []) | none => [])
 | _ => []
def Ky : List Nat → Nat → St × St → St × St
 | [], _, x => x
 | r :: l, R, (s, t) => Ky l (R + 1) (H9 r R s, H9 r R t)
def Rb : List (Pos × K × K) → Nat → St × St → St × St
 | [], _, x => x
 | (p, _, _) :: l, R, (s, t) => Rb l (R + 1) (Qw p R (AaO p t) s, Qw p R (AaO p s) t)
def GX (x : St × St) : Nat := max x.1.rows.length x.2.rows.length
def Zb (x : St × St) : St × St :=
 match OA x.1 x.2 with
 | [] => x
 | ps =>
  let y := Ky (Ra ps) (GX x) x
  Rb (OA y.1 y.2) (GX y) y
def Dn (s t : St) : St × St := Zb (GW (Of s.rows t.rows 0 (Kx s.fr t.fr 0 [])) (max s.rows.length t.rows.length) (s, t))
def Cj (c : L) (both : Option (L × L × L)) (s t : St) (g : G) : St × G :=
 let (s, t) := Dn s t
 let (fr, g) := Bu c s.fr t.fr g
 let (rows, g) := Bq c s.rows t.rows g
 let (pc, g) := FE c both s.pc t.pc g
 (⟨fr, rows, pc⟩, g)
def OB (nc : L) : Aq → G → Aq × G
 | [], g => ([], g)
 | (x, t) :: l, g =>
  let (pc, g) := mkAnd nc t.pc g
  let (r, g) := OB nc l g
  ((x, { t with pc }) :: r, g)
def combine (c nc : L) (both : Option (L × L × L)) : Aq → Aq → G → Aq × G
 | [], o2, g => OB nc o2 g
 | (x, s) :: l, o2, g =>
  match Aq.get x o2 with
  | some t =>
   let (u, g) := Cj c both s t g
   let (r, g) := combine c nc both l (Aq.drop x o2) g
   ((x, u) :: r, g)
  | none =>
   let (pc, g) := mkAnd c s.pc g
   let (r, g) := combine c nc both l o2 g
   ((x, { s with pc }) :: r, g)
def AW (pc : L) : List (L × Bool) → G → L × G
 | [], g => (pc, g)
 | (x, t) :: l, g =>
  let (y, g) := if t then (x, g) else mkNot x g
  let (p, g) := mkAnd pc y g
  AW p l g
def Dp (l : List C) (off n : Nat) : Option (List C) :=
 if off + n ≤ l.length then some ((l.drop off).take n) else none
def leaves (s : Au) : List C → Option (List L)
 | [] => some []
 | .k x :: l => do
  let (u, y) ← x.Qr
  if u.same s then let r ← leaves s l; some (y :: r) else none
 | _ => none
def Gl (l : List C) (off st : Nat) : Nat → Option (List C)
 | 0 => some []
 | n + 1 => do let c ← l[off]?; let r ← Gl l (off + st) st n; some (c :: r)
def WT : List C → Option Au
 | .k x :: _ => x.Qr.map (·.1)
 | _ => none
def Eg (cells : List C) (off st num : Nat) (x : L) : Nat → G → Option (List C × G)
 | 0, g => some ([], g)
 | n + 1, g => do
  let cs ← Gl cells off st num
  let s ← WT cs
  let ls ← leaves s cs
  let (y, g) := g.push .sel (x :: ls)
  let (r, g) ← Eg cells (off + 1) st num x n g
  some (.k (s.mk y) :: r, g)
def MD (s : Au) (base : Nat) (off st : Nat) : Nat → List C → List C
 | 0, l => l
 | n + 1, l => MD s (base + 1) (off + st) st n (l.set off (.k (s.mk (.var base))))
def E7 (cells : List C) (off st num : Nat) (x : L) : List C → G → Option (List C × G)
 | [], g => some (cells, g)
 | .k y :: r, g => do
  let cs ← Gl cells off st num
  let s ← WT cs
  let ls ← leaves s cs
  let (u, z) ← y.Qr
  if !u.same s then none
  let (b, g) := g.BJ .upd (x :: z :: ls) num
  E7 (MD s b off st num cells) (off + 1) st num x r g
 | _, _ => none
def setCells (cells : List C) (off : Nat) : List C → List C
 | [] => cells
 | c :: r => setCells (cells.set off c) (off + 1) r
def E8 (l : List K) : List C := l.map .k
def lay (size : Nat → Option (Nat × Nat)) (cells : List C) : List (Nat × PV) → Option (List C)
 | [] => some cells
 | (i, p) :: rest => do
  let (off, n) ← size i
  if p.cells.length == n && off + n ≤ cells.length then lay size (setCells cells off p.cells) rest else none
def Ctx.ty (X : Ctx) (t : Nat) : Option Ty := look t X.Ay
def FF (p q : List C) : List (Nat × Au) → G → Option (L × G)
 | [], g => some (.t true, g)
 | (o, s) :: l, g => do
  let (r, g) ← FF p q l g
  match p[o]?, q[o]? with
  | some (.k a), some (.k b) => do
   let (u, x) ← a.Qr
   let (v, y) ← b.Qr
   if !u.same s || !v.same s then none
   match s with
   | .int _ => let (z, g) := AK .eql x y g; some (mkAnd z r g)
   | .bool => let (z, g) := Q9 x y g; some (mkAnd z r g)
   | .str => let (z, g) := g.push .eqS [x, y]; some (mkAnd z r g)
   | _ => none
  | _, _ => none
def ME (x y pc : L) (g : G) : L × G :=
 let (a, g) := g.push .slen [x]
 let (b, g) := g.push .slen [y]
 let (c, g) := AK .leq a (.n 4611686018427387903) g
 let g := g.Bo pc c
 let (c, g) := AK .leq b (.n 4611686018427387903) g
 let g := g.Bo pc c
 g.push .scat [x, y]
def Rc (op : BinOp) (k : IntKind) (x y pc : L) (g : G) : L × G :=
 let (c, g) := AK .leq (.n 0) y g
 let g := g.Bo pc c
 AaM op k x y g
def AbM : BinOp → Bool
 | .shl | .shr => true
 | _ => false
def binop (X : Ctx) (t : Nat) (op : BinOp) (p q : PV) (pc : L) (g : G) : Option (PV × G) :=
 match p, q with
 | .one (.k (.int k x)), .one (.k (.int k' y)) =>
  if AbM op then
   let (z, g) := Rc op k x y pc g
   some (.one (.k (.int k z)), g)
  else
  if !CM k k' then none else
  match op with
  | .add | .sub | .mul => let (z, g) := Qt op k x y g; some (.one (.k (.int k z)), g)
  | .quo | .rem =>
   let (ne, g) := AK .neq y (.n 0) g
   let g := g.Bo pc ne
   let (z, g) := Tg op k x y g; some (.one (.k (.int k z)), g)
  | .and | .or | .xor | .andNot => let (z, g) := My op k x y g; some (.one (.k (.int k z)), g)
  | .shl | .shr => none
  | _ => let (z, g) := AK op x y g; some (.one (.k (.bool z)), g)
 | .one (.k (.bool x)), .one (.k (.bool y)) => do
  let ty ← X.ty t
  match ty.kind, op with
  | .bool, .eql => let (z, g) := Q9 x y g; some (.one (.k (.bool z)), g)
  | .bool, .neq => let (z, g) := Q9 x y g; let (z, g) := mkNot z g; some (.one (.k (.bool z)), g)
  | _, _ => none
 | .one (.k (.str x)), .one (.k (.str y)) =>
  match op with
  | .eql => let (z, g) := g.push .eqS [x, y]; some (.one (.k (.bool z)), g)
  | .neq => let (z, g) := g.push .eqS [x, y]; let (z, g) := mkNot z g; some (.one (.k (.bool z)), g)
  | .add => let (z, g) := ME x y pc g; some (.one (.k (.str z)), g)
  | _ => none
 | .agg p, .agg q => do
  let ls ← look t X.eqs
  match op with
  | .eql => do let (z, g) ← FF p q ls g; some (.one (.k (.bool z)), g)
  | .neq => do let (z, g) ← FF p q ls g; let (z, g) := mkNot z g; some (.one (.k (.bool z)), g)
  | _ => none
 | _, _ => none
def Hz : List Au → List C → Option (List L)
 | [], [] => some []
 | s :: ss, .k x :: l => do
  let (u, y) ← x.Qr
  if u.same s then let r ← Hz ss l; some (y :: r) else none
 | _, _ => none
def Eh (s : List Au) : Nat → List C → Option (List L)
 | 0, [] => some []
 | n + 1, l => do
  let a ← Hz s (l.take s.length)
  let r ← Eh s n (l.drop s.length)
  some (a ++ r)
 | _, _ => none
def Jq (rows : List Row) : PS → PV → Option (List L)
 | .c false [s], .one c => Hz [s] [c]
 | .c true ss, .agg l => Hz ss l
 | .slc ss, .one (.k (.slc r off n)) => do
  let row ← rows[r]?
  if row.es != ss.length then none
  let cs ← Dp row.cells (off * ss.length) (n * ss.length)
  let ls ← Eh ss n cs
  some (.n n :: ls)
 | .slc ss, .one (.k (.aslc r off es n _)) => do
  let row ← rows[r]?
  if es != ss.length then none
  let cs ← Dp row.cells off (n * ss.length)
  let ls ← Eh ss n cs
  some (.n n :: ls)
 | .nil, .one (.k .nilslc) => some []
 | _, _ => none
def Ia (rows : List Row) (p : PV) : Option (Nat × L × FD) :=
 match p with
 | .one (.k (.lsl r n)) => do
  let row ← rows[r]?
  let q ← row.lst
  if q.own && n.same q.n then some (r, n, q) else none
 | .one (.k (.fsl r n)) => do
  let row ← rows[r]?
  let q ← row.lst
  if !q.own && n.same q.n then some (r, n, q) else none
 | _ => none
def R7 (rows : List Row) (s : Au) (c : C) : Option L :=
 match s, c with
 | .sl ss, .k (.fsl r n) => do
  let row ← rows[r]?
  let q ← row.lst
  if !q.own && n.same q.n && Ce q.ss ss then some q.x else none
 | .sl _, .k .nilslc => some .e
 | .sl _, _ => none
 | s, .k y => do
  let (u, z) ← y.Qr
  if u.same s then some z else none
 | _, _ => none
def GY (rows : List Row) : List Au → List C → Option (List L)
 | [], [] => some []
 | s :: ss, c :: cs => do let z ← R7 rows s c; let r ← GY rows ss cs; some (z :: r)
 | _, _ => none
def DV (rows : List Row) (ss : List Au) : Nat → List C → Option (List L)
 | 0, [] => some []
 | n + 1, l => do
  let a ← GY rows ss (l.take ss.length)
  let r ← DV rows ss n (l.drop ss.length)
  some (a ++ r)
 | _, _ => none
def Dz (rows : List Row) (ss : List Au) (a : PV) (g : G) : Option (List L × G) :=
 match a with
 | .one (.k (.slc r off n)) => do
  let row ← rows[r]?
  if !row.own || row.es != ss.length || ss.length == 0 then none
  let cs ← Dp row.cells (off * ss.length) (n * ss.length)
  let ls ← DV rows ss n cs
  let (z, g) := g.push .mkl ls
  some ([z, .n n], g)
 | .one (.k .nilslc) => if ss.length == 0 then none else some ([.e, .n 0], g)
 | a => do
  let (_, _, q) ← Ia rows a
  if !Ce q.ss ss then none
  some ([q.x, q.n], g)
def A8 (rows : List Row) : List Au → List C → G → Option (List L × G)
 | [], [], g => some ([], g)
 | .sl ss :: r, c :: cs, g => do
  let (a, g) ← Dz rows ss (.one c) g
  let (b, g) ← A8 rows r cs g
  some (a ++ b, g)
 | s :: r, .k x :: cs, g => do
  let (u, y) ← x.Qr
  if !u.same s then none
  let (b, g) ← A8 rows r cs g
  some (y :: b, g)
 | _, _, _ => none
def OC (rows : List Row) (p : PS) (a : PV) (g : G) : Option (List L × G) :=
 match p with
 | .lst ss => Dz rows ss a g
 | .d true ss => match a with | .agg l => A8 rows ss l g | _ => none
 | .d false ss => match a with | .one c => A8 rows ss [c] g | _ => none
 | p => do let x ← Jq rows p a; some (x, g)
def Ei (rows : List Row) : List PS → List PV → G → Option (List L × G)
 | [], [], g => some ([], g)
 | p :: ps, a :: as, g => do let (x, g) ← OC rows p a g; let (r, g) ← Ei rows ps as g; some (x ++ r, g)
 | _, _, _ => none
def Re : List Au → Nat → List C
 | [], _ => []
 | s :: l, b => .k (s.mk (.var b)) :: Re l (b + 1)
def Rf : List (Bool × List Au) → Nat → Option (List PV × Nat)
 | [], b => some ([], b)
 | (agg, ss) :: l, b => do
  let p ← Et agg (Re ss b)
  let (r, b) ← Rf l (b + ss.length)
  some (p :: r, b)
def Zc : List Au → List L → List C
 | s :: ss, x :: l => .k (s.mk x) :: Zc ss l
 | _, _ => []
def Rg : List (Bool × List Au) → List L → Option (List PV)
 | [], [] => some []
 | (agg, ss) :: rs, l => do
  if l.length < ss.length then none
  let p ← Et agg (Zc ss (l.take ss.length))
  let r ← Rg rs (l.drop ss.length)
  some (p :: r)
 | _, _ => none
def OD : L → Option Int
 | .n x => some x
 | _ => none
def R8 (c : J7) (args : List PV) (rows : List Row) (pc : L) (g : G) : Option (List PV × G) := do
 let (ls, g) ← Ei rows c.ps args g
 if !c.ok (ls.map OD) then none
 match Tf (.call c.f) ls g.known with
 | some (o :: res) => do
  let ps ← Rg c.rs res
  some (ps, g.Bo pc o)
 | _ =>
  match (if marked g then findD (.call c.f) ls 4000 g.defs else none) with
  | some b0 => do
   let (ps, _) ← Rf c.rs (b0 + 1)
   some (ps, g.Bo pc (.var b0))
  | none => do
   let (ps, b) ← Rf c.rs (g.next + 1)
   some (ps, (g.BJ (.call c.f) ls (b - g.next)).2.Bo pc (.var g.next))
def Jr (f : Nat) (args : List PV) (rows : List Row) (pc : L) (g : G) : List (Nat × J7) → Option (List PV × G)
 | [] => none
 | (f', c) :: l => if f' == f then (match R8 c args rows pc g with | some r => some r | none => Jr f args rows pc g l) else Jr f args rows pc g l
def D1 : List Au → Nat → Nat → Option (List C × List Row × Nat)
 | [], b, _ => some ([], [], b)
 | .sl ss :: l, b, r => do
  if ss.length == 0 then none
  let (cs, nw, b') ← D1 l (b + 2) (r + 1)
  some (.k (.fsl r (.var (b + 1))) :: cs, { own := false, ty := 0, es := 0, cells := [], lst := some ⟨false, 0, ss, .var b, .var (b + 1)⟩ } :: nw, b')
 | s :: l, b, r => do
  let (cs, nw, b') ← D1 l (b + 1) r
  some (.k (s.mk (.var b)) :: cs, nw, b')
def Kz : List RS → Nat → Nat → Option (List PV × List Row × Nat)
 | [], b, _ => some ([], [], b)
 | .c agg ss :: l, b, r => do
  let p ← Et agg (Re ss b)
  let (ps, rw, b') ← Kz l (b + ss.length) r
  some (p :: ps, rw, b')
 | .lst ss ty :: l, b, r => do
  let (ps, rw, b') ← Kz l (b + 2) r
  if !rw.isEmpty || !ss.all Au.single || ss.length == 0 then none
  some (.one (.k (.lsl r (.var (b + 1)))) :: ps, [{ own := false, ty := 0, es := 0, cells := [], lst := some ⟨true, ty, ss, .var b, .var (b + 1)⟩ }], b')
 | .d .. :: _, _, _ => none
def FG : List RS → Nat → Nat → Option (List PV × List Row × Nat)
 | [], b, _ => some ([], [], b)
 | .c agg ss :: l, b, r => do
  let p ← Et agg (Re ss b)
  let (ps, rw, b') ← FG l (b + ss.length) r
  some (p :: ps, rw, b')
 | .lst .. :: _, _, _ => none
 | .d agg ss :: l, b, r => do
  let (cs, nw, b1) ← D1 ss b r
  let p ← Et agg cs
  let (ps, rw, b') ← FG l b1 (r + nw.length)
  some (p :: ps, nw ++ rw, b')
def Lb : List PV → SV
 | [p] => .pv p
 | l => .tup l
def Rh (rows : List Row) (r : Nat) : List Nat :=
 match rows[r]? with
 | some row => if row.own || (match row.lst with | some q => q.own | none => false) then [r] else []
 | none => []
def Ld (rows : List Row) : K → List Nat
 | .lsl r _ | .slc r _ _ | .aslc r _ _ _ _ => Rh rows r
 | _ => []
def DA (rows : List Row) : C → List Nat
 | .k x => Ld rows x
 | _ => []
def Ba (rows : List Row) : List PV → List Nat
 | [] => []
 | p :: l => p.cells.flatMap (DA rows) ++ Ba rows l
def EH (l : List Nat) (rows : List Row) : List Row := l.foldl (fun rows r => rows.set r Row.dead) rows
def RS.AbN : RS → Bool
 | .d .. => true
 | _ => false
def R9 (c : WQ) (args : List PV) (rows : List Row) (pc : L) (g : G) : Option (SV × List Row × G) := do
 let (ls, g) ← Ei rows c.ps args g
 if !c.ok (ls.map OD) then none
 if c.rs.any RS.AbN then
  let (ps, news, b) ← FG c.rs (g.next + 1) rows.length
  some (Lb ps, EH (Ba rows args) rows ++ news, (g.BJ (.call c.f) ls (max (b - g.next) c.w)).2.Bo pc (.var g.next))
 else
  let (ps, news, b) ← Kz c.rs (g.next + 1) rows.length
  some (Lb ps, rows ++ news, (g.BJ (.call c.f) ls (max (b - g.next) c.w)).2.Bo pc (.var g.next))
def OE (f : Nat) (args : List PV) (rows : List Row) (pc : L) (g : G) : List (Nat × WQ) → Option (SV × List Row × G)
 | [] => none
 | (f', c) :: l => if f' == f then (match R9 c args rows pc g with | some r => some r | none => OE f args rows pc g l) else OE f args rows pc g l
abbrev Qs := SV × Option (List Row) × G
def one (p : PV) (g : G) : Option Qs := some (.pv p, none, g)
def newRow (rows : List Row) (ty : Nat) (es : Nat) (cells : List C) : List Row := rows ++ [{ own := true, ty, es, cells }]
def Qx (own : Bool) (ss : List Au) (es : Nat) (X x : L) : Nat → Nat → Nat → G → Option (List C × List Row × G)
 | _, _, 0, g => some ([], [], g)
 | k, off, n + 1, g => do
  let s ← ss[off]?
  let (z, g) := g.push (.pix off es) [X, x]
  match s with
  | .sl ss' => do
   if ss'.length == 0 then none
   let (c, g) := g.push (.lln ss'.length) [z]
   let (cs, rs, g) ← Qx own ss es X x (k + 1) (off + 1) n g
   some (.k (.fsl k c) :: cs, { own := false, ty := 0, es := 0, cells := [], lst := some ⟨false, 0, ss', z, c⟩ } :: rs, g)
  | s => do
   let (cs, rs, g) ← Qx own ss es X x k (off + 1) n g
   some (.k (s.mk z) :: cs, rs, g)
def XE (rows : List Row) (ss : List Au) (es : Nat) (x : L) : Nat → List C → L → G → Option (L × G)
 | _, [], X, g => some (X, g)
 | off, c :: r, X, g => do
  let s ← ss[off]?
  let z ← R7 rows s c
  let (X, g) := g.push (.pset off es) [X, x, z]
  XE rows ss es x (off + 1) r X g
def Zd (rows : List Row) (n : Nat) (agg : Bool) (p : PV) (g : G) : Option Qs :=
 match p with
 | .one (.k (.ptr r off)) => do
  let row ← rows[r]?
  let cs ← Dp row.cells off n
  if !cs.all C.Dm then none
  let v ← Et agg cs
  one v g
 | .one (.k (.sptr r off st num x)) => do
  let row ← rows[r]?
  let (cs, g) ← Eg row.cells off st num x n g
  let v ← Et agg cs
  one v g
 | .one (.k (.lptr r off es x nn)) => do
  let row ← rows[r]?
  let q ← row.lst
  if es != q.ss.length || !nn.same q.n then none
  let (cs, news, g) ← Qx q.own q.ss es q.x x rows.length off n g
  let v ← Et agg cs
  if news.isEmpty then one v g else some (.pv v, some (rows ++ news), g)
 | _ => none
def Ze (rows : List Row) (n : Nat) (p v : PV) (g : G) : Option Qs :=
 match p with
 | .one (.k (.ptr r off)) => do
  let row ← rows[r]?
  if !row.own || v.cells.length != n || row.cells.length < off + n then none
  some (.undef, some (rows.set r { row with cells := setCells row.cells off v.cells }), g)
 | .one (.k (.sptr r off st num x)) => do
  let row ← rows[r]?
  if !row.own || v.cells.length != n || st == 0 || n == 0 then none
  let (cs, g) ← E7 row.cells off st num x v.cells g
  some (.undef, some (rows.set r { row with cells := cs }), g)
 | .one (.k (.lptr r off es x nn)) => do
  let row ← rows[r]?
  let q ← row.lst
  if !q.own || v.cells.length != n || es != q.ss.length || !nn.same q.n || es < off + n then none
  let (z, g) ← XE rows q.ss es x off v.cells q.x g
  some (.undef, some (rows.set r { row with lst := some { q with x := z } }), g)
 | _ => none
def DB (fs : List (Nat × Nat)) (X : Ctx) (i : Nat) : Option (Nat × Nat) := do
 let (t, off) ← fs[i]?
 let ty ← X.ty t
 some (off, ty.size)
def Sa (x : L) (n : Nat) (g : G) : L × G :=
 let (a, g) := AK .leq (.n 0) x g
 let (b, g) := AK .lss x (.n n) g
 mkAnd a b g
def Le (x n : L) (g : G) : L × G :=
 let (a, g) := AK .leq (.n 0) x g
 let (b, g) := AK .lss x n g
 mkAnd a b g
def Eu : List K → Option (List (Au × L))
 | [] => some []
 | k :: l => do let x ← k.Qr; let r ← Eu l; some (x :: r)
def WU (rows : List Row) (ty bytes : Nat) (zero : List K) (a b pc : L) (g : G) : Option Qs := do
 let zs ← Eu zero
 if zs.length == 0 || 1000 < bytes then none
 if a.same b then
  let (c, g) := Le a (.n 1000001) g
  let g := g.Bo pc c
  let (z, g) := g.push .rep (a :: zs.map (·.2))
  some (.pv (.one (.k (.lsl rows.length a))), some (AM rows ⟨true, ty, zs.map (·.1), z, a⟩), g)
 else if a.same (.n 0) then
  let (c, g) := Le b (.n 1000001) g
  let g := g.Bo pc c
  some (.pv (.one (.k (.lsl rows.length (.n 0)))), some (AM rows ⟨true, ty, zs.map (·.1), .e, .n 0⟩), g)
 else none
def Zf {α : Type} (rows : List Row) (ty : Nat) (zero : List K) (parts : List α) (g : G) : Option Qs := do
 let zs ← Eu zero
 if zs.length == 0 || !parts.isEmpty then none
 else some (.pv (.one (.k (.lsl rows.length (.n 0)))), some (AM rows ⟨true, ty, zs.map (·.1), .e, .n 0⟩), g)
def Sb (X : Ctx) (rows : List Row) (t : Nat) (op : BinOp) (p q : PV) (pc : L) (g : G) : Option (PV × G) :=
 match q with
 | .one (.k .nilslc) => do
  let ty ← X.ty t
  match ty.kind with
  | .slice _ => do
   let (_, n, _) ← Ia rows p
   let (c, g) := AK .leq (.n 1) n g
   match op with
   | .eql => some (.one (.k (.bool (.t false))), g.Bo pc c)
   | .neq => some (.one (.k (.bool (.t true))), g.Bo pc c)
   | _ => none
  | _ => none
 | _ => none
def Ib (fr : List SV) (gs : List (L × Bool)) (parts : List (Nat × Operand)) : Option (List (Nat × PV)) :=
 match parts with
 | [] => some []
 | (i, x) :: l => do let p ← Db fr gs x; let r ← Ib fr gs l; some ((i, p) :: r)
abbrev Inline := Nat → List PV → List Row → L → G → Option (SV × List Row × G)
def OF (X : Ctx) (inl : Inline) (f : Nat) (args : List PV) (rows : List Row) (pc : L) (g : G) : Option Qs :=
 if (X.fns f).isNone then none else
 match look f X.ctr with
 | some _ => do
  let (ps, g) ← Jr f args rows pc g X.ctr
  some (Lb ps, none, g)
 | none => do
  let (v, rows', g) ← inl f args rows pc g
  some (v, some rows', g)
def Oi (c : L) (a b : PV) (g : G) : Option (PV × G) :=
 match a, b with
 | .one x, .one y => let (z, g) := H8 c x y g; some (.one z, g)
 | .agg x, .agg y => if x.length == y.length then let (z, g) := Bh c x y g; some (.agg z, g) else none
 | _, _ => none
def E9 (c : L) : List PV → List PV → G → Option (List PV × G)
 | [], [], g => some ([], g)
 | a :: l, b :: m, g => do
  let (z, g) ← Oi c a b g
  let (zs, g) ← E9 c l m g
  some (z :: zs, g)
 | _, _, _ => none
def Lf (c : L) (a b : SV) (g : G) : Option (SV × G) :=
 match a, b with
 | .pv x, .pv y => do let (z, g) ← Oi c x y g; some (.pv z, g)
 | .tup x, .tup y => do let (z, g) ← E9 c x y g; some (.tup z, g)
 | _, _ => none
def KA (X : Ctx) (inl : Inline) (x : L) (f h : Nat) (args : List PV) (rows : List Row) (pc : L) (g : G) : Option Qs := do
 let (nx, g) := mkNot x g
 let (p1, g) := mkAnd pc x g
 let (p2, g) := mkAnd pc nx g
 match OF X inl f args rows p1 g with
 | some (v1, none, g) => (match OF X inl h args rows p2 g with
  | some (v2, none, g) => do
   let (v, g) ← Lf x v1 v2 g
   some (v, none, g)
  | _ => none)
 | _ => none
def KB (rows : List Row) (es : Nat) (q : PV) : Option (Nat × List C) :=
 match q with
 | .one (.k (.slc r off n)) => do
  let row ← rows[r]?
  if row.es != es then none
  let cs ← Dp row.cells (off * es) (n * es)
  some (n, cs)
 | .one (.k (.aslc r off es' n _)) => do
  let row ← rows[r]?
  if es' != es then none
  let cs ← Dp row.cells off (n * es)
  some (n, cs)
 | _ => none
def D2 (rows : List Row) (ty es bytes : Nat) (p q : PV) (g : G) : Option Qs := do
 let (m, news) ← KB rows es q
 if m == 0 || 1000 < bytes || es == 0 then none
 match p with
 | .one (.k .nilslc) =>
  if 100000 < m then none else
  some (.pv (.one (.k (.slc rows.length 0 m))), some (newRow rows ty es news), g)
 | .one (.k (.slc r 0 n)) => do
  let row ← rows[r]?
  if !row.own || row.es != es || row.ty != ty || row.cells.length != n * es || 100000 < n + m then none
  some (.pv (.one (.k (.slc rows.length 0 (n + m)))), some (newRow (rows.set r Row.dead) ty es (row.cells ++ news)), g)
 | _ => none
def Js (rows : List Row) (ty es bytes : Nat) (p q : PV) (pc : L) (g : G) : Option Qs :=
 match p with
 | .one (.k (.lsl r n)) => do
  let row ← rows[r]?
  let a ← row.lst
  if !a.own || a.ty != ty || a.ss.length != es || !n.same a.n || 1000 < bytes || es == 0 then none
  let (l, g) ← Dz (rows.set r Row.dead) a.ss q g
  match l with
  | [y, k2] =>
   let (z, g) := g.push .cat [a.x, y]
   let (k, g) := g.push (.lln es) [z]
   let (c, g) := AK .leq (.n 1) k2 g
   let g := g.Bo pc c
   let (c, g) := Le k (.n 1000001) g
   let g := g.Bo pc c
   some (.pv (.one (.k (.lsl rows.length k))), some (AM (rows.set r Row.dead) ⟨true, ty, a.ss, z, k⟩), g)
  | _ => none
 | _ => none
def Jt (rows : List Row) (ty : Nat) (ss : List Au) (es bytes : Nat) (q : PV) (pc : L) (g : G) : Option Qs :=
 if ss.length != es || 1000 < bytes || es == 0 then none else
 match Dz rows ss q g with
 | some ([y, k2], g) =>
  let (z, g) := g.push .cat [.e, y]
  let (k, g) := g.push (.lln es) [z]
  let (c, g) := AK .leq (.n 1) k2 g
  let g := g.Bo pc c
  let (c, g) := Le k (.n 1000001) g
  let g := g.Bo pc c
  some (.pv (.one (.k (.lsl rows.length k))), some (AM rows ⟨true, ty, ss, z, k⟩), g)
 | _ => none
def U2 (ty : Nat) : List (Nat × YZ) → Option (List Au)
 | [] => none
 | (_, m) :: l => if m.grow && m.ty == ty then some m.ss else U2 ty l
def Sd : List Au → Bool
 | [.int _] => true
 | _ => false
def Ri (rows : List Row) (p q : PV) (pc : L) (g : G) : Option Qs :=
 match p with
 | .one (.k (.lsl r n)) =>
  match rows[r]? with
  | none => none
  | some row =>
   match row.lst with
   | none => none
   | some a => if !a.own || !Sd a.ss || !n.same a.n then none else
    match Dz (rows.set r Row.dead) a.ss q g with
    | some ([y, k], g) =>
     let (c, g) := AK .leq (.n 1) n g
     let g := g.Bo pc c
     let (m, g) := g.push .mn [n, k]
     let (z, g) := g.push .cpy [a.x, y, m]
     some (.pv (.one (.k (.int .i64 m))), some (rows.set r { row with lst := some { a with x := z } }), g)
    | _ => none
 | _ => none
def OG (kd : IntKind) : List C → Option (List L)
 | [] => some []
 | .k (.int k x) :: l => if CM k kd then (match OG kd l with | some r => some (x :: r) | none => none) else none
 | _ => none
def Se : List C → IntKind
 | .k (.int k _) :: _ => k
 | _ => .i64
def Rj (kd : IntKind) (z : L) : Nat → Nat → G → List C × G
 | 0, _, g => ([], g)
 | n + 1, j, g =>
  let (x, g) := g.push (.pix 0 1) [z, .n j]
  let (r, g) := Rj kd z n (j + 1) g
  (.k (.int kd x) :: r, g)
def Rk (rows : List Row) (p q : PV) (g : G) : Option Qs :=
 match p with
 | .one (.k (.aslc r off es len _)) =>
  match rows[r]? with
  | none => none
  | some row =>
   if !row.own || es != 1 || len == 0 then none else
   match Dp row.cells off len with
   | none => none
   | some cs =>
    match OG (Se cs) cs with
    | none => none
    | some xs =>
     match Dz (rows.set r Row.dead) [.int (Se cs)] q g with
     | some ([y, k], g) =>
      let (m, g) := g.push .mn [.n len, k]
      let (a, g) := g.push .mkl xs
      let (z, g) := g.push .cpy [a, y, m]
      let (ds, g) := Rj (Se cs) z len 0 g
      some (.pv (.one (.k (.int .i64 m))), some (rows.set r { row with cells := setCells row.cells off ds }), g)
     | _ => none
 | _ => none
def Sf (m : YZ) (args : List PV) (rows : List Row) (pc : L) (g : G) : Option (SV × List Row × G) :=
 match args with
 | [.one (.k (.lsl r n))] =>
  match rows[r]? with
  | none => none
  | some row =>
   match row.lst with
   | none => none
   | some a => if !a.own || !Ce a.ss m.ss || !m.ss.all Au.single || !n.same a.n then none else
    let (c, g) := AK .leq (.n 1) n g
    let g := g.Bo pc c
    some (.tup [], rows.set r { row with lst := some { a with x := .var ((g.BJ (.call m.f) [a.x, n] 2).1 + 1) } }, (g.BJ (.call m.f) [a.x, n] 2).2.Bo pc (.var (g.BJ (.call m.f) [a.x, n] 2).1))
 | _ => none
def Lg (m : YZ) (rows : List Row) (y n x pc : L) (g : G) : Option (SV × List Row × G) :=
 let (c, g) := AK .leq n (.n 1000000) g
 let g := g.Bo pc c
 let (b, g) := g.BJ (.call m.f) [y, n, x] 2
 let g := g.Bo pc (.var b)
 let (k, g) := g.push (.lln 1) [.var (b + 1)]
 some (.pv (.one (.k (.lsl rows.length k))), AM rows ⟨true, m.ty, m.ss, .var (b + 1), k⟩, g)
def OH (m : YZ) (args : List PV) (rows : List Row) (pc : L) (g : G) : Option (SV × List Row × G) :=
 match args with
 | [p, .one (.k (.int .i64 x)), .one (.k (.int .i64 (.n t)))] =>
  if t != 10 || !Sd m.ss then none else
  match p with
  | .one (.k .nilslc) => Lg m rows .e (.n 0) x pc g
  | .one (.k (.lsl r n)) =>
   match rows[r]? with
   | none => none
   | some row => match row.lst with
    | none => none
    | some a => if !a.own || !Ce a.ss m.ss || a.ty != m.ty || !n.same a.n then none else Lg m (rows.set r Row.dead) a.x n x pc g
  | .one (.k (.slc r 0 n)) =>
   match rows[r]? with
   | none => none
   | some row => if !row.own || row.es != 1 || row.ty != m.ty || row.cells.length != n then none else
    match m.ss with
    | [.int kd] => match OG kd row.cells with
     | none => none
     | some xs => let (z, g) := g.push .mkl xs; Lg m (rows.set r Row.dead) z (.n n) x pc g
    | _ => none
  | _ => none
 | _ => none
def MF (d : Nat) : Option PV → Option Nat
 | none => some d
 | some p => match p.int? with | some (_, .n k) => if 0 ≤ k then some k.toNat else none | _ => none
def Sg (es n : Nat) (x : PV) (lo hi : Option PV) (g : G) : Option Qs :=
 match x with
 | .one (.k (.ptr r off)) => do
  let l ← MF 0 lo
  let h ← MF n hi
  if l < h && h ≤ n then one (.one (.k (.aslc r (off + l * es) es (h - l) (n - l)))) g else none
 | _ => none
def Qy (d : L) : Option PV → Option L
 | none => some d
 | some p => match p.int? with | some (_, x) => some x | none => none
def Ic (rows : List Row) (es : Nat) (p : PV) (lo hi : Option PV) (pc : L) (g : G) : Option Qs :=
 match p with
 | .one (.k (.fsl r n)) =>
  match rows[r]? with
  | none => none
  | some row => match row.lst with
   | none => none
   | some a => if a.own || a.ss.length != es || es == 0 || !n.same a.n then none else
    match Qy (.n 0) lo, Qy n hi with
    | some i, some j =>
     let (c, g) := AK .leq (.n 0) i g
     let g := g.Bo pc c
     let (c, g) := AK .leq i j g
     let g := g.Bo pc c
     let (c, g) := AK .leq j n g
     let g := g.Bo pc c
     let (z, g) := g.push (.lsub es) [a.x, i, j]
     let (k, g) := g.push (.lln es) [z]
     some (.pv (.one (.k (.fsl rows.length k))), some (rows ++ [BK a.ss z k]), g)
    | _, _ => none
 | _ => none
def OI (p : PV) (lo hi : Option PV) (pc : L) (g : G) : Option Qs :=
 match p with
 | .one (.k (.str x)) =>
  let (n, g) := H6 x g
  match Qy (.n 0) lo, Qy n hi with
  | some i, some j =>
   let (c, g) := AK .leq (.n 0) i g
   let g := g.Bo pc c
   let (c, g) := AK .leq i j g
   let g := g.Bo pc c
   let (c, g) := AK .leq j n g
   let g := g.Bo pc c
   let (z, g) := g.push .ssub [x, i, j]
   one (.one (.k (.str z))) g
  | _, _ => none
 | _ => none
def Qz : List PV → Option (List K)
 | [] => some []
 | .one (.k x) :: l => do let r ← Qz l; some (x :: r)
 | _ => none
def Zg (fr : List SV) (gs : List (L × Bool)) (x : Operand) (g : G) : Option Qs :=
 match x with
 | .tmp t => (match fr[t]? with
  | some (.cond hs p) => if Y7 hs gs then one p g else none
  | some s => some (s, none, g)
  | none => none)
 | x => do let p ← Db fr gs x; one p g
def bytesOf : List C → Option (List L)
 | [] => some []
 | .k (.int .u8 x) :: l => do let r ← bytesOf l; some (x :: r)
 | _ => none
def XF : List L → Option (List UInt8)
 | [] => some []
 | .n x :: l => do let r ← XF l; some (UInt8.ofNat x.toNat :: r)
 | _ => none
def WV (xs : List L) (g : G) : L × G :=
 match XF xs with
 | some l => (.s l, g)
 | none => let (z, g) := g.push .mkl xs; g.push .mks [z]
def Zh (X : Ctx) (t : Nat) : Bool := match X.ty t with | some ty => (match ty.kind with | .int .u8 => true | _ => false) | none => false
def Abu (X : Ctx) (rows : List Row) (s d : TK) (p : PV) (g : G) : Option Qs :=
 match d, p with
 | .int k, .one (.k (.int _ x)) => let (z, g) := Mz k x g; one (.one (.k (.int k z))) g
 | .string, .one (.k (.slc r o n)) =>
  match s with
  | .slice e => if !Zh X e then none else
   match rows[r]? with
   | none => none
   | some row => if row.es != 1 then none else
    match Dp row.cells o n with
    | none => none
    | some cs => match bytesOf cs with
     | none => none
     | some xs => let (z, g) := WV xs g; one (.one (.k (.str z))) g
  | _ => none
 | .string, p =>
  match s with
  | .slice e => if !Zh X e then none else
   match Dz rows [.int .u8] p g with
   | some ([y, _], g) => let (z, g) := g.push .mks [y]; one (.one (.k (.str z))) g
   | _ => none
  | _ => none
 | .slice e, .one (.k (.str y)) =>
  match s with
  | .string =>
   if !Zh X e then none else
   let (x, g) := g.push .sby [y]
   let (n, g) := g.push .slen [y]
   some (.pv (.one (.k (.fsl rows.length n))), some (rows ++ [BK [.int .u8] x n]), g)
  | _ => none
 | _, _ => none
def execOp (X : Ctx) (inl : Inline) (fr : List SV) (rows : List Row) (gs : List (L × Bool)) (pc : L) (o : Oper) (g : G) : Option Qs :=
 match o.op with
 | .move x | .assign x => Zg fr gs x g
 | .pick c a b => do
  let p ← Db fr gs c
  let x ← p.bool?
  match x with
  | .t true => do let p ← Db fr gs a; one p g
  | .t false => do let p ← Db fr gs b; one p g
  | x => do
   let p ← Db fr ((x, true) :: gs) a
   let q ← Db fr ((x, false) :: gs) b
   match p, q with
   | .one p, .one q => let (r, g) := H8 x p q g; one (.one r) g
   | _, _ => none
 | .alloc t => do
  let ty ← X.ty t
  some (.pv (.one (.k (.ptr rows.length 0))), some (newRow rows t ty.size (E8 ty.zero)), g)
 | .box t x => do
  let ty ← X.ty t
  let p ← Db fr gs x
  if p.cells.length != ty.size then none
  some (.pv (.one (.k (.ptr rows.length 0))), some (newRow rows t ty.size p.cells), g)
 | .build t parts => do
  let ty ← X.ty t
  let ps ← Ib fr gs parts.toList
  match ty.kind with
  | .struct fs => do let cs ← lay (DB fs X) (E8 ty.zero) ps; one (.agg cs) g
  | .arr _ e => do let te ← X.ty e; let cs ← lay (fun i => some (i * te.size, te.size)) (E8 ty.zero) ps; one (.agg cs) g
  | _ => none
 | .buildSlice t n parts => do
  let ty ← X.ty t
  match ty.kind with
  | .slice e => do
   let te ← X.ty e
   if n == 0 then Zf rows e te.zero parts.toList g else
   let ps ← Ib fr gs parts.toList
   if n == 0 || te.size == 0 || 100000 < n * te.size then none
   let cs ← lay (fun i => some (i * te.size, te.size)) ((List.replicate n (E8 te.zero)).flatten) ps
   some (.pv (.one (.k (.slc rows.length 0 n))), some (newRow rows e te.size cs), g)
  | _ => none
 | .load t a => do
  let ty ← X.ty t
  let p ← Db fr gs a
  Zd rows ty.size ty.kind.agg p g
 | .store t a x => do
  let ty ← X.ty t
  let p ← Db fr gs a
  let v ← Db fr gs x
  Ze rows ty.size p v g
 | .nilCheck x => do
  let p ← Db fr gs x
  match p with
  | .one (.k (.ptr ..)) | .one (.k (.sptr ..)) | .one (.k (.lptr ..)) | .one (.clo ..) => one p g
  | _ => none
 | .binOp op t x y _ => do
  let p ← Db fr gs x
  let q ← Db fr gs y
  match Sb X rows t op p q pc g with
  | some (r, g) => one r g
  | none => do
   let (r, g) ← binop X t op p q pc g
   one r g
 | .unOp op _ x => do
  let p ← Db fr gs x
  match op, p with
  | .not, .one (.k (.bool x)) => let (z, g) := mkNot x g; one (.one (.k (.bool z))) g
  | .neg, .one (.k (.int k x)) => let (z, g) := mkNeg k x g; one (.one (.k (.int k z))) g
  | .xor, .one (.k (.int k x)) => let (z, g) := My .xor k (.n (if k.signed then -1 else k.max)) x g; one (.one (.k (.int k z))) g
  | _, _ => none
 | .convert s dst x => do
  let p ← Db fr gs x
  let ts ← X.ty s
  let td ← X.ty dst
  Abu X rows ts.kind td.kind p g
 | .panic _ => some (.junk, none, g.Bo pc (.t false))
 | .makeInterface t _ => do
  let ty ← X.ty t
  match ty.kind with
  | .string => some (.junk, none, g)
  | _ => none
 | .makeFunc (.func f) first captured => do
  let a ← Qu fr gs first.toList
  let b ← Qu fr gs captured.toList
  let a ← Qz a
  let b ← Qz b
  one (.one (.clo f a b)) g
 | .makeSlice t n c => do
  let ty ← X.ty t
  let p ← Db fr gs n
  let q ← Db fr gs c
  match ty.kind, p.int?, q.int? with
  | .slice e, some (_, .n a), some (_, .n b) => do
   let te ← X.ty e
   if a == 0 && b == 0 then WU rows e te.bytes te.zero (.n a) (.n b) pc g else
   if a ≤ 0 || a != b || 1000 < a || 1000 < te.bytes || te.size == 0 then none
   let m := a.toNat
   some (.pv (.one (.k (.slc rows.length 0 m))), some (newRow rows e te.size ((List.replicate m (E8 te.zero)).flatten)), g)
  | .slice e, some (_, a), some (_, b) => do
   let te ← X.ty e
   WU rows e te.bytes te.zero a b pc g
  | _, _, _ => none
 | .slice t x lo hi none => do
  let ty ← X.ty t
  let p ← Db fr gs x
  let l ← GU fr gs lo
  let h ← GU fr gs hi
  match ty.kind with
  | .arr n e => do let te ← X.ty e; Sg te.size n p l h g
  | .slice e => do let te ← X.ty e; Ic rows te.size p l h pc g
  | .string => OI p l h pc g
  | _ => none
 | .fieldAddr s x f => do
  let ty ← X.ty s
  let p ← Db fr gs x
  match ty.kind with
  | .struct fs => do
   let (off, n) ← DB fs X f
   if n == 0 then none
   match p with
   | .one (.k (.ptr r o)) => one (.one (.k (.ptr r (o + off)))) g
   | .one (.k (.sptr r o st num x)) => one (.one (.k (.sptr r (o + off) st num x))) g
   | .one (.k (.lptr r o es x nn)) => one (.one (.k (.lptr r (o + off) es x nn))) g
   | _ => none
  | _ => none
 | .field t x f => do
  let ty ← X.ty t
  let p ← Db fr gs x
  match ty.kind, p with
  | .struct fs, .agg cs => do
   let (u, _) ← fs[f]?
   let tu ← X.ty u
   let (off, n) ← DB fs X f
   let c ← Dp cs off n
   let v ← Et tu.kind.agg c
   one v g
  | _, _ => none
 | .indexAddr t x i => do
  let ty ← X.ty t
  let p ← Db fr gs x
  let q ← Db fr gs i
  let (_, ix) ← q.int?
  match ty.kind, p with
  | .arr n e, .one (.k (.ptr r o)) => do
   let te ← X.ty e
   if n ≤ 1 then none
   match ix with
   | .n k => if 0 ≤ k && k < n then one (.one (.k (.ptr r (o + k.toNat * te.size)))) g else none
   | ix => let (c, g) := Sa ix n g; let g := g.Bo pc c; one (.one (.k (.sptr r o te.size n ix))) g
  | .slice e, .one (.k (.slc r o n)) => do
   let te ← X.ty e
   let row ← rows[r]?
   if row.es != te.size || row.cells.isEmpty then none
   match ix with
   | .n k => if 0 ≤ k && k < n then one (.one (.k (.ptr r ((o + k.toNat) * te.size)))) g else none
   | ix => let (c, g) := Sa ix n g; let g := g.Bo pc c; one (.one (.k (.sptr r (o * te.size) te.size n ix))) g
  | .slice e, .one (.k (.aslc r o es n _)) => do
   let te ← X.ty e
   if es != te.size then none
   match ix with
   | .n k => if 0 ≤ k && k < n then one (.one (.k (.ptr r (o + k.toNat * te.size)))) g else none
   | ix => let (c, g) := Sa ix n g; let g := g.Bo pc c; one (.one (.k (.sptr r o te.size n ix))) g
  | .slice e, p => do
   let te ← X.ty e
   let (r, n, q) ← Ia rows p
   if te.size != q.ss.length then none
   let (c, g) := Le ix n g
   let g := g.Bo pc c
   one (.one (.k (.lptr r 0 te.size ix n))) g
  | _, _ => none
 | .index t x i => do
  let ty ← X.ty t
  let p ← Db fr gs x
  let q ← Db fr gs i
  let (_, ix) ← q.int?
  match ty.kind, p with
  | .arr n e, .agg cs => do
   let te ← X.ty e
   match ix with
   | .n k => do
    if !(0 ≤ k && k < n) then none
    let c ← Dp cs (k.toNat * te.size) te.size
    let v ← Et te.kind.agg c
    one v g
   | ix => do
    let (c, g) := Sa ix n g
    let g := g.Bo pc c
    let (c, g) ← Eg cs 0 te.size n ix te.size g
    let v ← Et te.kind.agg c
    one v g
  | .string, .one (.k (.str y)) =>
   let (n, g) := g.push .slen [y]
   let (c, g) := Le ix n g
   let g := g.Bo pc c
   let (z, g) := g.push .sget [y, ix]
   one (.one (.k (.int .u8 z))) g
  | _, _ => none
 | .extract x i =>
  match x with
  | .tmp t => (match fr[t]? with
   | some (.tup l) => do let p ← l[i]?; one p g
   | _ => none)
  | _ => none
 | .call c => do
  let args ← Qu fr gs c.args.toList
  match c.callee with
  | .value f => do
   let p ← Db fr gs f
   match p with
   | .one (.clo f a b) => OF X inl f (a.map (fun x => .one (.k x)) ++ args ++ b.map (fun x => .one (.k x))) rows pc g
   | .one (.cfn x f h) => KA X inl x f h args rows pc g
   | _ => none
  | .builtin .len => do
   let t ← c.argTypes[0]?
   let ty ← X.ty t
   match ty.kind, args with
   | .slice _, [.one (.k (.slc _ _ n))] => one (.one (.k (.int .i64 (.n n)))) g
   | .slice _, [.one (.k (.aslc _ _ _ n _))] => one (.one (.k (.int .i64 (.n n)))) g
   | .slice _, [.one (.k (.lsl _ n))] | .slice _, [.one (.k (.fsl _ n))] => one (.one (.k (.int .i64 n))) g
   | .slice _, [.one (.k .nilslc)] => one (.one (.k (.int .i64 (.n 0)))) g
   | .slice _, [.one (.k (.val x))] => let (z, g) := g.push .len [x]; one (.one (.k (.int .i64 z))) g
   | .string, [.one (.k (.str x))] => let (z, g) := H6 x g; one (.one (.k (.int .i64 z))) g
   | _, _ => none
  | .builtin .min =>
   match args with
   | [.one (.k (.int k x)), .one (.k (.int k' y))] => if CM k k' then let (z, g) := AaN x y g; one (.one (.k (.int k z))) g else none
   | _ => none
  | .builtin .max =>
   match args with
   | [.one (.k (.int k x)), .one (.k (.int k' y))] => if CM k k' then let (z, g) := g.push .mx [x, y]; one (.one (.k (.int k z))) g else none
   | _ => none
  | .builtin .copy => do
   let t ← c.argTypes[0]?
   let ty ← X.ty t
   match ty.kind, args with
   | .slice e, [p, q] => do
    let te ← X.ty e
    if te.size != 1 then none
    if c.argTypes.toList != [t, t] then none
    match Ri rows p q pc g with
    | some r => some r
    | none => Rk rows p q g
   | _, _ => none
  | .builtin .append => do
   let t ← c.argTypes[0]?
   let ty ← X.ty t
   match ty.kind, args with
   | .slice e, [p, q] => do
    let te ← X.ty e
    if te.size == 0 then none
    if c.argTypes.toList != [t, t] then none
    match p with
    | .one (.k (.lsl ..)) => Js rows e te.size te.bytes p q pc g
    | .one (.k .nilslc) => (match U2 e X.muts with
     | some ss => Jt rows e ss te.size te.bytes q pc g
     | none => D2 rows e te.size te.bytes p q g)
    | _ => D2 rows e te.size te.bytes p q g
   | _, _ => none
  | _ => none
 | _ => none
def Oj (fr : List SV) (ops : List Oper) (o : Oper) : Option (Option (List (L × Bool))) :=
 match o.guard with
 | none => some (some [])
 | some (j, want) => do
  let oj ← ops[j]?
  let d ← oj.dst
  let s ← fr[d]?
  match s with
  | .undef => some none
  | .pv (.one (.k (.bool (.t b)))) => some (if b == want then some [] else none)
  | .pv (.one (.k (.bool x))) => some (some [(x, want)])
  | .cond gs (.one (.k (.bool (.t b)))) => if b == want then some (some gs) else some none
  | .cond gs (.one (.k (.bool x))) => some (some ((x, want) :: gs))
  | _ => none
def U3 (fr : List SV) : Option Nat → SV → List SV
 | none, _ => fr
 | some d, v => fr.set d v
def Zi (gs : List (L × Bool)) (v : SV) : Option SV :=
 match gs, v with
 | [], v => some v
 | gs, .pv p => some (.cond gs p)
 | _, _ => none
def Sh (p : L) (r : Row) (g : G) : Option (Row × G) :=
 match r.lst with
 | some q =>
  if r.own || !r.cells.isEmpty || q.own || q.ss.length == 0 || q.ty != 0 then none else
  let (z, g) := F2 p q.x .e g
  let (m, g) := E6 p q.n (.n 0) g
  some (BK q.ss z m, g)
 | none => none
def Ie (p : L) : List Row → G → Option (List Row × G)
 | [], g => some ([], g)
 | r :: l, g => do
  let (r, g) ← Sh p r g
  let (l, g) ← Ie p l g
  some (r :: l, g)
def Rl (b : Nat) (news : List Row) : K → K
 | .fsl r n => if r < b then .fsl r n else (match news[r - b]? with | some row => (match row.lst with | some q => .fsl r q.n | none => .junk) | none => .junk)
 | k => k
def WW (b : Nat) (news : List Row) : C → C
 | .k x => .k (Rl b news x)
 | .clo f x y => .clo f (x.map (Rl b news)) (y.map (Rl b news))
 | c => c
def Zj (b : Nat) (news : List Row) : PV → PV
 | .one c => .one (WW b news c)
 | .agg l => .agg (l.map (WW b news))
def KC (o : Oper) : Bool := match o.op with | .load .. => true | .slice .. => true | _ => false
def Ju : Option FD → Option FD → Bool
 | none, none => true
 | some p, some q => p.own == q.own && p.ty == q.ty && Ce p.ss q.ss && p.x.same q.x && p.n.same q.n
 | _, _ => false
def DC : List Row → List Row → Bool
 | [], [] => true
 | a :: l, b :: m => a.own == b.own && a.ty == b.ty && a.es == b.es && Kw a.cells b.cells && Ju a.lst b.lst && DC l m
 | _, _ => false
def Si (rows rows1 : List Row) (gs : List (L × Bool)) (v : SV) (g : G) : Option (SV × List Row × G) :=
 match v with
 | .pv (.one (.k (.slc r 0 m))) =>
  if r != rows.length || !DC rows (rows1.take rows.length) || rows1.length != rows.length + 1 then none else
  match rows1[r]? with
  | none => none
  | some row =>
   if !row.own || row.es != 1 || row.cells.length != m then none else
   match OG (Se row.cells) row.cells with
   | none => none
   | some xs =>
    let (z, g) := g.push .mkl xs
    let (q, g) := AW (.t true) gs g
    let (z2, g) := F2 q z .e g
    let (m2, g) := E6 q (.n m) (.n 0) g
    some (.cond gs (.one (.k (.fsl (rows.length + 1) m2))), rows ++ [Row.dead] ++ [BK [.int (Se row.cells)] z2 m2], g)
 | _ => none
def Lh (rows rows' : List Row) (gs : List (L × Bool)) (v : SV) (g : G) : Option (SV × List Row × G) :=
 match v with
 | .pv p => do
  let (q, g) := AW (.t true) gs g
  let (news, g) ← Ie q (rows'.drop rows.length) g
  some (.cond gs (Zj rows.length news p), rows ++ news, g)
 | _ => none
def Sj (rows rows' : List Row) (gs : List (L × Bool)) (o : Oper) (v : SV) (g : G) : Option (SV × List Row × G) :=
 if KC o then Lh rows rows' gs v g
 else if DC rows rows' then
  match v with
  | .pv p => some (.cond gs p, rows', g)
  | _ => none
 else match Si rows rows' gs v g with
  | some r => some r
  | none => if DC rows (rows'.take rows.length) then Lh rows rows' gs v g else none
def Sk (rows : List Row) : List C → List Nat
 | [] => []
 | .k (.lsl r _) :: l => (match rows[r]? with | some row => (match row.lst with | some q => if q.own then [r] else [] | none => []) | none => []) ++ Sk rows l
 | _ :: l => Sk rows l
def Jv : List Nat → List Row → List Row
 | [], rows => rows
 | r :: l, rows => Jv l (H9 r rows.length ⟨[], rows, .t true⟩).rows
def KD (fr : List SV) (gs : List (L × Bool)) (rows : List Row) (o : Oper) : Option (List Row) :=
 match o.op with
 | .call { callee := .builtin .append, args, .. } => (match args.toList with
  | [_, y] => (match Db fr gs y with
   | some (.one (.k (.slc r _ _))) => (match rows[r]? with | some row => (match Sk rows row.cells with | [] => none | l => some (Jv l rows)) | none => none)
   | some (.one (.k (.aslc r _ _ _ _))) => (match rows[r]? with | some row => (match Sk rows row.cells with | [] => none | l => some (Jv l rows)) | none => none)
   | _ => none)
  | _ => none)
 | _ => none
def Jw (X : Ctx) (inl : Inline) (fr : List SV) (rows : List Row) (gs : List (L × Bool)) (pc : L) (o : Oper) (g : G) : Option Qs :=
 match execOp X inl fr rows gs pc o g with
 | some r => some r
 | none => match KD fr gs rows o with
  | none => none
  | some rows1 => match execOp X inl fr rows1 gs pc o g with
   | some (v, some rows2, g') => some (v, some rows2, g')
   | _ => none
def BW (X : Ctx) (inl : Inline) (quiet : Bool) (ops : List Oper) (pc : L) : List Oper → List SV → List Row → G → Option (List SV × List Row × G)
 | [], fr, rows, g => some (fr, rows, g)
 | o :: l, fr, rows, g => do
  let w ← Oj fr ops o
  match w with
  | none => BW X inl quiet ops pc l (U3 fr o.dst .undef) rows g
  | some gs => do
   let (p, g) := AW pc gs g
   let (v0, r, g) ← Jw X inl fr rows gs p o g
   let v ← Zi gs v0
   match r with
   | none => BW X inl quiet ops pc l (U3 fr o.dst v) rows g
   | some rows' =>
    if quiet then none else
    if gs.isEmpty then BW X inl quiet ops pc l (U3 fr o.dst v) rows' g else do
     let (v, rows', g) ← Sj rows rows' gs o v0 g
     BW X inl quiet ops pc l (U3 fr o.dst v) rows' g
def AbO (X : Ctx) (o : Oper) : Bool :=
 match o.op with
 | .alloc _ | .box .. | .buildSlice .. | .makeSlice .. | .store .. => true
 | .call { callee := .value (.func f), .. } => (look f X.ctr).isNone
 | .call { callee := .value _, .. } => true
 | .call { callee := .builtin .append, .. } => true
 | _ => false
def Gm (X : Ctx) : List Oper → Nat
 | [] => 0
 | o :: l => if AbO X o then 0 else Gm X l + 1
def Sl (l : List Oper) : Bool := l.zipIdx.all fun x => x.1.after.toList.all fun e => !Region.binds .any e || decide (e.on < x.2)
def Ol (l : List Oper) (n : Nat) : Bool := l.all fun o => match o.guard with | none => true | some (j, _) => decide (j < n)
def U4 (l : List Oper) (n : Nat) : Bool :=
 decide (n < l.length) && Region.sinkB .any l.toArray n && Region.chainB .any l.toArray n && Sl (l.take n) && Ol (l.take n) n &&
 Region.lexB .any (l.take n).toArray && Region.seqB .any l.toArray (l.length - n) n (Array.replicate n true ++ Array.replicate (l.length - n) false)
structure Nd where
 listed : List Bool
 fr : List SV
 rows : List Row
 g : G
def Dq : List ED → List ED → Bool
 | [], [] => true
 | a :: l, b :: m => a.d.same b.d && L.J1 a.args b.args && L.J1 a.res b.res && Dq l m
 | _, _ => false
def Ej : List Def → List Def → Bool
 | [], [] => true
 | a :: l, b :: m => a.base == b.base && a.d.same b.d && L.J1 a.args b.args && Ej l m
 | _, _ => false
def PV.same : PV → PV → Bool
 | .one a, .one b => a.same b
 | .agg a, .agg b => Kw a b
 | _, _ => false
def Jx : List PV → List PV → Bool
 | [], [] => true
 | a :: l, b :: m => a.same b && Jx l m
 | _, _ => false
def KE : List (L × Bool) → List (L × Bool) → Bool
 | [], [] => true
 | a :: l, b :: m => a.1.same b.1 && a.2 == b.2 && KE l m
 | _, _ => false
def SV.same : SV → SV → Bool
 | .pv a, .pv b => a.same b
 | .tup a, .tup b => Jx a b
 | .cond g a, .cond h b => KE g h && a.same b
 | .undef, .undef | .junk, .junk => true
 | _, _ => false
def Jy : List SV → List SV → Bool
 | [], [] => true
 | a :: l, b :: m => a.same b && Jy l m
 | _, _ => false
def E1 : List Bool → List Bool → Bool
 | [], [] => true
 | a :: l, b :: m => a == b && E1 l m
 | _, _ => false
def Nd.same (a b : Nd) : Bool := Jy a.fr b.fr && DC a.rows b.rows && a.g.next == b.g.next && Ej a.g.defs b.g.defs && L.J1 a.g.obs b.g.obs && Dq a.g.known b.g.known
def ckK (M : Nat) (ρ : Nat → Option Nat) : K → K → Bool
 | .junk, _ => true
 | .int k x, .int k' y => CM k k' && x.same y
 | .bool x, .bool y => x.same y
 | .str x, .str y => x.same y
 | .val x, .val y => x.same y
 | .ptr r o, .ptr r' o' => decide (r < M) && decide (ρ r = some r') && o == o'
 | .sptr r o s n x, .sptr r' o' s' n' x' => decide (r < M) && decide (ρ r = some r') && o == o' && s == s' && n == n' && x.same x'
 | .slc r o n, .slc r' o' n' => decide (r < M) && decide (ρ r = some r') && o == o' && n == n'
 | .aslc r o s n c, .aslc r' o' s' n' c' => decide (r < M) && decide (ρ r = some r') && o == o' && s == s' && n == n' && c == c'
 | .lsl r n, .lsl r' n' => decide (r < M) && decide (ρ r = some r') && n.same n'
 | .lsl r n, .nilslc => decide (r < M) && decide (ρ r = none) && n.same (.n 0)
 | .fsl r n, .fsl r' n' => decide (r < M) && decide (ρ r = some r') && n.same n'
 | .lptr r o s x n, .lptr r' o' s' x' n' => decide (r < M) && decide (ρ r = some r') && o == o' && s == s' && x.same x' && n.same n'
 | .nilslc, .nilslc | .nilptr, .nilptr | .nilfn, .nilfn => true
 | _, _ => false
def C7 {α : Type} (f : α → α → Bool) : List α → List α → Bool
 | [], [] => true
 | a :: l, b :: m => f a b && C7 f l m
 | _, _ => false
def ckC (M : Nat) (ρ : Nat → Option Nat) : C → C → Bool
 | .k .junk, _ => true
 | .k a, .k b => ckK M ρ a b
 | .clo f a b, .clo g c d => f == g && C7 (ckK M ρ) a c && C7 (ckK M ρ) b d
 | _, _ => false
def XG (M : Nat) (ρ : Nat → Option Nat) : PV → PV → Bool
 | .one a, .one b => ckC M ρ a b
 | .agg a, .agg b => C7 (ckC M ρ) a b
 | _, _ => false
def AaP (M : Nat) (ρ : Nat → Option Nat) : SV → SV → Bool
 | .junk, _ => true
 | .undef, .undef => true
 | .pv a, .pv b => XG M ρ a b
 | .tup a, .tup b => C7 (XG M ρ) a b
 | .cond gs a, .cond hs b => KE gs hs && XG M ρ a b
 | _, _ => false
def Row.Sm (r : Row) : Bool := !r.own && r.cells.isEmpty && r.lst.isNone
def WX (M : Nat) (ρ : Nat → Option Nat) (t s : Row) : Bool :=
 t.own == s.own && t.ty == s.ty && t.es == s.es && C7 (ckC M ρ) t.cells s.cells && Ju t.lst s.lst
def Om (t : Row) : Bool :=
 !t.own && t.cells.isEmpty && (match t.lst with | some q => q.own && q.x.same .e && q.n.same (.n 0) && q.ss.length != 0 | none => false)
def Sn (M : Nat) (ρ : Nat → Option Nat) (rows : List Row) (r : Nat) (t : Row) : Bool :=
 t.Sm || (match ρ r with
  | some r' => (match rows[r']? with | some s => WX M ρ t s | none => false)
  | none => Om t)
def Ig (M : Nat) (ρ : Nat → Option Nat) (rows : List Row) : Nat → List Row → Bool
 | _, [] => true
 | r, t :: l => Sn M ρ rows r t && Ig M ρ rows (r + 1) l
def Row.owned (t : Row) : Bool := t.own || (match t.lst with | some q => q.own | none => false)
def Sp : Option Nat → List Nat → List Nat
 | some x, l => x :: l
 | none, l => l
def Cx (ρ : Nat → Option Nat) : Nat → List Row → List Nat
 | _, [] => []
 | r, t :: l => if t.owned then Sp (ρ r) (Cx ρ (r + 1) l) else Cx ρ (r + 1) l
def KF : List Nat → Bool
 | [] => true
 | a :: l => l.all (fun b => a != b) && KF l
def Zk (ρ : Nat → Option Nat) (m : Nat) : Bool := (List.range m).all fun r => decide (ρ r = some r)
def XH (ρ : Nat → Option Nat) (m : Nat) (t s : St) : Bool :=
 C7 (AaP t.rows.length ρ) t.fr s.fr && Ig t.rows.length ρ s.rows 0 t.rows && KF (Cx ρ 0 t.rows) && Zk ρ m && decide (m ≤ s.rows.length) && decide (m ≤ t.rows.length)
def Zl (t s : L) : List (Nat × L) := match t with | .var i => [(i, s)] | _ => []
def mtK : K → K → List (Nat × L) × List (Nat × Option Nat)
 | .int _ x, .int _ y | .bool x, .bool y | .str x, .str y | .val x, .val y => (Zl x y, [])
 | .ptr r _, .ptr r' _ => ([], [(r, some r')])
 | .sptr r _ _ _ x, .sptr r' _ _ _ x' => (Zl x x', [(r, some r')])
 | .slc r _ _, .slc r' _ _ => ([], [(r, some r')])
 | .aslc r _ _ _ _, .aslc r' _ _ _ _ => ([], [(r, some r')])
 | .lsl r n, .lsl r' n' => (Zl n n', [(r, some r')])
 | .lsl r n, .nilslc => (Zl n (.n 0), [(r, none)])
 | .fsl r n, .fsl r' n' => (Zl n n', [(r, some r')])
 | .lptr r _ _ x n, .lptr r' _ _ x' n' => (Zl x x' ++ Zl n n', [(r, some r')])
 | _, _ => ([], [])
def KG {α : Type} (f : α → α → List (Nat × L) × List (Nat × Option Nat)) : List α → List α → List (Nat × L) × List (Nat × Option Nat)
 | a :: l, b :: m => let x := f a b; let y := KG f l m; (x.1 ++ y.1, x.2 ++ y.2)
 | _, _ => ([], [])
def mtC : C → C → List (Nat × L) × List (Nat × Option Nat)
 | .k a, .k b => mtK a b
 | .clo _ a b, .clo _ c d => let x := KG mtK a c; let y := KG mtK b d; (x.1 ++ y.1, x.2 ++ y.2)
 | _, _ => ([], [])
def AbP : PV → PV → List (Nat × L) × List (Nat × Option Nat)
 | .one a, .one b => mtC a b
 | .agg a, .agg b => KG mtC a b
 | _, _ => ([], [])
def Adb : SV → SV → List (Nat × L) × List (Nat × Option Nat)
 | .pv a, .pv b => AbP a b
 | .tup a, .tup b => KG AbP a b
 | .cond _ a, .cond _ b => AbP a b
 | _, _ => ([], [])
def Abv (t s : Row) : List (Nat × L) × List (Nat × Option Nat) :=
 let x := KG mtC t.cells s.cells
 match t.lst, s.lst with
 | some p, some q => (Zl p.x q.x ++ Zl p.n q.n ++ x.1, x.2)
 | _, _ => x
def Abw (m : Nat) (l : List (Nat × Option Nat)) (r : Nat) : Option Nat := if r < m then some r else match look r l with | some x => x | none => none
def Zm (rows : List Row) (ρ : Nat → Option Nat) : Nat → List Row → List (Nat × L)
 | _, [] => []
 | r, t :: l => (match ρ r with
   | some r' => (match rows[r']? with | some s => (Abv t s).1 | none => [])
   | none => (match t.lst with | some q => Zl q.x .e ++ Zl q.n (.n 0) | none => [])) ++ Zm rows ρ (r + 1) l
def Abx (m : Nat) (rows : List Row) : Nat → List Row → List (Nat × Option Nat)
 | _, [] => []
 | r, t :: l => (if r < m then (match rows[r]? with | some s => (Abv t s).2 | none => []) else []) ++ Abx m rows (r + 1) l
def Jz (m : Nat) (t s : St) : List (Nat × L) × (Nat → Option Nat) :=
 let (a, b) := KG Adb t.fr s.fr
 let b := b ++ Abx m s.rows 0 t.rows
 (a ++ Zm s.rows (Abw m b) 0 t.rows, Abw m b)
def EI (X : Ctx) (inl : Inline) (ops : List Oper) (pc : L) (nd : Nd) (i : Nat) : Option Nd := do
 let o ← ops[i]?
 let (fr, rows, g) ← BW X inl false ops pc [o] nd.fr nd.rows nd.g
 if nd.rows.length ≤ rows.length then some ⟨nd.listed.set i true, fr, rows, g⟩ else none
def Zn (p : Option PV) : Bool := match p with
 | some p => (match p.int? with | some (_, .n _) => true | _ => false)
 | none => false
def Sq (X : Ctx) (t : TypeId) : Bool := match look t X.Ay with
 | some ty => (match ty.kind with | .arr .. => true | _ => false)
 | none => false
def Zo (X : Ctx) (fr : List SV) (ops : List Oper) (listed : List Bool) (i : Nat) : Bool :=
 match ops[i]? with
 | some o => (match o.op with
  | .move _ | .assign _ => Region.free .any ops.toArray listed.toArray i
  | .fieldAddr .. => o.guard.isNone && Region.free .any ops.toArray listed.toArray i
  | .indexAddr t _ ix => Sq X t && o.guard.isNone && Zn (Db fr [] ix) && Region.free .any ops.toArray listed.toArray i
  | _ => false)
 | none => false
def AaQ {α β : Type} (f : α → Option β) : List α → Option (List β)
 | [] => some []
 | a :: l => do let b ← f a; let r ← AaQ f l; some (b :: r)
def Zp (X : Ctx) (inl : Inline) (ops : List Oper) (pc : L) (nd : Nd) : Option (List Nd) :=
 let r := Region.ready .any ops.toArray nd.listed.toArray
 match r.find? (Zo X nd.fr ops nd.listed) with
 | some i => do let n ← EI X inl ops pc nd i; some [n]
 | none => if r.isEmpty then none else AaQ (EI X inl ops pc nd) r
def Nd.fits (bs : Nat) (m n : Nd) : Bool :=
 m.g.next == n.g.next && Ej m.g.defs n.g.defs && L.J1 m.g.obs n.g.obs && Dq m.g.known n.g.known &&
 XH (Jz bs ⟨m.fr, m.rows, .t true⟩ ⟨n.fr, n.rows, .t true⟩).2 bs ⟨m.fr, m.rows, .t true⟩ ⟨n.fr, n.rows, .t true⟩
def Th (bs : Nat) (n : Nd) : List Nd → Option (List Nd)
 | [] => some [n]
 | m :: l => if E1 m.listed n.listed then (if m.same n || m.fits bs n then some (m :: l) else none) else do let r ← Th bs n l; some (m :: r)
def OJ (bs : Nat) : List Nd → List Nd → Option (List Nd)
 | [], l => some l
 | n :: ns, l => do let l ← Th bs n l; OJ bs ns l
def Li (X : Ctx) (inl : Inline) (ops : List Oper) (pc : L) (bs : Nat) : List Nd → List Nd → Option (List Nd)
 | [], out => some out
 | nd :: l, out => do
  let ns ← Zp X inl ops pc nd
  let out ← OJ bs ns out
  Li X inl ops pc bs l out
def explore (X : Ctx) (inl : Inline) (ops : List Oper) (pc : L) (bs : Nat) : Nat → List Nd → Option (List Nd)
 | 0, l => some l
 | k + 1, l => do let l ← Li X inl ops pc bs l []; explore X inl ops pc bs k l
def WY (X : Ctx) (inl : Inline) (ops : List Oper) (S : St) (g : G) : Option (St × G) :=
 if Gm X ops == ops.length then
  if Region.lexB .any ops.toArray then do
   let (fr, rows, g) ← BW X inl true ops S.pc ops S.fr S.rows g
   some ({ S with fr, rows }, g)
  else none
 else none
def WZ (X : Ctx) (inl : Inline) (ops : List Oper) (S : St) (g : G) : Option (St × G) :=
 if U4 ops (Gm X ops) then do
  let (fr, rows, g) ← BW X inl true (ops.take (Gm X ops)) S.pc (ops.take (Gm X ops)) S.fr S.rows g
  let (fr, rows, g) ← BW X inl false ops S.pc (ops.drop (Gm X ops)) fr rows g
  some ({ S with fr, rows }, g)
 else none
def Ti (X : Ctx) (inl : Inline) (ops : List Oper) (S : St) (g : G) : Option (St × G) :=
 if Region.noSelect ops.toArray then
  match explore X inl ops S.pc S.rows.length ops.length [⟨List.replicate ops.length false, S.fr, S.rows, g⟩] with
  | some [E] => if (Region.ready .any ops.toArray E.listed.toArray).isEmpty then some ({ S with fr := E.fr, rows := E.rows }, E.g) else none
  | _ => none
 else none
def Zq (X : Ctx) (inl : Inline) (ops : List Oper) (S : St) (g : G) : Option (St × G) :=
 match Ti X inl ops S { g with known := Aco :: g.known } with
 | some (S', g') => (match g'.known with
  | k :: l => if R2 k then some (S', { g' with known := l }) else none
  | [] => none)
 | none => none
def KH (X : Ctx) (inl : Inline) (ops : List Oper) (draw : Bool) (S : St) (g : G) : Option (St × G) :=
 if draw then
  match WY X inl ops S g with
  | some r => some r
  | none => match WZ X inl ops S g with
   | some r => some r
   | none => match Ti X inl ops S g with
    | some r => some r
    | none => match BW X inl false ops S.pc ops S.fr S.rows g with
     | some (_, _, g1) => (match Ti X inl ops S g1 with
      | some r => some r
      | none => Zq X inl ops S g1)
     | none => none
 else do
  let (fr, rows, g) ← BW X inl false ops S.pc ops S.fr S.rows g
  some ({ S with fr, rows }, g)
def isFalse : L → Bool
 | .t false => true
 | _ => false
def results (X : Ctx) (S : St) : List ResultVar → G → Option (List PV × G)
 | [], g => some ([], g)
 | .tmp t :: l, g => do
  let p ← slot S.fr [] t
  let (r, g) ← results X S l g
  some (p :: r, g)
 | .cell a t :: l, g => do
  let p ← slot S.fr [] a
  let ty ← X.ty t
  match p with
  | .one (.k (.ptr r off)) => do
   let row ← S.rows[r]?
   let cs ← Dp row.cells off ty.size
   let v ← Et ty.kind.agg cs
   let (q, g) ← results X S l g
   some (v :: q, g)
  | _ => none
def OK (o : Aq) (g : G) : Option (St × G) :=
 match o with
 | [(.norm, s)] | [(.ret, s)] => some (s, g)
 | [(.norm, s), (.ret, t)] => some (Cj s.pc none s t g)
 | [(.ret, t), (.norm, s)] => some (Cj s.pc none s t g)
 | _ => none
def CX (σ : Nat → L) : L → L
 | .var i => σ i
 | x => x
def XI (σ : Nat → L) : K → K
 | .int k x => .int k (CX σ x)
 | .bool x => .bool (CX σ x)
 | .str x => .str (CX σ x)
 | .val x => .val (CX σ x)
 | .sptr r o s n x => .sptr r o s n (CX σ x)
 | .lsl r n => .lsl r (CX σ n)
 | .fsl r n => .fsl r (CX σ n)
 | .lptr r o s x n => .lptr r o s (CX σ x) (CX σ n)
 | k => k
def U5 (σ : Nat → L) : C → C
 | .k x => .k (XI σ x)
 | .clo f a b => .clo f (a.map (XI σ)) (b.map (XI σ))
 | .cfn x f h => .cfn (CX σ x) f h
def Rm (σ : Nat → L) : PV → PV
 | .one c => .one (U5 σ c)
 | .agg l => .agg (l.map (U5 σ))
def OL (σ : Nat → L) : SV → SV
 | .pv p => .pv (Rm σ p)
 | .tup l => .tup (l.map (Rm σ))
 | .cond gs p => .cond (gs.map fun x => (CX σ x.1, x.2)) (Rm σ p)
 | s => s
def Fa (σ : Nat → L) (r : Row) : Row := { r with cells := r.cells.map (U5 σ), lst := r.lst.map fun q => { q with x := CX σ q.x, n := CX σ q.n } }
def DQ (σ : Nat → L) (s : St) : St := ⟨s.fr.map (OL σ), s.rows.map (Fa σ), CX σ s.pc⟩
def Fb (l : List (Nat × L)) (k : Nat) : List L := (List.range k).map fun i => match look i l with | some x => x | none => .n 0
def BX (ls : List L) (i : Nat) : L := match ls[i]? with | some x => x | none => .n 0
def CN (q : Lp) (ls more : List L) (i : Nat) : L :=
 if i < q.k then (if q.MB.getD i false then BX ls i else .n 0) else BX more (i - q.k)
def Fc (b w : Nat) : List L := (List.range w).map fun j => .var (b + j)
def Lp.tag (q : Lp) (i : Nat) : Tag := if i < q.k then .any else q.tags.getD (i - q.k) .any
def Ih (tg : Nat → Tag) (want : Tag) : L → Bool
 | .var i => tg i == want || tg i == .any
 | _ => true
def XJ (tg : Nat → Tag) : K → Bool
 | .int _ x => Ih tg .i x
 | .bool x => Ih tg .b x
 | .str x => Ih tg .s x
 | .val x => Ih tg .v x
 | .sptr _ _ _ _ x => Ih tg .i x
 | .lsl _ n => Ih tg .i n
 | .fsl _ n => Ih tg .i n
 | .lptr _ _ _ x n => Ih tg .i x && Ih tg .i n
 | _ => true
def U6 (tg : Nat → Tag) : C → Bool
 | .k x => XJ tg x
 | .clo _ a b => a.all (XJ tg) && b.all (XJ tg)
 | .cfn x _ _ => Ih tg .b x
def W1 (tg : Nat → Tag) : PV → Bool
 | .one c => U6 tg c
 | .agg l => l.all (U6 tg)
def W3 (tg : Nat → Tag) : SV → Bool
 | .pv p => W1 tg p
 | .tup l => l.all (W1 tg)
 | .cond _ _ => false
 | _ => true
def U7 (tg : Nat → Tag) (r : Row) : Bool := r.cells.all (U6 tg) && (match r.lst with | some q => Ih tg .any q.x && Ih tg .i q.n | none => true)
def W4 (tg : Nat → Tag) (s : St) : Bool := s.fr.all (W3 tg) && s.rows.all (U7 tg) && Ih tg .b s.pc
def CO (σ : Nat → L) (pc : L) : List (Gk × St) → G → Aq × G
 | [], g => ([], g)
 | (x, s) :: l, g =>
  let (p, g) := mkAnd pc (CX σ s.pc) g
  let (r, g) := CO σ pc l g
  ((x, { DQ σ s with pc := p }) :: r, g)
def JA (pc : L) (a : L) : List L → G → G
 | [], g => g
 | b :: l, g =>
  let (z, g) := mkAnd a b g
  let (z, g) := mkNot z g
  JA pc a l (g.Bo pc z)
def BY (pc : L) : List L → G → G
 | [], g => g
 | a :: l, g => BY pc l (JA pc a l g)
def W5 : List (Gk × St) → Bool
 | [] => true
 | (x, _) :: l => l.all (fun y => !x.same y.1) && W5 l
def Sr (L : Lp) (S : St) (g : G) : Option (Aq × G) := do
 if S.rows.length != L.m then none
 let (a, ρ) := Jz L.m L.tm S
 let ls := Fb a L.k
 if !XH ρ L.m (DQ (BX ls) L.tm) S || !W5 L.outs || !L.outs.all (fun x => W4 L.tag x.2 && decide (L.m ≤ x.2.rows.length)) then none
 let (b, g) := g.BJ (.call L.id) ls (1 + L.w)
 let g := g.Bo S.pc (.var b)
 let σ := CN L ls (Fc (b + 1) L.w)
 let g := BY S.pc (L.outs.map fun x => CX σ x.2.pc) g
 some (CO σ S.pc L.outs g)
def Gn (f : Nat) (p : List Bool) (S : St) (g : G) : List Lp → Option (Aq × G)
 | [] => none
 | L :: l => if L.f == f && C7 (· == ·) L.p p then (match Sr L S g with | some r => some r | none => Gn f p S g l) else Gn f p S g l
def AaR (f : Nat) (p : List Bool) (l : List Lp) : Bool := l.any fun L => L.f == f && C7 (· == ·) L.p p
def Lj (q : Lp) : St := DQ (fun i => if i < q.k then .var i else .n 0) { q.tm with pc := .t true }
def Aby (q : Lp) (ls : List L) : Bool := (List.range q.k).all fun i => !q.MB.getD i false || (BX ls i).same (.var i)
def Zr (q : Lp) (s : St) : Option (List L) :=
 let (a, ρ) := Jz q.m q.tm s
 let ls := Fb a q.k
 if XH ρ q.m (DQ (BX ls) q.tm) s && Aby q ls then some ls else none
def Ss (q : Lp) (o : Aq) : Option (Option (L × List L)) :=
 match Aq.get .norm o with
 | none => some none
 | some s => match Zr q s with | some ls => some (some (s.pc, ls)) | none => none
structure Ex where
 x : Gk
 pc : L
 t : St
 lx : List (Option L)
 deriving Inhabited
def AbQ (q : Lp) (lx : List (Option L)) (i : Nat) : Tag := if i < q.k then .any else match lx.getD (i - q.k) none with | some _ => q.tags.getD (i - q.k) .any | none => .no
def Rn (lx : List (Option L)) : List L := lx.map fun x => match x with | some l => l | none => .n 0
def Tj (k : Nat) : List L := (List.range k).map .var
def AbR (q : Lp) (pc : L) (ml : List (Nat × L)) : List (Option L) :=
 match pc with
 | .var i => ((List.range q.w).map fun j => look (q.k + j) ml).set (i - q.k) (some (.t true))
 | _ => (List.range q.w).map fun j => look (q.k + j) ml
def pcB (q : Lp) : L → Bool
 | .var i => decide (q.k ≤ i) && decide (i < q.k + q.w)
 | .t true => true
 | _ => false
def Zs (q : Lp) (x : Gk) (t s : St) : Option Ex :=
 let (a, ρ) := Jz q.m t s
 let lx := AbR q t.pc a
 if XH ρ q.m (DQ (CN q (Tj q.k) (Rn lx)) t) s && W4 (AbQ q lx) t && pcB q t.pc then some ⟨x, s.pc, t, lx⟩ else none
def Tk (x : Gk) : List (Gk × St) → Option St
 | [] => none
 | (y, t) :: l => if x.same y then some t else Tk x l
def JB (q : Lp) : Aq → Option (List Ex)
 | [] => some []
 | (x, s) :: l => do
  let r ← JB q l
  if x.same .norm then some r else do
  let t ← Tk x q.outs
  let y ← Zs q x t s
  some (y :: r)
mutual
def exec (X : Ctx) : Nat → Nat → List Bool → Code → St → G → Option (Aq × G)
 | 0, _, _, _, _, _ => none
 | n + 1, f, pa, c, S, g =>
  match c with
  | .skip => some ([(.norm, S)], g)
  | .ret => some ([(.ret, S)], g)
  | .exit id => some ([(.exit id, S)], g)
  | .region _ ops draw => do
   let (S, g) ← KH X (inline X n) ops.toList draw S g
   some ([(.norm, S)], g)
  | .seq a b => do
   let (o, g) ← exec X n f (false :: pa) a S g
   match Aq.get .norm o with
   | none => some (o, g)
   | some s =>
    if isFalse s.pc then some (Aq.drop .norm o, g) else do
    let rest := Aq.drop .norm o
    let (o2, g) ← exec X n f (true :: pa) b s g
    if rest.isEmpty then some (o2, g) else
    let (nc, g) := mkNot s.pc g
    some (combine s.pc nc none o2 rest g)
  | .cond c a b => do
   let p ← Db S.fr [] c
   let x ← p.bool?
   match x with
   | .t true => exec X n f (false :: pa) a S g
   | .t false => exec X n f (true :: pa) b S g
   | x => do
    let (nx, g) := mkNot x g
    let (p1, g) := mkAnd S.pc x g
    let (p2, g) := mkAnd S.pc nx g
    let (o1, g) ← exec X n f (false :: pa) a { S with pc := p1 } g
    let (o2, g) ← exec X n f (true :: pa) b { S with pc := p2 } g
    some (combine x nx (some (S.pc, p1, p2)) o1 o2 g)
  | .block id c => do
   let (o, g) ← exec X n f (false :: pa) c S g
   match Aq.get (.exit id) o, Aq.get .norm o with
   | none, _ => some (o, g)
   | some t, none => some ((.norm, t) :: Aq.drop (.exit id) o, g)
   | some t, some s =>
    let (u, g) := Cj s.pc none s t g
    some ((.norm, u) :: Aq.drop (.exit id) (Aq.drop .norm o), g)
  | .loop c => if AaR f pa X.lps then Gn f pa S g X.lps else rounds X n f (false :: pa) c S X.lim g
  | _ => none
def rounds (X : Ctx) : Nat → Nat → List Bool → Code → St → Nat → G → Option (Aq × G)
 | 0, _, _, _, _, _, _ => none
 | n + 1, f, pa, c, S, k, g => do
  if k == 0 then
   let (np, g) := mkNot S.pc g
   some ([], g.Bo (.t true) np)
  else
  let (o, g) ← exec X n f pa c S g
  match Aq.get .norm o with
  | none => some (o, g)
  | some s =>
   let rest := Aq.drop .norm o
   if isFalse s.pc then some (rest, g) else do
   let (o2, g) ← rounds X n f pa c s (match s.pc with | .t true => k | _ => k - 1) g
   if rest.isEmpty then some (o2, g) else
   let (nc, g) := mkNot s.pc g
   some (combine s.pc nc none o2 rest g)
def inline (X : Ctx) : Nat → Inline
 | 0, _, _, _, _, _ => none
 | n + 1, f, args, rows, pc, g =>
  match look f X.big with
  | some _ => OE f args rows pc g X.big
  | none =>
  match look f X.muts with
  | some m => if m.f == f then (if m.grow then OH m args rows pc g else Sf m args rows pc g) else none
  | none => do
  let fn ← X.fns f
  let body ← fn.body
  let fr := args.map .pv ++ List.replicate (fn.ntmps - args.length) .undef
  let (o, g) ← exec X n f [] body ⟨fr, rows, pc⟩ g
  let (s, g) ← OK o g
  let (rs, g) ← results X s fn.results.toList g
  some (Lb rs, s.rows, g)
end
def run (X : Ctx) (n : Nat) (f : Nat) (args : List PV) (rows : List Row) (next : Nat) (known : List ED := []) : Option (SV × List Row × G) :=
 inline X n f args rows (.t true) ⟨next, [], [], known⟩
end Rx
namespace Rx
open Go
@[simp] theorem A.Ai (n : Int) : (A.i n).int = n := rfl
@[simp] theorem A.Ao (t : Bool) : (A.b t).bool = t := rfl
@[simp] theorem A.Abz (x : Value) : (A.v x).val = x := rfl
@[simp] theorem L.Aw (e : Nat → A) (n : Int) : (L.n n).ev e = .i n := rfl
@[simp] theorem L.AS (e : Nat → A) (t : Bool) : (L.t t).ev e = .b t := rfl
@[simp] theorem L.AV (e : Nat → A) : L.e.ev e = .l [] := rfl
@[simp] theorem A.AT (l : List A) : (A.l l).AJ = l := rfl
@[simp] theorem L.Ak (e : Nat → A) (i : Nat) : (L.var i).ev e = e i := rfl
section
variable {T : Nat → List A → Bool × List A} {e : Nat → A}
def Good (T : Nat → List A → Bool × List A) (e : Nat → A) (g : G) : Prop :=
 (∀ d ∈ g.defs, d.holds T e) ∧ (∀ o ∈ g.obs, (o.ev e).bool = true) ∧ (∀ k ∈ g.known, k.holds T e)
theorem U8 {a b : Int} (h : R1 a b = true) : a = b := by simpa [R1] using h
theorem Lk : ∀ {a b : List UInt8}, E0 a b = true → a = b
 | [], [], _ => rfl
 | [], _ :: _, h => by simp [E0] at h
 | _ :: _, [], h => by simp [E0] at h
 | a :: l, b :: m, h => by
  simp only [E0, Bool.and_eq_true, beq_iff_eq] at h
  rw [UInt8.toNat_inj.1 h.1, Lk h.2]
theorem L.Af {a b : L} (h : a.same b = true) : a = b := by
 cases a <;> cases b <;> simp [L.same] at h
 ·rw [U8 h]
 ·rw [h]
 ·rw [Lk h]
 ·rw [h]
 ·rfl
theorem L.Dc : ∀ {a b : List L}, L.J1 a b = true → a = b
 | [], [], _ => rfl
 | [], _ :: _, h => by simp [L.J1] at h
 | _ :: _, [], h => by simp [L.J1] at h
 | _ :: _, _ :: _, h => by
  simp only [L.J1, Bool.and_eq_true] at h
  rw [L.Af h.1, L.Dc h.2]
theorem D.Af {a b : D} (h : a.same b = true) : a = b := of_decide_eq_true h
theorem KI {d : D} {args : List L} : ∀ {l : List ED} {r : List L}, Tf d args l = some r → (∀ k ∈ l, k.holds T e) → d.ev T (args.map (L.ev e)) = r.map (L.ev e)
 | k :: l, r, h, hk => by
  unfold Tf at h
  split at h
  ·rename_i hs
   rw [Bool.and_eq_true] at hs
   injection h with h
   subst h
   have := hk k (by simp)
   unfold ED.holds at this
   rw [← D.Af hs.1, ← L.Dc hs.2]
   exact this
  ·exact KI h fun k hk' => hk k (by simp [hk'])
theorem JC {d : D} {args : List L} : ∀ {n : Nat} {l : List Def} {b : Nat}, findD d args n l = some b → ⟨b, d, args⟩ ∈ l
 | n + 1, x :: l, b, h => by
  unfold findD at h
  split at h
  ·rename_i hs
   rw [Bool.and_eq_true] at hs
   injection h with h
   subst h
   obtain ⟨xb, xd, xa⟩ := x
   have h1 := L.Dc hs.1
   have h2 := D.Af hs.2
   simp only at h1 h2
   rw [h1, h2]
   exact List.mem_cons_self ..
  ·exact List.mem_cons_of_mem _ (JC h)
 | 0, _, _, h => by simp [findD] at h
 | _ + 1, [], _, h => by simp [findD] at h
theorem Ah {g : G} {d : D} {args : List L} (h : Good T e (g.push d args).2) :
  Good T e g ∧ ∀ a, (d.ev T (args.map (L.ev e)))[0]? = some a → (g.push d args).1.ev e = a := by
 unfold G.push at h ⊢
 split at h
 ·rename_i x r hf
  refine ⟨h, fun a ha => ?_⟩
  rw [KI hf h.2.2] at ha
  simpa using ha
 ·rename_i hf
  split at h
  ·rename_i b hb
   refine ⟨h, fun a ha => ?_⟩
   have := h.1 _ (JC hb) 0 a ha
   simpa using this
  ·obtain ⟨h1, h2, h3⟩ := h
   simp only at h1 h2 h3 ⊢
   refine ⟨⟨fun x hx => h1 x (by simp [hx]), h2, h3⟩, fun a ha => ?_⟩
   have := h1 _ (List.mem_cons_self ..) 0 a ha
   simpa using this
theorem Dh {g : G} {d : D} {args : List L} {n : Nat} (h : Good T e (g.BJ d args n).2) :
  Good T e g ∧ ∀ j a, (d.ev T (args.map (L.ev e)))[j]? = some a → e ((g.BJ d args n).1 + j) = a := by
 obtain ⟨h1, h2, h3⟩ := h
 simp only [G.BJ] at h1 h2 h3 ⊢
 exact ⟨⟨fun x hx => h1 x (by simp [hx]), h2, h3⟩, fun j a ha => h1 _ (List.mem_cons_self ..) j a ha⟩
theorem MG {op k a b} {g : G} (h : Good T e (Qt op k a b g).2) : Good T e g ∧ (Qt op k a b g).1.ev e = .i (D0 op k (a.ev e).int (b.ev e).int) := by
 unfold Qt at h ⊢
 split at h <;> rename_i h0
 ·exact ⟨h, by simp⟩
 ·have := Ah h
  exact ⟨this.1, this.2 _ (by simp [D.ev])⟩
theorem Ro {op k a b} {g : G} (h : Good T e (Tg op k a b g).2) : Good T e g ∧ (Tg op k a b g).1.ev e = .i (Ee op k (a.ev e).int (b.ev e).int) := by
 unfold Tg at h ⊢
 split at h <;> rename_i h0
 ·exact ⟨h, by simp⟩
 ·have := Ah h
  exact ⟨this.1, this.2 _ (by simp [D.ev])⟩
theorem Gp {op k a b} {g : G} (h : Good T e (My op k a b g).2) : Good T e g ∧ (My op k a b g).1.ev e = .i (CW op k (a.ev e).int (b.ev e).int) := by
 unfold My at h ⊢
 split at h <;> rename_i h0
 ·exact ⟨h, by simp⟩
 ·have := Ah h
  exact ⟨this.1, this.2 _ (by simp [D.ev])⟩
theorem AB {op a b} {g : G} (h : Good T e (AK op a b g).2) : Good T e g ∧ (AK op a b g).1.ev e = .b (Bg op (a.ev e).int (b.ev e).int) := by
 unfold AK at h ⊢
 split at h <;> rename_i h0
 ·exact ⟨h, by simp⟩
 ·have := Ah h
  exact ⟨this.1, this.2 _ (by simp [D.ev])⟩
theorem Tl {k a} {g : G} (h : Good T e (Mz k a g).2) : Good T e g ∧ (Mz k a g).1.ev e = .i (k.wrap (a.ev e).int) := by
 unfold Mz at h ⊢
 split at h <;> rename_i h0
 ·exact ⟨h, by simp⟩
 ·have := Ah h
  exact ⟨this.1, this.2 _ (by simp [D.ev])⟩
theorem U9 {k a} {g : G} (h : Good T e (mkNeg k a g).2) : Good T e g ∧ (mkNeg k a g).1.ev e = .i (k.wrap (0 - (a.ev e).int)) := by
 unfold mkNeg at h ⊢
 split at h <;> rename_i h0
 ·exact ⟨h, by simp⟩
 ·have := Ah h
  exact ⟨this.1, this.2 _ (by simp [D.ev])⟩
theorem XK {op k a b} {g : G} (h : Good T e (AaM op k a b g).2) : Good T e g ∧ (AaM op k a b g).1.ev e = .i (Ef op k (a.ev e).int (b.ev e).int) := by
 unfold AaM at h ⊢
 split at h <;> rename_i h0
 ·exact ⟨h, by simp⟩
 ·have := Ah h
  exact ⟨this.1, this.2 _ (by simp [D.ev])⟩
theorem BL {a} {g : G} (h : Good T e (mkNot a g).2) : Good T e g ∧ (mkNot a g).1.ev e = .b (!(a.ev e).bool) := by
 unfold mkNot at h ⊢
 split at h <;> rename_i h0
 ·exact ⟨h, by simp⟩
 ·have := Ah h
  exact ⟨this.1, this.2 _ (by simp [D.ev])⟩
theorem Ny {x} {g : G} (h : Good T e (H6 x g).2) : Good T e g ∧ (H6 x g).1.ev e = .i ((x.ev e).str.size : Int) := by
 unfold H6 at h ⊢
 split at h <;> rename_i h0
 ·exact ⟨h, by simp [L.ev, A.str, A.val, strOf, ByteArray.size]⟩
 ·have := Ah h
  exact ⟨this.1, this.2 _ (by simp [D.ev])⟩
theorem XM {a b} {g : G} (h : Good T e (AaN a b g).2) : Good T e g ∧ (AaN a b g).1.ev e = .i (if (b.ev e).int < (a.ev e).int then (b.ev e).int else (a.ev e).int) := by
 unfold AaN at h ⊢
 split at h <;> rename_i h0
 ·exact ⟨h, rfl⟩
 ·have := Ah h
  exact ⟨this.1, this.2 _ (by simp [D.ev])⟩
theorem KJ {a b} {g : G} (h : Good T e (Q9 a b g).2) : Good T e g ∧ (Q9 a b g).1.ev e = .b ((a.ev e).bool == (b.ev e).bool) := by
 unfold Q9 at h ⊢
 split at h <;> rename_i h0
 ·exact ⟨h, by simp⟩
 ·have := Ah h
  exact ⟨this.1, this.2 _ (by simp [D.ev])⟩
theorem AX {a b} {g : G} (h : Good T e (mkAnd a b g).2) : Good T e g ∧ ((mkAnd a b g).1.ev e).bool = ((a.ev e).bool && (b.ev e).bool) := by
 unfold mkAnd at h ⊢
 split at h
 ·exact ⟨h, by simp⟩
 ·exact ⟨h, by simp⟩
 ·exact ⟨h, by simp⟩
 ·exact ⟨h, by simp⟩
 ·split at h
  ·rename_i hs
   refine ⟨h, ?_⟩
   simp only [hs, if_true]
   rw [← L.Af hs]
   simp
  ·rename_i hs
   have := Ah h
   refine ⟨this.1, ?_⟩
   simp only [hs, Bool.false_eq_true, if_false]
   rw [this.2 (.b ((a.ev e).bool && (b.ev e).bool)) (by simp [D.ev])]
   rfl
theorem Dr {c a b} {g : G} (h : Good T e (E6 c a b g).2) : Good T e g ∧ ((E6 c a b g).1.ev e).int = if (c.ev e).bool then (a.ev e).int else (b.ev e).int := by
 unfold E6 at h ⊢
 split at h
 ·exact ⟨h, by simp⟩
 ·exact ⟨h, by simp⟩
 ·split at h
  ·rename_i hs
   refine ⟨h, ?_⟩
   simp only [hs, if_true]
   rw [← L.Af hs]
   simp
  ·rename_i hs
   have := Ah h
   refine ⟨this.1, ?_⟩
   simp only [hs, Bool.false_eq_true, if_false]
   rw [this.2 (.i (if (c.ev e).bool then (a.ev e).int else (b.ev e).int)) (by simp [D.ev])]
   rfl
theorem Tm {c a b} {g : G} (h : Good T e (R3 c a b g).2) : Good T e g ∧ ((R3 c a b g).1.ev e).int = if (c.ev e).bool then (a.ev e).int else (b.ev e).int := by
 unfold R3 at h ⊢
 split at h
 ·rename_i x hx
  refine ⟨h, ?_⟩
  have := h.1 _ (JC hx) 0 (.i (if (c.ev e).bool then (a.ev e).int else (b.ev e).int)) (by simp [D.ev])
  show (e x).int = _
  simp only [Nat.add_zero] at this
  rw [this]
  rfl
 ·exact Dr h
theorem Ek {c a b} {g : G} (h : Good T e (MA c a b g).2) : Good T e g ∧ ((MA c a b g).1.ev e).bool = if (c.ev e).bool then (a.ev e).bool else (b.ev e).bool := by
 unfold MA at h ⊢
 split at h
 ·exact ⟨h, by simp⟩
 ·exact ⟨h, by simp⟩
 ·split at h
  ·rename_i hs
   refine ⟨h, ?_⟩
   simp only [hs, if_true]
   rw [← L.Af hs]
   simp
  ·rename_i hs
   have := Ah h
   refine ⟨this.1, ?_⟩
   simp only [hs, Bool.false_eq_true, if_false]
   rw [this.2 (.b (if (c.ev e).bool then (a.ev e).bool else (b.ev e).bool)) (by simp [D.ev])]
   rfl
theorem Ii {c a b} {g : G} (h : Good T e (F2 c a b g).2) : Good T e g ∧ (F2 c a b g).1.ev e = if (c.ev e).bool then a.ev e else b.ev e := by
 unfold F2 at h ⊢
 split at h
 ·exact ⟨h, by simp⟩
 ·exact ⟨h, by simp⟩
 ·split at h
  ·rename_i hs
   refine ⟨h, ?_⟩
   simp only [hs, if_true]
   rw [← L.Af hs]
   simp
  ·rename_i hs
   have := Ah h
   refine ⟨this.1, ?_⟩
   simp only [hs, Bool.false_eq_true, if_false]
   rw [this.2 (if (c.ev e).bool then a.ev e else b.ev e) (by simp [D.ev])]
theorem Nz {c a b} {g : G} (h : Good T e (Oy c a b g).2) : Good T e g ∧ ((Oy c a b g).1.ev e).val = if (c.ev e).bool then (a.ev e).val else (b.ev e).val := by
 unfold Oy at h ⊢
 split at h
 ·exact ⟨h, by simp⟩
 ·exact ⟨h, by simp⟩
 ·split at h
  ·rename_i hs
   refine ⟨h, ?_⟩
   simp only [hs, if_true]
   rw [← L.Af hs]
   simp
  ·rename_i hs
   have := Ah h
   refine ⟨this.1, ?_⟩
   simp only [hs, Bool.false_eq_true, if_false]
   rw [this.2 (.v (if (c.ev e).bool then (a.ev e).val else (b.ev e).val)) (by simp [D.ev])]
   rfl
theorem MH {g : G} {c : L} (h : Good T e (g.note c)) : Good T e g ∧ (c.ev e).bool = true := by
 unfold G.note at h
 split at h
 ·rename_i hs
  refine ⟨h, ?_⟩
  obtain ⟨x, hx, hxs⟩ := List.any_eq_true.1 hs
  rw [← L.Af hxs]
  exact h.2.1 x hx
 ·exact ⟨⟨h.1, fun o ho => h.2.1 o (by simp [ho]), h.2.2⟩, h.2.1 _ (by simp)⟩
theorem As {g : G} {pc c : L} (h : Good T e (g.Bo pc c)) : Good T e g ∧ ((pc.ev e).bool = true → (c.ev e).bool = true) := by
 unfold G.Bo at h
 split at h
 ·exact ⟨h, fun _ => rfl⟩
 ·exact ⟨h, fun h => by simp at h⟩
 ·exact ⟨(MH h).1, fun _ => (MH h).2⟩
 ·simp only at h
  obtain ⟨h1, h2⟩ := MH h
  have := Ah h1
  refine ⟨this.1, fun hp => ?_⟩
  rw [this.2 (.b (!(pc.ev e).bool || (c.ev e).bool)) (by simp [D.ev])] at h2
  simpa [hp] using h2
theorem JD {x : L} {n : Nat} {g : G} (h : Good T e (Sa x n g).2) : Good T e g ∧ (((Sa x n g).1.ev e).bool = true ↔ 0 ≤ (x.ev e).int ∧ (x.ev e).int < n) := by
 unfold Sa at h ⊢
 simp only at h ⊢
 have h1 := AX h
 have h2 := AB h1.1
 have h3 := AB h2.1
 refine ⟨h3.1, ?_⟩
 rw [h1.2, h2.2, h3.2, Bool.and_eq_true]
 exact ⟨fun h => ⟨of_decide_eq_true h.1, of_decide_eq_true h.2⟩, fun h => ⟨decide_eq_true h.1, decide_eq_true h.2⟩⟩
theorem DW {x n : L} {g : G} (h : Good T e (Le x n g).2) : Good T e g ∧ (((Le x n g).1.ev e).bool = true ↔ 0 ≤ (x.ev e).int ∧ (x.ev e).int < (n.ev e).int) := by
 unfold Le at h ⊢
 simp only at h ⊢
 have h1 := AX h
 have h2 := AB h1.1
 have h3 := AB h2.1
 refine ⟨h3.1, ?_⟩
 rw [h1.2, h2.2, h3.2, Bool.and_eq_true]
 exact ⟨fun h => ⟨of_decide_eq_true h.1, of_decide_eq_true h.2⟩, fun h => ⟨decide_eq_true h.1, decide_eq_true h.2⟩⟩
theorem Tn {x y pc : L} {g : G} (h : Good T e (ME x y pc g).2) : Good T e g ∧ (ME x y pc g).1.ev e = .v (.string ((x.ev e).str ++ (y.ev e).str)) ∧
  ((pc.ev e).bool = true → ((x.ev e).str.size : Int) ≤ 4611686018427387903 ∧ ((y.ev e).str.size : Int) ≤ 4611686018427387903) := by
 unfold ME at h ⊢
 simp only at h ⊢
 have hz := Ah h
 have hm1 := As hz.1
 have hc1 := AB hm1.1
 have hm2 := As hc1.1
 have hc2 := AB hm2.1
 have hl2 := Ah hc2.1
 have hl1 := Ah hl2.1
 have e1 := hl1.2 (.i ((x.ev e).str.size : Int)) (by simp [D.ev])
 have e2 := hl2.2 (.i ((y.ev e).str.size : Int)) (by simp [D.ev])
 have e3 := hz.2 (.v (.string ((x.ev e).str ++ (y.ev e).str))) (by simp [D.ev])
 refine ⟨hl1.1, e3, fun hpc => ?_⟩
 have b1 := hm2.2 hpc
 rw [hc2.2, e1] at b1
 have b2 := hm1.2 hpc
 rw [hc1.2, e2] at b2
 exact ⟨of_decide_eq_true b1, of_decide_eq_true b2⟩
theorem Va {op k a b pc} {g : G} (h : Good T e (Rc op k a b pc g).2) : Good T e g ∧ (Rc op k a b pc g).1.ev e = .i (Ef op k (a.ev e).int (b.ev e).int) ∧ ((pc.ev e).bool = true → (0 : Int) ≤ (b.ev e).int) := by
 unfold Rc at h ⊢
 simp only at h ⊢
 have hm := XK h
 have hmu := As hm.1
 have hle := AB hmu.1
 refine ⟨hle.1, hm.2, fun hpc => ?_⟩
 have h0 := hmu.2 hpc
 rw [hle.2] at h0
 exact of_decide_eq_true h0
theorem BZ : ∀ {gs : List (L × Bool)} {pc : L} {g : G}, Good T e (AW pc gs g).2 →
  Good T e g ∧ (((AW pc gs g).1.ev e).bool = true ↔ (pc.ev e).bool = true ∧ ∀ x ∈ gs, (x.1.ev e).bool = x.2)
 | [], pc, g, h => by simpa [AW] using h
 | (x, t) :: l, pc, g, h => by
  unfold AW at h ⊢
  cases t
  ·simp only [Bool.false_eq_true, if_false] at h ⊢
   have h1 := BZ h
   have h2 := AX h1.1
   have h3 := BL h2.1
   refine ⟨h3.1, ?_⟩
   rw [h1.2, h2.2, h3.2]
   simp [and_assoc]
  ·simp only [if_true] at h ⊢
   have h1 := BZ h
   have h2 := AX h1.1
   refine ⟨h2.1, ?_⟩
   rw [h1.2, h2.2]
   simp [and_assoc]
end
end Rx
namespace Rx
open Go Go.RowKit
structure Lc where
 blk : Nat
 off : Nat
 cap : Nat
 es : Nat
 v : Value
 emp : Bool
 deriving Inhabited
abbrev Lc.QA (b o c s : Nat) : Lc := ⟨b, o, c, s, Go.undef, false⟩
def Au.Bl : Au → A → Value
 | .int k, a => .int k a.int
 | .bool, a => .bool a.bool
 | .str, a => .string a.str
 | .val, a => GS a.val
 | .sl _, _ => .slice none 0 0
def B0 (ss : List Au) (as : List A) : List Value := as.zipIdx.map fun x => (ss.getD (x.2 % ss.length) .bool).Bl x.1
theorem Gq {ss : List Au} {as : List A} (j : Nat) : (B0 ss as)[j]? = as[j]?.map fun a => (ss.getD (j % ss.length) .bool).Bl a := by
 simp only [B0, List.getElem?_map, List.getElem?_zipIdx, Option.map_map]
 congr 1
 funext a
 simp
theorem Cf {ss : List Au} {as : List A} : (B0 ss as).length = as.length := by simp [B0]
inductive GZ (M : Addr → Option Value) : Au → A → Value → Prop
 | sc {s : Au} {a : A} : s.single = true → GZ M s a (s.Bl a)
 | emp {ss : List Au} {b : Option Addr} {c : Nat} : GZ M (.sl ss) (.l []) (.slice b 0 c)
 | sl {ss : List Au} {as : List A} {us : List Value} {b o n c : Nat} : n ≤ c → 0 < ss.length → as.length = n * ss.length → us.length = as.length →
   (∀ (j : Nat) u, us[j]? = some u → M ⟨b, o + j, none⟩ = some u) → (∀ (j : Nat) s a u, ss[j % ss.length]? = some s → as[j]? = some a → us[j]? = some u → GZ M s a u) → GZ M (.sl ss) (.l as) (.slice (some ⟨b, o, none⟩) n c)
theorem GZ.mono {M M' : Addr → Option Value} (h : ∀ a u, M a = some u → M' a = some u) {s : Au} {a : A} {v : Value} (hf : GZ M s a v) : GZ M' s a v := by
 induction hf with
 | sc h1 => exact .sc h1
 | emp => exact .emp
 | sl hc h0 h1 h2 h3 _ ih => exact .sl hc h0 h1 h2 (fun j u hu => h _ _ (h3 j u hu)) ih
theorem GZ.single {M : Addr → Option Value} {s : Au} {a : A} {v : Value} (h : GZ M s a v) (hs : s.single = true) : v = s.Bl a := by
 cases h with
 | sc => rfl
 | emp => simp [Au.single] at hs
 | sl => simp [Au.single] at hs
structure Bd where
 n : Nat
 F : Nat → Prop
def Bd.own (B : Bd) (k : Nat) : Prop := B.n ≤ k ∧ ¬ B.F k
def Bd.le (B : Bd) (w : World) : Prop := B.n ≤ w.heap.size ∧ ∀ k, B.F k → k < w.heap.size
theorem Bd.le.mono {B : Bd} {w w' : World} (h : B.le w) (hs : w.heap.size ≤ w'.heap.size) : B.le w' := ⟨Nat.le_trans h.1 hs, fun k hk => Nat.lt_of_lt_of_le (h.2 k hk) hs⟩
theorem Bd.le.new {B : Bd} {w : World} (h : B.le w) : B.own w.heap.size := ⟨h.1, fun hk => Nat.lt_irrefl _ (h.2 _ hk)⟩
theorem Bd.le.Zt {B : Bd} {w : World} (h : B.le w) {k : Nat} (hk : w.heap.size ≤ k) : B.own k := ⟨Nat.le_trans h.1 hk, fun hf => absurd (h.2 _ hf) (by omega)⟩
open Classical in
noncomputable def Dy (F : Nat → Prop) (w : World) (a : Addr) : Option Value := if F a.block then w.cell? a else none
theorem Vb {F : Nat → Prop} {w w' : World} (hw : ∀ k, F k → w'.heap[k]? = w.heap[k]?) : Dy F w' = Dy F w := by
 funext a
 unfold Dy
 split
 ·rename_i h
  exact World.cell?_of_block (w := w) (hw _ h)
 ·rfl
theorem Ds {F : Nat → Prop} {w : World} {a : Addr} {u : Value} (h : Dy F w a = some u) : w.cell? a = some u ∧ F a.block := by
 unfold Dy at h
 split at h
 ·rename_i hf; exact ⟨h, hf⟩
 ·cases h
theorem DD {F : Nat → Prop} {w : World} {a : Addr} {u : Value} (h : w.cell? a = some u) (hf : F a.block) : Dy F w a = some u := by
 unfold Dy
 rw [if_pos hf]
 exact h
theorem Gr {F F' : Nat → Prop} {w w' : World} (h : ∀ k, F k → F' k) (hw : ∀ k, F k → w'.heap[k]? = w.heap[k]?) (a : Addr) (u : Value) (ha : Dy F w a = some u) : Dy F' w' a = some u := by
 obtain ⟨h1, h2⟩ := Ds ha
 exact DD ((World.cell?_of_block (w := w) (hw _ h2)).trans h1) (h _ h2)
noncomputable abbrev CF (B : Bd) (w : World) : Addr → Option Value := Dy B.F w
theorem DX {B : Bd} {w w' : World} (hw : ∀ k, B.F k → w'.heap[k]? = w.heap[k]?) : CF B w' = CF B w := Vb hw
abbrev Loc := Nat → Lc
section
variable {T : Nat → List A → Bool × List A} {e : Nat → A}
def K.Bl (e : Nat → A) (loc : Loc) : K → Value
 | .int k x => .int k (x.ev e).int
 | .bool x => .bool (x.ev e).bool
 | .str x => .string (x.ev e).str
 | .val x => GS (x.ev e).val
 | .ptr r o => .pointer (some ⟨(loc r).blk, (loc r).off + o, none⟩)
 | .sptr r o st _ x => .pointer (some ⟨(loc r).blk, (loc r).off + (o + st * (x.ev e).int.toNat), none⟩)
 | .slc r o n => .slice (some ⟨(loc r).blk, (loc r).off + o * (loc r).es, none⟩) n ((loc r).cap - o)
 | .aslc r o _ n c => .slice (some ⟨(loc r).blk, (loc r).off + o, none⟩) n c
 | .lsl r n => if (loc r).emp then (loc r).v else .slice (some ⟨(loc r).blk, (loc r).off, none⟩) (n.ev e).int.toNat (loc r).cap
 | .fsl r _ => (loc r).v
 | .lptr r o st x _ => .pointer (some ⟨(loc r).blk, (loc r).off + (o + st * (x.ev e).int.toNat), none⟩)
 | .nilslc => .slice none 0 0
 | .nilptr => .pointer none
 | .nilfn => .nilFunc
 | .junk => Go.undef
def K.ok (e : Nat → A) (n : Nat) (loc : Loc) : K → Prop
 | .ptr r _ => r < n
 | .sptr r _ _ num x => r < n ∧ 0 ≤ (x.ev e).int ∧ (x.ev e).int < num
 | .slc r _ _ => r < n
 | .aslc r _ _ _ _ => r < n
 | .lsl r k => r < n ∧ 0 ≤ (k.ev e).int ∧ ((loc r).emp = true → (loc r).v = .slice none 0 0 ∧ (k.ev e).int = 0)
 | .fsl r k => r < n ∧ 0 ≤ (k.ev e).int ∧ ∃ a c, (loc r).v = .slice a (k.ev e).int.toNat c
 | .lptr r _ _ x k => r < n ∧ 0 ≤ (x.ev e).int ∧ (x.ev e).int < (k.ev e).int
 | _ => True
def K.rel (e : Nat → A) (n : Nat) (loc : Loc) (k : K) (v : Value) : Prop :=
 k.ok e n loc ∧ v.oneCell' = true ∧ (k = .junk ∨ v = k.Bl e loc)
def C8 (e : Nat → A) (n : Nat) (loc : Loc) : List K → List Value → Prop
 | [], [] => True
 | k :: l, v :: m => k.rel e n loc v ∧ C8 e n loc l m
 | _, _ => False
def C.rel (e : Nat → A) (n : Nat) (loc : Loc) : C → Value → Prop
 | .k x, v => x.rel e n loc v
 | .clo f a b, v => ∃ va vb : List Value, v = .func (.func f) va.toArray vb.toArray ∧ C8 e n loc a va ∧ C8 e n loc b vb
 | .cfn x f h, v => v = .func (.func (if (x.ev e).bool then f else h)) #[] #[]
def Aj (e : Nat → A) (n : Nat) (loc : Loc) : List C → List Value → Prop
 | [], [] => True
 | k :: l, v :: m => k.rel e n loc v ∧ Aj e n loc l m
 | _, _ => False
def PV.rel (e : Nat → A) (n : Nat) (loc : Loc) : PV → Value → Prop
 | .one c, v => c.rel e n loc v
 | .agg l, v => ∃ vs : List Value, v = .agg vs.toArray ∧ Aj e n loc l vs
def AA (e : Nat → A) (n : Nat) (loc : Loc) : List PV → List Value → Prop
 | [], [] => True
 | k :: l, v :: m => k.rel e n loc v ∧ AA e n loc l m
 | _, _ => False
def Holds (e : Nat → A) (gs : List (L × Bool)) : Prop := ∀ x ∈ gs, (x.1.ev e).bool = x.2
def SV.rel (e : Nat → A) (n : Nat) (loc : Loc) : SV → Value → Prop
 | .pv p, v => p.rel e n loc v
 | .tup l, v => ∃ vs : List Value, v = .tuple vs.toArray ∧ AA e n loc l vs
 | .cond gs p, v => (Holds e gs → p.rel e n loc v) ∧ (¬ Holds e gs → v = Go.undef)
 | .undef, v => v = Go.undef
 | .junk, _ => True
def AO (n : Nat) (loc loc' : Loc) : Prop := ∀ r, r < n → loc' r = loc r
theorem AO.refl (n : Nat) (loc : Loc) : AO n loc loc := fun _ _ => rfl
theorem AO.trans {n m : Nat} {a b c : Loc} (h : AO n a b) (k : AO m b c) (hn : n ≤ m) : AO n a c :=
 fun r hr => (k r (Nat.lt_of_lt_of_le hr hn)).trans (h r hr)
variable {n n' : Nat} {loc loc' : Loc}
theorem K.BU {k : K} {v : Value} (h : k.rel e n loc v) (hl : AO n loc loc') (hn : n ≤ n') : k.rel e n' loc' v := by
 obtain ⟨h1, h2, h3⟩ := h
 refine ⟨?_, h2, ?_⟩
 ·cases k <;> simp only [K.ok] at h1 ⊢ <;> first | trivial | exact h1 | exact Nat.lt_of_lt_of_le h1 hn | exact ⟨Nat.lt_of_lt_of_le h1.1 hn, h1.2⟩ | (rw [hl _ h1.1]; exact ⟨Nat.lt_of_lt_of_le h1.1 hn, h1.2⟩)
 ·rcases h3 with h3 | h3
  ·exact .inl h3
  ·refine .inr ?_
   rw [h3]
   cases k <;> simp only [K.ok] at h1 <;> simp only [K.Bl]
   ·rw [hl _ h1]
   ·rw [hl _ h1.1]
   ·rw [hl _ h1]
   ·rw [hl _ h1]
   ·rw [hl _ h1.1]
   ·rw [hl _ h1.1]
   ·rw [hl _ h1.1]
theorem MI : ∀ {l : List K} {m : List Value}, C8 e n loc l m → AO n loc loc' → n ≤ n' → C8 e n' loc' l m
 | [], [], _, _, _ => trivial
 | _ :: _, _ :: _, h, hl, hn => ⟨K.BU h.1 hl hn, MI h.2 hl hn⟩
theorem C.BU {c : C} {v : Value} (h : c.rel e n loc v) (hl : AO n loc loc') (hn : n ≤ n') : c.rel e n' loc' v := by
 cases c with
 | k x => exact K.BU h hl hn
 | clo f a b =>
  obtain ⟨va, vb, h1, h2, h3⟩ := h
  exact ⟨va, vb, h1, MI h2 hl hn, MI h3 hl hn⟩
 | cfn x f h' => exact h
theorem Gs : ∀ {l : List C} {m : List Value}, Aj e n loc l m → AO n loc loc' → n ≤ n' → Aj e n' loc' l m
 | [], [], _, _, _ => trivial
 | _ :: _, _ :: _, h, hl, hn => ⟨C.BU h.1 hl hn, Gs h.2 hl hn⟩
theorem PV.BU {p : PV} {v : Value} (h : p.rel e n loc v) (hl : AO n loc loc') (hn : n ≤ n') : p.rel e n' loc' v := by
 cases p with
 | one c => exact C.BU h hl hn
 | agg l =>
  obtain ⟨vs, h1, h2⟩ := h
  exact ⟨vs, h1, Gs h2 hl hn⟩
theorem OM : ∀ {l : List PV} {m : List Value}, AA e n loc l m → AO n loc loc' → n ≤ n' → AA e n' loc' l m
 | [], [], _, _, _ => trivial
 | _ :: _, _ :: _, h, hl, hn => ⟨PV.BU h.1 hl hn, OM h.2 hl hn⟩
theorem SV.BU {p : SV} {v : Value} (h : p.rel e n loc v) (hl : AO n loc loc') (hn : n ≤ n') : p.rel e n' loc' v := by
 cases p with
 | pv c => exact PV.BU h hl hn
 | tup l =>
  obtain ⟨vs, h1, h2⟩ := h
  exact ⟨vs, h1, OM h2 hl hn⟩
 | cond gs p => exact ⟨fun hg => PV.BU (h.1 hg) hl hn, h.2⟩
 | undef => exact h
 | junk => trivial
theorem AR : ∀ {l : List C} {m : List Value}, Aj e n loc l m → l.length = m.length
 | [], [], _ => rfl
 | _ :: _, _ :: _, h => by simp [AR h.2]
theorem G0 : ∀ {l : List PV} {m : List Value}, AA e n loc l m → l.length = m.length
 | [], [], _ => rfl
 | _ :: _, _ :: _, h => by simp [G0 h.2]
theorem Dt : ∀ {l : List C} {m : List Value}, Aj e n loc l m → ∀ {j : Nat} {c : C}, l[j]? = some c → ∃ v, m[j]? = some v ∧ c.rel e n loc v
 | [], [], _, j, c, h => by simp at h
 | a :: l, b :: m, h, 0, c, hc => by simp at hc; subst hc; exact ⟨b, rfl, h.1⟩
 | a :: l, b :: m, h, j + 1, c, hc => by simpa using Dt h.2 (j := j) (by simpa using hc)
theorem EJ : ∀ {l : List C} {m : List Value} {l' : List C} {m' : List Value}, Aj e n loc l m → Aj e n loc l' m' → Aj e n loc (l ++ l') (m ++ m')
 | [], [], _, _, _, h => h
 | _ :: _, _ :: _, _, _, h, h' => ⟨h.1, EJ h.2 h'⟩
theorem Fe : ∀ {l : List C} {m : List Value}, Aj e n loc l m → ∀ k, Aj e n loc (l.take k) (m.take k)
 | [], [], _, k => by simp [Aj]
 | _ :: _, _ :: _, h, 0 => by simp [Aj]
 | _ :: _, _ :: _, h, k + 1 => ⟨h.1, Fe h.2 k⟩
theorem Ff : ∀ {l : List C} {m : List Value}, Aj e n loc l m → ∀ k, Aj e n loc (l.drop k) (m.drop k)
 | [], [], _, k => by simp [Aj]
 | _ :: _, _ :: _, h, 0 => h
 | _ :: _, _ :: _, h, k + 1 => by simpa using Ff h.2 k
theorem Gt : ∀ {l : List C} {m : List Value} {c : C} {v : Value}, Aj e n loc l m → c.rel e n loc v → ∀ k, Aj e n loc (l.set k c) (m.set k v)
 | [], [], _, _, _, _, k => by simp [Aj]
 | _ :: _, _ :: _, _, _, h, hc, 0 => ⟨hc, h.2⟩
 | _ :: _, _ :: _, _, _, h, hc, k + 1 => ⟨h.1, Gt h.2 hc k⟩
theorem Br {l : List C} {off k : Nat} {r : List C} (h : Dp l off k = some r) : off + k ≤ l.length ∧ r = (l.drop off).take k ∧ r.length = k := by
 unfold Dp at h
 split at h
 ·rename_i h0
  injection h with h
  subst h
  exact ⟨h0, rfl, by simp; omega⟩
 ·cases h
theorem C.On {c : C} {v : Value} (h : c.rel e n loc v) : v.oneCell' = true := by
 cases c with
 | k x => exact h.2.1
 | clo f a b => obtain ⟨_, _, rfl, _⟩ := h; rfl
 | cfn x f h' => rw [show v = _ from h]; rfl
theorem Gu : ∀ {l : List C} {m : List Value}, Aj e n loc l m → ∀ v ∈ m, v.oneCell' = true
 | [], [], _, v, hv => by cases hv
 | _ :: _, b :: m, h, v, hv => by
  rcases List.mem_cons.1 hv with rfl | hv
  ·exact C.On h.1
  ·exact Gu h.2 v hv
theorem XN {v : Value} (h : v.oneCell' = true) : v.cells = #[v] := by
 cases v <;> simp [Value.oneCell'] at h <;> rfl
theorem PV.Gv {p : PV} {v : Value} (h : p.rel e n loc v) : ∃ vs, v.cells = vs.toArray ∧ Aj e n loc p.cells vs := by
 cases p with
 | one c => exact ⟨[v], XN (C.On h), h, trivial⟩
 | agg l => obtain ⟨vs, rfl, h2⟩ := h; exact ⟨vs, rfl, h2⟩
theorem BG {agg : Bool} {l : List C} {p : PV} (h : Et agg l = some p) : (agg = true ∧ p = .agg l) ∨ (agg = false ∧ ∃ c, l = [c] ∧ p = .one c) := by
 unfold Et at h
 cases agg with
 | true => simp at h; exact .inl ⟨rfl, h.symm⟩
 | false =>
  simp only [Bool.false_eq_true, if_false] at h
  split at h
  ·injection h with h; exact .inr ⟨rfl, _, rfl, h.symm⟩
  ·cases h
def AH (e : Nat → A) (n : Nat) (loc : Loc) (w : World) (B : Bd) (r : Nat) (row : Row) : Prop :=
 if row.own = true then
  (loc r).off = 0 ∧ (loc r).es = row.es ∧ B.own (loc r).blk ∧ (loc r).cap ≤ maxLen ∧
   ∃ vs spare : List Value, w.heap[(loc r).blk]? = some (.cells (vs ++ spare).toArray row.ty (0, 0)) ∧ Aj e n loc row.cells vs ∧ (vs ++ spare).length = (loc r).cap * row.es
 else
  row.cells ≠ [] → (loc r).es = row.es ∧ B.F (loc r).blk ∧ ∀ j c, row.cells[j]? = some c → ∃ v, w.cell? ⟨(loc r).blk, (loc r).off + j, none⟩ = some v ∧ c.rel e n loc v
def Cg (M : Addr → Option Value) (ss : List Au) (as : List A) (us : List Value) : Prop :=
 us.length = as.length ∧ ∀ (j : Nat) s a u, ss[j % ss.length]? = some s → as[j]? = some a → us[j]? = some u → GZ M s a u
theorem Cg.mono {M M' : Addr → Option Value} {ss : List Au} {as : List A} {us : List Value} (h : ∀ a u, M a = some u → M' a = some u) (hd : Cg M ss as us) : Cg M' ss as us :=
 ⟨hd.1, fun j s a u h1 h2 h3 => (hd.2 j s a u h1 h2 h3).mono h⟩
theorem Cg.single {M : Addr → Option Value} {ss : List Au} {as : List A} {us : List Value} (hs : 0 < ss.length) (hsg : ss.all Au.single = true) (hd : Cg M ss as us) : us = B0 ss as := by
 apply List.ext_getElem?
 intro j
 rw [Gq]
 by_cases hj : j < as.length
 ·have ha : as[j]? = some as[j] := List.getElem?_eq_getElem hj
  have hu : us[j]? = some (us[j]'(by rw [hd.1]; exact hj)) := List.getElem?_eq_getElem _
  have hlt := Nat.mod_lt j hs
  have h1 : ss[j % ss.length]? = some ss[j % ss.length] := List.getElem?_eq_getElem hlt
  have h2 := hd.2 j _ _ _ h1 ha hu
  rw [List.all_eq_true] at hsg
  rw [hu, ha, h2.single (hsg _ (List.getElem_mem hlt))]
  simp [List.getD, h1]
 ·rw [List.getElem?_eq_none (by rw [hd.1]; omega), List.getElem?_eq_none (by omega)]
  rfl
theorem Cg.Gw {M : Addr → Option Value} {ss : List Au} {as : List A} (hs : 0 < ss.length) (hsg : ss.all Au.single = true) : Cg M ss as (B0 ss as) :=
 ⟨Cf, fun j s a u h1 h2 h3 => by
  rw [Gq, h2] at h3
  simp only [Option.map_some, Option.some.injEq] at h3
  have h4 : ss.getD (j % ss.length) .bool = s := by simp [List.getD, h1]
  rw [h4] at h3
  subst h3
  rw [List.all_eq_true] at hsg
  exact .sc (hsg _ (List.mem_of_getElem? h1))⟩
theorem Cg.append {M : Addr → Option Value} {ss : List Au} {as bs : List A} {us vs : List Value} (hm : as.length % ss.length = 0) (h : Cg M ss as us) (h' : Cg M ss bs vs) : Cg M ss (as ++ bs) (us ++ vs) := by
 refine ⟨by simp [h.1, h'.1], fun j s a u h1 h2 h3 => ?_⟩
 by_cases hj : j < as.length
 ·rw [List.getElem?_append_left hj] at h2
  rw [List.getElem?_append_left (by rw [h.1]; exact hj)] at h3
  exact h.2 j s a u h1 h2 h3
 ·rw [List.getElem?_append_right (by omega)] at h2
  rw [List.getElem?_append_right (by rw [h.1]; omega), h.1] at h3
  have : j % ss.length = (j - as.length) % ss.length := by
   conv => lhs; rw [show j = (j - as.length) + as.length by omega]
   rw [Nat.add_mod, hm, Nat.add_zero, Nat.mod_mod]
  rw [this] at h1
  exact h'.2 _ s a u h1 h2 h3
theorem Cg.set {M : Addr → Option Value} {ss : List Au} {as : List A} {us : List Value} (h : Cg M ss as us) {i : Nat} {s : Au} {y : A} {v : Value} (hs : ss[i % ss.length]? = some s) (hf : GZ M s y v) : Cg M ss (as.set i y) (us.set i v) := by
 refine ⟨by simp [h.1], fun j s' a u h1 h2 h3 => ?_⟩
 rw [List.getElem?_set] at h2 h3
 by_cases hij : i = j
 ·subst hij
  rw [if_pos rfl] at h2 h3
  split at h2
  ·split at h3
   ·injection h2 with h2
    injection h3 with h3
    rw [hs] at h1
    injection h1 with h1
    subst h1 h2 h3
    exact hf
   ·cases h3
  ·cases h2
 ·rw [if_neg hij] at h2 h3
  exact h.2 j s' a u h1 h2 h3
def BM (e : Nat → A) (loc : Loc) (w : World) (B : Bd) (r : Nat) (q : FD) : Prop :=
 ∃ (as : List A) (m : Nat), q.x.ev e = .l as ∧ as.length = m * q.ss.length ∧ (q.n.ev e).int = m ∧ 0 < q.ss.length ∧
  if q.own = true then
   if (loc r).emp = true then m = 0 ∧ (loc r).v = .slice none 0 0
   else (loc r).off = 0 ∧ B.own (loc r).blk ∧ (loc r).cap ≤ maxLen ∧ ∃ us spare : List Value, w.heap[(loc r).blk]? = some (.cells (us ++ spare).toArray q.ty (0, 0)) ∧ (us ++ spare).length = (loc r).cap * q.ss.length ∧ Cg (CF B w) q.ss as us
  else (∃ a c, (loc r).v = .slice a m c ∧ (m ≠ 0 → a = some ⟨(loc r).blk, (loc r).off, none⟩)) ∧ GZ (CF B w) (.sl q.ss) (.l as) (loc r).v
def B6 (loc : Loc) (r : Nat) (x : Row) : Prop := ∃ q, x.lst = some q ∧ q.own = true ∧ (loc r).emp = false
structure Ad (e : Nat → A) (loc : Loc) (rows : List Row) (w : World) (B : Bd) : Prop where
 row : ∀ r x, rows[r]? = some x → AH e rows.length loc w B r x
 lst : ∀ r x q, rows[r]? = some x → x.lst = some q → x.own = false ∧ BM e loc w B r q
 lapart : ∀ (r s : Nat) (x y : Row), rows[r]? = some x → rows[s]? = some y → B6 loc r x → (y.own = true ∨ B6 loc s y ∧ r ≠ s) → (loc r).blk ≠ (loc s).blk
 apart : ∀ (r s : Nat) (x y : Row), rows[r]? = some x → rows[s]? = some y → x.own = true → y.own = true → r ≠ s → (loc r).blk ≠ (loc s).blk
theorem FH {w : World} {k : Nat} {o : Obj} (h : w.heap[k]? = some o) : k < w.heap.size := (Array.getElem?_eq_some_iff.1 h).1
theorem BM.lt {B : Bd} {r : Nat} {w : World} {q : FD} (h : BM e loc w B r q) (ho : q.own = true) (he : (loc r).emp = false) : (loc r).blk < w.heap.size ∧ B.own (loc r).blk := by
 obtain ⟨as, m, _, _, _, _, h⟩ := h
 rw [if_pos ho, if_neg (by simp [he])] at h
 obtain ⟨_, h1, _, us, sp, h2, _⟩ := h
 exact ⟨FH h2, h1⟩
theorem Ad.Su {rows : List Row} {w : World} {B : Bd} (h : Ad e loc rows w B) {r : Nat} {x : Row} (hx : rows[r]? = some x) (ho : B6 loc r x) : (loc r).blk < w.heap.size ∧ B.own (loc r).blk := by
 obtain ⟨q, h1, h2, h3⟩ := ho
 exact (h.lst r x q hx h1).2.lt h2 h3
theorem BM.MB {B : Bd} {r : Nat} {w w' : World} {q : FD} (h : BM e loc w B r q) (hw : q.own = true → (loc r).emp = false → w'.heap[(loc r).blk]? = w.heap[(loc r).blk]?)
  (hB : ∀ k, B.F k → w'.heap[k]? = w.heap[k]?) : BM e loc w' B r q := by
 obtain ⟨as, m, h1, h2, h3, h4, h⟩ := h
 refine ⟨as, m, h1, h2, h3, h4, ?_⟩
 split
 ·rename_i ho
  rw [if_pos ho] at h
  split
  ·rename_i he
   rw [if_pos he] at h
   exact h
  ·rename_i he
   rw [if_neg he] at h
   rw [hw ho (by simpa using he), DX hB]
   exact h
 ·rename_i ho
  rw [if_neg ho] at h
  rw [DX hB]
  exact h
theorem BM.frame {B : Bd} {r : Nat} {w w' : World} {q : FD} (h : BM e loc w B r q) (hB : B.le w) (hw : ∀ k, k < w.heap.size → w'.heap[k]? = w.heap[k]?) : BM e loc w' B r q :=
 h.MB (fun ho he => hw _ (h.lt ho he).1) (fun k hk => hw k (hB.2 k hk))
theorem BM.at_ {B : Bd} {r s : Nat} {w : World} {q : FD} (h : BM e loc w B r q) (hl : loc' s = loc r) : BM e loc' w B s q := by
 unfold BM at h ⊢
 rw [hl]
 exact h
theorem AH.frame {B : Bd} {r : Nat} {row : Row} {w w' : World} (h : AH e n loc w B r row) (hB : B.le w)
  (hw : ∀ k, k < w.heap.size → w'.heap[k]? = w.heap[k]?) : AH e n loc w' B r row := by
 unfold AH at h ⊢
 split
 ·rename_i ho
  rw [if_pos ho] at h
  obtain ⟨h1, h2, h3, h4, vs, sp, h5, h6, h7⟩ := h
  exact ⟨h1, h2, h3, h4, vs, sp, (hw _ (FH h5)).trans h5, h6, h7⟩
 ·rename_i ho
  rw [if_neg ho] at h
  intro hc
  obtain ⟨h1, h2, h3⟩ := h hc
  refine ⟨h1, h2, fun j c hj => ?_⟩
  obtain ⟨v, hv, hr⟩ := h3 j c hj
  exact ⟨v, (World.cell?_of_block (w := w) (hw _ (hB.2 _ h2))).trans hv, hr⟩
theorem Ad.frame {rows : List Row} {B : Bd} {w w' : World} (h : Ad e loc rows w B) (hB : B.le w)
  (hw : ∀ k, k < w.heap.size → w'.heap[k]? = w.heap[k]?) : Ad e loc rows w' B :=
 ⟨fun r x hx => (h.row r x hx).frame hB hw, fun r x q hx hq => ⟨(h.lst r x q hx hq).1, (h.lst r x q hx hq).2.frame hB hw⟩, h.lapart, h.apart⟩
theorem Ad.below {rows : List Row} {B : Bd} {w w' : World} (h : Ad e loc rows w B) (hB : B.le w)
  (hw : Below w.heap.size w w') : Ad e loc rows w' B := h.frame hB hw.block
theorem AH.ext {B : Bd} {r : Nat} {row : Row} {w : World} (h : AH e n loc w B r row) (hr : r < n) (hl : AO n loc loc') (hn : n ≤ n') : AH e n' loc' w B r row := by
 unfold AH at h ⊢
 rw [hl r hr]
 split
 ·rename_i ho
  rw [if_pos ho] at h
  obtain ⟨h1, h2, h3, h4, vs, sp, h5, h6, h7⟩ := h
  exact ⟨h1, h2, h3, h4, vs, sp, h5, Gs h6 hl hn, h7⟩
 ·rename_i ho
  rw [if_neg ho] at h
  intro hc
  obtain ⟨h1, h2, h3⟩ := h hc
  refine ⟨h1, h2, fun j c hj => ?_⟩
  obtain ⟨v, hv, hr⟩ := h3 j c hj
  exact ⟨v, hv, C.BU hr hl hn⟩
def AN (loc : Loc) (n : Nat) (x : Lc) : Loc := fun r => if r = n then x else loc r
theorem Bi (loc : Loc) (n : Nat) (x : Lc) : AO n loc (AN loc n x) := fun r hr => by simp [AN, Nat.ne_of_lt hr]
theorem Ap (loc : Loc) (n : Nat) (x : Lc) : AN loc n x n = x := by simp [AN]
theorem Ac {α : Type} {l : List α} {r : Nat} {x : α} (h : l[r]? = some x) : r < l.length := by
 rcases Nat.lt_or_ge r l.length with h' | h'
 ·exact h'
 ·rw [List.getElem?_eq_none h'] at h; cases h
theorem Ad.new {rows : List Row} {B : Bd} {w : World} (h : Ad e loc rows w B) (hB : B.le w) {ty es cap : Nat} {cells : List C} {vs spare : List Value}
  {w' : World} {g : Nat} (hg : g = w.heap.size) (hw : ∀ k, k < w.heap.size → w'.heap[k]? = w.heap[k]?) (hn : w'.heap[g]? = some (.cells (vs ++ spare).toArray ty (0, 0)))
  (hc : Aj e rows.length loc cells vs) (hl : (vs ++ spare).length = cap * es) (hm : cap ≤ maxLen) :
  Ad e (AN loc rows.length (.QA g 0 cap es)) (newRow rows ty es cells) w' B := by
 subst hg
 have hx := Bi loc rows.length (.QA w.heap.size 0 cap es)
 have hlen : (newRow rows ty es cells).length = rows.length + 1 := by simp [newRow]
 have old : ∀ r x, (newRow rows ty es cells)[r]? = some x → r ≠ rows.length → rows[r]? = some x := fun r x hx hne => by
  simp only [newRow, List.getElem?_append] at hx
  split at hx
  ·exact hx
  ·rename_i h0
   have := Ac hx
   simp at this
   omega
 have new : ∀ x, (newRow rows ty es cells)[rows.length]? = some x → x = { own := true, ty, es, cells } := fun x hx => by
  simp [newRow] at hx; exact hx.symm
 have hlt : ∀ r x, rows[r]? = some x → x.own = true → (loc r).blk < w.heap.size := fun r x hr ho => by
  have := h.row r x hr
  unfold AH at this
  rw [if_pos ho] at this
  obtain ⟨_, _, _, _, _, _, h5, _⟩ := this
  exact FH h5
 have oldl : ∀ (r : Nat) (x : Row) (q : FD), (newRow rows ty es cells)[r]? = some x → x.lst = some q → rows[r]? = some x := fun r x q hr hq => by
  refine old r x hr fun h0 => ?_
  subst h0
  rw [new x hr] at hq
  cases hq
 refine ⟨fun r x hr => ?_, fun r x q hr hq => ?_, fun r s x y hr hs hox hoy => ?_, fun r s x y hr hs ho ho' hne => ?_⟩
 rotate_left
 ·have hr' := oldl r x q hr hq
  obtain ⟨k1, k2⟩ := h.lst r x q hr' hq
  exact ⟨k1, (k2.frame hB hw).at_ (hx r (Ac hr'))⟩
 ·obtain ⟨q, k1, k2, k3⟩ := hox
  have hr' := oldl r x q hr k1
  rw [hx r (Ac hr')] at k3 ⊢
  have hlo := h.Su hr' ⟨q, k1, k2, k3⟩
  by_cases hsn : s = rows.length
  ·subst hsn
   rw [Ap]
   exact Nat.ne_of_lt hlo.1
  ·have hs' := old s y hs hsn
   have hls := hx s (Ac hs')
   rw [hls]
   refine h.lapart r s x y hr' hs' ⟨q, k1, k2, k3⟩ ?_
   rcases hoy with hoy | ⟨⟨q', m1, m2, m3⟩, hne⟩
   ·exact .inl hoy
   ·exact .inr ⟨⟨q', m1, m2, by rw [← hls]; exact m3⟩, hne⟩
 rotate_left
 ·rw [hlen]
  by_cases hrn : r = rows.length
  ·subst hrn
   rw [new x hr]
   unfold AH
   rw [if_pos rfl, Ap]
   exact ⟨rfl, rfl, hB.new, hm, vs, spare, hn, Gs hc hx (by omega), hl⟩
  ·have hr' := old r x hr hrn
   exact ((h.row r x hr').frame hB hw).ext (Ac hr') hx (by omega)
 ·by_cases hrn : r = rows.length
  ·by_cases hsn : s = rows.length
   ·omega
   ·have hs' := old s y hs hsn
    subst hrn
    rw [Ap, hx s (Ac hs')]
    exact Nat.ne_of_gt (hlt s y hs' ho')
  ·have hr' := old r x hr hrn
   rw [hx r (Ac hr')]
   by_cases hsn : s = rows.length
   ·subst hsn
    rw [Ap]
    exact Nat.ne_of_lt (hlt r x hr' ho)
   ·have hs' := old s y hs hsn
    rw [hx s (Ac hs')]
    exact h.apart r s x y hr' hs' ho ho' hne
theorem Ad.write {rows : List Row} {B : Bd} {w w' : World} (h : Ad e loc rows w B) (hB : B.le w) {r : Nat} {row : Row} {cells : List C} {vs spare : List Value}
  (hr : rows[r]? = some row) (ho : row.own = true) (hw : ∀ k, k ≠ (loc r).blk → w'.heap[k]? = w.heap[k]?)
  (hn : w'.heap[(loc r).blk]? = some (.cells (vs ++ spare).toArray row.ty (0, 0))) (hc : Aj e rows.length loc cells vs) (hl : (vs ++ spare).length = (loc r).cap * row.es) :
  Ad e loc (rows.set r { row with cells := cells }) w' B := by
 have hrow := h.row r row hr
 unfold AH at hrow
 rw [if_pos ho] at hrow
 obtain ⟨h1, h2, h3, h4, _⟩ := hrow
 have hlt := Ac hr
 have other : ∀ s y, (rows.set r { row with cells := cells })[s]? = some y → s ≠ r → rows[s]? = some y := fun s y hs hne => by
  rwa [List.getElem?_set_ne (Ne.symm hne)] at hs
 have same : ∀ y, (rows.set r { row with cells := cells })[r]? = some y → y = { row with cells := cells } := fun y hy => by
  rw [List.getElem?_set_self hlt] at hy; injection hy with hy; exact hy.symm
 have hlst : row.lst = none := by
  cases hq : row.lst with
  | none => rfl
  | some q => have := (h.lst r row q hr hq).1; rw [ho] at this; cases this
 have otherl : ∀ (s : Nat) (y : Row) (q : FD), (rows.set r { row with cells := cells })[s]? = some y → y.lst = some q → s ≠ r ∧ rows[s]? = some y := fun s y q hs hq => by
  have hne : s ≠ r := fun h0 => by
   subst h0
   rw [same y hs] at hq
   simp only at hq
   rw [hlst] at hq
   cases hq
  exact ⟨hne, other s y hs hne⟩
 have rowlt : (loc r).blk < w.heap.size := by
  have hrow := h.row r row hr
  unfold AH at hrow
  rw [if_pos ho] at hrow
  obtain ⟨_, _, _, _, _, _, h5, _⟩ := hrow
  exact FH h5
 refine ⟨fun s y hs => ?_, fun s y q hs hq => ?_, fun s t x y hs ht ox oy => ?_, fun s t x y hs ht ox oy hne => ?_⟩
 rotate_left
 ·obtain ⟨hne, hs'⟩ := otherl s y q hs hq
  obtain ⟨k1, k2⟩ := h.lst s y q hs' hq
  refine ⟨k1, k2.MB (fun h1 h2 => hw _ (h.lapart s r y row hs' hr ⟨q, hq, h1, h2⟩ (.inl ho))) (fun k hk => hw _ (fun h0 => h3.2 (h0 ▸ hk)))⟩
 ·obtain ⟨q, k1, k2, k3⟩ := ox
  obtain ⟨hne, hs'⟩ := otherl s x q hs k1
  by_cases htr : t = r
  ·subst htr
   exact h.lapart s t x row hs' hr ⟨q, k1, k2, k3⟩ (.inl ho)
  ·exact h.lapart s t x y hs' (other t y ht htr) ⟨q, k1, k2, k3⟩ oy
 rotate_left
 ·rw [List.length_set]
  by_cases hsr : s = r
  ·subst hsr
   rw [same y hs]
   unfold AH
   rw [if_pos ho]
   exact ⟨h1, h2, h3, h4, vs, spare, hn, hc, hl⟩
  ·have hs' := other s y hs hsr
   have hy := h.row s y hs'
   unfold AH at hy ⊢
   split
   ·rename_i oy
    rw [if_pos oy] at hy
    obtain ⟨a1, a2, a3, a4, vs', sp', a5, a6, a7⟩ := hy
    exact ⟨a1, a2, a3, a4, vs', sp', (hw _ (h.apart s r y row hs' hr oy ho hsr)).trans a5, a6, a7⟩
   ·rename_i oy
    rw [if_neg oy] at hy
    intro hc'
    obtain ⟨a1, a2, a3⟩ := hy hc'
    refine ⟨a1, a2, fun j c hj => ?_⟩
    obtain ⟨v, hv, hvr⟩ := a3 j c hj
    exact ⟨v, (World.cell?_of_block (w := w) (hw _ (fun h0 => h3.2 (h0 ▸ a2)))).trans hv, hvr⟩
 ·have : ∀ (s : Nat) (x : Row), (rows.set r { row with cells := cells })[s]? = some x → x.own = true → ∃ x' : Row, rows[s]? = some x' ∧ x'.own = true := fun s x hs ox => by
   by_cases hsr : s = r
   ·subst hsr; exact ⟨row, hr, ho⟩
   ·exact ⟨x, other s x hs hsr, ox⟩
  obtain ⟨x', hx', ox'⟩ := this s x hs ox
  obtain ⟨y', hy', oy'⟩ := this t y ht oy
  exact h.apart s t x' y' hx' hy' ox' oy' hne
theorem Ad.kill {rows : List Row} {B : Bd} {w : World} (h : Ad e loc rows w B) (r : Nat) : Ad e loc (rows.set r Row.dead) w B := by
 have other : ∀ s y, (rows.set r Row.dead)[s]? = some y → y = Row.dead ∨ rows[s]? = some y := fun s y hs => by
  by_cases hsr : s = r
  ·subst hsr
   by_cases hl : s < rows.length
   ·rw [List.getElem?_set_self hl] at hs; injection hs with hs; exact .inl hs.symm
   ·rw [List.getElem?_eq_none (by simp; omega)] at hs; cases hs
  ·exact .inr (by rwa [List.getElem?_set_ne (Ne.symm hsr)] at hs)
 refine ⟨fun s y hs => ?_, fun s y q hs hq => ?_, fun s t x y hs ht ox oy => ?_, fun s t x y hs ht ox oy hne => ?_⟩
 rotate_left
 ·rcases other s y hs with rfl | hs'
  ·simp [Row.dead] at hq
  ·exact h.lst s y q hs' hq
 ·rcases other s x hs with rfl | hs'
  ·obtain ⟨q, k1, _⟩ := ox
   simp [Row.dead] at k1
  ·rcases other t y ht with rfl | ht'
   ·rcases oy with oy | ⟨⟨q, k1, _⟩, _⟩
    ·simp [Row.dead] at oy
    ·simp [Row.dead] at k1
   ·exact h.lapart s t x y hs' ht' ox oy
 rotate_left
 ·rw [List.length_set]
  rcases other s y hs with rfl | hs'
  ·unfold AH; simp [Row.dead]
  ·exact h.row s y hs'
 ·rcases other s x hs with rfl | hs'
  ·simp [Row.dead] at ox
  ·rcases other t y ht with rfl | ht'
   ·simp [Row.dead] at oy
   ·exact h.apart s t x y hs' ht' ox oy hne
theorem Ad.To {rows : List Row} {B : Bd} {w : World} (h : Ad e loc rows w B) {F : Nat → Prop} (hF : ∀ k, B.F k → F k)
  (hA : ∀ (r : Nat) x, rows[r]? = some x → (x.own = true ∨ B6 loc r x) → ¬ F (loc r).blk) : Ad e loc rows w ⟨B.n, F⟩ := by
 have hm : ∀ a u, CF B w a = some u → CF ⟨B.n, F⟩ w a = some u := Gr hF fun _ _ => rfl
 refine ⟨fun r x hx => ?_, fun r x q hx hq => ⟨(h.lst r x q hx hq).1, ?_⟩, h.lapart, h.apart⟩
 ·have := h.row r x hx
  unfold AH at this ⊢
  split
  ·rename_i ho
   rw [if_pos ho] at this
   obtain ⟨h1, h2, h3, h4⟩ := this
   exact ⟨h1, h2, ⟨h3.1, hA r x hx (.inl ho)⟩, h4⟩
  ·rename_i ho
   rw [if_neg ho] at this
   intro hc
   obtain ⟨h1, h2, h3⟩ := this hc
   exact ⟨h1, hF _ h2, h3⟩
 ·obtain ⟨as, m, h1, h2, h3, h4, h5⟩ := (h.lst r x q hx hq).2
  refine ⟨as, m, h1, h2, h3, h4, ?_⟩
  split
  ·rename_i ho
   rw [if_pos ho] at h5
   split
   ·rename_i he
    rw [if_pos he] at h5
    exact h5
   ·rename_i he
    rw [if_neg he] at h5
    obtain ⟨g1, g2, g3, us, sp, g4, g5, g6⟩ := h5
    exact ⟨g1, ⟨g2.1, hA r x hx (.inr ⟨q, hq, ho, by simpa using he⟩)⟩, g3, us, sp, g4, g5, g6.mono hm⟩
  ·rename_i ho
   rw [if_neg ho] at h5
   exact ⟨h5.1, h5.2.mono hm⟩
end
end Rx
namespace Rx
open Go Go.RowKit
section
variable {T : Nat → List A → Bool × List A} {e : Nat → A} {n n' : Nat} {loc loc' : Loc}
structure Ax (e : Nat → A) (n : Nat) (loc : Loc) (fr : List SV) (tm : Array Value) : Prop where
 len : fr.length ≤ tm.size
 at_ : ∀ (i : Nat) (s : SV) (v : Value), fr[i]? = some s → tm[i]? = some v → s.rel e n loc v
theorem Ax.ext {fr : List SV} {tm : Array Value} (h : Ax e n loc fr tm) (hl : AO n loc loc') (hn : n ≤ n') : Ax e n' loc' fr tm :=
 ⟨h.len, fun i s v hs hv => SV.BU (h.at_ i s v hs hv) hl hn⟩
theorem Ax.get {fr : List SV} {tm : Array Value} (h : Ax e n loc fr tm) {i : Nat} {s : SV} (hs : fr[i]? = some s) : ∃ v, tm[i]? = some v ∧ tm.getD i Go.undef = v ∧ s.rel e n loc v := by
 have hi : i < tm.size := Nat.lt_of_lt_of_le (Ac hs) h.len
 refine ⟨tm[i], by simp [hi], by simp [hi], h.at_ i s _ hs (by simp [hi])⟩
theorem Ax.put {fr : List SV} {a : Act} (h : Ax e n loc fr a.tmps) {s : SV} {v : Value} (hs : s.rel e n loc v) (d : Option Nat) : Ax e n loc (U3 fr d s) (a.put d v).tmps := by
 cases d with
 | none => exact h
 | some d =>
  refine ⟨by simpa [U3, Act.put] using h.len, fun i t u ht hu => ?_⟩
  simp only [U3, Act.put] at ht hu
  by_cases hid : d = i
  ·subst hid
   have hlt : d < fr.length := by have := Ac ht; simpa using this
   rw [List.getElem?_set_self hlt] at ht
   rw [Array.getElem?_setIfInBounds_self_of_lt (Nat.lt_of_lt_of_le hlt h.len)] at hu
   injection ht with ht
   injection hu with hu
   subst ht hu
   exact hs
  ·rw [List.getElem?_set_ne hid] at ht
   rw [Array.getElem?_setIfInBounds_ne hid] at hu
   exact h.at_ i t u ht hu
theorem ON {g : L × Bool} : ∀ {gs : List (L × Bool)}, Y6 g gs = true → Holds e gs → (g.1.ev e).bool = g.2
 | [], h, _ => by simp [Y6] at h
 | x :: l, h, hg => by
  simp only [Y6, Bool.or_eq_true, Bool.and_eq_true, beq_iff_eq] at h
  rcases h with ⟨h1, h2⟩ | h
  ·rw [L.Af h1, h2]; exact hg x (by simp)
  ·exact ON h (fun y hy => hg y (by simp [hy]))
theorem KK : ∀ {hs gs : List (L × Bool)}, Y7 hs gs = true → Holds e gs → Holds e hs
 | [], _, _, _ => fun x hx => by cases hx
 | x :: l, gs, h, hg => by
  simp only [Y7, Bool.and_eq_true] at h
  intro y hy
  rcases List.mem_cons.1 hy with rfl | hy
  ·exact ON h.1 hg
  ·exact KK h.2 hg y hy
theorem KL {fr : List SV} {tm : Array Value} {gs : List (L × Bool)} {t : Nat} {p : PV} (h : slot fr gs t = some p) (hf : Ax e n loc fr tm) (hg : Holds e gs) : p.rel e n loc (tm.getD t Go.undef) := by
 unfold slot at h
 split at h
 ·rename_i q hq
  injection h with h; subst h
  obtain ⟨v, _, hv, hr⟩ := hf.get hq
  rw [hv]; exact hr
 ·rename_i hs q hq
  split at h
  ·rename_i hsub
   injection h with h; subst h
   obtain ⟨v, _, hv, hr⟩ := hf.get hq
   rw [hv]; exact hr.1 (KK hsub hg)
  ·cases h
 ·cases h
theorem Ll {v : Value} {c : C} (h : R4 v = some c) : c.rel e n loc v := by
 unfold R4 at h
 split at h <;> first | (injection h with h; subst h) | cases h
 all_goals (refine ⟨?_, ?_, .inr ?_⟩ <;> first | trivial | rfl)
theorem J8 : ∀ {vs : List Value} {cs : List C}, K7 vs = some cs → Aj e n loc cs vs
 | [], cs, h => by simp [K7] at h; subst h; trivial
 | v :: l, cs, h => by
  simp only [K7, Option.bind_eq_bind, Option.bind_eq_some_iff, Option.some.injEq] at h
  obtain ⟨c, hc, r, hr, rfl⟩ := h
  exact ⟨Ll hc, J8 hr⟩
theorem QB {v : Value} {p : PV} (h : R5 v = some p) : p.rel e n loc v := by
 unfold R5 at h
 split at h
 ·rename_i cs
  simp only [Option.map_eq_some_iff] at h
  obtain ⟨l, hl, rfl⟩ := h
  exact ⟨cs.toList, by simp, J8 hl⟩
 ·simp only [Option.map_eq_some_iff] at h
  obtain ⟨c, hc, rfl⟩ := h
  exact Ll hc
theorem Aa {fr : List SV} {a : Act} {gs : List (L × Bool)} {x : Operand} {p : PV} (h : Db fr gs x = some p) (hf : Ax e n loc fr a.tmps) (hg : Holds e gs) : p.rel e n loc (a.eval x) := by
 cases x with
 | tmp t => exact KL h hf hg
 | const v => exact QB h
 | func f =>
  simp only [Db, Option.some.injEq] at h
  subst h
  exact ⟨[], [], rfl, trivial, trivial⟩
 | global g => cases h
theorem G1 {fr : List SV} {a : Act} {gs : List (L × Bool)} : ∀ {xs : List Operand} {ps : List PV}, Qu fr gs xs = some ps → Ax e n loc fr a.tmps → Holds e gs → AA e n loc ps (xs.map a.eval)
 | [], ps, h, _, _ => by simp [Qu] at h; subst h; trivial
 | x :: l, ps, h, hf, hg => by
  simp only [Qu, Option.bind_eq_bind, Option.bind_eq_some_iff, Option.some.injEq] at h
  obtain ⟨p, hp, r, hr, rfl⟩ := h
  exact ⟨Aa hp hf hg, G1 hr hf hg⟩
theorem BD {a b : IntKind} (h : CM a b = true) : a = b := by simpa [CM] using h
mutual
theorem Au.Af : ∀ {a b : Au}, a.same b = true → a = b
 | .int a, .int b, h => congrArg Au.int (BD (by simpa [Au.same] using h))
 | .bool, .bool, _ => rfl
 | .val, .val, _ => rfl
 | .str, .str, _ => rfl
 | .sl a, .sl b, h => congrArg Au.sl (B3 (by simpa [Au.same] using h))
 | .int _, .bool, h | .int _, .str, h | .int _, .val, h | .int _, .sl _, h | .bool, .int _, h | .bool, .str, h | .bool, .val, h | .bool, .sl _, h
 | .str, .int _, h | .str, .bool, h | .str, .val, h | .str, .sl _, h | .val, .int _, h | .val, .bool, h | .val, .str, h | .val, .sl _, h
 | .sl _, .int _, h | .sl _, .bool, h | .sl _, .str, h | .sl _, .val, h => by simp [Au.same] at h
theorem B3 : ∀ {a b : List Au}, Ce a b = true → a = b
 | [], [], _ => rfl
 | [], _ :: _, h => by simp [Ce] at h
 | _ :: _, [], h => by simp [Ce] at h
 | a :: l, b :: m, h => by
  simp only [Ce, Bool.and_eq_true] at h
  have h1 : a = b := Au.Af h.1
  have h2 : l = m := B3 h.2
  rw [h1, h2]
end
theorem K.Af {a b : K} (h : a.same b = true) : a = b := by
 cases a <;> cases b <;> simp [K.same] at h
 ·rw [BD h.1, L.Af h.2]
 ·rw [L.Af h]
 ·rw [L.Af h]
 ·rw [L.Af h]
 ·rw [h.1, h.2]
 ·obtain ⟨⟨⟨⟨h1, h2⟩, h3⟩, h4⟩, h5⟩ := h
  rw [h1, h2, h3, h4, L.Af h5]
 ·rw [h.1.1, h.1.2, h.2]
 ·obtain ⟨⟨⟨⟨h1, h2⟩, h3⟩, h4⟩, h5⟩ := h
  rw [h1, h2, h3, h4, h5]
 ·rw [h.1, L.Af h.2]
 ·rw [h.1, L.Af h.2]
 ·obtain ⟨⟨⟨⟨h1, h2⟩, h3⟩, h4⟩, h5⟩ := h
  rw [h1, h2, h3, L.Af h4, L.Af h5]
 all_goals rfl
theorem JE : ∀ {a b : List K}, H7 a b = true → a = b
 | [], [], _ => rfl
 | [], _ :: _, h => by simp [H7] at h
 | _ :: _, [], h => by simp [H7] at h
 | a :: l, b :: m, h => by
  simp only [H7, Bool.and_eq_true] at h
  rw [K.Af h.1, JE h.2]
theorem C.Af {a b : C} (h : a.same b = true) : a = b := by
 cases a <;> cases b <;> simp [C.same] at h
 ·rw [K.Af h]
 ·rw [h.1.1, JE h.1.2, JE h.2]
 ·rw [L.Af h.1.1, h.1.2, h.2]
def pick {α : Type} (t : Bool) (a b : α) : α := if t then a else b
theorem K.Ct {k : K} {v : Value} (h : k.rel e n loc v) : K.junk.rel e n loc v := ⟨trivial, h.2.1, .inl rfl⟩
theorem C.Ct {c : C} {v : Value} (h : c.rel e n loc v) : (C.k .junk).rel e n loc v := ⟨trivial, C.On h, .inl rfl⟩
theorem Tp {c : L} {a b : K} {g : G} (h : Good T e (R6 c a b g).2) :
  Good T e g ∧ ∀ n loc v, (pick (c.ev e).bool a b).rel e n loc v → (R6 c a b g).1.rel e n loc v := by
 unfold R6 at h ⊢
 split at h
 ·rename_i k x k' y
  split at h
  ·rename_i hk
   simp only [hk, if_true] at h ⊢
   have := Dr h
   refine ⟨this.1, fun n loc v hv => ?_⟩
   have hk' := BD hk
   subst hk'
   cases hc : (c.ev e).bool <;> simp only [pick, hc, if_true, if_false, Bool.false_eq_true] at hv
   all_goals
    obtain ⟨h1, h2, h3⟩ := hv
    have h3 := h3.resolve_left (by simp)
    refine ⟨trivial, h2, .inr ?_⟩
    rw [h3]
    simp only [K.Bl]
    rw [this.2]
    simp [hc]
  ·rename_i hk
   simp only [hk, Bool.false_eq_true, if_false] at h ⊢
   exact ⟨h, fun n loc v hv => K.Ct hv⟩
 ·rename_i x y
  simp only at h ⊢
  have := Ek h
  refine ⟨this.1, fun n loc v hv => ?_⟩
  cases hc : (c.ev e).bool <;> simp only [pick, hc, if_true, if_false, Bool.false_eq_true] at hv
  all_goals
   obtain ⟨h1, h2, h3⟩ := hv
   have h3 := h3.resolve_left (by simp)
   refine ⟨trivial, h2, .inr ?_⟩
   rw [h3]
   simp only [K.Bl]
   rw [this.2]
   simp [hc]
 ·rename_i x y
  simp only at h ⊢
  have := Nz h
  refine ⟨this.1, fun n loc v hv => ?_⟩
  cases hc : (c.ev e).bool <;> simp only [pick, hc, if_true, if_false, Bool.false_eq_true] at hv
  all_goals
   obtain ⟨h1, h2, h3⟩ := hv
   have h3 := h3.resolve_left (by simp)
   refine ⟨trivial, h2, .inr ?_⟩
   rw [h3]
   simp only [K.Bl, A.str]
   rw [this.2]
   simp [hc]
 ·rename_i x y
  simp only at h ⊢
  have := Nz h
  refine ⟨this.1, fun n loc v hv => ?_⟩
  cases hc : (c.ev e).bool <;> simp only [pick, hc, if_true, if_false, Bool.false_eq_true] at hv
  all_goals
   obtain ⟨h1, h2, h3⟩ := hv
   have h3 := h3.resolve_left (by simp)
   refine ⟨trivial, h2, .inr ?_⟩
   rw [h3]
   simp only [K.Bl]
   rw [this.2]
   simp [hc]
 ·rename_i r k r' k'
  split at h
  ·rename_i hs
   have hs' : r = r' := by simpa using hs
   subst hs'
   simp only [hs, if_true] at h ⊢
   have := Dr h
   refine ⟨this.1, fun n loc v hv => ?_⟩
   cases hc : (c.ev e).bool <;> simp only [pick, hc, if_true, if_false, Bool.false_eq_true] at hv
   all_goals
    obtain ⟨h1, h2, h3⟩ := hv
    have h3 := h3.resolve_left (by simp)
    have hi := this.2
    simp only [hc, if_true, if_false, Bool.false_eq_true] at hi
    refine ⟨?_, h2, .inr ?_⟩
    ·simp only [K.ok] at h1 ⊢
     rw [hi]
     exact h1
    ·rw [h3]
     simp only [K.Bl]
     rw [hi]
  ·rename_i hs
   simp only [hs, Bool.false_eq_true, if_false] at h ⊢
   exact ⟨h, fun n loc v hv => K.Ct hv⟩
 ·rename_i r k r' k'
  split at h
  ·rename_i hs
   have hs' : r = r' := by simpa using hs
   subst hs'
   simp only [hs, if_true] at h ⊢
   have := Dr h
   refine ⟨this.1, fun n loc v hv => ?_⟩
   cases hc : (c.ev e).bool <;> simp only [pick, hc, if_true, if_false, Bool.false_eq_true] at hv
   all_goals
    obtain ⟨h1, h2, h3⟩ := hv
    have h3 := h3.resolve_left (by simp)
    have hi := this.2
    simp only [hc, if_true, if_false, Bool.false_eq_true] at hi
    refine ⟨?_, h2, .inr ?_⟩
    ·simp only [K.ok] at h1 ⊢
     rw [hi]
     exact h1
    ·rw [h3]
     simp only [K.Bl]
  ·rename_i hs
   simp only [hs, Bool.false_eq_true, if_false] at h ⊢
   exact ⟨h, fun n loc v hv => K.Ct hv⟩
 ·split at h
  ·rename_i hs
   simp only [hs, if_true] at h ⊢
   refine ⟨h, fun n loc v hv => ?_⟩
   rw [← K.Af hs] at hv
   simpa [pick] using hv
  ·rename_i hs
   simp only [hs, Bool.false_eq_true, if_false] at h ⊢
   exact ⟨h, fun n loc v hv => K.Ct hv⟩
theorem Du {c : L} {a b : C} {g : G} (h : Good T e (H8 c a b g).2) :
  Good T e g ∧ ∀ n loc v, (pick (c.ev e).bool a b).rel e n loc v → (H8 c a b g).1.rel e n loc v := by
 unfold H8 at h ⊢
 split at h
 ·simp only at h ⊢
  have := Tp h
  refine ⟨this.1, fun n loc v hv => this.2 n loc v ?_⟩
  cases hc : (c.ev e).bool <;> simp only [pick, hc, if_true, if_false, Bool.false_eq_true] at hv ⊢ <;> exact hv
 ·split at h
  ·rename_i hs
   simp only [hs, if_true] at h ⊢
   refine ⟨h, fun n loc v hv => ?_⟩
   have hs := eq_of_beq hs
   subst hs
   simpa [pick] using hv
  ·rename_i hs
   simp only [hs, Bool.false_eq_true, if_false] at h ⊢
   refine ⟨h, fun n loc v hv => ?_⟩
   show v = _
   cases hc : (c.ev e).bool
   ·simp only [pick, hc, if_false, Bool.false_eq_true] at hv ⊢
    obtain ⟨va, vb, rfl, h1, h2⟩ := hv
    cases va <;> cases vb <;> first | rfl | exact h1.elim | exact h2.elim
   ·simp only [pick, hc, if_true] at hv ⊢
    obtain ⟨va, vb, rfl, h1, h2⟩ := hv
    cases va <;> cases vb <;> first | rfl | exact h1.elim | exact h2.elim
 ·split at h
  ·rename_i hs
   simp only [hs, if_true] at h ⊢
   refine ⟨h, fun n loc v hv => ?_⟩
   rw [← C.Af hs] at hv
   simpa [pick] using hv
  ·rename_i hs
   simp only [hs, Bool.false_eq_true, if_false] at h ⊢
   exact ⟨h, fun n loc v hv => C.Ct hv⟩
theorem EK {c : L} : ∀ {a b : List C} {g : G}, a.length = b.length → Good T e (Bh c a b g).2 →
  Good T e g ∧ ∀ n loc vs, Aj e n loc (pick (c.ev e).bool a b) vs → Aj e n loc (Bh c a b g).1 vs
 | [], [], g, _, h => ⟨h, fun n loc vs hv => by cases hc : (c.ev e).bool <;> simpa [pick, hc, Bh] using hv⟩
 | a :: l, b :: m, g, hl, h => by
  unfold Bh at h ⊢
  simp only at h ⊢
  have h2 := EK (by simpa using hl) h
  have h1 := Du h2.1
  refine ⟨h1.1, fun n loc vs hv => ?_⟩
  cases hc : (c.ev e).bool <;> simp only [pick, hc, if_true, if_false, Bool.false_eq_true] at hv <;> (cases vs with
   | nil => exact hv.elim
   | cons v vs => exact ⟨h1.2 n loc v (by simp only [pick, hc, if_true, if_false, Bool.false_eq_true]; exact hv.1), h2.2 n loc vs (by simp only [pick, hc, if_true, if_false, Bool.false_eq_true]; exact hv.2)⟩)
 | [], _ :: _, _, hl, _ => by simp at hl
 | _ :: _, [], _, hl, _ => by simp at hl
theorem Sv {c : L} {a b : SV} {g : G} (h : Good T e (Oe c a b g).2) :
  Good T e g ∧ ∀ n loc v, (pick (c.ev e).bool a b).rel e n loc v → (Oe c a b g).1.rel e n loc v := by
 unfold Oe at h ⊢
 split at h
 ·simp only at h ⊢
  have := Du h
  refine ⟨this.1, fun n loc v hv => this.2 n loc v ?_⟩
  cases hc : (c.ev e).bool <;> simpa [pick, hc, SV.rel, PV.rel] using hv
 ·split at h
  ·rename_i hl
   simp only [hl, if_true] at h ⊢
   have := EK (by simpa using hl) h
   refine ⟨this.1, fun n loc v hv => ?_⟩
   cases hc : (c.ev e).bool <;> simp only [pick, hc, if_true, if_false, Bool.false_eq_true, SV.rel, PV.rel] at hv <;> obtain ⟨vs, h1, h2⟩ := hv
   all_goals exact ⟨vs, h1, this.2 n loc vs (by simpa [pick, hc] using h2)⟩
  ·rename_i hl
   simp only [hl, Bool.false_eq_true, if_false] at h ⊢
   exact ⟨h, fun n loc v hv => trivial⟩
 ·simp only at h ⊢
  exact ⟨h, fun n loc v hv => by cases hc : (c.ev e).bool <;> simpa [pick, hc] using hv⟩
 ·exact ⟨h, fun n loc v hv => trivial⟩
theorem EL {c : L} : ∀ {a b : List SV} {g : G}, Good T e (Bu c a b g).2 →
  Good T e g ∧ (Bu c a b g).1.length ≤ a.length ∧ (Bu c a b g).1.length ≤ b.length ∧
   ∀ n loc (i : Nat) s v, (pick (c.ev e).bool a b)[i]? = some s → s.rel e n loc v → ∀ s', (Bu c a b g).1[i]? = some s' → s'.rel e n loc v
 | [], b, g, h => ⟨h, by simp [Bu], by simp [Bu], fun n loc i s v h1 _ s' h2 => by simp [Bu] at h2⟩
 | a :: l, b :: m, g, h => by
  unfold Bu at h ⊢
  simp only at h ⊢
  have h2 := EL h
  have h1 := Sv h2.1
  obtain ⟨_, l1, l2, h3⟩ := h2
  refine ⟨h1.1, by simpa using l1, by simpa using l2, fun n loc i s v hs hv s' hs' => ?_⟩
  cases i with
  | zero =>
   simp only [List.getElem?_cons_zero, Option.some.injEq] at hs'
   subst hs'
   refine h1.2 n loc v ?_
   cases hc : (c.ev e).bool <;> simp [pick, hc] at hs ⊢ <;> subst hs <;> exact hv
  | succ i =>
   refine h3 n loc i s v ?_ hv s' (by simpa using hs')
   cases hc : (c.ev e).bool <;> simpa [pick, hc] using hs
 | _ :: _, [], g, h => ⟨h, by simp [Bu], by simp [Bu], fun n loc i s v h1 _ s' h2 => by simp [Bu] at h2⟩
theorem Ax.merge {c : L} {a b : List SV} {g : G} {tm : Array Value} (h : Good T e (Bu c a b g).2)
  (hf : Ax e n loc (pick (c.ev e).bool a b) tm) : Ax e n loc (Bu c a b g).1 tm := by
 obtain ⟨_, l1, l2, h1⟩ := EL h
 have hlp : (Bu c a b g).1.length ≤ (pick (c.ev e).bool a b).length := by cases hc : (c.ev e).bool <;> simpa [pick, hc]
 refine ⟨Nat.le_trans hlp hf.len, fun i s v hs hv => ?_⟩
 have hi : i < (pick (c.ev e).bool a b).length := Nat.lt_of_lt_of_le (Ac hs) hlp
 have hp : (pick (c.ev e).bool a b)[i]? = some ((pick (c.ev e).bool a b)[i]) := List.getElem?_eq_getElem hi
 exact h1 n loc i _ v hp (hf.at_ i _ v hp hv) s hs
theorem OO {c : L} : ∀ {a b : List C} {g : G}, Good T e (Bh c a b g).2 →
   ∀ n loc (i : Nat) s v, (pick (c.ev e).bool a b)[i]? = some s → s.rel e n loc v → ∀ s', (Bh c a b g).1[i]? = some s' → s'.rel e n loc v
 | [], b, g, _ => fun n loc i s v h1 _ s' h2 => by simp [Bh] at h2
 | a :: l, b :: m, g, h => by
  unfold Bh at h ⊢
  simp only at h ⊢
  have h3 := OO h
  have hg : ∀ {a b : List C} {g : G}, Good T e (Bh c a b g).2 → Good T e g := by
   intro a
   induction a with
   | nil => intro b g h; simpa [Bh] using h
   | cons x l ih =>
    intro b g h
    cases b with
    | nil => simpa [Bh] using h
    | cons y m =>
     unfold Bh at h
     simp only at h
     exact (Du (ih h)).1
  have h1 := Du (hg h)
  intro n loc i s v hs hv s' hs'
  cases i with
  | zero =>
   simp only [List.getElem?_cons_zero, Option.some.injEq] at hs'
   subst hs'
   refine h1.2 n loc v ?_
   cases hc : (c.ev e).bool <;> simp [pick, hc] at hs ⊢ <;> subst hs <;> exact hv
  | succ i =>
   refine h3 n loc i s v ?_ hv s' (by simpa using hs')
   cases hc : (c.ev e).bool <;> simpa [pick, hc] using hs
 | _ :: _, [], g, _ => fun n loc i s v h1 _ s' h2 => by simp [Bh] at h2
theorem NA {c : L} : ∀ {a b : List C} {g : G}, (Bh c a b g).1.length ≤ a.length ∧ (Bh c a b g).1.length ≤ b.length
 | [], b, g => by simp [Bh]
 | a :: l, b :: m, g => by unfold Bh; simp only [List.length_cons]; have := @NA c l m (H8 c a b g).2; omega
 | _ :: _, [], g => by simp [Bh]
theorem Row.Sw {w : World} {B : Bd} {r : Nat} : AH e n loc w B r Row.dead := by unfold AH; simp [Row.dead]
def LEq (e : Nat → A) (p q : FD) : Prop := p.own = q.own ∧ p.ty = q.ty ∧ p.ss = q.ss ∧ p.x.ev e = q.x.ev e ∧ (p.n.ev e).int = (q.n.ev e).int
theorem BM.of_eq {w : World} {B : Bd} {r : Nat} {p q : FD} (h : BM e loc w B r q) (hq : LEq e p q) : BM e loc w B r p := by
 obtain ⟨h1, h2, h3, h4, h5⟩ := hq
 unfold BM at h ⊢
 rw [h1, h2, h3, h4, h5]
 exact h
theorem J9 {c : L} {a b : Option FD} {g : G} (h : Good T e (K8 c a b g).2) :
  Good T e g ∧ ∀ l, (K8 c a b g).1 = some l → (l = none → pick (c.ev e).bool a b = none) ∧ ∀ p, l = some p → ∃ q, pick (c.ev e).bool a b = some q ∧ LEq e p q := by
 unfold K8 at h ⊢
 split at h
 ·exact ⟨h, fun l hl => ⟨fun _ => by cases (c.ev e).bool <;> rfl, fun p hp => by subst hp; simp at hl⟩⟩
 ·rename_i p q
  split at h
  ·rename_i hs
   simp only [hs, if_true] at h ⊢
   simp only [Bool.and_eq_true, beq_iff_eq] at hs
   obtain ⟨⟨h1, h2⟩, h3⟩ := hs
   have h3 := B3 h3
   have m1 := Tm h
   have m2 := Ii m1.1
   refine ⟨m2.1, fun l hl => ?_⟩
   injection hl with hl
   subst hl
   refine ⟨fun h => by simp at h, fun p' hp => ?_⟩
   injection hp with hp
   subst hp
   cases hc : (c.ev e).bool
   ·exact ⟨q, rfl, h1, h2, h3, by rw [m2.2]; simp [hc], by rw [m1.2]; simp [hc]⟩
   ·exact ⟨p, rfl, rfl, rfl, rfl, by rw [m2.2]; simp [hc], by rw [m1.2]; simp [hc]⟩
  ·rename_i hs
   simp only [hs, Bool.false_eq_true, if_false] at h ⊢
   exact ⟨h, fun l hl => by simp at hl⟩
 ·exact ⟨h, fun l hl => by simp at hl⟩
structure OP (e : Nat → A) (x x' : Row) : Prop where
 own : x'.own = true → x.own = true
 own' : x'.lst ≠ none → x.own = false → x'.own = false
 lst : ∀ p, x'.lst = some p → ∃ q, x.lst = some q ∧ LEq e p q
 row : ∀ n loc w B r, AH e n loc w B r x → AH e n loc w B r x'
theorem OP.refl (x : Row) : OP e x x := ⟨id, fun _ h => h, fun p hp => ⟨p, hp, rfl, rfl, rfl, rfl, rfl⟩, fun _ _ _ _ _ h => h⟩
theorem OP.dead (x : Row) : OP e x Row.dead := ⟨fun h => by simp [Row.dead] at h, fun h => by simp [Row.dead] at h, fun p h => by simp [Row.dead] at h, fun _ _ _ _ _ _ => Row.Sw⟩
theorem QC {c : L} {a b : Row} {g : G} (h : Good T e (K9 c a b g).2) :
  Good T e g ∧ OP e (pick (c.ev e).bool a b) (K9 c a b g).1 := by
 unfold K9 at h ⊢
 split at h
 ·rename_i hs
  simp only [hs, if_true] at h ⊢
  simp only [Bool.and_eq_true, beq_iff_eq] at hs
  obtain ⟨⟨⟨h1, h2⟩, h3⟩, h4⟩ := hs
  split at h
  ·rename_i l g1 hl
   simp only at h ⊢
   have hm := EK h4 h
   have hml := J9 (T := T) (e := e) (c := c) (a := a.lst) (b := b.lst) (g := g) (by rw [hl]; exact hm.1)
   have hml2 := hml.2 l (by rw [hl])
   have ho : (pick (c.ev e).bool a b).own = a.own := by cases hc : (c.ev e).bool <;> simp [pick, h1]
   have hlp : pick (c.ev e).bool a.lst b.lst = (pick (c.ev e).bool a b).lst := by cases hc : (c.ev e).bool <;> simp [pick]
   refine ⟨hml.1, fun h => by rw [ho]; exact h, fun _ h => by rw [ho] at h; exact h, fun p hp => by rw [← hlp]; exact hml2.2 p hp, fun n loc w B r hr => ?_⟩
   have ht : (pick (c.ev e).bool a b).ty = a.ty := by cases hc : (c.ev e).bool <;> simp [pick, h2]
   have he : (pick (c.ev e).bool a b).es = a.es := by cases hc : (c.ev e).bool <;> simp [pick, h3]
   have hcs : (pick (c.ev e).bool a b).cells = pick (c.ev e).bool a.cells b.cells := by cases hc : (c.ev e).bool <;> simp [pick]
   unfold AH at hr ⊢
   rw [ho, ht, he, hcs] at hr
   split
   ·rename_i hoo
    rw [if_pos hoo] at hr
    obtain ⟨a1, a2, a3, a4, vs, sp, a5, a6, a7⟩ := hr
    exact ⟨a1, a2, a3, a4, vs, sp, a5, hm.2 n loc vs a6, a7⟩
   ·rename_i hoo
    rw [if_neg hoo] at hr
    intro hne
    have hle : (Bh c a.cells b.cells g1).1.length ≤ (pick (c.ev e).bool a.cells b.cells).length := by
     have := @NA c a.cells b.cells g1
     cases hc : (c.ev e).bool
     ·exact this.2
     ·exact this.1
    have hne' : pick (c.ev e).bool a.cells b.cells ≠ [] := fun h0 => by
     rw [h0] at hle
     exact hne (List.eq_nil_of_length_eq_zero (Nat.le_zero.1 hle))
    obtain ⟨a1, a2, a3⟩ := hr hne'
    refine ⟨a1, a2, fun j s' hj => ?_⟩
    have hlt : j < (pick (c.ev e).bool a.cells b.cells).length := Nat.lt_of_lt_of_le (Ac hj) hle
    have hp := List.getElem?_eq_getElem hlt
    obtain ⟨v, hv, hrel⟩ := a3 j _ hp
    exact ⟨v, hv, OO h n loc j _ v hp hrel s' hj⟩
  ·rename_i g1 hl
   simp only at h ⊢
   have hml := J9 (T := T) (e := e) (c := c) (a := a.lst) (b := b.lst) (g := g) (by rw [hl]; exact h)
   exact ⟨hml.1, .dead _⟩
 ·rename_i hs
  simp only [hs, Bool.false_eq_true, if_false] at h ⊢
  exact ⟨h, .dead _⟩
theorem DE {c : L} : ∀ {a b : List Row} {g : G}, Good T e (Bq c a b g).2 →
  Good T e g ∧ a.length ≤ (Bq c a b g).1.length ∧ b.length ≤ (Bq c a b g).1.length ∧
   ∀ (r : Nat) x', (Bq c a b g).1[r]? = some x' → x' = Row.dead ∨ ∃ x, (pick (c.ev e).bool a b)[r]? = some x ∧ OP e x x'
 | [], m, g, h => by
  simp only [Bq] at h ⊢
  exact ⟨h, by simp, by simp, fun r x' hx => .inl (by simp at hx; exact hx.2.symm)⟩
 | a :: l, [], g, h => by
  simp only [Bq] at h ⊢
  exact ⟨h, by simp, by simp, fun r x' hx => .inl (by
   have : x' ∈ (a :: l).map fun _ => Row.dead := List.mem_of_getElem? hx
   simp only [List.mem_map] at this
   obtain ⟨_, _, h⟩ := this
   exact h.symm)⟩
 | a :: l, b :: m, g, h => by
  simp only [Bq] at h ⊢
  have h2 := DE h
  have h1 := QC h2.1
  obtain ⟨_, l1, l2, h3⟩ := h2
  refine ⟨h1.1, by simpa using l1, by simpa using l2, fun r x' hx => ?_⟩
  cases r with
  | zero =>
   simp only [List.getElem?_cons_zero, Option.some.injEq] at hx
   subst hx
   exact .inr ⟨pick (c.ev e).bool a b, by cases hc : (c.ev e).bool <;> simp [pick], h1.2⟩
  | succ r =>
   rcases h3 r x' (by simpa using hx) with h4 | ⟨x, hx', h5⟩
   ·exact .inl h4
   ·exact .inr ⟨x, by cases hc : (c.ev e).bool <;> simpa [pick, hc] using hx', h5⟩
theorem Ad.W6 {rows rows' : List Row} {w : World} {B : Bd} (hr : Ad e loc rows w B) (hlen : rows.length ≤ rows'.length)
  (h3 : ∀ (r : Nat) x', rows'[r]? = some x' → x' = Row.dead ∨ ∃ x, rows[r]? = some x ∧ OP e x x') : Ad e loc rows' w B := by
 have back : ∀ (r : Nat) x', rows'[r]? = some x' → (x'.own = true ∨ x'.lst ≠ none) → ∃ x, rows[r]? = some x ∧ OP e x x' := fun r x' hx hne => by
  rcases h3 r x' hx with rfl | h
  ·simp [Row.dead] at hne
  ·exact h
 refine ⟨fun r x' hx => ?_, fun r x' q hx hq => ?_, fun r s x y hx hy ox oy => ?_, fun r s x y hx hy ox oy hne => ?_⟩
 ·rcases h3 r x' hx with rfl | ⟨x, hx', h5⟩
  ·exact Row.Sw
  ·exact h5.row _ _ _ _ _ ((hr.row r x hx').ext (Ac hx') (AO.refl _ _) hlen)
 ·obtain ⟨x, hx', h5⟩ := back r x' hx (.inr (by simp [hq]))
  obtain ⟨q0, k1, k2⟩ := h5.lst q hq
  obtain ⟨m1, m2⟩ := hr.lst r x q0 hx' k1
  exact ⟨h5.own' (by simp [hq]) m1, m2.of_eq k2⟩
 ·obtain ⟨q, o1, o2, o3⟩ := ox
  obtain ⟨x', hx', h5⟩ := back r x hx (.inr (by simp [o1]))
  obtain ⟨q0, k1, k2⟩ := h5.lst q o1
  have ox' : B6 loc r x' := ⟨q0, k1, by rw [← k2.1]; exact o2, o3⟩
  rcases oy with oy | ⟨⟨p, p1, p2, p3⟩, hne⟩
  ·obtain ⟨y', hy', h6⟩ := back s y hy (.inl oy)
   exact hr.lapart r s x' y' hx' hy' ox' (.inl (h6.own oy))
  ·obtain ⟨y', hy', h6⟩ := back s y hy (.inr (by simp [p1]))
   obtain ⟨p0, m1, m2⟩ := h6.lst p p1
   exact hr.lapart r s x' y' hx' hy' ox' (.inr ⟨⟨p0, m1, by rw [← m2.1]; exact p2, p3⟩, hne⟩)
 ·obtain ⟨x', hx', h5⟩ := back r x hx (.inl ox)
  obtain ⟨y', hy', h6⟩ := back s y hy (.inl oy)
  exact hr.apart r s x' y' hx' hy' (h5.own ox) (h6.own oy) hne
theorem Ad.merge {c : L} {a b : List Row} {g : G} {w : World} {B : Bd} (h : Good T e (Bq c a b g).2)
  (hr : Ad e loc (pick (c.ev e).bool a b) w B) : Ad e loc (Bq c a b g).1 w B := by
 obtain ⟨_, l1, l2, h3⟩ := DE h
 exact hr.W6 (by cases hc : (c.ev e).bool <;> simpa [pick, hc]) h3
end
end Rx
namespace Rx
open Go Go.RowKit
def zOf : Value → Option K
 | .int k 0 => some (.int k (.n 0))
 | .bool false => some (.bool (.t false))
 | .string s => if s.data.toList.isEmpty then some (.str (.s [])) else none
 | .slice none 0 0 => some .nilslc
 | .pointer none => some .nilptr
 | .nilFunc => some .nilfn
 | _ => none
def Zu : List Value → Option (List K)
 | [] => some []
 | v :: l => do let k ← zOf v; let r ← Zu l; some (k :: r)
def MJ : List (Nat × Nat) → List (Nat × Nat) → Bool
 | [], [] => true
 | a :: l, b :: m => a.1 == b.1 && a.2 == b.2 && MJ l m
 | _, _ => false
def TK.okB : TK → TypeDesc → Bool
 | .int k, .int k' => CM k k'
 | .bool, .bool => true
 | .string, .string => true
 | .ptr e, .pointer e' => e == e'
 | .slice e, .slice e' => e == e'
 | .arr n e, .array n' e' => n == n' && e == e'
 | .struct fs, .struct gs => MJ (gs.toList.map fun f => (f.type, f.offset)) fs
 | .func, .func .. => true
 | _, _ => false
def Sx (P : Program) : TypeDesc → Bool
 | .struct gs => gs.toList.all fun f => (P.info? f.type).isSome
 | _ => true
def Ty.okB (P : Program) (t : Nat) (ty : Ty) : Bool :=
 match P.info? t, P.underlying t with
 | some i, some d => i.size == ty.size && i.bytes == ty.bytes && ty.kind.okB d && ty.zero.length == ty.size && Sx P d &&
  (match i.zero with
  | some z => z.cells.size == ty.size && (match Zu z.cells.toList with | some ks => H7 ks ty.zero | none => false)
  | none => false)
 | _, _ => false
section
variable {T : Nat → List A → Bool × List A} {e : Nat → A} {n n' : Nat} {loc loc' : Loc} {P : Program}
theorem AaS {v : Value} {k : K} (h : zOf v = some k) : k.rel e n loc v := by
 unfold zOf at h
 split at h
 ·injection h with h; subst h; exact ⟨trivial, rfl, .inr rfl⟩
 ·injection h with h; subst h; exact ⟨trivial, rfl, .inr rfl⟩
 ·rename_i s
  split at h
  ·rename_i hs
   injection h with h; subst h
   refine ⟨trivial, rfl, .inr ?_⟩
   obtain ⟨⟨l⟩⟩ := s
   have : l = [] := by simpa using hs
   subst this
   rfl
  ·cases h
 ·injection h with h; subst h; exact ⟨trivial, rfl, .inr rfl⟩
 ·injection h with h; subst h; exact ⟨trivial, rfl, .inr rfl⟩
 ·injection h with h; subst h; exact ⟨trivial, rfl, .inr rfl⟩
 ·cases h
theorem Tq : ∀ {vs : List Value} {ks : List K}, Zu vs = some ks → Aj e n loc (E8 ks) vs
 | [], ks, h => by simp [Zu] at h; subst h; trivial
 | v :: l, ks, h => by
  simp only [Zu, Option.bind_eq_bind, Option.bind_eq_some_iff, Option.some.injEq] at h
  obtain ⟨k, hk, r, hr, rfl⟩ := h
  exact ⟨AaS hk, Tq hr⟩
theorem MK : ∀ {a b : List (Nat × Nat)}, MJ a b = true → a = b
 | [], [], _ => rfl
 | [], _ :: _, h => by simp [MJ] at h
 | _ :: _, [], h => by simp [MJ] at h
 | (a, a') :: l, (b, b') :: m, h => by
  simp only [MJ, Bool.and_eq_true, beq_iff_eq] at h
  obtain ⟨⟨h1, h2⟩, h3⟩ := h
  rw [show a = b from h1, show a' = b' from h2, MK h3]
structure FB (P : Program) (t : Nat) (ty : Ty) : Prop where
 info : ∃ i z, P.info? t = some i ∧ i.size = ty.size ∧ i.bytes = ty.bytes ∧ i.zero = some z ∧ z.cells.size = ty.size ∧ ∀ (e : Nat → A) n loc, Aj e n loc (E8 ty.zero) z.cells.toList
 kind : ∃ d, P.underlying t = some d ∧ ty.kind.okB d = true
 zlen : ty.zero.length = ty.size
 fields : ∀ d, P.underlying t = some d → Sx P d = true
theorem Ty.AbS {t : Nat} {ty : Ty} (h : ty.okB P t = true) : FB P t ty := by
 unfold Ty.okB at h
 split at h
 ·rename_i i d hi hd
  simp only [Bool.and_eq_true, beq_iff_eq] at h
  obtain ⟨⟨⟨⟨⟨h1, h2⟩, h3⟩, h4⟩, hfs⟩, h5⟩ := h
  split at h5
  ·rename_i z hz
   simp only [Bool.and_eq_true, beq_iff_eq] at h5
   obtain ⟨h5, h6⟩ := h5
   split at h6
   ·rename_i ks hks
    have h7 := JE h6
    exact ⟨⟨i, z, hi, h1, h2, hz, h5, fun e n loc => by rw [← h7]; exact Tq hks⟩, ⟨d, hd, h3⟩, h4, fun d' hd' => by rw [hd] at hd'; injection hd' with hd'; subst hd'; exact hfs⟩
   ·cases h6
  ·cases h5
 ·cases h
def B5 (P : Program) (l : List (Nat × Ty)) : Prop := ∀ t ty, look t l = some ty → FB P t ty
theorem Lm {α : Type} {t : Nat} : ∀ {l : List (Nat × α)} {x : α}, look t l = some x → (t, x) ∈ l
 | [], _, h => by cases h
 | (u, y) :: l, x, h => by
  unfold look at h
  split at h
  ·rename_i hu
   injection h with h
   simp only [beq_iff_eq] at hu
   subst hu h
   exact List.mem_cons_self ..
  ·exact List.mem_cons_of_mem _ (Lm h)
theorem Acq {l : List (Nat × Ty)} (h : l.all (fun x => x.2.okB P x.1) = true) : B5 P l := fun t ty ht =>
 Ty.AbS (List.all_eq_true.1 h (t, ty) (Lm ht))
variable {t : Nat} {ty : Ty}
theorem Ln {t : Nat} {i : TypeInfo} (h : P.info? t = some i) (w : World) : (typeInfo t).run P w = .ok i w := by simp [typeInfo, h]
theorem Bc (h : FB P t ty) (w : World) : (Go.sizeOf t).run P w = .ok ty.size w := by
 obtain ⟨i, z, hi, hs, _⟩ := h.info
 simp [Go.sizeOf, Ln hi, hs]
theorem OQ (h : FB P t ty) : ∃ z : Value, z.cells.size = ty.size ∧ (∀ (e : Nat → A) n loc, Aj e n loc (E8 ty.zero) z.cells.toList) ∧ ∀ w, (zeroValue t).run P w = .ok z w := by
 obtain ⟨i, z, hi, hs, _, hz, hzs, hr⟩ := h.info
 exact ⟨z, hzs, hr, fun w => by simp [zeroValue, Ln hi, hz]⟩
theorem E2 (h : FB P t ty) (w : World) : (isAgg t).run P w = .ok ty.kind.agg w := by
 obtain ⟨d, hd, hk⟩ := h.kind
 simp only [isAgg, Sem.run_bind, run_underlying hd, Result.andThen_ok]
 generalize ty.kind = k at *
 cases k <;> cases d <;> simp [TK.okB] at hk <;> rfl
theorem addr_add (b o j : Nat) : (⟨b, o, none⟩ : Addr).add j = ⟨b, o + j, none⟩ := by
 unfold Addr.add; split <;> simp_all
theorem K.CP {k : K} {u v : Value} (hs : k.Dm = true) (h : k.rel e n loc u) (h' : k.rel e n loc v) : u = v := by
 rcases h.2.2 with h1 | h1
 ·subst h1; simp [K.Dm] at hs
 ·rcases h'.2.2 with h2 | h2
  ·subst h2; simp [K.Dm] at hs
  ·rw [h1, h2]
theorem G2 : ∀ {l : List K} {us vs : List Value}, l.all K.Dm = true → C8 e n loc l us → C8 e n loc l vs → us = vs
 | [], [], [], _, _, _ => rfl
 | k :: l, u :: us, v :: vs, hs, h, h' => by
  simp only [List.all_cons, Bool.and_eq_true] at hs
  rw [K.CP hs.1 h.1 h'.1, G2 hs.2 h.2 h'.2]
theorem C.CP {c : C} {u v : Value} (hs : c.Dm = true) (h : c.rel e n loc u) (h' : c.rel e n loc v) : u = v := by
 cases c with
 | k x => exact K.CP hs h h'
 | clo f a b =>
  simp only [C.Dm, Bool.and_eq_true] at hs
  obtain ⟨va, vb, rfl, h1, h2⟩ := h
  obtain ⟨va', vb', rfl, h1', h2'⟩ := h'
  rw [G2 hs.1 h1 h1', G2 hs.2 h2 h2']
 | cfn x f h2 => exact (show u = _ from h).trans (show v = _ from h').symm
theorem Ck : ∀ {l : List C} {us vs : List Value}, l.all C.Dm = true → Aj e n loc l us → Aj e n loc l vs → us = vs
 | [], [], [], _, _, _ => rfl
 | k :: l, u :: us, v :: vs, hs, h, h' => by
  simp only [List.all_cons, Bool.and_eq_true] at hs
  rw [C.CP hs.1 h.1 h'.1, Ck hs.2 h.2 h'.2]
theorem Ad.cell {rows : List Row} {w : World} {B : Bd} (h : Ad e loc rows w B) {r : Nat} {row : Row} (hr : rows[r]? = some row) {j : Nat} {c : C} (hj : row.cells[j]? = some c) :
  ∃ v, w.cell? ⟨(loc r).blk, (loc r).off + j, none⟩ = some v ∧ c.rel e rows.length loc v := by
 have hrow := h.row r row hr
 unfold AH at hrow
 split at hrow
 ·obtain ⟨h1, h2, h3, h4, vs, sp, h5, h6, h7⟩ := hrow
  obtain ⟨v, hv, hrel⟩ := Dt h6 hj
  refine ⟨v, ?_, hrel⟩
  have hlt := Ac hv
  rw [h1]
  simp only [World.cell?, h5, Nat.zero_add]
  simp [List.getElem?_append_left hlt, hv]
 ·have hne : row.cells ≠ [] := fun h0 => by rw [h0] at hj; simp at hj
  exact (hrow hne).2.2 j c hj
theorem Di {w : World} {b o : Nat} : ∀ {cs : List C} , (∀ j c, cs[j]? = some c → ∃ v, w.cell? ⟨b, o + j, none⟩ = some v ∧ c.rel e n loc v) →
  ∃ vs : List Value, Aj e n loc cs vs ∧ ∀ j v, vs[j]? = some v → w.cell? ⟨b, o + j, none⟩ = some v := by
 intro cs
 induction cs generalizing o with
 | nil => intro _; exact ⟨[], trivial, fun j v h => by simp at h⟩
 | cons c cs ih =>
  intro h
  obtain ⟨v, hv, hr⟩ := h 0 c rfl
  obtain ⟨vs, h1, h2⟩ := ih (o := o + 1) (fun j c' hj => by
   obtain ⟨u, hu, hur⟩ := h (j + 1) c' (by simpa using hj)
   exact ⟨u, by rw [← hu]; congr 2; omega, hur⟩)
  refine ⟨v :: vs, ⟨hr, h1⟩, fun j u hj => ?_⟩
  cases j with
  | zero => simp at hj; subst hj; exact hv
  | succ j => rw [← h2 j u (by simpa using hj)]; congr 2; omega
theorem Be (h : FB P t ty) {w : World} {b o : Nat} {cs : List C} {vs : List Value} {p : PV} (hr : Aj e n loc cs vs) (hc : ∀ j v, vs[j]? = some v → w.cell? ⟨b, o + j, none⟩ = some v)
  (hl : cs.length = ty.size) (hp : Et ty.kind.agg cs = some p) :
  ∃ v, p.rel e n loc v ∧ (Instr.loadAt t (.pointer (some ⟨b, o, none⟩))).run P w = .ok v w := by
 have hvl : vs.length = ty.size := by rw [← AR hr, hl]
 rcases BG hp with ⟨ha, rfl⟩ | ⟨ha, c, rfl, rfl⟩
 ·refine ⟨.agg vs.toArray, ⟨vs, rfl, hr⟩, ?_⟩
  have hld := run_loadCells_list (P := P) w ⟨b, o, none⟩ vs (fun j v hj => by rw [addr_add]; exact hc j v hj)
  rw [hvl] at hld
  simp [Instr.loadAt, Instr.sureAddr, loadVar, E2 h, ha, Bc h, hld]
 ·cases vs with
  | nil => exact hr.elim
  | cons v vs =>
   have hv := hc 0 v rfl
   simp only [Nat.add_zero] at hv
   exact ⟨v, hr.1, by simp [Instr.loadAt, Instr.sureAddr, loadVar, E2 h, ha, hv]⟩
theorem G3 {B : Nat} {w : World} {b : Nat} (hb : B ≤ b) (cs : Array Value) : Below B w (w.setRow b cs) :=
 ⟨rfl, rfl, rfl, by simp, fun k hk => setRow_other w b k cs (by omega)⟩
theorem Cm {B : Nat} {w : World} (hb : B ≤ w.heap.size) (o : Obj) : Below B w (w.alloc o) :=
 (Below.refl B w).alloc hb o
theorem Fg : ∀ {l : List C} {vs : List Value} {c : List C} {us : List Value} {off : Nat}, Aj e n loc l vs → Aj e n loc c us → off + c.length ≤ l.length →
  Aj e n loc (setCells l off c) (vs.take off ++ us ++ vs.drop (off + us.length))
 | l, vs, [], [], off, h, _, _ => by simpa [setCells] using h
 | l, vs, c :: cs, u :: us, off, h, hc, hl => by
  have hll := AR h
  have h1 := Gt h hc.1 off
  have h2 := Fg (off := off + 1) h1 hc.2 (by simp at hl ⊢; omega)
  have hlt : off < vs.length := by simp at hl; omega
  have e1 : (vs.set off u).take (off + 1) = vs.take off ++ [u] := by
   rw [List.take_set, List.take_succ_eq_append_getElem hlt, List.set_append_right _ _ (by simp; omega)]
   simp [Nat.min_eq_left (Nat.le_of_lt hlt)]
  have e2 : (vs.set off u).drop (off + 1 + us.length) = vs.drop (off + (u :: us).length) := by
   rw [List.drop_set_of_lt (by omega)]
   congr 1
   simp; omega
  rw [e1, e2] at h2
  simpa [setCells] using h2
theorem Lo : ∀ {c l : List C} {off : Nat}, (setCells l off c).length = l.length
 | [], l, off => rfl
 | c :: cs, l, off => by simp [setCells, Lo]
end
end Rx
namespace Rx
open Go Go.RowKit
structure W0 where
 w : World
 S : Nat → Prop
instance : Inhabited W0 := ⟨⟨default, fun _ => True⟩⟩
def Yld (P : Program) (o : Oper) (a : Act) (w : World) (u : Value) (w' : World) : Prop :=
 (Go.execOp a.eval o).run P w = .ok (.value u) w' ∨ ((Go.execOp a.eval o).run P w = .ok .skip w' ∧ u = Go.undef)
def Sy (P : Program) (o : Oper) (a : Act) (w : World) (R : Value → World → Prop) : Prop :=
 (∃ u w', Yld P o a w u w' ∧ R u w') ∨ (∃ f args, (Go.execOp a.eval o).run P w = .ok (.enter f args) w ∧ Calls P f args w (fun en w'' => ∃ u, en = .returned u ∧ R u w''))
def OR (P : Program) (o : Oper) (a : Act) (Cl : World → Prop) (u : Value) (w : World) : Prop :=
 Yld P o a w u w ∨ (∃ f args, (Go.execOp a.eval o).run P w = .ok (.enter f args) w ∧ Calls P f args w (fun en w'' => en = .returned u ∧ Cl w''))
theorem Sy.wp {P : Program} {o : Oper} {a : Act} {w : World} {R : Value → World → Prop} {K : Act → World → Prop} {Q : Exit → Act → World → Prop}
  (h : Sy P o a w R) (hk : ∀ u w', R u w' → K (a.put o.dst u) w') : o.wp P a w K Q := by
 unfold Oper.wp
 rcases h with ⟨u, w', h1 | ⟨h1, h2⟩, hr⟩ | ⟨f, args, h1, h2⟩
 ·rw [h1]; exact hk u w' hr
 ·rw [h1]; subst h2; exact hk _ w' hr
 ·rw [h1]
  refine h2.mono ?_
  rintro en w'' ⟨u, rfl, hr⟩
  exact hk u w'' hr
theorem OR.quietAt {P : Program} {o : Oper} {a : Act} {w : World} {Cl : World → Prop} {u : Value} (h : OR P o a Cl u w) : o.quietAt P a Cl w u := by
 unfold Oper.quietAt
 rcases h with (h1 | ⟨h1, h2⟩) | ⟨f, args, h1, h2⟩
 ·rw [h1]; exact ⟨rfl, rfl⟩
 ·rw [h1]; exact ⟨rfl, h2⟩
 ·rw [h1]; exact ⟨rfl, h2⟩
theorem OR.Adc {P : Program} {o : Oper} {a : Act} {w : World} {Cl : World → Prop} {u : Value} {R : Value → World → Prop} (h : OR P o a Cl u w) (hc : Cl w) (hr : ∀ w', Cl w' → R u w') : Sy P o a w R := by
 rcases h with h | ⟨f, args, h1, h2⟩
 ·exact .inl ⟨u, w, h, hr w hc⟩
 ·exact .inr ⟨f, args, h1, h2.mono fun en w'' ⟨h3, h4⟩ => ⟨u, h3, hr w'' h4⟩⟩
theorem OR.pure {P : Program} {o : Oper} {a : Act} {w : World} {Cl : World → Prop} {u : Value} (h : (Go.execOp a.eval o).run P w = .ok (.value u) w) : OR P o a Cl u w := .inl (.inl h)
section
variable {T : Nat → List A → Bool × List A} {e : Nat → A} {n n' : Nat} {loc loc' : Loc} {P : Program} {X : Ctx} {w0 : W0}
def Bn (e : Nat → A) (w0 : W0) (loc : Loc) (rows : List Row) (w : World) : Prop :=
 ∃ B : Bd, (B.n = w0.w.heap.size ∧ (∀ k, B.F k → w0.S k ∨ B.n ≤ k) ∧ B.le w) ∧ Ad e loc rows w B ∧ Below w0.w.heap.size w0.w w
theorem Bn.bel {rows : List Row} {w : World} (h : Bn e w0 loc rows w) : Below w0.w.heap.size w0.w w := by
 obtain ⟨_, _, _, h⟩ := h; exact h
theorem Bn.le {rows : List Row} {w : World} (h : Bn e w0 loc rows w) : w0.w.heap.size ≤ w.heap.size := h.bel.size
theorem Bn.Ij {rows : List Row} {w w' : World} (h : Bn e w0 loc rows w) (hb : Below w.heap.size w w') : Bn e w0 loc rows w' := by
 have hle := h.le
 obtain ⟨B, ⟨h1, h2, h3⟩, h4, h5⟩ := h
 exact ⟨B, ⟨h1, h2, h3.mono hb.size⟩, h4.below h3 hb, h5.trans (hb.mono hle)⟩
theorem Bn.cell {rows : List Row} {w : World} (h : Bn e w0 loc rows w) {r : Nat} {row : Row} (hr : rows[r]? = some row) {j : Nat} {c : C} (hj : row.cells[j]? = some c) :
  ∃ v, w.cell? ⟨(loc r).blk, (loc r).off + j, none⟩ = some v ∧ c.rel e rows.length loc v := by
 obtain ⟨B, _, h, _⟩ := h; exact h.cell hr hj
def QOp (P : Program) (e : Nat → A) (w0 : W0) (fr : List SV) (rows : List Row) (gs : List (L × Bool)) (pc : L) (o : Oper) (v : SV) : Prop :=
 ∀ (loc : Loc) (a : Act) (w1 : World), (pc.ev e).bool = true → Holds e gs → Ax e rows.length loc fr a.tmps → Bn e w0 loc rows w1 →
  ∃ u, v.rel e rows.length loc u ∧ ∀ w, Bn e w0 loc rows w → OR P o a (Bn e w0 loc rows) u w
def LOp (P : Program) (e : Nat → A) (w0 : W0) (fr : List SV) (rows : List Row) (gs : List (L × Bool)) (pc : L) (o : Oper) (v : SV) (rows' : List Row) : Prop :=
 ∀ (loc : Loc) (a : Act) (w : World), (pc.ev e).bool = true → Holds e gs → Ax e rows.length loc fr a.tmps → Bn e w0 loc rows w →
  Sy P o a w fun u w' => ∃ loc', AO rows.length loc loc' ∧ rows.length ≤ rows'.length ∧ v.rel e rows'.length loc' u ∧ Bn e w0 loc' rows' w'
def Bv (P : Program) (T : Nat → List A → Bool × List A) (e : Nat → A) (w0 : W0) (fr : List SV) (rows : List Row) (gs : List (L × Bool)) (pc : L) (o : Oper) (g : G) : Option Qs → Prop
 | none => True
 | some (v, none, g') => Good T e g' → Good T e g ∧ QOp P e w0 fr rows gs pc o v
 | some (v, some rows', g') => Good T e g' → Good T e g ∧ LOp P e w0 fr rows gs pc o v rows'
variable {fr : List SV} {rows : List Row} {gs : List (L × Bool)} {pc : L} {o : Oper} {g : G} {inl : Inline}
theorem Ae {p : PV} {g' : G} (h : Good T e g' → Good T e g ∧ ∀ (loc : Loc) (a : Act) (w1 : World), (pc.ev e).bool = true → Holds e gs → Ax e rows.length loc fr a.tmps → Bn e w0 loc rows w1 →
  ∃ u, p.rel e rows.length loc u ∧ ∀ w, Bn e w0 loc rows w → (Go.execOp a.eval o).run P w = .ok (.value u) w) : Bv P T e w0 fr rows gs pc o g (one p g') := by
 intro hg
 obtain ⟨h1, h2⟩ := h hg
 refine ⟨h1, fun loc a w1 hp hgs hf hw => ?_⟩
 obtain ⟨u, hu, hr⟩ := h2 loc a w1 hp hgs hf hw
 exact ⟨u, hu, fun w hw => .pure (hr w hw)⟩
theorem W7 {x : Operand} (ho : o.op = .move x ∨ o.op = .assign x) : Bv P T e w0 fr rows gs pc o g (execOp X inl fr rows gs pc o g) := by
 have hrun : ∀ (a : Act) w, (Go.execOp a.eval o).run P w = .ok (.value (a.eval x)) w := fun a w => by rcases ho with h | h <;> simp [Go.execOp, h]
 have hx : execOp X inl fr rows gs pc o g = Zg fr gs x g := by
  obtain ⟨dst, op, ty, pos, after, guard⟩ := o
  rcases ho with h | h <;> simp only at h <;> subst h <;> rfl
 rw [hx]
 unfold Zg
 cases x with
 | tmp t =>
  simp only
  split
  ·rename_i hs p hfr
   split
   ·rename_i hsub
    refine Ae fun hg => ⟨hg, fun loc a w1 hp hgs hf hw => ?_⟩
    obtain ⟨v, _, hv, hr⟩ := hf.get hfr
    exact ⟨v, hr.1 (KK hsub hgs), fun w _ => by rw [hrun]; simp only [Act.eval, hv]⟩
   ·trivial
  ·rename_i s _ hfr
   refine fun hg => ⟨hg, fun loc a w1 hp hgs hf hw => ?_⟩
   obtain ⟨v, _, hv, hr⟩ := hf.get hfr
   exact ⟨v, hr, fun w _ => .pure (by rw [hrun]; simp only [Act.eval, hv])⟩
  ·trivial
 | const v =>
  simp only
  cases hp : Db fr gs (.const v) with
  | none => trivial
  | some p => exact Ae fun hg => ⟨hg, fun loc a w1 _ hgs hf _ => ⟨_, Aa hp hf hgs, fun w _ => hrun a w⟩⟩
 | global v =>
  simp only
  cases hp : Db fr gs (.global v) with
  | none => trivial
  | some p => exact Ae fun hg => ⟨hg, fun loc a w1 _ hgs hf _ => ⟨_, Aa hp hf hgs, fun w _ => hrun a w⟩⟩
 | func v =>
  simp only
  cases hp : Db fr gs (.func v) with
  | none => trivial
  | some p => exact Ae fun hg => ⟨hg, fun loc a w1 _ hgs hf _ => ⟨_, Aa hp hf hgs, fun w _ => hrun a w⟩⟩
theorem PV.OS {p : PV} {x : L} {v : Value} (h : p.bool? = some x) (hr : p.rel e n loc v) : v = .bool (x.ev e).bool := by
 unfold PV.bool? at h
 split at h
 ·injection h with h; subst h
  rcases hr.2.2 with h1 | h1
  ·cases h1
  ·exact h1
 ·cases h
theorem PV.Cy {p : PV} {k : IntKind} {x : L} {v : Value} (h : p.int? = some (k, x)) (hr : p.rel e n loc v) : v = .int k (x.ev e).int := by
 unfold PV.int? at h
 split at h
 ·simp only [Option.some.injEq, Prod.mk.injEq] at h
  obtain ⟨rfl, rfl⟩ := h
  rcases hr.2.2 with h1 | h1
  ·cases h1
  ·exact h1
 ·cases h
theorem Ca {k : IntKind} {x : L} {v : Value} (hr : (PV.one (.k (.int k x))).rel e n loc v) : v = .int k (x.ev e).int := by
 rcases hr.2.2 with h1 | h1
 ·cases h1
 ·exact h1
theorem Fh {x : L} {v : Value} (hr : (PV.one (.k (.bool x))).rel e n loc v) : v = .bool (x.ev e).bool := by
 rcases hr.2.2 with h1 | h1
 ·cases h1
 ·exact h1
theorem Oo {x : L} {v : Value} (hr : (PV.one (.k (.str x))).rel e n loc v) : v = .string (x.ev e).str := by
 rcases hr.2.2 with h1 | h1
 ·cases h1
 ·exact h1
theorem BN {k : IntKind} {x : L} {i : Int} (h : (x.ev e).int = i) : (PV.one (.k (.int k x))).rel e n loc (.int k i) := ⟨trivial, rfl, .inr (by simp [K.Bl, h])⟩
theorem CI {x : L} {i : Bool} (h : (x.ev e).bool = i) : (PV.one (.k (.bool x))).rel e n loc (.bool i) := ⟨trivial, rfl, .inr (by simp [K.Bl, h])⟩
theorem KM {x : L} {t : Bool} {gs : List (L × Bool)} (h : (x.ev e).bool = t) (hg : Holds e gs) : Holds e ((x, t) :: gs) := fun z hz => by
 rcases List.mem_cons.1 hz with rfl | hz
 ·exact h
 ·exact hg z hz
theorem AaT {c x y : Operand} (ho : o.op = .pick c x y) : Bv P T e w0 fr rows gs pc o g (execOp X inl fr rows gs pc o g) := by
 have hrun : ∀ (a : Act) (t : Bool) w, a.eval c = .bool t → (Go.execOp a.eval o).run P w = .ok (.value (if t then a.eval x else a.eval y)) w := fun a t w h => by
  simp [Go.execOp, ho, h, asBool]
 obtain ⟨dst, op, ty, pos, after, guard⟩ := o
 simp only at ho
 subst ho
 simp only [execOp, Option.bind_eq_bind]
 cases hp : Db fr gs c with
 | none => trivial
 | some p =>
  simp only [Option.bind_some]
  cases hb : p.bool? with
  | none => trivial
  | some b =>
   simp only [Option.bind_some]
   have hc : ∀ loc (a : Act), Ax e rows.length loc fr a.tmps → Holds e gs → a.eval c = .bool (b.ev e).bool := fun loc a hf hgs => PV.OS hb (Aa hp hf hgs)
   split
   ·cases hx : Db fr gs x with
    | none => trivial
    | some q =>
     simp only [Option.bind_some]
     exact Ae fun hg => ⟨hg, fun loc a w1 _ hgs hf _ => ⟨_, Aa hx hf hgs, fun w _ => by rw [hrun a _ w (hc loc a hf hgs)]; simp⟩⟩
   ·cases hx : Db fr gs y with
    | none => trivial
    | some q =>
     simp only [Option.bind_some]
     exact Ae fun hg => ⟨hg, fun loc a w1 _ hgs hf _ => ⟨_, Aa hx hf hgs, fun w _ => by rw [hrun a _ w (hc loc a hf hgs)]; simp⟩⟩
   ·cases hx : Db fr ((b, true) :: gs) x with
    | none => trivial
    | some q1 =>
     simp only [Option.bind_some]
     cases hy : Db fr ((b, false) :: gs) y with
     | none => trivial
     | some q2 =>
      simp only [Option.bind_some]
      split
      ·rename_i c1 c2
       refine Ae fun hg => ?_
       have hm := Du hg
       refine ⟨hm.1, fun loc a w1 _ hgs hf _ => ⟨if (b.ev e).bool then a.eval x else a.eval y, hm.2 _ _ _ ?_, fun w _ => hrun a _ w (hc loc a hf hgs)⟩⟩
       cases hbe : (b.ev e).bool
       ·simp only [pick, Bool.false_eq_true, if_false]; exact Aa hy hf (KM hbe hgs)
       ·simp only [pick, if_true]; exact Aa hx hf (KM hbe hgs)
      ·trivial
theorem Tr {x : Operand} (ho : o.op = .nilCheck x) : Bv P T e w0 fr rows gs pc o g (execOp X inl fr rows gs pc o g) := by
 obtain ⟨dst, op, ty, pos, after, guard⟩ := o
 simp only at ho
 subst ho
 simp only [execOp, Option.bind_eq_bind]
 cases hp : Db fr gs x with
 | none => trivial
 | some p =>
  simp only [Option.bind_some]
  split
  ·rename_i r off
   refine Ae fun hg => ⟨hg, fun loc a w1 _ hgs hf _ => ?_⟩
   have h := Aa hp hf hgs
   refine ⟨_, h, fun w _ => ?_⟩
   rcases h.2.2 with h1 | h1
   ·cases h1
   ·simp only [Go.execOp, h1, K.Bl]; rfl
  ·rename_i r off st num y
   refine Ae fun hg => ⟨hg, fun loc a w1 _ hgs hf _ => ?_⟩
   have h := Aa hp hf hgs
   refine ⟨_, h, fun w _ => ?_⟩
   rcases h.2.2 with h1 | h1
   ·cases h1
   ·simp only [Go.execOp, h1, K.Bl]; rfl
  ·rename_i r off st num y
   refine Ae fun hg => ⟨hg, fun loc a w1 _ hgs hf _ => ?_⟩
   have h := Aa hp hf hgs
   refine ⟨_, h, fun w _ => ?_⟩
   rcases h.2.2 with h1 | h1
   ·cases h1
   ·simp only [Go.execOp, h1, K.Bl]; rfl
  ·rename_i f a b
   refine Ae fun hg => ⟨hg, fun loc a w1 _ hgs hf _ => ?_⟩
   have h := Aa hp hf hgs
   refine ⟨_, h, fun w _ => ?_⟩
   obtain ⟨va, vb, h1, _⟩ := h
   simp only [Go.execOp, h1]; rfl
  ·trivial
theorem AaU {op : UnOp} {t : TypeId} {x : Operand} (ho : o.op = .unOp op t x) : Bv P T e w0 fr rows gs pc o g (execOp X inl fr rows gs pc o g) := by
 obtain ⟨dst, op', ty, pos, after, guard⟩ := o
 simp only at ho
 subst ho
 simp only [execOp, Option.bind_eq_bind]
 cases hp : Db fr gs x with
 | none => trivial
 | some p =>
  simp only [Option.bind_some]
  split
  ·rename_i y
   refine Ae fun hg => ?_
   have hm := BL hg
   refine ⟨hm.1, fun loc a w1 _ hgs hf _ => ⟨.bool (!(y.ev e).bool), CI (by rw [hm.2]; rfl), fun w _ => ?_⟩⟩
   have h := Fh (Aa hp hf hgs)
   simp [Go.execOp, h, Op.unary]
  ·rename_i k y
   refine Ae fun hg => ?_
   have hm := U9 hg
   refine ⟨hm.1, fun loc a w1 _ hgs hf _ => ⟨.int k (k.wrap (0 - (y.ev e).int)), BN (by rw [hm.2]; rfl), fun w _ => ?_⟩⟩
   have h := Ca (Aa hp hf hgs)
   simp [Go.execOp, h, Op.unary, Op.intArith]
  ·rename_i k y
   refine Ae fun hg => ?_
   have hm := Gp hg
   refine ⟨hm.1, fun loc a w1 _ hgs hf _ => ⟨_, BN (by rw [hm.2]), fun w _ => ?_⟩⟩
   have h := Ca (Aa hp hf hgs)
   simp [Go.execOp, h, Op.unary, Op.intBits, CW]
  ·trivial
theorem Ts {t : Nat} {ty : Ty} {k : IntKind} (h : FB P t ty) (hk : ty.kind = .int k) : P.underlying t = some (.int k) := by
 obtain ⟨d, hd, hkd⟩ := h.kind
 rw [hk] at hkd
 cases d <;> simp [TK.okB] at hkd
 rw [hd, BD hkd]
theorem BE {t : Nat} {ty : Ty} (h : FB P t ty) (hk : ty.kind = .string) : P.underlying t = some .string := by
 obtain ⟨d, hd, hkd⟩ := h.kind
 rw [hk] at hkd
 cases d <;> simp [TK.okB] at hkd
 exact hd
theorem AD {t : Nat} {ty : Ty} {u : Nat} (h : FB P t ty) (hk : ty.kind = .slice u) : P.underlying t = some (.slice u) := by
 obtain ⟨d, hd, hkd⟩ := h.kind
 rw [hk] at hkd
 cases d <;> simp [TK.okB] at hkd
 rw [hd, hkd]
theorem Ik {t : Nat} {ty : Ty} {m u : Nat} (h : FB P t ty) (hk : ty.kind = .arr m u) : P.underlying t = some (.array m u) := by
 obtain ⟨d, hd, hkd⟩ := h.kind
 rw [hk] at hkd
 cases d <;> simp [TK.okB] at hkd
 rw [hd, hkd.1, hkd.2]
theorem FI {t : Nat} {ty : Ty} {fs : List (Nat × Nat)} (h : FB P t ty) (hk : ty.kind = .struct fs) :
  ∃ gs : Array Field, P.underlying t = some (.struct gs) ∧ gs.toList.map (fun f => (f.type, f.offset)) = fs := by
 obtain ⟨d, hd, hkd⟩ := h.kind
 rw [hk] at hkd
 cases d <;> simp [TK.okB] at hkd
 exact ⟨_, hd, by simpa using MK hkd⟩
end
end Rx
namespace Rx
open Go Go.RowKit
def CQ (off : Nat) (ls : List (Nat × Au)) : List (Nat × Au) := ls.map fun x => (x.1 + off, x.2)
def El (P : Program) (rec : Nat → Option (List (Nat × Au))) : List Field → Option (List (Nat × Au))
 | [] => some []
 | f :: fs =>
  if f.name = "_" then none else
  match rec f.type, P.info? f.type, El P rec fs with
  | some ls, some i, some r => if ls.all (fun x => decide (x.1 < i.size)) then some (CQ f.offset ls ++ r) else none
  | _, _, _ => none
def Dj (size : Nat) (ls : List (Nat × Au)) : List Nat → List (Nat × Au)
 | [] => []
 | j :: js => CQ (j * size) ls ++ Dj size ls js
def Bp (P : Program) : Nat → Nat → Option (List (Nat × Au))
 | 0, _ => none
 | d + 1, t =>
  match P.underlying t with
  | some (.int k) => some [(0, .int k)]
  | some .bool => some [(0, .bool)]
  | some .string => some [(0, .str)]
  | some (.array n e) =>
   match Bp P d e, P.info? e with
   | some ls, some i => if ls.all (fun x => decide (x.1 < i.size)) then some (Dj i.size ls (List.range n)) else none
   | _, _ => none
  | some (.struct fs) => if P.stoodInHeld t then none else El P (Bp P d) fs.toList
  | _ => none
def Au.has : Au → Value → Prop
 | .int k, v => ∃ n, v = .int k n
 | .bool, v => ∃ b, v = .bool b
 | .str, v => ∃ s, v = .string s
 | .val, _ => True
 | .sl _, _ => True
def Typed (ls : List (Nat × Au)) (us : Array Value) : Prop := ∀ x ∈ ls, ∃ v, us[x.1]? = some v ∧ x.2.has v
def Tt : Option Value → Option Value → Bool
 | some (.int _ a), some (.int _ b) => a == b
 | some (.bool a), some (.bool b) => a == b
 | some (.string a), some (.string b) => a == b
 | _, _ => false
def allEq (us vs : Array Value) (ls : List (Nat × Au)) : Bool := ls.all fun x => Tt us[x.1]? vs[x.1]?
def Gx (P : Program) (t : Nat) : Bool := match P.underlying t with | some (.struct _) | some (.array _ _) => true | _ => false
def sub (P : Program) (t : Nat) (cs : Array Value) (off size : Nat) : Array Value := if Gx P t then cs.extract off (off + size) else #[cs[off]?.getD Go.undef]
def Zv (P : Program) (t : Nat) (us : Array Value) : Value := if Gx P t then .agg us else us[0]?.getD Go.undef
section
variable {P : Program}
theorem Vc {t : Nat} {d : TypeDesc} (h : P.underlying t = some d) (w : World) : (isAgg t).run P w = .ok (Gx P t) w := by
 simp only [isAgg, Sem.run_bind, run_underlying h, Result.andThen_ok, Gx, h]
 cases d <;> rfl
theorem Typed.app {a b : List (Nat × Au)} {us : Array Value} (h : Typed (a ++ b) us) : Typed a us ∧ Typed b us :=
 ⟨fun x hx => h x (by simp [hx]), fun x hx => h x (by simp [hx])⟩
theorem Rp {a b : List (Nat × Au)} {us vs : Array Value} : allEq us vs (a ++ b) = (allEq us vs a && allEq us vs b) := by simp [allEq]
theorem Ka {d t : Nat} {ls : List (Nat × Au)} (h : Bp P d t = some ls) (ha : Gx P t = false) : ∀ x ∈ ls, x.1 = 0 := by
 cases d with
 | zero => cases h
 | succ d =>
  unfold Bp at h
  unfold Gx at ha
  split at h
  ·injection h with h; subst h; simp
  ·injection h with h; subst h; simp
  ·injection h with h; subst h; simp
  ·rename_i hu; simp [hu] at ha
  ·rename_i hu; simp [hu] at ha
  ·cases h
theorem Sz {d t : Nat} {ls : List (Nat × Au)} (h : Bp P d t = some ls) {size off : Nat} (hs : ∀ x ∈ ls, x.1 < size) (us : Array Value) : ∀ x ∈ ls, (us[x.1 + off]?.isSome = true) →
  (sub P t us off size)[x.1]? = us[x.1 + off]? := by
 intro x hx hsome
 unfold sub
 cases ha : Gx P t with
 | true =>
  simp only [if_true]
  have hlt := hs x hx
  rw [Array.getElem?_extract]
  have hl : x.1 + off < us.size := by
   rcases Nat.lt_or_ge (x.1 + off) us.size with h' | h'
   ·exact h'
   ·rw [Array.getElem?_eq_none h'] at hsome; simp at hsome
  rw [if_pos (by omega), Nat.add_comm]
 | false =>
  have h0 := Ka h ha x hx
  rw [h0, Nat.zero_add] at hsome ⊢
  simp only [Bool.false_eq_true, if_false]
  cases hu : us[off]? with
  | none => rw [hu] at hsome; simp at hsome
  | some v => simp
theorem JF {d t : Nat} {ls : List (Nat × Au)} (h : Bp P d t = some ls) {size off : Nat} (hs : ∀ x ∈ ls, x.1 < size) {us : Array Value} (hT : Typed (CQ off ls) us) : Typed ls (sub P t us off size) := by
 intro x hx
 obtain ⟨v, hv, hh⟩ := hT (x.1 + off, x.2) (by simp only [CQ, List.mem_map]; exact ⟨x, hx, rfl⟩)
 exact ⟨v, (Sz h hs us x hx (by simp [hv])).trans hv, hh⟩
theorem Rq {d t : Nat} {ls : List (Nat × Au)} (h : Bp P d t = some ls) {size off : Nat} (hs : ∀ x ∈ ls, x.1 < size) {us vs : Array Value} (hT : Typed (CQ off ls) us) (hT' : Typed (CQ off ls) vs) :
  allEq (sub P t us off size) (sub P t vs off size) ls = allEq us vs (CQ off ls) := by
 have : ∀ l : List (Nat × Au), (∀ x ∈ l, x ∈ ls) → allEq (sub P t us off size) (sub P t vs off size) l = allEq us vs (CQ off l) := by
  intro l
  induction l with
  | nil => intro _; rfl
  | cons x l ih =>
   intro hl
   have hx := hl x (by simp)
   obtain ⟨v, hv, _⟩ := hT (x.1 + off, x.2) (by simp only [CQ, List.mem_map]; exact ⟨x, hx, rfl⟩)
   obtain ⟨v', hv', _⟩ := hT' (x.1 + off, x.2) (by simp only [CQ, List.mem_map]; exact ⟨x, hx, rfl⟩)
   have e1 := Sz (P := P) h (off := off) hs us x hx (by rw [hv]; rfl)
   have e2 := Sz (P := P) h (off := off) hs vs x hx (by rw [hv']; rfl)
   have := ih (fun y hy => hl y (by simp [hy]))
   simp only [allEq, CQ, List.all_cons, List.map_cons] at this ⊢
   rw [e1, e2, this]
 exact this ls (fun x hx => hx)
theorem JG {d t : Nat} {ls : List (Nat × Au)} (h : Bp P d t = some ls) {i : TypeInfo} (hi : P.info? t = some i) {off : Nat} {us : Array Value} (hT : Typed (CQ off ls) us) (hne : ls ≠ [] ∨ Gx P t = true) (w : World) :
  (part t us off).run P w = .ok (Zv P t (sub P t us off i.size)) w := by
 have hu : ∃ d, P.underlying t = some d := by
  cases d with
  | zero => cases h
  | succ d => unfold Bp at h; split at h <;> first | exact ⟨_, ‹_›⟩ | cases h
 obtain ⟨dd, hd⟩ := hu
 simp only [part, Sem.run_bind, Vc hd, Result.andThen_ok]
 cases ha : Gx P t with
 | true =>
  simp [Zv, sub, ha, Go.sizeOf, Ln hi]
 | false =>
  have hl : ls ≠ [] := by rcases hne with h1 | h1 <;> first | exact h1 | (rw [ha] at h1; cases h1)
  cases ls with
  | nil => exact absurd rfl hl
  | cons x l =>
   have h0 := Ka h ha x (by simp)
   obtain ⟨v, hv, _⟩ := hT (x.1 + off, x.2) (by simp [CQ])
   rw [h0, Nat.zero_add] at hv
   simp [Zv, sub, ha, hv]
theorem Rr {d t : Nat} {ls : List (Nat × Au)} (h : Bp P d t = some ls) : ls ≠ [] ∨ Gx P t = true := by
 cases d with
 | zero => cases h
 | succ d =>
  unfold Bp at h
  unfold Gx
  split at h
  ·injection h with h; subst h; simp
  ·injection h with h; subst h; simp
  ·injection h with h; subst h; simp
  ·rename_i hu; simp [hu]
  ·rename_i hu; simp [hu]
  ·cases h
def EqR (P : Program) (D t : Nat) (ls : List (Nat × Au)) : Prop :=
 ∀ us vs : Array Value, Typed ls us → Typed ls vs → ∀ w, (Op.equalIn D t (Zv P t us) (Zv P t vs)).run P w = .ok (allEq us vs ls) w
theorem OT {D : Nat} {rec : Nat → Option (List (Nat × Au))} {d : Nat} (hrec : rec = Bp P d) (IH : ∀ t ls, rec t = some ls → EqR P D t ls) (us vs : Array Value) : ∀ (fs : List Field) (ls : List (Nat × Au)), El P rec fs = some ls → Typed ls us → Typed ls vs →
  ∀ w, (Op.eqFields D us vs fs).run P w = .ok (allEq us vs ls) w
 | [], ls, h, _, _, w => by simp [El] at h; subst h; simp [Op.eqFields, allEq]
 | f :: fs, ls, h, hu, hv, w => by
  unfold El at h
  split at h
  ·cases h
  ·rename_i hn
   split at h
   ·rename_i l1 i r h1 h2 h3
    split at h
    ·rename_i hall
     injection h with h
     subst h
     have hs : ∀ x ∈ l1, x.1 < i.size := fun x hx => by simpa using List.all_eq_true.1 hall x hx
     have a1 := hu.app
     have a2 := hv.app
     have e1 : Bp P d f.type = some l1 := by rw [← hrec]; exact h1
     have hne := Rr e1
     have ih := OT hrec IH us vs fs r h3 a1.2 a2.2
     have hq := IH f.type l1 h1 _ _ (JF e1 hs a1.1) (JF e1 hs a2.1)
     rw [Rq e1 hs a1.1 a2.1] at hq
     simp only [Op.eqFields, hn, ne_eq, not_false_eq_true, if_true, Sem.run_bind, JG e1 h2 a1.1 hne, JG e1 h2 a2.1 hne, Result.andThen_ok, hq, Rp, Sem.run_ite, ih, Sem.run_pure]
     cases allEq us vs (CQ f.offset l1) <;> simp
    ·cases h
   ·cases h
theorem Rs {D e : Nat} {d : Nat} {l1 : List (Nat × Au)} {i : TypeInfo} (e1 : Bp P d e = some l1) (h2 : P.info? e = some i) (hs : ∀ x ∈ l1, x.1 < i.size) (IH : EqR P D e l1) (us vs : Array Value) : ∀ (js : List Nat), Typed (Dj i.size l1 js) us → Typed (Dj i.size l1 js) vs →
  ∀ w, (Op.eqItems D e i.size us vs js).run P w = .ok (allEq us vs (Dj i.size l1 js)) w
 | [], _, _, w => by simp [Op.eqItems, Dj, allEq]
 | j :: js, hu, hv, w => by
  have a1 := Typed.app (a := CQ (j * i.size) l1) hu
  have a2 := Typed.app (a := CQ (j * i.size) l1) hv
  have hne := Rr e1
  have ih := Rs e1 h2 hs IH us vs js a1.2 a2.2
  have hq := IH _ _ (JF e1 hs a1.1) (JF e1 hs a2.1)
  rw [Rq e1 hs a1.1 a2.1] at hq
  simp only [Op.eqItems, Dj, Sem.run_bind, JG e1 h2 a1.1 hne, JG e1 h2 a2.1 hne, Result.andThen_ok, hq, Rp, Sem.run_ite, ih, Sem.run_pure]
  cases allEq us vs (CQ (j * i.size) l1) <;> simp
theorem Fi : ∀ (d t : Nat) (ls : List (Nat × Au)), Bp P d t = some ls → ∀ D, d ≤ D → EqR P D t ls
 | 0, _, _, h, _, _ => by cases h
 | d + 1, t, ls, h, D, hD => by
  obtain ⟨D, rfl⟩ : ∃ m, D = m + 1 := ⟨D - 1, by omega⟩
  intro us vs hu hv w
  unfold Bp at h
  split at h
  ·rename_i k ht
   injection h with h; subst h
   obtain ⟨u, h1, n, rfl⟩ := hu (0, .int k) (by simp)
   obtain ⟨v, h2, m, rfl⟩ := hv (0, .int k) (by simp)
   simp only at h1 h2
   simp [Zv, Gx, ht, h1, h2, allEq, Tt, run_equalIn_int w D t k k n m ht]
  ·rename_i ht
   injection h with h; subst h
   obtain ⟨u, h1, n, rfl⟩ := hu (0, .bool) (by simp)
   obtain ⟨v, h2, m, rfl⟩ := hv (0, .bool) (by simp)
   simp only at h1 h2
   simp [Zv, Gx, ht, h1, h2, allEq, Tt, run_equalIn_bool w D t n m ht]
  ·rename_i ht
   injection h with h; subst h
   obtain ⟨u, h1, n, rfl⟩ := hu (0, .str) (by simp)
   obtain ⟨v, h2, m, rfl⟩ := hv (0, .str) (by simp)
   simp only at h1 h2
   simp [Zv, Gx, ht, h1, h2, allEq, Tt, run_equalIn_string w D t n m ht, beq_toListBytes]
  ·rename_i n e' ht
   split at h
   ·rename_i l1 i h1 h2
    split at h
    ·rename_i hall
     injection h with h
     subst h
     have hs : ∀ x ∈ l1, x.1 < i.size := fun x hx => by simpa using List.all_eq_true.1 hall x hx
     have ha : Gx P t = true := by simp [Gx, ht]
     have hc : P.cellsOf e' = i.size := by simp [Program.cellsOf, h2]
     simp only [Zv, ha, if_true]
     rw [run_equalIn_array w D us vs ht h2, hc]
     exact Rs h1 h2 hs (Fi d e' l1 h1 D (by omega)) us vs _ hu hv w
    ·cases h
   ·cases h
  ·rename_i fs ht
   split at h
   ·cases h
   ·rename_i hst
    have ha : Gx P t = true := by simp [Gx, ht]
    have hf : P.fieldsOf t = fs := by simp [Program.fieldsOf, ht]
    simp only [Zv, ha, if_true]
    rw [run_equalIn_struct w D t us vs (by rw [hf]; exact ht) (by simpa using hst), hf]
    exact OT rfl (fun t ls hl => Fi d t ls hl D (by omega)) us vs fs.toList ls h hu hv w
  ·cases h
end
end Rx
namespace Rx
open Go Go.RowKit
def ML : List (Nat × Au) → List (Nat × Au) → Bool
 | [], [] => true
 | a :: l, b :: m => a.1 == b.1 && a.2.same b.2 && ML l m
 | _, _ => false
theorem Rt : ∀ {a b : List (Nat × Au)}, ML a b = true → a = b
 | [], [], _ => rfl
 | [], _ :: _, h => by simp [ML] at h
 | _ :: _, [], h => by simp [ML] at h
 | (a, a') :: l, (b, b') :: m, h => by
  simp only [ML, Bool.and_eq_true, beq_iff_eq] at h
  obtain ⟨⟨h1, h2⟩, h3⟩ := h
  rw [show a = b from h1, show a' = b' from Au.Af h2, Rt h3]
def eqB (P : Program) (x : Nat × List (Nat × Au)) : Bool :=
 (match Bp P 20 x.1 with | some ls => ML ls x.2 | none => false) && !P.eqGuardType P.depth x.1 && Gx P x.1
def W8 (P : Program) (l : List (Nat × List (Nat × Au))) : Prop :=
 ∀ t ls, look t l = some ls → Bp P 20 t = some ls ∧ P.eqGuardType P.depth t = false ∧ Gx P t = true
theorem Acr {P : Program} {l : List (Nat × List (Nat × Au))} (h : l.all (eqB P) = true) : W8 P l := fun t ls ht => by
 have := List.all_eq_true.1 h (t, ls) (Lm ht)
 simp only [eqB, Bool.and_eq_true, Bool.not_eq_true'] at this
 obtain ⟨⟨h1, h2⟩, h3⟩ := this
 split at h1
 ·rename_i l' hl
  exact ⟨by rw [hl, Rt h1], h2, h3⟩
 ·cases h1
section
variable {T : Nat → List A → Bool × List A} {e : Nat → A} {n n' : Nat} {loc loc' : Loc} {P : Program} {X : Ctx} {w0 : W0}
variable {fr : List SV} {rows : List Row} {gs : List (L × Bool)} {pc : L} {o : Oper} {g : G} {inl : Inline}
theorem K.DF {k : K} {s : Au} {x : L} (h : k.Qr = some (s, x)) : k = s.mk x := by
 cases k <;> simp [K.Qr] at h <;> obtain ⟨rfl, rfl⟩ := h <;> rfl
theorem Au.SA {s : Au} {x : L} {v : Value} (h : (s.mk x).rel e n loc v) : v = (s.mk x).Bl e loc := by
 rcases h.2.2 with h1 | h1
 ·cases s <;> cases h1
 ·exact h1
theorem Au.Zw {s : Au} {x : L} {v : Value} (h : (s.mk x).rel e n loc v) : s.has v := by
 have := Au.SA h
 subst this
 cases s <;> first | exact ⟨_, rfl⟩ | trivial
theorem G4 {p q : List C} : ∀ {ls : List (Nat × Au)} {g g' : G} {z : L}, FF p q ls g = some (z, g') → Good T e g' →
  Good T e g ∧ ∀ n loc us vs, Aj e n loc p us → Aj e n loc q vs → Typed ls us.toArray ∧ Typed ls vs.toArray ∧ (z.ev e).bool = allEq us.toArray vs.toArray ls
 | [], g, g', z, h, hg => by
  simp only [FF, Option.some.injEq, Prod.mk.injEq] at h
  obtain ⟨rfl, rfl⟩ := h
  exact ⟨hg, fun n loc us vs _ _ => ⟨fun x hx => (by cases hx), fun x hx => (by cases hx), by simp [allEq]⟩⟩
 | (o, s) :: l, g, g', z, h, hg => by
  unfold FF at h
  simp only [Option.bind_eq_bind, Option.bind_eq_some_iff] at h
  obtain ⟨⟨r, g1⟩, hr, h⟩ := h
  simp only at h
  split at h
  ·rename_i a b hp hq
   simp only [Option.bind_eq_some_iff] at h
   obtain ⟨⟨u, x⟩, hu, ⟨v, y⟩, hv, h⟩ := h
   simp only at h
   split at h
   ·cases h
   ·rename_i hs
    simp only [Bool.or_eq_true, Bool.not_eq_true', not_or, Bool.not_eq_false] at hs
    have e1 := Au.Af hs.1
    have e2 := Au.Af hs.2
    subst e1
    subst e2
    have ea := K.DF hu
    have eb := K.DF hv
    subst ea
    subst eb
    have key : ∀ n loc us vs, Aj e n loc p us → Aj e n loc q vs → ∃ a b, us[o]? = some a ∧ vs[o]? = some b ∧ v.has a ∧ v.has b ∧ a = (v.mk x).Bl e loc ∧ b = (v.mk y).Bl e loc := by
     intro n loc us vs hu hv
     obtain ⟨a, h1, h2⟩ := Dt hu hp
     obtain ⟨b, h3, h4⟩ := Dt hv hq
     exact ⟨a, b, h1, h3, Au.Zw h2, Au.Zw h4, Au.SA h2, Au.SA h4⟩
    have fin : ∀ (zz : L) (g2 : G), Good T e g2 → (Good T e g2 → Good T e g1 ∧ ∀ n loc us vs, Aj e n loc p us → Aj e n loc q vs → (zz.ev e).bool = Tt us.toArray[o]? vs.toArray[o]?) → z = (mkAnd zz r g2).1 → g' = (mkAnd zz r g2).2 →
      Good T e g ∧ ∀ n loc us vs, Aj e n loc p us → Aj e n loc q vs → Typed ((o, v) :: l) us.toArray ∧ Typed ((o, v) :: l) vs.toArray ∧ (z.ev e).bool = allEq us.toArray vs.toArray ((o, v) :: l) := by
     intro zz g2 hg2 hz hz1 hz2
     have hand := AX (hz2 ▸ hg)
     obtain ⟨h1, h2⟩ := hz hg2
     obtain ⟨h3, h4⟩ := G4 hr h1
     refine ⟨h3, fun n loc us vs hus hvs => ?_⟩
     obtain ⟨t1, t2, t3⟩ := h4 n loc us vs hus hvs
     obtain ⟨a, b, k1, k2, k3, k4, _, _⟩ := key n loc us vs hus hvs
     refine ⟨fun w hw => ?_, fun w hw => ?_, ?_⟩
     ·rcases List.mem_cons.1 hw with rfl | hw
      ·exact ⟨a, by simpa using k1, k3⟩
      ·exact t1 w hw
     ·rcases List.mem_cons.1 hw with rfl | hw
      ·exact ⟨b, by simpa using k2, k4⟩
      ·exact t2 w hw
     ·rw [hz1, hand.2, h2 n loc us vs hus hvs, t3]
      simp [allEq]
    cases v with
    | int k =>
     simp only [Option.some.injEq, Prod.ext_iff] at h
     have hg2 := (AX (h.2 ▸ hg)).1
     refine fin _ _ hg2 (fun hh => ?_) h.1.symm h.2.symm
     have hc := AB hh
     refine ⟨hc.1, fun n loc us vs hus hvs => ?_⟩
     obtain ⟨a, b, k1, k2, _, _, rfl, rfl⟩ := key n loc us vs hus hvs
     rw [hc.2]
     simp [k1, k2, Au.mk, K.Bl, Tt, Bg]
    | bool =>
     simp only [Option.some.injEq, Prod.ext_iff] at h
     have hg2 := (AX (h.2 ▸ hg)).1
     refine fin _ _ hg2 (fun hh => ?_) h.1.symm h.2.symm
     have hc := KJ hh
     refine ⟨hc.1, fun n loc us vs hus hvs => ?_⟩
     obtain ⟨a, b, k1, k2, _, _, rfl, rfl⟩ := key n loc us vs hus hvs
     rw [hc.2]
     simp [k1, k2, Au.mk, K.Bl, Tt]
    | str =>
     simp only [Option.some.injEq, Prod.ext_iff] at h
     have hg2 := (AX (h.2 ▸ hg)).1
     refine fin _ _ hg2 (fun hh => ?_) h.1.symm h.2.symm
     have hc := Ah hh
     refine ⟨hc.1, fun n loc us vs hus hvs => ?_⟩
     obtain ⟨a, b, k1, k2, _, _, rfl, rfl⟩ := key n loc us vs hus hvs
     rw [hc.2 (.b ((x.ev e).str == (y.ev e).str)) (by simp [D.ev])]
     simp [k1, k2, Au.mk, K.Bl, Tt]
    | val => cases h
    | sl _ => cases h
  ·cases h
theorem AE (op : BinOp) (t : TypeId) (x y : Operand) (k k' : IntKind) (a b : Int) (w : World) : (eqGuard op t x y (.int k a) (.int k' b)).run P w = .ok () w := by
 cases op <;> simp [eqGuard]
theorem Gy (op : BinOp) (t : TypeId) (x y : Operand) (a b : Bool) (w : World) : (eqGuard op t x y (.bool a) (.bool b)).run P w = .ok () w := by
 cases op <;> simp [eqGuard]
theorem Ev (op : BinOp) (t : TypeId) (x y : Operand) (a b : ByteArray) (w : World) : (eqGuard op t x y (.string a) (.string b)).run P w = .ok () w := by
 cases op <;> simp [eqGuard]
theorem QD {t u : TypeId} (hu : P.underlying t = some (.slice u)) (a : Addr) (m c : Nat) (w : World) : (Op.equal t (.slice (some a) m c) (.slice none 0 0)).run P w = .ok false w := by
 have h : ∀ d : Nat, (Op.equalIn (d + 1) t (.slice (some a) m c) (.slice none 0 0)).run P w = .ok false w := fun d => by
  simp [Op.equalIn, run_underlying hu]
 simp [Op.equal, Op.maxDepth, h 9999]
theorem Vd {p : PV} {r : Nat} {k : L} {q : FD} {v : Value} {w : World} (h : Ia rows p = some (r, k, q)) (hcl : Bn e w0 loc rows w) (hv : p.rel e rows.length loc v) (hk : 1 ≤ (k.ev e).int) :
  ∃ a m c, v = .slice (some a) m c := by
 unfold Ia at h
 obtain ⟨B, _, hR, _⟩ := hcl
 split at h
 ·rename_i r' k'
  simp only [Option.bind_eq_bind, Option.bind_eq_some_iff] at h
  obtain ⟨row, hrow, q', hq, h⟩ := h
  split at h
  ·simp only [Option.some.injEq, Prod.mk.injEq] at h
   obtain ⟨rfl, rfl, rfl⟩ := h
   obtain ⟨h1, _, h3⟩ := hv
   rcases h3 with h3 | h3
   ·cases h3
   ·simp only [K.ok] at h1
    cases he : (loc r').emp
    ·simp only [K.Bl, he, Bool.false_eq_true, if_false] at h3
     exact ⟨_, _, _, h3⟩
    ·have := (h1.2.2 he).2
     omega
  ·cases h
 ·rename_i r' k'
  simp only [Option.bind_eq_bind, Option.bind_eq_some_iff] at h
  obtain ⟨row, hrow, q', hq, h⟩ := h
  split at h
  ·rename_i hc
   simp only [Option.some.injEq, Prod.mk.injEq] at h
   obtain ⟨rfl, rfl, rfl⟩ := h
   simp only [Bool.and_eq_true, Bool.not_eq_true'] at hc
   have hn := L.Af hc.2
   obtain ⟨_, _, h3⟩ := hv
   rcases h3 with h3 | h3
   ·cases h3
   ·obtain ⟨as, m, _, _, l3, _, l5⟩ := (hR.lst _ _ _ hrow hq).2
    rw [if_neg (by simp [hc.1])] at l5
    obtain ⟨⟨a, c, g1, g2⟩, _⟩ := l5
    have hm : m ≠ 0 := by rw [hn] at hk; omega
    rw [g2 hm] at g1
    exact ⟨_, _, _, h3.trans g1⟩
  ·cases h
 ·cases h
theorem SB {t : TypeId} {op : BinOp} {p q r : PV} {g' : G} (hX : B5 P X.Ay) (h : Sb X rows t op p q pc g = some (r, g')) (hg : Good T e g') :
  Good T e g ∧ ∃ v, (∀ n loc, r.rel e n loc v) ∧ ∀ (loc : Loc) (w : World), (pc.ev e).bool = true → Bn e w0 loc rows w → ∀ u1 u2, p.rel e rows.length loc u1 → q.rel e rows.length loc u2 →
   (∀ x y, (eqGuard op t x y u1 u2).run P w = .ok () w) ∧ (binOp op t u1 u2).run P w = .ok v w := by
 unfold Sb at h
 split at h
 ·simp only [Option.bind_eq_bind, Option.bind_eq_some_iff, Ctx.ty] at h
  obtain ⟨ty, hty, h⟩ := h
  split at h
  ·rename_i u hk
   have hu := AD (hX t ty hty) hk
   simp only [Option.bind_eq_some_iff] at h
   obtain ⟨⟨r0, n, ql⟩, hl, h⟩ := h
   simp only at h
   have fin : ∀ (b : Bool), Good T e ((AK .leq (.n 1) n g).2.Bo pc (AK .leq (.n 1) n g).1) → (op = .eql ∧ b = false ∨ op = .neq ∧ b = true) → Good T e g ∧ ∃ v, (∀ n loc, (PV.one (.k (.bool (.t b)))).rel e n loc v) ∧ ∀ (loc : Loc) (w : World), (pc.ev e).bool = true → Bn e w0 loc rows w → ∀ u1 u2, p.rel e rows.length loc u1 → (PV.one (.k .nilslc)).rel e rows.length loc u2 →
     (∀ x y, (eqGuard op t x y u1 u2).run P w = .ok () w) ∧ (binOp op t u1 u2).run P w = .ok v w := fun b hg hb => by
    have hm := As hg
    have hc := AB hm.1
    refine ⟨hc.1, .bool b, fun n loc => CI rfl, fun loc w hpc hcl u1 u2 h1 h2 => ?_⟩
    have h0 := hm.2 hpc
    rw [hc.2] at h0
    obtain ⟨a, m, c, rfl⟩ := Vd hl hcl h1 (of_decide_eq_true h0)
    have e2 : u2 = .slice none 0 0 := h2.2.2.resolve_left (by simp)
    subst e2
    have hr := QD hu a m c w
    rcases hb with ⟨rfl, rfl⟩ | ⟨rfl, rfl⟩
    ·exact ⟨fun x y => by simp [eqGuard], by simp [binOp, hr]⟩
    ·exact ⟨fun x y => by simp [eqGuard], by simp [binOp, hr]⟩
   split at h
   ·simp only [Option.some.injEq, Prod.mk.injEq] at h
    obtain ⟨rfl, rfl⟩ := h
    exact fin false hg (.inl ⟨rfl, rfl⟩)
   ·simp only [Option.some.injEq, Prod.mk.injEq] at h
    obtain ⟨rfl, rfl⟩ := h
    exact fin true hg (.inr ⟨rfl, rfl⟩)
   ·cases h
  ·cases h
 ·cases h
theorem Zx (hX : B5 P X.Ay) (hQ : W8 P X.eqs) {op : BinOp} {t u : TypeId} {x y : Operand} (ho : o.op = .binOp op t x y u) : Bv P T e w0 fr rows gs pc o g (execOp X inl fr rows gs pc o g) := by
 obtain ⟨dst, op', ty, pos, after, guard⟩ := o
 simp only at ho
 subst ho
 simp only [execOp, Option.bind_eq_bind]
 have hrun : ∀ (a : Act) (w : World) v, (eqGuard op t x y (a.eval x) (a.eval y)).run P w = .ok () w → (binOp op t (a.eval x) (a.eval y)).run P w = .ok v w →
   (Go.execOp a.eval ⟨dst, .binOp op t x y u, ty, pos, after, guard⟩).run P w = .ok (.value v) w := fun a w v h1 h2 => by
  simp [Go.execOp, h1, h2]
 cases hp : Db fr gs x with
 | none => trivial
 | some p =>
  simp only [Option.bind_some]
  cases hq : Db fr gs y with
  | none => trivial
  | some q =>
   simp only [Option.bind_some]
   cases hnc : Sb X rows t op p q pc g with
   | some rg =>
    obtain ⟨r, g'⟩ := rg
    simp only
    refine Ae fun hg => ?_
    obtain ⟨h1, v, h2, h3⟩ := SB hX hnc hg
    refine ⟨h1, fun loc act w1 hpc hgs hf hcl => ⟨v, h2 _ _, fun w hw => ?_⟩⟩
    obtain ⟨k1, k2⟩ := h3 loc w hpc hw _ _ (Aa hp hf hgs) (Aa hq hf hgs)
    exact hrun act w _ (k1 _ _) k2
   | none =>
   simp only
   unfold binop
   split
   ·rename_i k a k' b
    by_cases hsh : AbM op = true
    ·rw [if_pos hsh]
     show Bv _ _ _ _ _ _ _ _ _ _ (one (.one (.k (.int k (Rc op k a b pc g).1))) (Rc op k a b pc g).2)
     refine Ae fun hg => ?_
     have hm := Va hg
     refine ⟨hm.1, fun loc act w1 hpc hgs hf _ => ⟨_, BN (by rw [hm.2.1]), fun w _ => hrun act w _ ?_ ?_⟩⟩
     ·rw [Ca (Aa hp hf hgs), Ca (Aa hq hf hgs)]; exact AE ..
     ·have h0 := hm.2.2 hpc
      have h0' : ¬ (b.ev e).int < 0 := by omega
      rw [Ca (Aa hp hf hgs), Ca (Aa hq hf hgs)]
      cases op <;> simp [AbM] at hsh <;> simp [binOp, Op.shift, Ef, h0']
    rw [if_neg hsh]
    split
    ·trivial
    ·rename_i hk
     have hk' := BD (by simpa using hk)
     subst hk'
     have hv : ∀ (loc : Loc) (act : Act), Ax e rows.length loc fr act.tmps → Holds e gs → act.eval x = .int k (a.ev e).int ∧ act.eval y = .int k (b.ev e).int := fun loc act hf hgs =>
      ⟨Ca (Aa hp hf hgs), Ca (Aa hq hf hgs)⟩
     cases op
     case add =>
      show Bv _ _ _ _ _ _ _ _ _ _ (one (.one (.k (.int k (Qt .add k a b g).1))) (Qt .add k a b g).2)
      refine Ae fun hg => ?_
      have hm := MG hg
      refine ⟨hm.1, fun loc act w1 _ hgs hf _ => ⟨_, BN (by rw [hm.2]), fun w _ => hrun act w _ ?_ ?_⟩⟩
      ·rw [(hv loc act hf hgs).1, (hv loc act hf hgs).2]; exact AE ..
      ·rw [(hv loc act hf hgs).1, (hv loc act hf hgs).2]; simp [binOp, Op.intArith, D0]
     case sub =>
      show Bv _ _ _ _ _ _ _ _ _ _ (one (.one (.k (.int k (Qt .sub k a b g).1))) (Qt .sub k a b g).2)
      refine Ae fun hg => ?_
      have hm := MG hg
      refine ⟨hm.1, fun loc act w1 _ hgs hf _ => ⟨_, BN (by rw [hm.2]), fun w _ => hrun act w _ ?_ ?_⟩⟩
      ·rw [(hv loc act hf hgs).1, (hv loc act hf hgs).2]; exact AE ..
      ·rw [(hv loc act hf hgs).1, (hv loc act hf hgs).2]; simp [binOp, Op.intArith, D0]
     case mul =>
      show Bv _ _ _ _ _ _ _ _ _ _ (one (.one (.k (.int k (Qt .mul k a b g).1))) (Qt .mul k a b g).2)
      refine Ae fun hg => ?_
      have hm := MG hg
      refine ⟨hm.1, fun loc act w1 _ hgs hf _ => ⟨_, BN (by rw [hm.2]), fun w _ => hrun act w _ ?_ ?_⟩⟩
      ·rw [(hv loc act hf hgs).1, (hv loc act hf hgs).2]; exact AE ..
      ·rw [(hv loc act hf hgs).1, (hv loc act hf hgs).2]; simp [binOp, Op.intArith, D0]
     case quo =>
      show Bv _ _ _ _ _ _ _ _ _ _ (one (.one (.k (.int k (Tg .quo k a b ((AK .neq b (.n 0) g).2.Bo pc (AK .neq b (.n 0) g).1)).1))) (Tg .quo k a b ((AK .neq b (.n 0) g).2.Bo pc (AK .neq b (.n 0) g).1)).2)
      refine Ae fun hg => ?_
      have hm := Ro hg
      have hmu := As hm.1
      have hne := AB hmu.1
      refine ⟨hne.1, fun loc act w1 hpc hgs hf _ => ⟨_, BN (by rw [hm.2]), fun w _ => hrun act w _ ?_ ?_⟩⟩
      ·rw [(hv loc act hf hgs).1, (hv loc act hf hgs).2]; exact AE ..
      ·have h0 := hmu.2 hpc
       rw [hne.2] at h0
       have h0' : (b.ev e).int ≠ 0 := by simpa [Bg] using h0
       rw [(hv loc act hf hgs).1, (hv loc act hf hgs).2]; simp [binOp, Op.intDiv, Ee, h0']
     case rem =>
      show Bv _ _ _ _ _ _ _ _ _ _ (one (.one (.k (.int k (Tg .rem k a b ((AK .neq b (.n 0) g).2.Bo pc (AK .neq b (.n 0) g).1)).1))) (Tg .rem k a b ((AK .neq b (.n 0) g).2.Bo pc (AK .neq b (.n 0) g).1)).2)
      refine Ae fun hg => ?_
      have hm := Ro hg
      have hmu := As hm.1
      have hne := AB hmu.1
      refine ⟨hne.1, fun loc act w1 hpc hgs hf _ => ⟨_, BN (by rw [hm.2]), fun w _ => hrun act w _ ?_ ?_⟩⟩
      ·rw [(hv loc act hf hgs).1, (hv loc act hf hgs).2]; exact AE ..
      ·have h0 := hmu.2 hpc
       rw [hne.2] at h0
       have h0' : (b.ev e).int ≠ 0 := by simpa [Bg] using h0
       rw [(hv loc act hf hgs).1, (hv loc act hf hgs).2]; simp [binOp, Op.intDiv, Ee, h0']
     case shl => exact absurd rfl hsh
     case shr => exact absurd rfl hsh
     case and =>
      show Bv _ _ _ _ _ _ _ _ _ _ (one (.one (.k (.int k (My .and k a b g).1))) (My .and k a b g).2)
      refine Ae fun hg => ?_
      have hm := Gp hg
      refine ⟨hm.1, fun loc act w1 _ hgs hf _ => ⟨_, BN (by rw [hm.2]), fun w _ => hrun act w _ ?_ ?_⟩⟩
      ·rw [(hv loc act hf hgs).1, (hv loc act hf hgs).2]; exact AE ..
      ·rw [(hv loc act hf hgs).1, (hv loc act hf hgs).2]; simp [binOp, Op.intBits, CW]
     case or =>
      show Bv _ _ _ _ _ _ _ _ _ _ (one (.one (.k (.int k (My .or k a b g).1))) (My .or k a b g).2)
      refine Ae fun hg => ?_
      have hm := Gp hg
      refine ⟨hm.1, fun loc act w1 _ hgs hf _ => ⟨_, BN (by rw [hm.2]), fun w _ => hrun act w _ ?_ ?_⟩⟩
      ·rw [(hv loc act hf hgs).1, (hv loc act hf hgs).2]; exact AE ..
      ·rw [(hv loc act hf hgs).1, (hv loc act hf hgs).2]; simp [binOp, Op.intBits, CW]
     case xor =>
      show Bv _ _ _ _ _ _ _ _ _ _ (one (.one (.k (.int k (My .xor k a b g).1))) (My .xor k a b g).2)
      refine Ae fun hg => ?_
      have hm := Gp hg
      refine ⟨hm.1, fun loc act w1 _ hgs hf _ => ⟨_, BN (by rw [hm.2]), fun w _ => hrun act w _ ?_ ?_⟩⟩
      ·rw [(hv loc act hf hgs).1, (hv loc act hf hgs).2]; exact AE ..
      ·rw [(hv loc act hf hgs).1, (hv loc act hf hgs).2]; simp [binOp, Op.intBits, CW]
     case andNot =>
      show Bv _ _ _ _ _ _ _ _ _ _ (one (.one (.k (.int k (My .andNot k a b g).1))) (My .andNot k a b g).2)
      refine Ae fun hg => ?_
      have hm := Gp hg
      refine ⟨hm.1, fun loc act w1 _ hgs hf _ => ⟨_, BN (by rw [hm.2]), fun w _ => hrun act w _ ?_ ?_⟩⟩
      ·rw [(hv loc act hf hgs).1, (hv loc act hf hgs).2]; exact AE ..
      ·rw [(hv loc act hf hgs).1, (hv loc act hf hgs).2]; simp [binOp, Op.intBits, CW]
     case eql =>
      show Bv _ _ _ _ _ _ _ _ _ _ (one (.one (.k (.bool (AK .eql a b g).1))) (AK .eql a b g).2)
      refine Ae fun hg => ?_
      have hm := AB hg
      refine ⟨hm.1, fun loc act w1 _ hgs hf _ => ⟨_, CI (by rw [hm.2]), fun w _ => hrun act w _ ?_ ?_⟩⟩
      ·rw [(hv loc act hf hgs).1, (hv loc act hf hgs).2]; exact AE ..
      ·rw [(hv loc act hf hgs).1, (hv loc act hf hgs).2]; simp [binOp, Op.intCmp, Bg]
     case neq =>
      show Bv _ _ _ _ _ _ _ _ _ _ (one (.one (.k (.bool (AK .neq a b g).1))) (AK .neq a b g).2)
      refine Ae fun hg => ?_
      have hm := AB hg
      refine ⟨hm.1, fun loc act w1 _ hgs hf _ => ⟨_, CI (by rw [hm.2]), fun w _ => hrun act w _ ?_ ?_⟩⟩
      ·rw [(hv loc act hf hgs).1, (hv loc act hf hgs).2]; exact AE ..
      ·rw [(hv loc act hf hgs).1, (hv loc act hf hgs).2]; simp [binOp, Op.intCmp, Bg]
     case lss =>
      show Bv _ _ _ _ _ _ _ _ _ _ (one (.one (.k (.bool (AK .lss a b g).1))) (AK .lss a b g).2)
      refine Ae fun hg => ?_
      have hm := AB hg
      refine ⟨hm.1, fun loc act w1 _ hgs hf _ => ⟨_, CI (by rw [hm.2]), fun w _ => hrun act w _ ?_ ?_⟩⟩
      ·rw [(hv loc act hf hgs).1, (hv loc act hf hgs).2]; exact AE ..
      ·rw [(hv loc act hf hgs).1, (hv loc act hf hgs).2]; simp [binOp, Op.intCmp, Bg]
     case leq =>
      show Bv _ _ _ _ _ _ _ _ _ _ (one (.one (.k (.bool (AK .leq a b g).1))) (AK .leq a b g).2)
      refine Ae fun hg => ?_
      have hm := AB hg
      refine ⟨hm.1, fun loc act w1 _ hgs hf _ => ⟨_, CI (by rw [hm.2]), fun w _ => hrun act w _ ?_ ?_⟩⟩
      ·rw [(hv loc act hf hgs).1, (hv loc act hf hgs).2]; exact AE ..
      ·rw [(hv loc act hf hgs).1, (hv loc act hf hgs).2]; simp [binOp, Op.intCmp, Bg]
     case gtr =>
      show Bv _ _ _ _ _ _ _ _ _ _ (one (.one (.k (.bool (AK .gtr a b g).1))) (AK .gtr a b g).2)
      refine Ae fun hg => ?_
      have hm := AB hg
      refine ⟨hm.1, fun loc act w1 _ hgs hf _ => ⟨_, CI (by rw [hm.2]), fun w _ => hrun act w _ ?_ ?_⟩⟩
      ·rw [(hv loc act hf hgs).1, (hv loc act hf hgs).2]; exact AE ..
      ·rw [(hv loc act hf hgs).1, (hv loc act hf hgs).2]; simp [binOp, Op.intCmp, Bg]
     case geq =>
      show Bv _ _ _ _ _ _ _ _ _ _ (one (.one (.k (.bool (AK .geq a b g).1))) (AK .geq a b g).2)
      refine Ae fun hg => ?_
      have hm := AB hg
      refine ⟨hm.1, fun loc act w1 _ hgs hf _ => ⟨_, CI (by rw [hm.2]), fun w _ => hrun act w _ ?_ ?_⟩⟩
      ·rw [(hv loc act hf hgs).1, (hv loc act hf hgs).2]; exact AE ..
      ·rw [(hv loc act hf hgs).1, (hv loc act hf hgs).2]; simp [binOp, Op.intCmp, Bg]
   ·rename_i a b
    simp only [Option.bind_eq_bind, Ctx.ty]
    cases ht : look t X.Ay with
    | none => trivial
    | some tt =>
     have hv : ∀ (loc : Loc) (act : Act), Ax e rows.length loc fr act.tmps → Holds e gs → act.eval x = .bool (a.ev e).bool ∧ act.eval y = .bool (b.ev e).bool := fun loc act hf hgs =>
      ⟨Fh (Aa hp hf hgs), Fh (Aa hq hf hgs)⟩
     simp only [Option.bind_some]
     split
     ·rename_i hk
      have hu : P.underlying t = some .bool := by
       obtain ⟨d, hd, hkd⟩ := (hX t tt ht).kind
       rw [hk] at hkd
       cases d <;> simp [TK.okB] at hkd
       exact hd
      refine Ae fun hg => ?_
      have hm := KJ hg
      refine ⟨hm.1, fun loc act w1 _ hgs hf _ => ⟨_, CI (by rw [hm.2]), fun w _ => hrun act w _ ?_ ?_⟩⟩
      ·rw [(hv loc act hf hgs).1, (hv loc act hf hgs).2]; exact Gy ..
      ·rw [(hv loc act hf hgs).1, (hv loc act hf hgs).2]; simp [binOp, Op.equal, Op.maxDepth, run_equalIn_bool w 9999 t _ _ hu]
     ·rename_i hk
      have hu : P.underlying t = some .bool := by
       obtain ⟨d, hd, hkd⟩ := (hX t tt ht).kind
       rw [hk] at hkd
       cases d <;> simp [TK.okB] at hkd
       exact hd
      refine Ae fun hg => ?_
      have hm := BL hg
      have hm2 := KJ hm.1
      refine ⟨hm2.1, fun loc act w1 _ hgs hf _ => ⟨_, CI (by rw [hm.2, hm2.2]), fun w _ => hrun act w _ ?_ ?_⟩⟩
      ·rw [(hv loc act hf hgs).1, (hv loc act hf hgs).2]; exact Gy ..
      ·rw [(hv loc act hf hgs).1, (hv loc act hf hgs).2]; simp [binOp, Op.equal, Op.maxDepth, run_equalIn_bool w 9999 t _ _ hu]
     ·trivial
   ·rename_i a b
    have hv : ∀ (loc : Loc) (act : Act), Ax e rows.length loc fr act.tmps → Holds e gs → act.eval x = .string (a.ev e).str ∧ act.eval y = .string (b.ev e).str := fun loc act hf hgs =>
     ⟨by rcases (Aa hp hf hgs).2.2 with h | h; cases h; exact h, by rcases (Aa hq hf hgs).2.2 with h | h; cases h; exact h⟩
    split
    ·show Bv _ _ _ _ _ _ _ _ _ _ (one (.one (.k (.bool (g.push .eqS [a, b]).1))) (g.push .eqS [a, b]).2)
     refine Ae fun hg => ?_
     have hm := Ah hg
     have hz := hm.2 (.b ((a.ev e).str == (b.ev e).str)) (by simp [D.ev])
     refine ⟨hm.1, fun loc act w1 _ hgs hf _ => ⟨_, CI (by rw [hz]), fun w _ => hrun act w _ ?_ ?_⟩⟩
     ·rw [(hv loc act hf hgs).1, (hv loc act hf hgs).2]; exact Ev ..
     ·rw [(hv loc act hf hgs).1, (hv loc act hf hgs).2]; simp [binOp, Op.stringOp, beq_toListBytes]
    ·show Bv _ _ _ _ _ _ _ _ _ _ (one (.one (.k (.bool (mkNot (g.push .eqS [a, b]).1 (g.push .eqS [a, b]).2).1))) (mkNot (g.push .eqS [a, b]).1 (g.push .eqS [a, b]).2).2)
     refine Ae fun hg => ?_
     have hm := BL hg
     have hm2 := Ah hm.1
     have hz := hm2.2 (.b ((a.ev e).str == (b.ev e).str)) (by simp [D.ev])
     refine ⟨hm2.1, fun loc act w1 _ hgs hf _ => ⟨_, CI (by rw [hm.2, hz]), fun w _ => hrun act w _ ?_ ?_⟩⟩
     ·rw [(hv loc act hf hgs).1, (hv loc act hf hgs).2]; exact Ev ..
     ·rw [(hv loc act hf hgs).1, (hv loc act hf hgs).2]; simp [binOp, Op.stringOp, beq_toListBytes]
    ·show Bv _ _ _ _ _ _ _ _ _ _ (one (.one (.k (.str (ME a b pc g).1))) (ME a b pc g).2)
     refine Ae fun hg => ?_
     obtain ⟨z1, z2, z3⟩ := Tn hg
     refine ⟨z1, fun loc act w1 hpc hgs hf _ => ⟨.string ((a.ev e).str ++ (b.ev e).str), ⟨trivial, rfl, .inr (by simp only [K.Bl, A.str, z2, A.Abz, strOf])⟩, fun w _ => hrun act w _ ?_ ?_⟩⟩
     ·rw [(hv loc act hf hgs).1, (hv loc act hf hgs).2]; exact Ev ..
     ·obtain ⟨b1, b2⟩ := z3 hpc
      have hmx : IntKind.i64.max = 9223372036854775807 := rfl
      rw [(hv loc act hf hgs).1, (hv loc act hf hgs).2]
      have hle : ¬ ((((a.ev e).str.size + (b.ev e).str.size : Nat) : Int) > IntKind.i64.max) := by rw [hmx]; omega
      simp [binOp, Op.stringOp]
      omega
    ·trivial
   ·rename_i c d
    simp only [Option.bind_eq_bind]
    cases hl : look t X.eqs with
    | none => trivial
    | some ls =>
     obtain ⟨hq1, hq2, hq3⟩ := hQ t ls hl
     simp only [Option.bind_some]
     have hv : ∀ (loc : Loc) (act : Act), Ax e rows.length loc fr act.tmps → Holds e gs → ∃ us vs : List Value, act.eval x = .agg us.toArray ∧ act.eval y = .agg vs.toArray ∧ Aj e rows.length loc c us ∧ Aj e rows.length loc d vs := fun loc act hf hgs => by
      obtain ⟨us, h1, h2⟩ := Aa hp hf hgs
      obtain ⟨vs, h3, h4⟩ := Aa hq hf hgs
      exact ⟨us, vs, h1, h3, h2, h4⟩
     have hE : ∀ us vs : List Value, Typed ls us.toArray → Typed ls vs.toArray → ∀ w, (Op.equalIn 10000 t (.agg us.toArray) (.agg vs.toArray)).run P w = .ok (allEq us.toArray vs.toArray ls) w := fun us vs t1 t2 w => by
      have := Fi 20 t ls hq1 10000 (by omega) us.toArray vs.toArray t1 t2 w
      simpa [Zv, hq3] using this
     split
     ·cases hc : FF c d ls g with
      | none => trivial
      | some r =>
       obtain ⟨z, g2⟩ := r
       refine Ae fun hg => ?_
       obtain ⟨h1, h2⟩ := G4 hc hg
       refine ⟨h1, fun loc act w1 _ hgs hf _ => ?_⟩
       obtain ⟨us, vs, e1, e2, r1, r2⟩ := hv loc act hf hgs
       obtain ⟨t1, t2, t3⟩ := h2 _ _ us vs r1 r2
       refine ⟨_, CI t3, fun w _ => hrun act w _ ?_ ?_⟩
       ·rw [e1, e2]; exact run_eqGuard_agg w _ _ _ _ _ _ hq2
       ·rw [e1, e2, run_eql_struct, hE us vs t1 t2]; rfl
     ·cases hc : FF c d ls g with
      | none => trivial
      | some r =>
       obtain ⟨z, g2⟩ := r
       refine Ae fun hg => ?_
       have hm := BL hg
       obtain ⟨h1, h2⟩ := G4 hc hm.1
       refine ⟨h1, fun loc act w1 _ hgs hf _ => ?_⟩
       obtain ⟨us, vs, e1, e2, r1, r2⟩ := hv loc act hf hgs
       obtain ⟨t1, t2, t3⟩ := h2 _ _ us vs r1 r2
       refine ⟨_, CI (by rw [hm.2, t3]), fun w _ => hrun act w _ ?_ ?_⟩
       ·rw [e1, e2]; exact run_eqGuard_agg w _ _ _ _ _ _ hq2
       ·rw [e1, e2, run_neq_struct, hE us vs t1 t2]; rfl
     ·trivial
   ·trivial
end
end Rx
namespace Rx
open Go Go.RowKit
section
variable {T : Nat → List A → Bool × List A} {e : Nat → A} {n n' : Nat} {loc loc' : Loc} {P : Program} {X : Ctx} {w0 : W0}
variable {fr : List SV} {rows : List Row} {gs : List (L × Bool)} {pc : L} {o : Oper} {g : G} {inl : Inline}
theorem F3 : ∀ {k off st : Nat} {l cs : List C}, Gl l off st k = some cs → cs.length = k ∧ ∀ i, i < k → cs[i]? = l[off + st * i]?
 | 0, off, st, l, cs, h => by simp [Gl] at h; subst h; exact ⟨rfl, fun i hi => by omega⟩
 | k + 1, off, st, l, cs, h => by
  simp only [Gl, Option.bind_eq_bind, Option.bind_eq_some_iff, Option.some.injEq] at h
  obtain ⟨c, hc, r, hr, rfl⟩ := h
  obtain ⟨h1, h2⟩ := F3 hr
  refine ⟨by simp [h1], fun i hi => ?_⟩
  cases i with
  | zero => simp [hc]
  | succ i =>
   rw [List.getElem?_cons_succ, h2 i (by omega)]
   congr 1
   rw [Nat.mul_succ]; omega
theorem Il {s : Au} : ∀ {cs : List C} {ls : List L}, leaves s cs = some ls → ls.length = cs.length ∧ ∀ (i : Nat) c, cs[i]? = some c → ∃ y, ls[i]? = some y ∧ c = .k (s.mk y)
 | [], ls, h => by simp [leaves] at h; subst h; exact ⟨rfl, fun i c h => by simp at h⟩
 | .k x :: l, ls, h => by
  simp only [leaves, Option.bind_eq_bind, Option.bind_eq_some_iff] at h
  obtain ⟨⟨u, y⟩, hu, h⟩ := h
  simp only at h
  split at h
  ·rename_i hs
   simp only [Option.bind_eq_some_iff, Option.some.injEq] at h
   obtain ⟨r, hr, rfl⟩ := h
   obtain ⟨h1, h2⟩ := Il hr
   have e1 := Au.Af hs
   subst e1
   have e2 := K.DF hu
   subst e2
   refine ⟨by simp [h1], fun i c hc => ?_⟩
   cases i with
   | zero => simp at hc; subst hc; exact ⟨y, rfl, rfl⟩
   | succ i => simpa using h2 i c (by simpa using hc)
  ·cases h
 | .clo _ _ _ :: _, _, h => by simp [leaves] at h
theorem Au.MM {s : Au} {y z : L} {v : Value} (h : (s.mk y).rel e n loc v) (hz : z.ev e = y.ev e) : (s.mk z).rel e n loc v := by
 have hv := Au.SA h
 refine ⟨?_, h.2.1, .inr ?_⟩
 ·cases s <;> trivial
 ·rw [hv]; cases s <;> simp only [Au.mk, K.Bl, hz]
theorem Ve {s : Au} {x : L} {a : A} (_ : s.single = true) (h : x.ev e = a) : (s.mk x).rel e n loc (s.Bl a) := by
 subst h
 cases s <;> refine ⟨trivial, ?_, .inr rfl⟩
 all_goals first | rfl | skip
 simp only [Au.Bl]
 unfold GS
 split <;> rfl
theorem AaV (s : Au) (a : A) : (s.Bl a).oneCell' = true := by
 cases s <;> try rfl
 simp only [Au.Bl]
 unfold GS
 split <;> rfl
theorem W9 {s : Au} {x : L} {v : Value} (h : (s.mk x).rel e n loc v) : v = s.Bl (x.ev e) := by
 cases s <;> (rcases h.2.2 with h1 | h1) <;> first | (cases h1; done) | (rw [h1]; rfl)
theorem OU {α : Type} {l : List α} {k m : Nat} {x : α} (h : l[k]? = some x) : (l.drop k).take (m + 1) = x :: (l.drop (k + 1)).take m := by
 have hk := Ac h
 rw [List.drop_eq_getElem_cons hk, List.take_succ_cons]
 rw [List.getElem?_eq_getElem hk] at h
 injection h with h
 rw [h]
theorem F4 {cells : List C} {st num : Nat} {x : L} : ∀ {m off : Nat} {g g' : G} {rs : List C}, Eg cells off st num x m g = some (rs, g') → Good T e g' →
  Good T e g ∧ rs.length = m ∧ rs.all C.Dm = true ∧ ∀ i : Nat, (x.ev e).int = i → i < num → ∀ n loc vs, Aj e n loc cells vs → Aj e n loc rs ((vs.drop (off + st * i)).take m)
 | 0, off, g, g', rs, h, hg => by
  simp only [Eg, Option.some.injEq, Prod.mk.injEq] at h
  obtain ⟨rfl, rfl⟩ := h
  exact ⟨hg, rfl, rfl, fun i _ _ n loc vs _ => by simp [Aj]⟩
 | m + 1, off, g, g', rs, h, hg => by
  simp only [Eg, Option.bind_eq_bind, Option.bind_eq_some_iff, Option.some.injEq] at h
  obtain ⟨cs, hcs, s, hs, ls, hls, h⟩ := h
  obtain ⟨⟨r, g2⟩, hr, h⟩ := h
  simp only [Prod.mk.injEq] at h
  obtain ⟨rfl, rfl⟩ := h
  obtain ⟨h1, h2, h2s, h3⟩ := F4 hr hg
  have hp := Ah h1
  obtain ⟨l1, l2⟩ := F3 hcs
  obtain ⟨k1, k2⟩ := Il hls
  refine ⟨hp.1, by simp [h2], by cases s <;> simpa [C.Dm, K.Dm, Au.mk] using h2s, fun i hi hlt n loc vs hv => ?_⟩
  have hc : ∃ c, cs[i]? = some c := ⟨cs[i]'(by omega), List.getElem?_eq_getElem (by omega)⟩
  obtain ⟨c, hc⟩ := hc
  obtain ⟨y, hy, rfl⟩ := k2 i c hc
  have hcell : cells[off + st * i]? = some (.k (s.mk y)) := (l2 i hlt).symm.trans hc
  obtain ⟨v, hv1, hv2⟩ := Dt hv hcell
  rw [OU hv1]
  refine ⟨?_, by simpa [Nat.add_right_comm] using h3 i hi hlt n loc vs hv⟩
  have hev : (g.push .sel (x :: ls)).1.ev e = y.ev e := hp.2 _ (by
   simp only [D.ev, List.map_cons, List.getElem?_cons_zero, hi, Int.toNat_natCast, List.getElem?_map, hy, Option.map_some, Option.getD_some])
  exact Au.MM hv2 hev
theorem NB {u : Nat} {tu : Ty} (h : FB P u tu) {cs : List C} {vs : List Value} {off : Nat} {c : List C} {p : PV} (hr : Aj e n loc cs vs) (hc : Dp cs off tu.size = some c) (hp : Et tu.kind.agg c = some p) :
  ∃ v, p.rel e n loc v ∧ ∀ w, (part u vs.toArray off).run P w = .ok v w := by
 obtain ⟨h1, rfl, h3⟩ := Br hc
 have hl := AR hr
 have hcr := Fe (Ff hr off) tu.size
 rcases BG hp with ⟨ha, rfl⟩ | ⟨ha, c, hcc, rfl⟩
 ·refine ⟨.agg ((vs.drop off).take tu.size).toArray, ⟨_, rfl, hcr⟩, fun w => ?_⟩
  simp only [part, Sem.run_bind, E2 h, ha, if_true, Result.andThen_ok, Bc h, Sem.run_pure]
  congr 2
  apply Array.ext'
  simp [List.extract]
 ·rw [hcc] at hcr
  cases hv : (vs.drop off).take tu.size with
  | nil => rw [hv] at hcr; exact hcr.elim
  | cons v l =>
   rw [hv] at hcr
   refine ⟨v, hcr.1, fun w => ?_⟩
   have hoff : vs[off]? = some v := by
    have := congrArg (·[0]?) hv
    simp only [List.getElem?_cons_zero, List.getElem?_take, List.getElem?_drop, Nat.add_zero] at this
    split at this
    ·exact this
    ·cases this
   simp [part, E2 h, ha, hoff]
theorem D3 (hX : B5 P X.Ay) {fs : List (Nat × Nat)} {i off m : Nat} (h : DB fs X i = some (off, m)) : ∃ t ty, fs[i]? = some (t, off) ∧ look t X.Ay = some ty ∧ m = ty.size ∧ FB P t ty := by
 simp only [DB, Ctx.ty, Option.bind_eq_bind, Option.bind_eq_some_iff, Option.some.injEq, Prod.mk.injEq] at h
 obtain ⟨⟨t, o⟩, h1, ty, h2, h3, h4⟩ := h
 simp only at h2 h3
 subst h3
 exact ⟨t, ty, h1, h2, h4.symm, hX t ty h2⟩
theorem Zy (hX : B5 P X.Ay) {t : TypeId} {x : Operand} {f : Nat} (ho : o.op = .field t x f) : Bv P T e w0 fr rows gs pc o g (execOp X inl fr rows gs pc o g) := by
 obtain ⟨dst, op', ty, pos, after, guard⟩ := o
 simp only at ho
 subst ho
 simp only [execOp, Option.bind_eq_bind, Ctx.ty]
 cases ht : look t X.Ay with
 | none => trivial
 | some tt =>
  simp only [Option.bind_some]
  cases hp : Db fr gs x with
  | none => trivial
  | some p =>
   simp only [Option.bind_some]
   split
   ·rename_i fs cs hk
    cases hf : fs[f]? with
    | none => trivial
    | some u =>
     obtain ⟨u, off'⟩ := u
     simp only [Option.bind_some]
     cases hu : look u X.Ay with
     | none => trivial
     | some tu =>
      simp only [Option.bind_some]
      cases hs : DB fs X f with
      | none => trivial
      | some om =>
       obtain ⟨off, m⟩ := om
       simp only [Option.bind_some]
       cases hc : Dp cs off m with
       | none => trivial
       | some c =>
        simp only [Option.bind_some]
        cases hm : Et tu.kind.agg c with
        | none => trivial
        | some q =>
         simp only [Option.bind_some]
         obtain ⟨u', ty', h1, h2, h3, h4⟩ := D3 hX hs
         rw [hf] at h1
         simp only [Option.some.injEq, Prod.mk.injEq] at h1
         obtain ⟨rfl, rfl⟩ := h1
         rw [hu] at h2
         injection h2 with h2
         subst h2
         subst h3
         obtain ⟨gs', hg1, hg2⟩ := FI (hX t tt ht) hk
         have hfd : ∃ fd, gs'[f]? = some fd ∧ fd.type = u ∧ fd.offset = off' := by
          have := congrArg (·[f]?) hg2
          simp only [List.getElem?_map, hf] at this
          cases hfd : gs'.toList[f]? with
          | none => rw [hfd] at this; cases this
          | some fd =>
           rw [hfd] at this
           simp only [Option.map_some, Option.some.injEq, Prod.mk.injEq] at this
           exact ⟨fd, by simpa using hfd, this.1, this.2⟩
         obtain ⟨fd, hfd, rfl, rfl⟩ := hfd
         refine Ae fun hg => ⟨hg, fun loc a w1 _ hgs hfr _ => ?_⟩
         obtain ⟨vs, e1, e2⟩ := Aa hp hfr hgs
         obtain ⟨v, r1, r2⟩ := NB h4 e2 hc hm
         refine ⟨v, r1, fun w _ => ?_⟩
         simp [Go.execOp, Instr.field, run_underlying hg1, hfd, e1, asAgg, r2]
   ·trivial
theorem Vf {x : Operand} {i : Nat} (ho : o.op = .extract x i) : Bv P T e w0 fr rows gs pc o g (execOp X inl fr rows gs pc o g) := by
 obtain ⟨dst, op', ty, pos, after, guard⟩ := o
 simp only at ho
 subst ho
 simp only [execOp, Option.bind_eq_bind]
 split
 ·rename_i t
  split
  ·rename_i l hl
   cases hi : l[i]? with
   | none => trivial
   | some p =>
    simp only [Option.bind_some]
    refine Ae fun hg => ⟨hg, fun loc a w1 _ hgs hfr _ => ?_⟩
    obtain ⟨v, _, hv, vs, rfl, hr⟩ := hfr.get hl
    have : ∀ {l : List PV} {vs : List Value} {i : Nat} {p : PV}, AA e rows.length loc l vs → l[i]? = some p → ∃ v, vs[i]? = some v ∧ p.rel e rows.length loc v := by
     intro l
     induction l with
     | nil => intro vs i p _ h; simp at h
     | cons a l ih =>
      intro vs i p h hp
      cases vs with
      | nil => exact h.elim
      | cons b vs =>
       cases i with
       | zero => simp at hp; subst hp; exact ⟨b, rfl, h.1⟩
       | succ i => simpa using ih h.2 (by simpa using hp)
    obtain ⟨v, hv1, hv2⟩ := this hr hi
    refine ⟨v, hv2, fun w _ => ?_⟩
    simp only [Go.execOp, Act.eval, hv]
    simp [Instr.extract, hv1]
  ·trivial
 ·trivial
theorem OV : ∀ {l : List PV} {ks : List K} {vs : List Value}, Qz l = some ks → AA e n loc l vs → C8 e n loc ks vs
 | [], ks, vs, h, hv => by
  simp [Qz] at h
  subst h
  cases vs with
  | nil => trivial
  | cons => exact hv.elim
 | .one (.k x) :: l, ks, vs, h, hv => by
  simp only [Qz, Option.bind_eq_bind, Option.bind_eq_some_iff, Option.some.injEq] at h
  obtain ⟨r, hr, rfl⟩ := h
  cases vs with
  | nil => exact hv.elim
  | cons v vs => exact ⟨hv.1, OV hr hv.2⟩
 | .one (.clo ..) :: _, _, _, h, _ => by simp [Qz] at h
 | .agg _ :: _, _, _, h, _ => by simp [Qz] at h
theorem Tu {f : Nat} {first caps : Array Operand} (ho : o.op = .makeFunc (.func f) first caps) : Bv P T e w0 fr rows gs pc o g (execOp X inl fr rows gs pc o g) := by
 obtain ⟨dst, op', ty, pos, after, guard⟩ := o
 simp only at ho
 subst ho
 simp only [execOp, Option.bind_eq_bind]
 cases ha : Qu fr gs first.toList with
 | none => trivial
 | some as =>
  simp only [Option.bind_some]
  cases hb : Qu fr gs caps.toList with
  | none => trivial
  | some bs =>
   simp only [Option.bind_some]
   cases h1 : Qz as with
   | none => trivial
   | some k1 =>
    simp only [Option.bind_some]
    cases h2 : Qz bs with
    | none => trivial
    | some k2 =>
     simp only [Option.bind_some]
     refine Ae fun hg => ⟨hg, fun loc a w1 _ hgs hfr _ => ?_⟩
     have r1 := OV h1 (G1 ha hfr hgs)
     have r2 := OV h2 (G1 hb hfr hgs)
     refine ⟨.func (.func f) (first.map a.eval) (caps.map a.eval), ⟨_, _, ?_, r1, r2⟩, fun w _ => by simp [Go.execOp, Instr.makeFunc]⟩
     simp only [Value.func.injEq, true_and]
     constructor <;> (apply Array.ext'; simp)
theorem Zz {x : Operand} (ho : o.op = .panic x) : Bv P T e w0 fr rows gs pc o g (execOp X inl fr rows gs pc o g) := by
 simp only [execOp, ho]
 intro hg
 have hm := As hg
 refine ⟨hm.1, fun loc a w1 hpc _ _ _ => ?_⟩
 have := hm.2 hpc
 simp at this
theorem MN (hX : B5 P X.Ay) {t : TypeId} {x : Operand} (ho : o.op = .makeInterface t x) : Bv P T e w0 fr rows gs pc o g (execOp X inl fr rows gs pc o g) := by
 obtain ⟨dst, op', ty, pos, after, guard⟩ := o
 simp only at ho
 subst ho
 simp only [execOp, Option.bind_eq_bind, Ctx.ty]
 cases ht : look t X.Ay with
 | none => trivial
 | some tt =>
  simp only [Option.bind_some]
  split
  ·rename_i hk
   have hun := BE (hX t tt ht) hk
   refine fun hg => ⟨hg, fun loc a w1 _ _ _ _ => ⟨.iface t (a.eval x), trivial, fun w _ => .pure ?_⟩⟩
   simp [Go.execOp, Instr.makeInterface, run_underlying hun]
  ·trivial
end
end Rx
namespace Rx
open Go Go.RowKit
section
variable {T : Nat → List A → Bool × List A} {e : Nat → A} {n n' : Nat} {loc loc' : Loc} {P : Program} {X : Ctx} {w0 : W0} {rows : List Row}
theorem BM.count {w : World} {B : Bd} {r : Nat} {q : FD} (h : BM e loc w B r q) : ∃ m : Nat, (q.n.ev e).int = m := by
 obtain ⟨as, m, _, _, h3, _⟩ := h
 exact ⟨m, h3⟩
theorem NC {w : World} {B : Bd} {r : Nat} {p : PV} {k : L} {q : FD} {v : Value} (h : Ia rows p = some (r, k, q)) (hr : Ad e loc rows w B) (hv : p.rel e n loc v) :
  r < n ∧ (∃ row, rows[r]? = some row ∧ row.lst = some q) ∧ BM e loc w B r q ∧ k = q.n ∧ ∃ (m : Nat) (a : Option Addr) (c : Nat), (k.ev e).int = m ∧ v = .slice a m c ∧ (m ≠ 0 → a = some ⟨(loc r).blk, (loc r).off, none⟩) := by
 unfold Ia at h
 split at h
 ·rename_i r' k'
  simp only [Option.bind_eq_bind, Option.bind_eq_some_iff] at h
  obtain ⟨row, hrow, q', hq, h⟩ := h
  split at h
  ·rename_i hc
   simp only [Option.some.injEq, Prod.mk.injEq] at h
   obtain ⟨rfl, rfl, rfl⟩ := h
   simp only [Bool.and_eq_true] at hc
   have hk := L.Af hc.2
   have hl := (hr.lst _ _ _ hrow hq).2
   obtain ⟨h1, h2, h3⟩ := hv
   simp only [K.ok] at h1
   obtain ⟨m, hm⟩ := Int.eq_ofNat_of_zero_le h1.2.1
   refine ⟨h1.1, ⟨row, hrow, hq⟩, hl, hk, m, ?_⟩
   rcases h3 with h3 | h3
   ·cases h3
   ·cases he : (loc r').emp
    ·simp only [K.Bl, he, Bool.false_eq_true, if_false] at h3
     exact ⟨_, (loc r').cap, hm, by rw [h3, hm]; simp, fun _ => rfl⟩
    ·obtain ⟨ha, hz⟩ := h1.2.2 he
     simp only [K.Bl, he, if_true] at h3
     have : m = 0 := by omega
     subst this
     exact ⟨none, 0, hm, by rw [h3, ha], fun h => absurd rfl h⟩
  ·cases h
 ·rename_i r' k'
  simp only [Option.bind_eq_bind, Option.bind_eq_some_iff] at h
  obtain ⟨row, hrow, q', hq, h⟩ := h
  split at h
  ·rename_i hc
   simp only [Option.some.injEq, Prod.mk.injEq] at h
   obtain ⟨rfl, rfl, rfl⟩ := h
   simp only [Bool.and_eq_true, Bool.not_eq_true'] at hc
   have hk := L.Af hc.2
   have hl := (hr.lst _ _ _ hrow hq).2
   obtain ⟨h1, h2, h3⟩ := hv
   simp only [K.ok] at h1
   refine ⟨h1.1, ⟨row, hrow, hq⟩, hl, hk, ?_⟩
   obtain ⟨as, m, l1, l2, l3, l4, l5⟩ := hl
   rw [if_neg (by simp [hc.1])] at l5
   obtain ⟨⟨a, c, l6, l7⟩, _⟩ := l5
   rcases h3 with h3 | h3
   ·cases h3
   ·exact ⟨m, a, c, by rw [hk, l3], by rw [h3]; exact l6, l7⟩
  ·cases h
 ·cases h
theorem BM.cell {w : World} {B : Bd} {r : Nat} {q : FD} (h : BM e loc w B r q) {as : List A} {m i off : Nat} (hx : q.x.ev e = .l as) (hn : (q.n.ev e).int = m) (hi : i < m) (ho : off < q.ss.length) :
  ∃ s a u, q.ss[off]? = some s ∧ as[off + q.ss.length * i]? = some a ∧ w.cell? ⟨(loc r).blk, (loc r).off + (off + q.ss.length * i), none⟩ = some u ∧ GZ (CF B w) s a u := by
 obtain ⟨as', m', h1, h2, h3, h4, h5⟩ := h
 rw [h1] at hx
 injection hx with hx
 subst hx
 rw [h3] at hn
 have hn : m' = m := by omega
 subst hn
 have hlt : off + q.ss.length * i < as'.length := by
  rw [h2]
  calc off + q.ss.length * i < q.ss.length + q.ss.length * i := by omega
   _ = q.ss.length * (i + 1) := by rw [Nat.mul_succ]; omega
   _ ≤ q.ss.length * m' := Nat.mul_le_mul_left _ hi
   _ = m' * q.ss.length := Nat.mul_comm _ _
 have hmod : (off + q.ss.length * i) % q.ss.length = off := by rw [Nat.add_mul_mod_self_left, Nat.mod_eq_of_lt ho]
 have ha : as'[off + q.ss.length * i]? = some (as'[off + q.ss.length * i]'hlt) := List.getElem?_eq_getElem hlt
 have hs : q.ss[off]? = some (q.ss[off]'ho) := List.getElem?_eq_getElem ho
 split at h5
 ·rename_i hown
  split at h5
  ·omega
  ·obtain ⟨g1, g2, g3, us, sp, g4, g5, g6⟩ := h5
   have hu : us[off + q.ss.length * i]? = some (us[off + q.ss.length * i]'(by rw [g6.1]; exact hlt)) := List.getElem?_eq_getElem _
   refine ⟨_, _, _, hs, ha, ?_, g6.2 _ _ _ _ (by rw [hmod]; exact hs) ha hu⟩
   rw [g1]
   simp only [World.cell?, g4, Nat.zero_add]
   simp [List.getElem?_append_left (Ac hu), hu]
 ·obtain ⟨⟨a, c, g1, g2⟩, g3⟩ := h5
  rw [g1] at g3
  cases g3 with
  | sc h => simp [Au.single] at h
  | emp => omega
  | sl kc k0 k1 k2 k3 k4 =>
   rename_i us b o
   have := g2 (by omega)
   simp only [Option.some.injEq, Addr.mk.injEq, and_true] at this
   have hu : us[off + q.ss.length * i]? = some (us[off + q.ss.length * i]'(by omega)) := List.getElem?_eq_getElem (by omega)
   refine ⟨_, _, _, hs, ha, ?_, k4 _ _ _ _ (by rw [hmod]; exact hs) ha hu⟩
   have hM := k3 _ _ hu
   rw [← this.1, ← this.2]; exact (Ds hM).1
def Ew (v : Value) : Lc := match v with | .slice (some a) _ _ => ⟨a.block, a.off, 0, 0, v, false⟩ | v => ⟨0, 0, 0, 0, v, false⟩
theorem CR (v : Value) : (Ew v).v = v := by unfold Ew; split <;> rfl
theorem GZ.slice {M : Addr → Option Value} {ss : List Au} {a : A} {v : Value} (h : GZ M (.sl ss) a v) : ∃ as m c b, a = .l as ∧ v = .slice b m c ∧ as.length = m * ss.length ∧ (m ≠ 0 → b = some ⟨(Ew v).blk, (Ew v).off, none⟩) := by
 cases h with
 | sc h => simp [Au.single] at h
 | emp => exact ⟨[], 0, _, _, rfl, rfl, by simp, fun h => absurd rfl h⟩
 | sl _ h0 h1 => exact ⟨_, _, _, _, rfl, rfl, h1, fun _ => rfl⟩
theorem GZ.cap {M : Addr → Option Value} {ss : List Au} {a : A} {b : Option Addr} {m c : Nat} (h : GZ M (.sl ss) a (.slice b m c)) : m ≤ c := by
 cases h with
 | sc h => simp [Au.single] at h
 | emp => exact Nat.zero_le _
 | sl hc => exact hc
def EM (e : Nat → A) (M : Addr → Option Value) (row : Row) (v : Value) : Prop :=
 row.own = false ∧ row.cells = [] ∧ ∃ q as m, row.lst = some q ∧ q.own = false ∧ 0 < q.ss.length ∧ q.x.ev e = .l as ∧ as.length = m * q.ss.length ∧ (q.n.ev e).int = (m : Nat) ∧ GZ M (.sl q.ss) (.l as) v
theorem EM.ok {w : World} {B : Bd} {r : Nat} {row : Row} {v : Value} (h : EM e (CF B w) row v) (hl : loc r = Ew v) : AH e n loc w B r row ∧ ∃ q, row.lst = some q ∧ q.own = false ∧ BM e loc w B r q := by
 obtain ⟨h1, h2, q, as, m, h3, h4, h5, h6, h7, h8, h9⟩ := h
 refine ⟨?_, q, h3, h4, as, m, h6, h7, h8, h5, ?_⟩
 ·unfold AH
  rw [if_neg (by simp [h1])]
  exact fun h => absurd h2 h
 ·rw [if_neg (by simp [h4])]
  obtain ⟨as', m', c, b, k1, k2, k3, k4⟩ := h9.slice
  injection k1 with k1
  subst k1
  have : m' = m := Nat.eq_of_mul_eq_mul_right h5 (by rw [← k3, h7])
  subst this
  rw [hl, CR]
  exact ⟨⟨b, c, k2, k4⟩, h9⟩
def CG (loc : Loc) (n : Nat) (vs : List Value) : Loc := fun r => if r < n then loc r else match vs[r - n]? with | some v => Ew v | none => default
theorem Cn (loc : Loc) (n : Nat) (vs : List Value) : AO n loc (CG loc n vs) := fun r hr => by simp [CG, hr]
theorem DY (loc : Loc) (n : Nat) (vs : List Value) {t : Nat} {v : Value} (h : vs[t]? = some v) : CG loc n vs (n + t) = Ew v := by
 unfold CG
 rw [if_neg (by omega), show n + t - n = t by omega, h]
theorem Ad.OW {w : World} {B : Bd} {news : List Row} {vs : List Value} (h : Ad e loc rows w B) (hn : ∀ (t : Nat) row, news[t]? = some row → ∃ v, vs[t]? = some v ∧ EM e (CF B w) row v) :
  Ad e (CG loc rows.length vs) (rows ++ news) w B := by
 have hx := Cn loc rows.length vs
 have split_ : ∀ (r : Nat) (x : Row), (rows ++ news)[r]? = some x → (r < rows.length ∧ rows[r]? = some x) ∨ ∃ t v, r = rows.length + t ∧ CG loc rows.length vs r = Ew v ∧ EM e (CF B w) x v := fun r x hr => by
  rw [List.getElem?_append] at hr
  split at hr
  ·rename_i h0
   exact .inl ⟨h0, hr⟩
  ·rename_i h0
   obtain ⟨v, hv, hf⟩ := hn _ _ hr
   refine .inr ⟨r - rows.length, v, by omega, ?_, hf⟩
   have := DY loc rows.length vs hv
   rwa [show rows.length + (r - rows.length) = r by omega] at this
 have notOwn : ∀ {x : Row} {v : Value}, EM e (CF B w) x v → x.own = false ∧ ∀ q, x.lst = some q → q.own = false := fun {x v} hf => by
  obtain ⟨h1, _, q, _, _, h3, h4, _⟩ := hf
  exact ⟨h1, fun q' hq => by rw [h3] at hq; injection hq with hq; rw [← hq]; exact h4⟩
 refine ⟨fun r x hr => ?_, fun r x q hr hq => ?_, fun r s x y hr hs ox oy => ?_, fun r s x y hr hs ox oy hne => ?_⟩
 ·rcases split_ r x hr with ⟨h1, h2⟩ | ⟨t, v, _, h2, h3⟩
  ·exact (h.row r x h2).ext h1 hx (by simp)
  ·exact (h3.ok h2).1
 ·rcases split_ r x hr with ⟨h1, h2⟩ | ⟨t, v, _, h2, h3⟩
  ·obtain ⟨k1, k2⟩ := h.lst r x q h2 hq
   exact ⟨k1, k2.at_ (hx r h1)⟩
  ·obtain ⟨q', k1, _, k3⟩ := (h3.ok (n := 0) h2).2
   rw [hq] at k1
   injection k1 with k1
   subst k1
   exact ⟨(notOwn h3).1, k3⟩
 ·rcases split_ r x hr with ⟨h1, h2⟩ | ⟨t, v, _, h2, h3⟩
  ·obtain ⟨q, o1, o2, o3⟩ := ox
   rw [hx r h1] at o3 ⊢
   rcases split_ s y hs with ⟨g1, g2⟩ | ⟨t, v, _, g2, g3⟩
   ·rw [hx s g1]
    refine h.lapart r s x y h2 g2 ⟨q, o1, o2, o3⟩ ?_
    rcases oy with oy | ⟨⟨p, p1, p2, p3⟩, hne⟩
    ·exact .inl oy
    ·exact .inr ⟨⟨p, p1, p2, by rw [← hx s g1]; exact p3⟩, hne⟩
   ·rcases oy with oy | ⟨⟨p, p1, p2, p3⟩, hne⟩
    ·rw [(notOwn g3).1] at oy; cases oy
    ·rw [(notOwn g3).2 p p1] at p2; cases p2
  ·obtain ⟨q, o1, o2, o3⟩ := ox
   rw [(notOwn h3).2 q o1] at o2
   cases o2
 ·rcases split_ r x hr with ⟨h1, h2⟩ | ⟨t, v, _, h2, h3⟩
  ·rcases split_ s y hs with ⟨g1, g2⟩ | ⟨t, v, _, g2, g3⟩
   ·rw [hx r h1, hx s g1]
    exact h.apart r s x y h2 g2 ox oy hne
   ·rw [(notOwn g3).1] at oy; cases oy
  ·rw [(notOwn h3).1] at ox; cases ox
theorem SC {k : Nat} {X : L} {as : List A} {g : G} (h : Good T e (g.push (.lln k) [X]).2) (hX : X.ev e = .l as) : (g.push (.lln k) [X]).1.ev e = .i ((as.length / k : Nat) : Int) :=
 (Ah h).2 _ (by simp [D.ev, hX])
theorem Gz {own : Bool} {ss : List Au} {es : Nat} {X x : L} : ∀ {m k off : Nat} {g g' : G} {cs : List C} {news : List Row}, Qx own ss es X x k off m g = some (cs, news, g') → Good T e g' →
  Good T e g ∧ cs.length = m ∧ (news = [] → cs.all C.Dm = true) ∧
  ∀ (as : List A) (i : Nat) (M : Addr → Option Value) (us : List Value), X.ev e = .l as → (x.ev e).int = i → us.length = m →
   (∀ j, j < m → ∃ s a u, ss[off + j]? = some s ∧ as[off + j + es * i]? = some a ∧ us[j]? = some u ∧ GZ M s a u) →
   ∃ vs : List Value, vs.length = news.length ∧ (∀ (t : Nat) row, news[t]? = some row → ∃ v, vs[t]? = some v ∧ EM e M row v) ∧
    ∀ (loc : Loc) (N : Nat), k + news.length ≤ N → (∀ (t : Nat) v, vs[t]? = some v → loc (k + t) = Ew v) → Aj e N loc cs us
 | 0, k, off, g, g', cs, news, h, hg => by
  simp only [Qx, Option.some.injEq, Prod.mk.injEq] at h
  obtain ⟨rfl, rfl, rfl⟩ := h
  refine ⟨hg, rfl, fun _ => rfl, fun as i M us _ _ hu _ => ⟨[], rfl, fun t row h => by simp at h, fun loc N _ _ => ?_⟩⟩
  rw [List.eq_nil_of_length_eq_zero hu]
  trivial
 | m + 1, k, off, g, g', cs, news, h, hg => by
  unfold Qx at h
  simp only [Option.bind_eq_bind, Option.bind_eq_some_iff] at h
  obtain ⟨s, hs, h⟩ := h
  have shift : ∀ {as : List A} {i : Nat} {M : Addr → Option Value} {us : List Value}, (∀ j, j < m + 1 → ∃ s a u, ss[off + j]? = some s ∧ as[off + j + es * i]? = some a ∧ us[j]? = some u ∧ GZ M s a u) →
    ∀ j, j < m → ∃ s a u, ss[off + 1 + j]? = some s ∧ as[off + 1 + j + es * i]? = some a ∧ us.tail[j]? = some u ∧ GZ M s a u := fun {as i M us} hh j hj => by
   obtain ⟨s, a, u, h1, h2, h3, h4⟩ := hh (j + 1) (by omega)
   refine ⟨s, a, u, by rw [show off + 1 + j = off + (j + 1) by omega]; exact h1, by rw [show off + 1 + j = off + (j + 1) by omega]; exact h2, by rw [List.getElem?_tail]; exact h3, h4⟩
  have pixev : ∀ {as : List A} {i : Nat} {a : A}, Good T e (g.push (.pix off es) [X, x]).2 → X.ev e = .l as → (x.ev e).int = i → as[off + es * i]? = some a → (g.push (.pix off es) [X, x]).1.ev e = a := fun {as i a} hg hX hi ha => by
   refine (Ah hg).2 _ ?_
   simp [D.ev, hX, hi, List.getD, ha]
  split at h
  ·rename_i ss'
   split at h
   ·cases h
   ·rename_i hc
    simp only [beq_iff_eq] at hc
    simp only [Option.bind_eq_some_iff] at h
    obtain ⟨⟨cs', rs, g2⟩, hr, h⟩ := h
    simp only [Option.some.injEq, Prod.mk.injEq] at h
    obtain ⟨rfl, rfl, rfl⟩ := h
    obtain ⟨h1, h2, h3, h4⟩ := Gz hr hg
    have hp2 := Ah h1
    have hp1 := Ah hp2.1
    refine ⟨hp1.1, by simp [h2], fun h => by simp at h, fun as i M us hX hi hu hh => ?_⟩
    obtain ⟨s0, a0, u0, q1, q2, q3, q4⟩ := hh 0 (by omega)
    simp only [Nat.add_zero] at q1 q2
    rw [hs] at q1
    injection q1 with q1
    subst q1
    cases us with
    | nil => simp at hu
    | cons u us =>
     simp only [List.getElem?_cons_zero, Option.some.injEq] at q3
     subst q3
     obtain ⟨vs, v1, v2, v3⟩ := h4 as i M us hX hi (by simpa using hu) (shift hh)
     have hz := pixev hp2.1 hX hi q2
     obtain ⟨as', m', c', b', a1, a2, a3, a4⟩ := q4.slice
     rw [a1] at hz
     have hlen := SC h1 hz
     have hm' : as'.length / ss'.length = m' := by rw [a3]; exact Nat.mul_div_cancel _ (by omega)
     rw [hm'] at hlen
     refine ⟨u :: vs, by simp [v1], fun t row ht => ?_, fun loc N hN hloc => ?_⟩
     ·cases t with
      | zero =>
       simp only [List.getElem?_cons_zero, Option.some.injEq] at ht
       subst ht
       exact ⟨u, rfl, rfl, rfl, _, as', m', rfl, rfl, by simp only; omega, hz, a3, by simp only; rw [hlen]; rfl, by rw [← a1]; exact q4⟩
      | succ t => simpa using v2 t row (by simpa using ht)
     ·simp only [List.length_cons] at hN
      refine ⟨?_, v3 loc N (by omega) fun t v ht => ?_⟩
      ·have hl := hloc 0 u rfl
       rw [Nat.add_zero] at hl
       refine ⟨⟨by omega, by rw [hlen]; simp, b', c', by rw [hl, CR, hlen]; simpa using a2⟩, by rw [a2]; rfl, .inr (by simp only [K.Bl]; rw [hl, CR])⟩
      ·have := hloc (t + 1) v (by simpa using ht)
       rwa [show k + 1 + t = k + (t + 1) by omega]
  ·rename_i hns
   simp only [Option.bind_eq_some_iff] at h
   obtain ⟨⟨cs', rs, g2⟩, hr, h⟩ := h
   simp only [Option.some.injEq, Prod.mk.injEq] at h
   obtain ⟨rfl, rfl, rfl⟩ := h
   obtain ⟨h1, h2, h3, h4⟩ := Gz hr hg
   have hp1 := Ah h1
   have hsg : s.single = true := by
    cases s with
    | sl a => exact absurd rfl (hns a)
    | _ => rfl
   refine ⟨hp1.1, by simp [h2], fun h => by
    have := h3 h
    cases s <;> simp_all [C.Dm, K.Dm, Au.mk], fun as i M us hX hi hu hh => ?_⟩
   obtain ⟨s0, a0, u0, q1, q2, q3, q4⟩ := hh 0 (by omega)
   simp only [Nat.add_zero] at q1 q2
   rw [hs] at q1
   injection q1 with q1
   subst q1
   cases us with
   | nil => simp at hu
   | cons u us =>
    simp only [List.getElem?_cons_zero, Option.some.injEq] at q3
    subst q3
    obtain ⟨vs, v1, v2, v3⟩ := h4 as i M us hX hi (by simpa using hu) (shift hh)
    have hz := pixev h1 hX hi q2
    refine ⟨vs, v1, v2, fun loc N hN hloc => ⟨?_, v3 loc N hN hloc⟩⟩
    rw [q4.single hsg]
    exact Ve hsg hz
end
end Rx
