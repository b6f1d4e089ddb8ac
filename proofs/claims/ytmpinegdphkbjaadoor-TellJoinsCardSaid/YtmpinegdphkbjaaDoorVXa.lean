import Derived.Deep.Quiet
import Derived.StillTail
import Derived.Below
import Derived.Laws.AppendOwn
import Derived.Laws.CopyRow
import Derived.Laws.OwnMore
import Derived.Maps.AppendAt
import Derived.Laws.MakeOwn
import Derived.Laws.StructEq
import Derived.ChangeKeysEq
set_option linter.unusedVariables false
set_option linter.unusedSimpArgs false
namespace Rx
open Go
inductive A where
 | i (n : Int) | b (t : Bool) | v (x : Value) | l (as : List A)
def A.AL : A → List A | .l as => as | _ => []
def A.int : A → Int | .i n => n | _ => 0
def A.bool : A → Bool | .b t => t | _ => false
def A.val : A → Value | .v x => x | _ => undef
def strOf : Value → ByteArray | .string s => s | _ => ⟨#[]⟩
def E0 : Value → Value | .slice a n c => .slice a n c | _ => .slice none 0 0
def A.str (a : A) : ByteArray := strOf a.val
inductive L where
 | n (x : Int) | t (b : Bool) | s (l : List UInt8) | var (i : Nat) | e
 deriving Repr, Inhabited
def L.ev (e : Nat → A) : L → A
 | .n x => .i x
 | .t b => .b b
 | .s l => .v (.string ⟨l.toArray⟩)
 | .var i => e i
 | .e => .l []
def MI (a b : Int) : Bool := decide (a = b)
def DB : List UInt8 → List UInt8 → Bool
 | [], [] => true
 | a :: l, b :: m => a.toNat == b.toNat && DB l m
 | _, _ => false
def L.same : L → L → Bool
 | .n x, .n y => MI x y
 | .t x, .t y => x == y
 | .s x, .s y => DB x y
 | .var i, .var j => i == j
 | .e, .e => true
 | _, _ => false
inductive D where
 | ar (op : BinOp) (k : IntKind) | dv (op : BinOp) (k : IntKind) | bt (op : BinOp) (k : IntKind) | cmp (op : BinOp) | conv (k : IntKind) | neg (k : IntKind)
 | not | and | or | imp | iteI | iteB | iteV | Ts | eqS | mn | mx | len | slen | sel | upd | call (f : Nat)
 | iteA | pix (off es : Nat) | pset (off es : Nat) | lln (es : Nat) | rep | mkl | cat
 | scat | sget | ssub | mks | sby | sh (op : BinOp) (k : IntKind) | cpy | lsub (es : Nat)
 deriving Repr, Inhabited, DecidableEq
def LL (op : BinOp) (k : IntKind) (x y : Int) : Int :=
 match op with | .add => k.wrap (x + y) | .sub => k.wrap (x - y) | _ => k.wrap (x * y)
def MJ (op : BinOp) (k : IntKind) (x y : Int) : Int :=
 match op with | .quo => k.wrap (x.tdiv y) | _ => x.tmod y
def K8 (op : BinOp) (k : IntKind) (x y : Int) : Int :=
 let a := BitVec.ofInt k.bits x
 let b := BitVec.ofInt k.bits y
 k.wrap (match op with | .and => a &&& b | .or => a ||| b | .xor => a ^^^ b | _ => a &&& ~~~b).toNat
def NJ (op : BinOp) (k : IntKind) (x y : Int) : Int :=
 match op with | .shl => k.wrap (x * 2 ^ (min y.toNat k.bits)) | _ => x.fdiv (2 ^ (min y.toNat k.bits))
def CX (op : BinOp) (x y : Int) : Bool :=
 match op with | .eql => x == y | .neq => x != y | .lss => decide (x < y) | .leq => decide (x ≤ y) | .gtr => decide (x > y) | _ => decide (x ≥ y)
def SS : Value → Int
 | .slice _ n _ => n
 | _ => 0
def D.ev (T : Nat → List A → Bool × List A) : D → List A → List A
 | .ar op k, [a, b] => [.i (LL op k a.int b.int)]
 | .dv op k, [a, b] => [.i (MJ op k a.int b.int)]
 | .bt op k, [a, b] => [.i (K8 op k a.int b.int)]
 | .cmp op, [a, b] => [.b (CX op a.int b.int)]
 | .conv k, [a] => [.i (k.wrap a.int)]
 | .neg k, [a] => [.i (k.wrap (0 - a.int))]
 | .not, [a] => [.b (!a.bool)]
 | .and, [a, b] => [.b (a.bool && b.bool)]
 | .or, [a, b] => [.b (a.bool || b.bool)]
 | .imp, [a, b] => [.b (!a.bool || b.bool)]
 | .iteI, [c, a, b] => [.i (if c.bool then a.int else b.int)]
 | .iteB, [c, a, b] => [.b (if c.bool then a.bool else b.bool)]
 | .iteV, [c, a, b] => [.v (if c.bool then a.val else b.val)]
 | .Ts, [a, b] => [.b (a.bool == b.bool)]
 | .eqS, [a, b] => [.b (a.str == b.str)]
 | .mn, [a, b] => [.i (if b.int < a.int then b.int else a.int)]
 | .mx, [a, b] => [.i (if a.int < b.int then b.int else a.int)]
 | .len, [a] => [.i (SS a.val)]
 | .slen, [a] => [.i a.str.size]
 | .sel, x :: l => [l[x.int.toNat]?.getD (.i 0)]
 | .upd, x :: y :: l => (l.set x.int.toNat y)
 | .call f, l => .b (T f l).1 :: (T f l).2
 | .iteA, [c, a, b] => [if c.bool then a else b]
 | .pix off es, [x, i] => [x.AL.getD (off + es * i.int.toNat) (.i 0)]
 | .pset off es, [x, i, y] => [.l (x.AL.set (off + es * i.int.toNat) y)]
 | .lln es, [x] => [.i ((x.AL.length / es : Nat) : Int)]
 | .rep, n :: zs => [.l (List.replicate n.int.toNat zs).flatten]
 | .mkl, l => [.l l]
 | .cat, [x, y] => [.l (x.AL ++ y.AL)]
 | .scat, [a, b] => [.v (.string (a.str ++ b.str))]
 | .sget, [a, i] => [.i ((a.str.data.toList.getD i.int.toNat 0).toNat : Int)]
 | .ssub, [a, i, j] => [.v (.string (a.str.extract i.int.toNat j.int.toNat))]
 | .mks, [x] => [.v (.string ⟨(x.AL.map fun a => UInt8.ofNat a.int.toNat).toArray⟩)]
 | .sby, [a] => [.l (a.str.data.toList.map fun b => .i (b.toNat : Int))]
 | .sh op k, [a, b] => [.i (NJ op k a.int b.int)]
 | .lsub es, [x, i, j] => [.l ((x.AL.take (j.int.toNat * es)).drop (i.int.toNat * es))]
 | .cpy, [x, y, m] => [.l (y.AL.take m.int.toNat ++ x.AL.drop m.int.toNat)]
 | _, _ => []
structure Def where
 base : Nat
 d : D
 args : List L
 deriving Repr, Inhabited
def Def.holds (T : Nat → List A → Bool × List A) (e : Nat → A) (x : Def) : Prop :=
 ∀ j a, (x.d.ev T (x.args.map (L.ev e)))[j]? = some a → e (x.base + j) = a
structure DF where
 d : D
 args : List L
 res : List L
 deriving Repr, Inhabited
def L.Hb : List L → List L → Bool
 | [], [] => true
 | a :: l, b :: m => a.same b && L.Hb l m
 | _, _ => false
def D.same (a b : D) : Bool := decide (a = b)
def NK (d : D) (args : List L) : List DF → Option (List L)
 | [] => none
 | k :: l => if k.d.same d && L.Hb k.args args then some k.res else NK d args l
def DF.holds (T : Nat → List A → Bool × List A) (e : Nat → A) (k : DF) : Prop := k.d.ev T (k.args.map (L.ev e)) = k.res.map (L.ev e)
structure G where
 next : Nat
 defs : List Def
 obs : List L
 known : List DF := []
 deriving Repr, Inhabited
def findD (d : D) (args : List L) : Nat → List Def → Option Nat
 | n + 1, x :: l => if L.Hb x.args args && x.d.same d then some x.base else findD d args n l
 | _, _ => none
def Ug : DF := ⟨.mn, [], []⟩
def MK (k : DF) : Bool := k.d.same .mn && k.args.isEmpty && k.res.isEmpty
def marked (g : G) : Bool := match g.known with | k :: _ => MK k | [] => false
def Vl (g : G) : Nat := if marked g then 4000 else 40
def G.push (g : G) (d : D) (args : List L) : L × G :=
 match NK d args g.known with
 | some (x :: _) => (x, g)
 | _ =>
  match findD d args (Vl g) g.defs with
  | some b => (.var b, g)
  | none => (.var g.next, { g with next := g.next + 1, defs := ⟨g.next, d, args⟩ :: g.defs })
def G.Ba (g : G) (d : D) (args : List L) (n : Nat) : Nat × G := (g.next, { g with next := g.next + n, defs := ⟨g.next, d, args⟩ :: g.defs })
def La (op : BinOp) (k : IntKind) (a b : L) (g : G) : L × G :=
 match a, b with | .n x, .n y => (.n (LL op k x y), g) | _, _ => g.push (.ar op k) [a, b]
def NL (op : BinOp) (k : IntKind) (a b : L) (g : G) : L × G :=
 match a, b with | .n x, .n y => (.n (MJ op k x y), g) | _, _ => g.push (.dv op k) [a, b]
def It (op : BinOp) (k : IntKind) (a b : L) (g : G) : L × G :=
 match a, b with | .n x, .n y => (.n (K8 op k x y), g) | _, _ => g.push (.bt op k) [a, b]
def Av (op : BinOp) (a b : L) (g : G) : L × G :=
 match a, b with | .n x, .n y => (.t (CX op x y), g) | _, _ => g.push (.cmp op) [a, b]
def SU (op : BinOp) (k : IntKind) (a b : L) (g : G) : L × G :=
 match a, b with | .n x, .n y => (.n (NJ op k x y), g) | _, _ => g.push (.sh op k) [a, b]
def Iu (k : IntKind) (a : L) (g : G) : L × G :=
 match a with | .n x => (.n (k.wrap x), g) | _ => g.push (.conv k) [a]
def mkNeg (k : IntKind) (a : L) (g : G) : L × G :=
 match a with | .n x => (.n (k.wrap (0 - x)), g) | _ => g.push (.neg k) [a]
def mkNot (a : L) (g : G) : L × G :=
 match a with | .t x => (.t (!x), g) | _ => g.push .not [a]
def mkAnd (a b : L) (g : G) : L × G :=
 match a, b with
 | .t true, _ => (b, g) | .t false, _ => (.t false, g) | _, .t true => (a, g) | _, .t false => (.t false, g) | _, _ => if a.same b then (a, g) else g.push .and [a, b]
def DG (c a b : L) (g : G) : L × G :=
 match c with | .t true => (a, g) | .t false => (b, g) | _ => if a.same b then (a, g) else g.push .iteI [c, a, b]
def ML (c a b : L) (g : G) : L × G :=
 match findD .iteI [c, a, b] 300 g.defs with
 | some x => (.var x, g)
 | none => DG c a b g
def Iv (c a b : L) (g : G) : L × G :=
 match c with | .t true => (a, g) | .t false => (b, g) | _ => if a.same b then (a, g) else g.push .iteB [c, a, b]
def JS (c a b : L) (g : G) : L × G :=
 match c with | .t true => (a, g) | .t false => (b, g) | _ => if a.same b then (a, g) else g.push .iteV [c, a, b]
def Ej (c a b : L) (g : G) : L × G :=
 match c with | .t true => (a, g) | .t false => (b, g) | _ => if a.same b then (a, g) else g.push .iteA [c, a, b]
def LM (a b : L) (g : G) : L × G :=
 match a, b with | .t x, .t y => (.t (x == y), g) | _, _ => g.push .Ts [a, b]
def G.note (g : G) (c : L) : G := if g.obs.any (fun x => x.same c) then g else { g with obs := c :: g.obs }
def G.AT (g : G) (pc c : L) : G :=
 match c, pc with
 | .t true, _ => g
 | _, .t false => g
 | _, .t true => g.note c
 | _, _ => let (o, g) := g.push .imp [pc, c]; g.note o
inductive Ak where
 | int (k : IntKind) | bool | str | val | sl (ss : List Ak)
 deriving Repr, Inhabited
inductive K where
 | int (k : IntKind) (x : L) | bool (x : L) | str (x : L) | val (x : L)
 | ptr (r off : Nat) | sptr (r off st num : Nat) (x : L)
 | slc (r off len : Nat)
 | aslc (r off es len cap : Nat)
 | lsl (r : Nat) (n : L) | fsl (r : Nat) (n : L) | lptr (r off es : Nat) (x n : L)
 | nilslc | nilptr | nilfn | junk
 deriving Repr, Inhabited
inductive C where
 | k (x : K) | clo (f : FuncId) (first caps : List K) | cfn (x : L) (f h : FuncId)
 deriving Repr, Inhabited
inductive PV where
 | one (c : C) | agg (l : List C)
 deriving Repr, Inhabited
inductive SV where
 | pv (p : PV) | tup (l : List PV) | cond (gs : List (L × Bool)) (p : PV) | undef | junk
 deriving Repr, Inhabited
structure EZ where
 own : Bool
 ty : TypeId
 ss : List Ak
 x : L
 n : L
 deriving Repr, Inhabited
structure Row where
 own : Bool
 ty : TypeId
 es : Nat
 cells : List C
 lst : Option EZ := none
 deriving Repr, Inhabited
structure St where
 fr : List SV
 rows : List Row
 pc : L
 deriving Repr, Inhabited
inductive EB where
 | norm | exit (id : Nat) | ret
 deriving Repr, Inhabited
inductive TK where
 | int (k : IntKind) | bool | string | ptr (e : TypeId) | slice (e : TypeId) | arr (n : Nat) (e : TypeId) | struct (fs : List (TypeId × Nat)) | func | other
 deriving Repr, Inhabited
structure Ty where
 kind : TK
 size : Nat
 bytes : Nat
 zero : List K
 deriving Repr, Inhabited
inductive PS where
 | c (agg : Bool) (l : List Ak) | slc (l : List Ak) | nil | lst (l : List Ak) | d (agg : Bool) (l : List Ak)
 deriving Repr, Inhabited
structure MM where
 f : Nat
 ps : List PS
 rs : List (Bool × List Ak)
 ok : List (Option Int) → Bool
inductive RS where
 | c (agg : Bool) (l : List Ak) | lst (l : List Ak) (ty : Nat) | d (agg : Bool) (l : List Ak)
structure OV where
 f : Nat
 ss : List Ak
 ty : Nat := 0
 grow : Bool := false
structure SW where
 f : Nat
 ps : List PS
 rs : List RS
 ok : List (Option Int) → Bool
 w : Nat := 0
inductive Tag where
 | i | b | v | s | any | no
 deriving Repr, Inhabited, DecidableEq
structure Lp where
 f : Nat
 p : List Bool
 id : Nat
 k : Nat
 w : Nat
 m : Nat
 tm : St
 outs : List (EB × St)
 Iw : List Bool
 tags : List Tag
structure Ctx where
 Ax : List (Nat × Ty)
 eqs : List (Nat × List (Nat × Ak))
 fns : Nat → Option Func
 ctr : List (Nat × MM)
 lim : Nat
 big : List (Nat × SW) := []
 lps : List Lp := []
 muts : List (Nat × OV) := []
def look {α : Type} (t : Nat) : List (Nat × α) → Option α
 | [] => none
 | (u, x) :: l => if u == t then some x else look t l
def TK.agg : TK → Bool
 | .arr .. | .struct _ => true
 | _ => false
def BT (a b : IntKind) : Bool := decide (a = b)
mutual
def Ak.same : Ak → Ak → Bool
 | .int a, .int b => BT a b
 | .bool, .bool | .val, .val | .str, .str => true
 | .sl a, .sl b => BG a b
 | _, _ => false
def BG : List Ak → List Ak → Bool
 | [], [] => true
 | a :: l, b :: m => a.same b && BG l m
 | _, _ => false
end
def Ak.single : Ak → Bool
 | .sl _ => false
 | _ => true
def K.LN : K → Option (Ak × L)
 | .int k x => some (.int k, x)
 | .bool x => some (.bool, x)
 | .str x => some (.str, x)
 | .val x => some (.val, x)
 | _ => none
def Ak.mk : Ak → L → K
 | .int k, x => .int k x
 | .bool, x => .bool x
 | .str, x => .str x
 | .val, x => .val x
 | .sl _, _ => .nilslc
def K.same : K → K → Bool
 | .int k x, .int k' y => BT k k' && x.same y
 | .bool x, .bool y => x.same y
 | .str x, .str y => x.same y
 | .val x, .val y => x.same y
 | .ptr r o, .ptr r' o' => r == r' && o == o'
 | .sptr r o s n x, .sptr r' o' s' n' x' => r == r' && o == o' && s == s' && n == n' && x.same x'
 | .slc r o n, .slc r' o' n' => r == r' && o == o' && n == n'
 | .aslc r o s n c, .aslc r' o' s' n' c' => r == r' && o == o' && s == s' && n == n' && c == c'
 | .lsl r n, .lsl r' n' => r == r' && n.same n'
 | .fsl r n, .fsl r' n' => r == r' && n.same n'
 | .lptr r o s x n, .lptr r' o' s' x' n' => r == r' && o == o' && s == s' && x.same x' && n.same n'
 | .nilslc, .nilslc | .nilptr, .nilptr | .nilfn, .nilfn => true
 | _, _ => false
def FH : List K → List K → Bool
 | [], [] => true
 | a :: l, b :: m => a.same b && FH l m
 | _, _ => false
def C.same : C → C → Bool
 | .k a, .k b => a.same b
 | .clo f a b, .clo g c d => f == g && FH a c && FH b d
 | .cfn x f h, .cfn y f' h' => x.same y && f == f' && h == h'
 | _, _ => false
def Hc : List C → List C → Bool
 | [], [] => true
 | a :: l, b :: m => a.same b && Hc l m
 | _, _ => false
def K.Ck : K → Bool
 | .junk => false
 | _ => true
def C.Ck : C → Bool
 | .k x => x.Ck
 | .clo _ a b => a.all K.Ck && b.all K.Ck
 | .cfn .. => true
def PV.cells : PV → List C
 | .one c => [c]
 | .agg l => l
def C9 (agg : Bool) (l : List C) : Option PV :=
 if agg then some (.agg l) else match l with | [c] => some (.one c) | _ => none
def PV.int? : PV → Option (IntKind × L)
 | .one (.k (.int k x)) => some (k, x)
 | _ => none
def PV.bool? : PV → Option L
 | .one (.k (.bool x)) => some x
 | _ => none
def MN : Value → Option C
 | .int k n => some (.k (.int k (.n n)))
 | .bool b => some (.k (.bool (.t b)))
 | .string s => some (.k (.str (.s s.data.toList)))
 | .slice none 0 0 => some (.k .nilslc)
 | .pointer none => some (.k .nilptr)
 | .nilFunc => some (.k .nilfn)
 | _ => none
def HI : List Value → Option (List C)
 | [] => some []
 | v :: l => do let c ← MN v; let r ← HI l; some (c :: r)
def MO : Value → Option PV
 | .agg cs => (HI cs.toList).map .agg
 | v => (MN v).map .one
def Rr (g : L × Bool) : List (L × Bool) → Bool
 | [] => false
 | h :: l => (g.1.same h.1 && g.2 == h.2) || Rr g l
def Rs : List (L × Bool) → List (L × Bool) → Bool
 | [], _ => true
 | g :: l, gs => Rr g gs && Rs l gs
def slot (fr : List SV) (gs : List (L × Bool)) (t : Nat) : Option PV :=
 match fr[t]? with
 | some (.pv p) => some p
 | some (.cond hs p) => if Rs hs gs then some p else none
 | _ => none
def Cu (fr : List SV) (gs : List (L × Bool)) : Operand → Option PV
 | .tmp t => slot fr gs t
 | .const v => MO v
 | .func f => some (.one (.clo f [] []))
 | .global _ => none
def Lb (fr : List SV) (gs : List (L × Bool)) : List Operand → Option (List PV)
 | [] => some []
 | x :: l => do let p ← Cu fr gs x; let r ← Lb fr gs l; some (p :: r)
def Hd (fr : List SV) (gs : List (L × Bool)) : Option Operand → Option (Option PV)
 | none => some none
 | some y => do let p ← Cu fr gs y; some (some p)
def MP (c : L) (a b : K) (g : G) : K × G :=
 match a, b with
 | .int k x, .int k' y => if BT k k' then let (z, g) := DG c x y g; (.int k z, g) else (.junk, g)
 | .bool x, .bool y => let (z, g) := Iv c x y g; (.bool z, g)
 | .str x, .str y => let (z, g) := JS c x y g; (.str z, g)
 | .val x, .val y => let (z, g) := JS c x y g; (.val z, g)
 | .lsl r n, .lsl r' m => if r == r' then let (z, g) := DG c n m g; (.lsl r z, g) else (.junk, g)
 | .fsl r n, .fsl r' m => if r == r' then let (z, g) := DG c n m g; (.fsl r z, g) else (.junk, g)
 | a, b => if a.same b then (a, g) else (.junk, g)
def FI (c : L) (a b : C) (g : G) : C × G :=
 match a, b with
 | .k x, .k y => let (z, g) := MP c x y g; (.k z, g)
 | .clo f [] [], .clo h [] [] => if f == h then (.clo f [] [], g) else (.cfn c f h, g)
 | a, b => if a.same b then (a, g) else (.k .junk, g)
def AO (c : L) : List C → List C → G → List C × G
 | a :: l, b :: m, g => let (z, g) := FI c a b g; let (zs, g) := AO c l m g; (z :: zs, g)
 | _, _, g => ([], g)
def JF (c : L) (a b : SV) (g : G) : SV × G :=
 match a, b with
 | .pv (.one x), .pv (.one y) => let (z, g) := FI c x y g; (.pv (.one z), g)
 | .pv (.agg x), .pv (.agg y) => if x.length == y.length then let (z, g) := AO c x y g; (.pv (.agg z), g) else (.junk, g)
 | .undef, .undef => (.undef, g)
 | _, _ => (.junk, g)
def AU (c : L) : List SV → List SV → G → List SV × G
 | a :: l, b :: m, g => let (z, g) := JF c a b g; let (zs, g) := AU c l m g; (z :: zs, g)
 | _, _, g => ([], g)
def Row.dead : Row := { own := false, ty := 0, es := 0, cells := [] }
def HJ (c : L) (a b : Option EZ) (g : G) : Option (Option EZ) × G :=
 match a, b with
 | none, none => (some none, g)
 | some p, some q => if p.own == q.own && p.ty == q.ty && BG p.ss q.ss then
   let (x, g) := Ej c p.x q.x g; let (n, g) := ML c p.n q.n g; (some (some { p with x, n }), g)
  else (none, g)
 | _, _ => (none, g)
def HK (c : L) (a b : Row) (g : G) : Row × G :=
 if a.own == b.own && a.ty == b.ty && a.es == b.es && a.cells.length == b.cells.length then
  match HJ c a.lst b.lst g with
  | (some l, g) => let (z, g) := AO c a.cells b.cells g; ({ a with cells := z, lst := l }, g)
  | (none, g) => (Row.dead, g)
 else (Row.dead, g)
def AS (c : L) : List Row → List Row → G → List Row × G
 | a :: l, b :: m, g => let (z, g) := HK c a b g; let (zs, g) := AS c l m g; (z :: zs, g)
 | [], m, g => (m.map fun _ => Row.dead, g)
 | l, [], g => (l.map fun _ => Row.dead, g)
def EB.same : EB → EB → Bool
 | .norm, .norm | .ret, .ret => true
 | .exit a, .exit b => a == b
 | _, _ => false
abbrev Ah := List (EB × St)
def Ah.get (x : EB) : Ah → Option St
 | [] => none
 | (y, s) :: l => if x.same y then some s else Ah.get x l
def Ah.drop (x : EB) : Ah → Ah
 | [] => []
 | (y, s) :: l => if x.same y then Ah.drop x l else (y, s) :: Ah.drop x l
def DX (c : L) (both : Option (L × L × L)) (s t : L) (g : G) : L × G :=
 match both with
 | some (p, x, y) => if s.same x && t.same y then (p, g) else Iv c s t g
 | none => Iv c s t g
def AD (rows : List Row) (q : EZ) : List Row := rows ++ [{ own := false, ty := 0, es := 0, cells := [], lst := some q }]
def US (r R : Nat) : K → K
 | .lsl r' n => if r' == r then .lsl R n else .lsl r' n
 | k => k
def UM (r R : Nat) : C → C
 | .k x => .k (US r R x)
 | c => c
def Rt (r R : Nat) : PV → PV
 | .one c => .one (UM r R c)
 | .agg l => .agg (l.map (UM r R))
def Uh (r R : Nat) : SV → SV
 | .pv p => .pv (Rt r R p)
 | .tup l => .tup (l.map (Rt r R))
 | .cond gs p => .cond gs (Rt r R p)
 | s => s
def Aq (l : List Row) (n : Nat) : List Row := l ++ List.replicate (n - l.length) Row.dead
def He : List SV → List SV → Nat → List ((Nat × Bool) × (Nat × Bool)) → List ((Nat × Bool) × (Nat × Bool))
 | .pv (.one (.k (.lsl r _))) :: l, .pv (.one (.k (.lsl s _))) :: m, i, acc => He l m (i + 1) (if r == s || acc.any (fun x => x.1 == (r, true) || x.2 == (s, true)) then acc else ((r, true), (s, true)) :: acc)
 | .pv (.one (.k (.lsl r _))) :: l, .pv (.one (.k .nilslc)) :: m, i, acc => He l m (i + 1) (if acc.any (fun x => x.1 == (r, true)) then acc else ((r, true), (i, false)) :: acc)
 | .pv (.one (.k .nilslc)) :: l, .pv (.one (.k (.lsl s _))) :: m, i, acc => He l m (i + 1) (if acc.any (fun x => x.2 == (s, true)) then acc else ((i, false), (s, true)) :: acc)
 | _ :: l, _ :: m, i, acc => He l m (i + 1) acc
 | _, _, _, acc => acc
def OW (r R : Nat) (s : St) : St :=
 match s.rows[r]? with
 | some row => match row.lst with
  | some q => if q.own && decide (s.rows.length ≤ R) then ⟨s.fr.map (Uh r R), AD (Aq (s.rows.set r Row.dead) R) q, s.pc⟩ else s
  | none => s
 | none => s
def JT (i R : Nat) (o : Option EZ) (s : St) : St :=
 match o with
 | some q => match s.fr[i]? with
  | some (.pv (.one (.k .nilslc))) => if q.own && q.ss.length != 0 && decide (s.rows.length ≤ R) then ⟨s.fr.set i (.pv (.one (.k (.lsl R (.n 0))))), AD (Aq s.rows R) { own := true, ty := q.ty, ss := q.ss, x := .e, n := .n 0 }, s.pc⟩ else s
  | _ => s
 | none => s
def PR (x : Nat × Bool) (s : St) : Option EZ := match s.rows[x.1]? with | some row => row.lst | none => none
def Ld (x : Nat × Bool) (R : Nat) (o : Option EZ) (s : St) : St := if x.2 then OW x.1 R s else JT x.1 R o s
def E1 : List ((Nat × Bool) × (Nat × Bool)) → Nat → St × St → St × St
 | [], _, x => x
 | (a, b) :: l, R, (s, t) => E1 l (R + 1) (Ld a R (PR b t) s, Ld b R (PR a s) t)
inductive Pos where
 | slot (i : Nat) | cell (r j : Nat)
 deriving Repr, Inhabited
def PT : K → K → Bool
 | .fsl r _, .fsl s _ => r != s
 | .fsl .., .lsl .. | .lsl .., .fsl .. | .fsl .., .nilslc | .nilslc, .fsl .. => true
 | _, _ => false
def JG : List SV → List SV → Nat → List (Pos × K × K)
 | .pv (.one (.k a)) :: l, .pv (.one (.k b)) :: m, i => if PT a b then (.slot i, a, b) :: JG l m (i + 1) else JG l m (i + 1)
 | _ :: l, _ :: m, i => JG l m (i + 1)
 | _, _, _ => []
def JH (r : Nat) : List C → List C → Nat → List (Pos × K × K)
 | .k a :: l, .k b :: m, j => if PT a b then (.cell r j, a, b) :: JH r l m (j + 1) else JH r l m (j + 1)
 | _ :: l, _ :: m, j => JH r l m (j + 1)
 | _, _, _ => []
def Ix : List Row → List Row → Nat → List (Pos × K × K)
 | a :: l, b :: m, r => if a.own && b.own then JH r a.cells b.cells 0 ++ Ix l m (r + 1) else Ix l m (r + 1)
 | _, _, _ => []
def JU (s t : St) : List (Pos × K × K) := JG s.fr t.fr 0 ++ Ix s.rows t.rows 0
def addNat (r : Nat) (l : List Nat) : List Nat := if l.any (fun x => x == r) then l else r :: l
def LO : List (Pos × K × K) → List Nat
 | [] => []
 | (_, .lsl r _, _) :: l => addNat r (LO l)
 | (_, _, .lsl r _) :: l => addNat r (LO l)
 | _ :: l => LO l
def Bb (ss : List Ak) (x n : L) : Row := { own := false, ty := 0, es := 0, cells := [], lst := some ⟨false, 0, ss, x, n⟩ }
def UT (r R : Nat) (q : L) : K → K
 | .lsl r' n => if r' == r then (if n.same q then .fsl R n else .junk) else .lsl r' n
 | k => k
def Ui (r R : Nat) (q : L) : C → C
 | .k x => .k (UT r R q x)
 | c => c
def Ru (r R : Nat) (q : L) : PV → PV
 | .one c => .one (Ui r R q c)
 | .agg l => .agg (l.map (Ui r R q))
def TD (r R : Nat) (q : L) : SV → SV
 | .pv p => .pv (Ru r R q p)
 | .tup l => .tup (l.map (Ru r R q))
 | .cond gs p => .cond gs (Ru r R q p)
 | s => s
def Rv (r R : Nat) (q : L) (x : Row) : Row := if x.own then { x with cells := x.cells.map (Ui r R q) } else x
def GP (r R : Nat) (s : St) : St :=
 match s.rows[r]? with
 | some row => match row.lst with
  | some q => if q.own && decide (s.rows.length ≤ R) then ⟨s.fr.map (TD r R q.n), (Aq (s.rows.set r Row.dead) R ++ [Bb q.ss q.x q.n]).map (Rv r R q.n), s.pc⟩ else s
  | none => s
 | none => s
def Uj (s : St) : Pos → Option K
 | .slot i => (match s.fr[i]? with | some (.pv (.one (.k k))) => some k | _ => none)
 | .cell r j => (match s.rows[r]? with | some row => (match row.cells[j]? with | some (.k k) => if row.own then some k else none | _ => none) | none => none)
def FE (s : St) (p : Pos) (k : K) : St :=
 match p with
 | .slot i => { s with fr := s.fr.set i (.pv (.one (.k k))) }
 | .cell r j => (match s.rows[r]? with | some row => { s with rows := s.rows.set r { row with cells := row.cells.set j (.k k) } } | none => s)
def Le (p : Pos) (R : Nat) (ss : List Ak) (s : St) : St :=
 match Uj s p with
 | some (.fsl r n) => (match s.rows[r]? with
  | some row => (match row.lst with
   | some q => if !q.own && n.same q.n && decide (s.rows.length ≤ R) then FE { s with rows := Aq s.rows R ++ [Bb q.ss q.x q.n] } p (.fsl R q.n) else s
   | none => s)
  | none => s)
 | some .nilslc => if ss.length != 0 && decide (s.rows.length ≤ R) then FE { s with rows := Aq s.rows R ++ [Bb ss .e (.n 0)] } p (.fsl R (.n 0)) else s
 | _ => s
def SX (p : Pos) (s : St) : List Ak :=
 match Uj s p with
 | some (.fsl r _) => (match s.rows[r]? with | some row => (match row.lst with | some q => q.ss | none => []) | none => [])
 | _ => []
def Hf : List Nat → Nat → St × St → St × St
 | [], _, x => x
 | r :: l, R, (s, t) => Hf l (R + 1) (GP r R s, GP r R t)
def LP : List (Pos × K × K) → Nat → St × St → St × St
 | [], _, x => x
 | (p, _, _) :: l, R, (s, t) => LP l (R + 1) (Le p R (SX p t) s, Le p R (SX p s) t)
def E2 (x : St × St) : Nat := max x.1.rows.length x.2.rows.length
def Rw (x : St × St) : St × St :=
 match JU x.1 x.2 with
 | [] => x
 | ps =>
  let y := Hf (LO ps) (E2 x) x
  LP (JU y.1 y.2) (E2 y) y
def Cm (s t : St) : St × St := Rw (E1 (He s.fr t.fr 0 []) (max s.rows.length t.rows.length) (s, t))
def Bx (c : L) (both : Option (L × L × L)) (s t : St) (g : G) : St × G :=
 let (s, t) := Cm s t
 let (fr, g) := AU c s.fr t.fr g
 let (rows, g) := AS c s.rows t.rows g
 let (pc, g) := DX c both s.pc t.pc g
 (⟨fr, rows, pc⟩, g)
def JV (nc : L) : Ah → G → Ah × G
 | [], g => ([], g)
 | (x, t) :: l, g =>
  let (pc, g) := mkAnd nc t.pc g
  let (r, g) := JV nc l g
  ((x, { t with pc }) :: r, g)
def combine (c nc : L) (both : Option (L × L × L)) : Ah → Ah → G → Ah × G
 | [], o2, g => JV nc o2 g
 | (x, s) :: l, o2, g =>
  match Ah.get x o2 with
  | some t =>
   let (u, g) := Bx c both s t g
   let (r, g) := combine c nc both l (Ah.drop x o2) g
   ((x, u) :: r, g)
  | none =>
   let (pc, g) := mkAnd c s.pc g
   let (r, g) := combine c nc both l o2 g
   ((x, { s with pc }) :: r, g)
def AG (pc : L) : List (L × Bool) → G → L × G
 | [], g => (pc, g)
 | (x, t) :: l, g =>
  let (y, g) := if t then (x, g) else mkNot x g
  let (p, g) := mkAnd pc y g
  AG p l g
def Cv (l : List C) (off n : Nat) : Option (List C) :=
 if off + n ≤ l.length then some ((l.drop off).take n) else none
def leaves (s : Ak) : List C → Option (List L)
 | [] => some []
 | .k x :: l => do
  let (u, y) ← x.LN
  if u.same s then let r ← leaves s l; some (y :: r) else none
 | _ => none
def EC (l : List C) (off st : Nat) : Nat → Option (List C)
 | 0 => some []
 | n + 1 => do let c ← l[off]?; let r ← EC l (off + st) st n; some (c :: r)
def PU : List C → Option Ak
 | .k x :: _ => x.LN.map (·.1)
 | _ => none
def CY (cells : List C) (off st num : Nat) (x : L) : Nat → G → Option (List C × G)
 | 0, g => some ([], g)
 | n + 1, g => do
  let cs ← EC cells off st num
  let s ← PU cs
  let ls ← leaves s cs
  let (y, g) := g.push .sel (x :: ls)
  let (r, g) ← CY cells (off + 1) st num x n g
  some (.k (s.mk y) :: r, g)
def Iy (s : Ak) (base : Nat) (off st : Nat) : Nat → List C → List C
 | 0, l => l
 | n + 1, l => Iy s (base + 1) (off + st) st n (l.set off (.k (s.mk (.var base))))
def DH (cells : List C) (off st num : Nat) (x : L) : List C → G → Option (List C × G)
 | [], g => some (cells, g)
 | .k y :: r, g => do
  let cs ← EC cells off st num
  let s ← PU cs
  let ls ← leaves s cs
  let (u, z) ← y.LN
  if !u.same s then none
  let (b, g) := g.Ba .upd (x :: z :: ls) num
  DH (Iy s b off st num cells) (off + 1) st num x r g
 | _, _ => none
def setCells (cells : List C) (off : Nat) : List C → List C
 | [] => cells
 | c :: r => setCells (cells.set off c) (off + 1) r
def DI (l : List K) : List C := l.map .k
def lay (size : Nat → Option (Nat × Nat)) (cells : List C) : List (Nat × PV) → Option (List C)
 | [] => some cells
 | (i, p) :: rest => do
  let (off, n) ← size i
  if p.cells.length == n && off + n ≤ cells.length then lay size (setCells cells off p.cells) rest else none
def Ctx.ty (X : Ctx) (t : Nat) : Option Ty := look t X.Ax
def DY (p q : List C) : List (Nat × Ak) → G → Option (L × G)
 | [], g => some (.t true, g)
 | (o, s) :: l, g => do
  let (r, g) ← DY p q l g
  match p[o]?, q[o]? with
  | some (.k a), some (.k b) => do
   let (u, x) ← a.LN
   let (v, y) ← b.LN
   if !u.same s || !v.same s then none
   match s with
   | .int _ => let (z, g) := Av .eql x y g; some (mkAnd z r g)
   | .bool => let (z, g) := LM x y g; some (mkAnd z r g)
   | .str => let (z, g) := g.push .eqS [x, y]; some (mkAnd z r g)
   | _ => none
  | _, _ => none
def Iz (x y pc : L) (g : G) : L × G :=
 let (a, g) := g.push .slen [x]
 let (b, g) := g.push .slen [y]
 let (c, g) := Av .leq a (.n 4611686018427387903) g
 let g := g.AT pc c
 let (c, g) := Av .leq b (.n 4611686018427387903) g
 let g := g.AT pc c
 g.push .scat [x, y]
def LQ (op : BinOp) (k : IntKind) (x y pc : L) (g : G) : L × G :=
 let (c, g) := Av .leq (.n 0) y g
 let g := g.AT pc c
 SU op k x y g
def TE : BinOp → Bool
 | .shl | .shr => true
 | _ => false
def binop (X : Ctx) (t : Nat) (op : BinOp) (p q : PV) (pc : L) (g : G) : Option (PV × G) :=
 match p, q with
 | .one (.k (.int k x)), .one (.k (.int k' y)) =>
  if TE op then
   let (z, g) := LQ op k x y pc g
   some (.one (.k (.int k z)), g)
  else
  if !BT k k' then none else
  match op with
  | .add | .sub | .mul => let (z, g) := La op k x y g; some (.one (.k (.int k z)), g)
  | .quo | .rem =>
   let (ne, g) := Av .neq y (.n 0) g
   let g := g.AT pc ne
   let (z, g) := NL op k x y g; some (.one (.k (.int k z)), g)
  | .and | .or | .xor | .andNot => let (z, g) := It op k x y g; some (.one (.k (.int k z)), g)
  | .shl | .shr => none
  | _ => let (z, g) := Av op x y g; some (.one (.k (.bool z)), g)
 | .one (.k (.bool x)), .one (.k (.bool y)) => do
  let ty ← X.ty t
  match ty.kind, op with
  | .bool, .eql => let (z, g) := LM x y g; some (.one (.k (.bool z)), g)
  | .bool, .neq => let (z, g) := LM x y g; let (z, g) := mkNot z g; some (.one (.k (.bool z)), g)
  | _, _ => none
 | .one (.k (.str x)), .one (.k (.str y)) =>
  match op with
  | .eql => let (z, g) := g.push .eqS [x, y]; some (.one (.k (.bool z)), g)
  | .neq => let (z, g) := g.push .eqS [x, y]; let (z, g) := mkNot z g; some (.one (.k (.bool z)), g)
  | .add => let (z, g) := Iz x y pc g; some (.one (.k (.str z)), g)
  | _ => none
 | .agg p, .agg q => do
  let ls ← look t X.eqs
  match op with
  | .eql => do let (z, g) ← DY p q ls g; some (.one (.k (.bool z)), g)
  | .neq => do let (z, g) ← DY p q ls g; let (z, g) := mkNot z g; some (.one (.k (.bool z)), g)
  | _ => none
 | _, _ => none
def Fu : List Ak → List C → Option (List L)
 | [], [] => some []
 | s :: ss, .k x :: l => do
  let (u, y) ← x.LN
  if u.same s then let r ← Fu ss l; some (y :: r) else none
 | _, _ => none
def CZ (s : List Ak) : Nat → List C → Option (List L)
 | 0, [] => some []
 | n + 1, l => do
  let a ← Fu s (l.take s.length)
  let r ← CZ s n (l.drop s.length)
  some (a ++ r)
 | _, _ => none
def HL (rows : List Row) : PS → PV → Option (List L)
 | .c false [s], .one c => Fu [s] [c]
 | .c true ss, .agg l => Fu ss l
 | .slc ss, .one (.k (.slc r off n)) => do
  let row ← rows[r]?
  if row.es != ss.length then none
  let cs ← Cv row.cells (off * ss.length) (n * ss.length)
  let ls ← CZ ss n cs
  some (.n n :: ls)
 | .slc ss, .one (.k (.aslc r off es n _)) => do
  let row ← rows[r]?
  if es != ss.length then none
  let cs ← Cv row.cells off (n * ss.length)
  let ls ← CZ ss n cs
  some (.n n :: ls)
 | .nil, .one (.k .nilslc) => some []
 | _, _ => none
def FJ (rows : List Row) (p : PV) : Option (Nat × L × EZ) :=
 match p with
 | .one (.k (.lsl r n)) => do
  let row ← rows[r]?
  let q ← row.lst
  if q.own && n.same q.n then some (r, n, q) else none
 | .one (.k (.fsl r n)) => do
  let row ← rows[r]?
  let q ← row.lst
  if !q.own && n.same q.n then some (r, n, q) else none
 | _ => none
def MQ (rows : List Row) (s : Ak) (c : C) : Option L :=
 match s, c with
 | .sl ss, .k (.fsl r n) => do
  let row ← rows[r]?
  let q ← row.lst
  if !q.own && n.same q.n && BG q.ss ss then some q.x else none
 | .sl _, .k .nilslc => some .e
 | .sl _, _ => none
 | s, .k y => do
  let (u, z) ← y.LN
  if u.same s then some z else none
 | _, _ => none
def E3 (rows : List Row) : List Ak → List C → Option (List L)
 | [], [] => some []
 | s :: ss, c :: cs => do let z ← MQ rows s c; let r ← E3 rows ss cs; some (z :: r)
 | _, _ => none
def CH (rows : List Row) (ss : List Ak) : Nat → List C → Option (List L)
 | 0, [] => some []
 | n + 1, l => do
  let a ← E3 rows ss (l.take ss.length)
  let r ← CH rows ss n (l.drop ss.length)
  some (a ++ r)
 | _, _ => none
def Dm (rows : List Row) (ss : List Ak) (a : PV) (g : G) : Option (List L × G) :=
 match a with
 | .one (.k (.slc r off n)) => do
  let row ← rows[r]?
  if !row.own || row.es != ss.length || ss.length == 0 then none
  let cs ← Cv row.cells (off * ss.length) (n * ss.length)
  let ls ← CH rows ss n cs
  let (z, g) := g.push .mkl ls
  some ([z, .n n], g)
 | .one (.k .nilslc) => if ss.length == 0 then none else some ([.e, .n 0], g)
 | a => do
  let (_, _, q) ← FJ rows a
  if !BG q.ss ss then none
  some ([q.x, q.n], g)
def AK (rows : List Row) : List Ak → List C → G → Option (List L × G)
 | [], [], g => some ([], g)
 | .sl ss :: r, c :: cs, g => do
  let (a, g) ← Dm rows ss (.one c) g
  let (b, g) ← AK rows r cs g
  some (a ++ b, g)
 | s :: r, .k x :: cs, g => do
  let (u, y) ← x.LN
  if !u.same s then none
  let (b, g) ← AK rows r cs g
  some (y :: b, g)
 | _, _, _ => none
def JW (rows : List Row) (p : PS) (a : PV) (g : G) : Option (List L × G) :=
 match p with
 | .lst ss => Dm rows ss a g
 | .d true ss => match a with | .agg l => AK rows ss l g | _ => none
 | .d false ss => match a with | .one c => AK rows ss [c] g | _ => none
 | p => do let x ← HL rows p a; some (x, g)
def C0 (rows : List Row) : List PS → List PV → G → Option (List L × G)
 | [], [], g => some ([], g)
 | p :: ps, a :: as, g => do let (x, g) ← JW rows p a g; let (r, g) ← C0 rows ps as g; some (x ++ r, g)
 | _, _, _ => none
def LR : List Ak → Nat → List C
 | [], _ => []
 | s :: l, b => .k (s.mk (.var b)) :: LR l (b + 1)
def LU : List (Bool × List Ak) → Nat → Option (List PV × Nat)
 | [], b => some ([], b)
 | (agg, ss) :: l, b => do
  let p ← C9 agg (LR ss b)
  let (r, b) ← LU l (b + ss.length)
  some (p :: r, b)
def Ry : List Ak → List L → List C
 | s :: ss, x :: l => .k (s.mk x) :: Ry ss l
 | _, _ => []
def LV : List (Bool × List Ak) → List L → Option (List PV)
 | [], [] => some []
 | (agg, ss) :: rs, l => do
  if l.length < ss.length then none
  let p ← C9 agg (Ry ss (l.take ss.length))
  let r ← LV rs (l.drop ss.length)
  some (p :: r)
 | _, _ => none
def JX : L → Option Int
 | .n x => some x
 | _ => none
def MR (c : MM) (args : List PV) (rows : List Row) (pc : L) (g : G) : Option (List PV × G) := do
 let (ls, g) ← C0 rows c.ps args g
 if !c.ok (ls.map JX) then none
 match NK (.call c.f) ls g.known with
 | some (o :: res) => do
  let ps ← LV c.rs res
  some (ps, g.AT pc o)
 | _ =>
  match (if marked g then findD (.call c.f) ls 4000 g.defs else none) with
  | some b0 => do
   let (ps, _) ← LU c.rs (b0 + 1)
   some (ps, g.AT pc (.var b0))
  | none => do
   let (ps, b) ← LU c.rs (g.next + 1)
   some (ps, (g.Ba (.call c.f) ls (b - g.next)).2.AT pc (.var g.next))
def Gp (f : Nat) (args : List PV) (rows : List Row) (pc : L) (g : G) : List (Nat × MM) → Option (List PV × G)
 | [] => none
 | (f', c) :: l => if f' == f then (match MR c args rows pc g with | some r => some r | none => Gp f args rows pc g l) else Gp f args rows pc g l
def CQ : List Ak → Nat → Nat → Option (List C × List Row × Nat)
 | [], b, _ => some ([], [], b)
 | .sl ss :: l, b, r => do
  if ss.length == 0 then none
  let (cs, nw, b') ← CQ l (b + 2) (r + 1)
  some (.k (.fsl r (.var (b + 1))) :: cs, { own := false, ty := 0, es := 0, cells := [], lst := some ⟨false, 0, ss, .var b, .var (b + 1)⟩ } :: nw, b')
 | s :: l, b, r => do
  let (cs, nw, b') ← CQ l (b + 1) r
  some (.k (s.mk (.var b)) :: cs, nw, b')
def Hg : List RS → Nat → Nat → Option (List PV × List Row × Nat)
 | [], b, _ => some ([], [], b)
 | .c agg ss :: l, b, r => do
  let p ← C9 agg (LR ss b)
  let (ps, rw, b') ← Hg l (b + ss.length) r
  some (p :: ps, rw, b')
 | .lst ss ty :: l, b, r => do
  let (ps, rw, b') ← Hg l (b + 2) r
  if !rw.isEmpty || !ss.all Ak.single || ss.length == 0 then none
  some (.one (.k (.lsl r (.var (b + 1)))) :: ps, [{ own := false, ty := 0, es := 0, cells := [], lst := some ⟨true, ty, ss, .var b, .var (b + 1)⟩ }], b')
 | .d .. :: _, _, _ => none
def DZ : List RS → Nat → Nat → Option (List PV × List Row × Nat)
 | [], b, _ => some ([], [], b)
 | .c agg ss :: l, b, r => do
  let p ← C9 agg (LR ss b)
  let (ps, rw, b') ← DZ l (b + ss.length) r
  some (p :: ps, rw, b')
 | .lst .. :: _, _, _ => none
 | .d agg ss :: l, b, r => do
  let (cs, nw, b1) ← CQ ss b r
  let p ← C9 agg cs
  let (ps, rw, b') ← DZ l b1 (r + nw.length)
  some (p :: ps, nw ++ rw, b')
def HM : List PV → SV
 | [p] => .pv p
 | l => .tup l
def LX (rows : List Row) (r : Nat) : List Nat :=
 match rows[r]? with
 | some row => if row.own || (match row.lst with | some q => q.own | none => false) then [r] else []
 | none => []
def HN (rows : List Row) : K → List Nat
 | .lsl r _ | .slc r _ _ | .aslc r _ _ _ _ => LX rows r
 | _ => []
def D0 (rows : List Row) : C → List Nat
 | .k x => HN rows x
 | _ => []
def handed (rows : List Row) : List PV → List Nat
 | [] => []
 | p :: l => p.cells.flatMap (D0 rows) ++ handed rows l
def Dn (l : List Nat) (rows : List Row) : List Row := l.foldl (fun rows r => rows.set r Row.dead) rows
def RS.TF : RS → Bool
 | .d .. => true
 | _ => false
def MS (c : SW) (args : List PV) (rows : List Row) (pc : L) (g : G) : Option (SV × List Row × G) := do
 let (ls, g) ← C0 rows c.ps args g
 if !c.ok (ls.map JX) then none
 if c.rs.any RS.TF then
  let (ps, news, b) ← DZ c.rs (g.next + 1) rows.length
  some (HM ps, Dn (handed rows args) rows ++ news, (g.Ba (.call c.f) ls (max (b - g.next) c.w)).2.AT pc (.var g.next))
 else
  let (ps, news, b) ← Hg c.rs (g.next + 1) rows.length
  some (HM ps, rows ++ news, (g.Ba (.call c.f) ls (max (b - g.next) c.w)).2.AT pc (.var g.next))
def JY (f : Nat) (args : List PV) (rows : List Row) (pc : L) (g : G) : List (Nat × SW) → Option (SV × List Row × G)
 | [] => none
 | (f', c) :: l => if f' == f then (match MS c args rows pc g with | some r => some r | none => JY f args rows pc g l) else JY f args rows pc g l
abbrev NM := SV × Option (List Row) × G
def one (p : PV) (g : G) : Option NM := some (.pv p, none, g)
def newRow (rows : List Row) (ty : Nat) (es : Nat) (cells : List C) : List Row := rows ++ [{ own := true, ty, es, cells }]
def Lf (own : Bool) (ss : List Ak) (es : Nat) (X x : L) : Nat → Nat → Nat → G → Option (List C × List Row × G)
 | _, _, 0, g => some ([], [], g)
 | k, off, n + 1, g => do
  let s ← ss[off]?
  let (z, g) := g.push (.pix off es) [X, x]
  match s with
  | .sl ss' => do
   if ss'.length == 0 then none
   let (c, g) := g.push (.lln ss'.length) [z]
   let (cs, rs, g) ← Lf own ss es X x (k + 1) (off + 1) n g
   some (.k (.fsl k c) :: cs, { own := false, ty := 0, es := 0, cells := [], lst := some ⟨false, 0, ss', z, c⟩ } :: rs, g)
  | s => do
   let (cs, rs, g) ← Lf own ss es X x k (off + 1) n g
   some (.k (s.mk z) :: cs, rs, g)
def QC (rows : List Row) (ss : List Ak) (es : Nat) (x : L) : Nat → List C → L → G → Option (L × G)
 | _, [], X, g => some (X, g)
 | off, c :: r, X, g => do
  let s ← ss[off]?
  let z ← MQ rows s c
  let (X, g) := g.push (.pset off es) [X, x, z]
  QC rows ss es x (off + 1) r X g
def Rz (rows : List Row) (n : Nat) (agg : Bool) (p : PV) (g : G) : Option NM :=
 match p with
 | .one (.k (.ptr r off)) => do
  let row ← rows[r]?
  let cs ← Cv row.cells off n
  if !cs.all C.Ck then none
  let v ← C9 agg cs
  one v g
 | .one (.k (.sptr r off st num x)) => do
  let row ← rows[r]?
  let (cs, g) ← CY row.cells off st num x n g
  let v ← C9 agg cs
  one v g
 | .one (.k (.lptr r off es x nn)) => do
  let row ← rows[r]?
  let q ← row.lst
  if es != q.ss.length || !nn.same q.n then none
  let (cs, news, g) ← Lf q.own q.ss es q.x x rows.length off n g
  let v ← C9 agg cs
  if news.isEmpty then one v g else some (.pv v, some (rows ++ news), g)
 | _ => none
def RA (rows : List Row) (n : Nat) (p v : PV) (g : G) : Option NM :=
 match p with
 | .one (.k (.ptr r off)) => do
  let row ← rows[r]?
  if !row.own || v.cells.length != n || row.cells.length < off + n then none
  some (.undef, some (rows.set r { row with cells := setCells row.cells off v.cells }), g)
 | .one (.k (.sptr r off st num x)) => do
  let row ← rows[r]?
  if !row.own || v.cells.length != n || st == 0 || n == 0 then none
  let (cs, g) ← DH row.cells off st num x v.cells g
  some (.undef, some (rows.set r { row with cells := cs }), g)
 | .one (.k (.lptr r off es x nn)) => do
  let row ← rows[r]?
  let q ← row.lst
  if !q.own || v.cells.length != n || es != q.ss.length || !nn.same q.n || es < off + n then none
  let (z, g) ← QC rows q.ss es x off v.cells q.x g
  some (.undef, some (rows.set r { row with lst := some { q with x := z } }), g)
 | _ => none
def Cw (fs : List (Nat × Nat)) (X : Ctx) (i : Nat) : Option (Nat × Nat) := do
 let (t, off) ← fs[i]?
 let ty ← X.ty t
 some (off, ty.size)
def MT (x : L) (n : Nat) (g : G) : L × G :=
 let (a, g) := Av .leq (.n 0) x g
 let (b, g) := Av .lss x (.n n) g
 mkAnd a b g
def HO (x n : L) (g : G) : L × G :=
 let (a, g) := Av .leq (.n 0) x g
 let (b, g) := Av .lss x n g
 mkAnd a b g
def Da : List K → Option (List (Ak × L))
 | [] => some []
 | k :: l => do let x ← k.LN; let r ← Da l; some (x :: r)
def PW (rows : List Row) (ty bytes : Nat) (zero : List K) (a b pc : L) (g : G) : Option NM := do
 let zs ← Da zero
 if zs.length == 0 || 1000 < bytes then none
 if a.same b then
  let (c, g) := HO a (.n 1000001) g
  let g := g.AT pc c
  let (z, g) := g.push .rep (a :: zs.map (·.2))
  some (.pv (.one (.k (.lsl rows.length a))), some (AD rows ⟨true, ty, zs.map (·.1), z, a⟩), g)
 else if a.same (.n 0) then
  let (c, g) := HO b (.n 1000001) g
  let g := g.AT pc c
  some (.pv (.one (.k (.lsl rows.length (.n 0)))), some (AD rows ⟨true, ty, zs.map (·.1), .e, .n 0⟩), g)
 else none
def RB {α : Type} (rows : List Row) (ty : Nat) (zero : List K) (parts : List α) (g : G) : Option NM := do
 let zs ← Da zero
 if zs.length == 0 || !parts.isEmpty then none
 else some (.pv (.one (.k (.lsl rows.length (.n 0)))), some (AD rows ⟨true, ty, zs.map (·.1), .e, .n 0⟩), g)
def MU (X : Ctx) (rows : List Row) (t : Nat) (op : BinOp) (p q : PV) (pc : L) (g : G) : Option (PV × G) :=
 match q with
 | .one (.k .nilslc) => do
  let ty ← X.ty t
  match ty.kind with
  | .slice _ => do
   let (_, n, _) ← FJ rows p
   let (c, g) := Av .leq (.n 1) n g
   match op with
   | .eql => some (.one (.k (.bool (.t false))), g.AT pc c)
   | .neq => some (.one (.k (.bool (.t true))), g.AT pc c)
   | _ => none
  | _ => none
 | _ => none
def FK (fr : List SV) (gs : List (L × Bool)) (parts : List (Nat × Operand)) : Option (List (Nat × PV)) :=
 match parts with
 | [] => some []
 | (i, x) :: l => do let p ← Cu fr gs x; let r ← FK fr gs l; some ((i, p) :: r)
abbrev Inline := Nat → List PV → List Row → L → G → Option (SV × List Row × G)
def JZ (X : Ctx) (inl : Inline) (f : Nat) (args : List PV) (rows : List Row) (pc : L) (g : G) : Option NM :=
 if (X.fns f).isNone then none else
 match look f X.ctr with
 | some _ => do
  let (ps, g) ← Gp f args rows pc g X.ctr
  some (HM ps, none, g)
 | none => do
  let (v, rows', g) ← inl f args rows pc g
  some (v, some rows', g)
def JI (c : L) (a b : PV) (g : G) : Option (PV × G) :=
 match a, b with
 | .one x, .one y => let (z, g) := FI c x y g; some (.one z, g)
 | .agg x, .agg y => if x.length == y.length then let (z, g) := AO c x y g; some (.agg z, g) else none
 | _, _ => none
def DJ (c : L) : List PV → List PV → G → Option (List PV × G)
 | [], [], g => some ([], g)
 | a :: l, b :: m, g => do
  let (z, g) ← JI c a b g
  let (zs, g) ← DJ c l m g
  some (z :: zs, g)
 | _, _, _ => none
def HP (c : L) (a b : SV) (g : G) : Option (SV × G) :=
 match a, b with
 | .pv x, .pv y => do let (z, g) ← JI c x y g; some (.pv z, g)
 | .tup x, .tup y => do let (z, g) ← DJ c x y g; some (.tup z, g)
 | _, _ => none
def Hh (X : Ctx) (inl : Inline) (x : L) (f h : Nat) (args : List PV) (rows : List Row) (pc : L) (g : G) : Option NM := do
 let (nx, g) := mkNot x g
 let (p1, g) := mkAnd pc x g
 let (p2, g) := mkAnd pc nx g
 match JZ X inl f args rows p1 g with
 | some (v1, none, g) => (match JZ X inl h args rows p2 g with
  | some (v2, none, g) => do
   let (v, g) ← HP x v1 v2 g
   some (v, none, g)
  | _ => none)
 | _ => none
def Hi (rows : List Row) (es : Nat) (q : PV) : Option (Nat × List C) :=
 match q with
 | .one (.k (.slc r off n)) => do
  let row ← rows[r]?
  if row.es != es then none
  let cs ← Cv row.cells (off * es) (n * es)
  some (n, cs)
 | .one (.k (.aslc r off es' n _)) => do
  let row ← rows[r]?
  if es' != es then none
  let cs ← Cv row.cells off (n * es)
  some (n, cs)
 | _ => none
def CR (rows : List Row) (ty es bytes : Nat) (p q : PV) (g : G) : Option NM := do
 let (m, news) ← Hi rows es q
 if m == 0 || 1000 < bytes || es == 0 then none
 match p with
 | .one (.k .nilslc) =>
  if 100000 < m then none else
  some (.pv (.one (.k (.slc rows.length 0 m))), some (newRow rows ty es news), g)
 | .one (.k (.slc r 0 n)) => do
  let row ← rows[r]?
  if !row.own || row.es != es || row.ty != ty || row.cells.length != n * es || 100000 < n + m then none
  some (.pv (.one (.k (.slc rows.length 0 (n + m)))), some (newRow (rows.set r Row.dead) ty es (row.cells ++ news)), g)
 | _ => none
def Gq (rows : List Row) (ty es bytes : Nat) (p q : PV) (pc : L) (g : G) : Option NM :=
 match p with
 | .one (.k (.lsl r n)) => do
  let row ← rows[r]?
  let a ← row.lst
  if !a.own || a.ty != ty || a.ss.length != es || !n.same a.n || 1000 < bytes || es == 0 then none
  let (l, g) ← Dm (rows.set r Row.dead) a.ss q g
  match l with
  | [y, k2] =>
   let (z, g) := g.push .cat [a.x, y]
   let (k, g) := g.push (.lln es) [z]
   let (c, g) := Av .leq (.n 1) k2 g
   let g := g.AT pc c
   let (c, g) := HO k (.n 1000001) g
   let g := g.AT pc c
   some (.pv (.one (.k (.lsl rows.length k))), some (AD (rows.set r Row.dead) ⟨true, ty, a.ss, z, k⟩), g)
  | _ => none
 | _ => none
def Gr (rows : List Row) (ty : Nat) (ss : List Ak) (es bytes : Nat) (q : PV) (pc : L) (g : G) : Option NM :=
 if ss.length != es || 1000 < bytes || es == 0 then none else
 match Dm rows ss q g with
 | some ([y, k2], g) =>
  let (z, g) := g.push .cat [.e, y]
  let (k, g) := g.push (.lln es) [z]
  let (c, g) := Av .leq (.n 1) k2 g
  let g := g.AT pc c
  let (c, g) := HO k (.n 1000001) g
  let g := g.AT pc c
  some (.pv (.one (.k (.lsl rows.length k))), some (AD rows ⟨true, ty, ss, z, k⟩), g)
 | _ => none
def OX (ty : Nat) : List (Nat × OV) → Option (List Ak)
 | [] => none
 | (_, m) :: l => if m.grow && m.ty == ty then some m.ss else OX ty l
def MV : List Ak → Bool
 | [.int _] => true
 | _ => false
def LY (rows : List Row) (p q : PV) (pc : L) (g : G) : Option NM :=
 match p with
 | .one (.k (.lsl r n)) =>
  match rows[r]? with
  | none => none
  | some row =>
   match row.lst with
   | none => none
   | some a => if !a.own || !MV a.ss || !n.same a.n then none else
    match Dm (rows.set r Row.dead) a.ss q g with
    | some ([y, k], g) =>
     let (c, g) := Av .leq (.n 1) n g
     let g := g.AT pc c
     let (m, g) := g.push .mn [n, k]
     let (z, g) := g.push .cpy [a.x, y, m]
     some (.pv (.one (.k (.int .i64 m))), some (rows.set r { row with lst := some { a with x := z } }), g)
    | _ => none
 | _ => none
def MW (m : OV) (args : List PV) (rows : List Row) (pc : L) (g : G) : Option (SV × List Row × G) :=
 match args with
 | [.one (.k (.lsl r n))] =>
  match rows[r]? with
  | none => none
  | some row =>
   match row.lst with
   | none => none
   | some a => if !a.own || !BG a.ss m.ss || !m.ss.all Ak.single || !n.same a.n then none else
    let (c, g) := Av .leq (.n 1) n g
    let g := g.AT pc c
    some (.tup [], rows.set r { row with lst := some { a with x := .var ((g.Ba (.call m.f) [a.x, n] 2).1 + 1) } }, (g.Ba (.call m.f) [a.x, n] 2).2.AT pc (.var (g.Ba (.call m.f) [a.x, n] 2).1))
 | _ => none
def LZ (kd : IntKind) : List C → Option (List L)
 | [] => some []
 | .k (.int k x) :: l => if BT k kd then (match LZ kd l with | some r => some (x :: r) | none => none) else none
 | _ => none
def RC : List C → IntKind
 | .k (.int k _) :: _ => k
 | _ => .i64
def HQ (m : OV) (rows : List Row) (y n x pc : L) (g : G) : Option (SV × List Row × G) :=
 let (c, g) := Av .leq n (.n 1000000) g
 let g := g.AT pc c
 let (b, g) := g.Ba (.call m.f) [y, n, x] 2
 let g := g.AT pc (.var b)
 let (k, g) := g.push (.lln 1) [.var (b + 1)]
 some (.pv (.one (.k (.lsl rows.length k))), AD rows ⟨true, m.ty, m.ss, .var (b + 1), k⟩, g)
def J0 (m : OV) (args : List PV) (rows : List Row) (pc : L) (g : G) : Option (SV × List Row × G) :=
 match args with
 | [p, .one (.k (.int .i64 x)), .one (.k (.int .i64 (.n t)))] =>
  if t != 10 || !MV m.ss then none else
  match p with
  | .one (.k .nilslc) => HQ m rows .e (.n 0) x pc g
  | .one (.k (.lsl r n)) =>
   match rows[r]? with
   | none => none
   | some row => match row.lst with
    | none => none
    | some a => if !a.own || !BG a.ss m.ss || a.ty != m.ty || !n.same a.n then none else HQ m (rows.set r Row.dead) a.x n x pc g
  | .one (.k (.slc r 0 n)) =>
   match rows[r]? with
   | none => none
   | some row => if !row.own || row.es != 1 || row.ty != m.ty || row.cells.length != n then none else
    match m.ss with
    | [.int kd] => match LZ kd row.cells with
     | none => none
     | some xs => let (z, g) := g.push .mkl xs; HQ m (rows.set r Row.dead) z (.n n) x pc g
    | _ => none
  | _ => none
 | _ => none
def IA (d : Nat) : Option PV → Option Nat
 | none => some d
 | some p => match p.int? with | some (_, .n k) => if 0 ≤ k then some k.toNat else none | _ => none
def MX (es n : Nat) (x : PV) (lo hi : Option PV) (g : G) : Option NM :=
 match x with
 | .one (.k (.ptr r off)) => do
  let l ← IA 0 lo
  let h ← IA n hi
  if l < h && h ≤ n then one (.one (.k (.aslc r (off + l * es) es (h - l) (n - l)))) g else none
 | _ => none
def QD (d : L) : Option PV → Option L
 | none => some d
 | some p => match p.int? with | some (_, x) => some x | none => none
def FL (rows : List Row) (es : Nat) (p : PV) (lo hi : Option PV) (pc : L) (g : G) : Option NM :=
 match p with
 | .one (.k (.fsl r n)) =>
  match rows[r]? with
  | none => none
  | some row => match row.lst with
   | none => none
   | some a => if a.own || a.ss.length != es || es == 0 || !n.same a.n then none else
    match QD (.n 0) lo, QD n hi with
    | some i, some j =>
     let (c, g) := Av .leq (.n 0) i g
     let g := g.AT pc c
     let (c, g) := Av .leq i j g
     let g := g.AT pc c
     let (c, g) := Av .leq j n g
     let g := g.AT pc c
     let (z, g) := g.push (.lsub es) [a.x, i, j]
     let (k, g) := g.push (.lln es) [z]
     some (.pv (.one (.k (.fsl rows.length k))), some (rows ++ [Bb a.ss z k]), g)
    | _, _ => none
 | _ => none
def Lg : List PV → Option (List K)
 | [] => some []
 | .one (.k x) :: l => do let r ← Lg l; some (x :: r)
 | _ => none
def RD (fr : List SV) (gs : List (L × Bool)) (x : Operand) (g : G) : Option NM :=
 match x with
 | .tmp t => (match fr[t]? with
  | some (.cond hs p) => if Rs hs gs then one p g else none
  | some s => some (s, none, g)
  | none => none)
 | x => do let p ← Cu fr gs x; one p g
def bytesOf : List C → Option (List L)
 | [] => some []
 | .k (.int .u8 x) :: l => do let r ← bytesOf l; some (x :: r)
 | _ => none
def QE : List L → Option (List UInt8)
 | [] => some []
 | .n x :: l => do let r ← QE l; some (UInt8.ofNat x.toNat :: r)
 | _ => none
def PX (xs : List L) (g : G) : L × G :=
 match QE xs with
 | some l => (.s l, g)
 | none => let (z, g) := g.push .mkl xs; g.push .mks [z]
def RE (X : Ctx) (t : Nat) : Bool := match X.ty t with | some ty => (match ty.kind with | .int .u8 => true | _ => false) | none => false
def Tt (X : Ctx) (rows : List Row) (s d : TK) (p : PV) (g : G) : Option NM :=
 match d, p with
 | .int k, .one (.k (.int _ x)) => let (z, g) := Iu k x g; one (.one (.k (.int k z))) g
 | .string, .one (.k (.slc r o n)) =>
  match s with
  | .slice e => if !RE X e then none else
   match rows[r]? with
   | none => none
   | some row => if row.es != 1 then none else
    match Cv row.cells o n with
    | none => none
    | some cs => match bytesOf cs with
     | none => none
     | some xs => let (z, g) := PX xs g; one (.one (.k (.str z))) g
  | _ => none
 | .string, p =>
  match s with
  | .slice e => if !RE X e then none else
   match Dm rows [.int .u8] p g with
   | some ([y, _], g) => let (z, g) := g.push .mks [y]; one (.one (.k (.str z))) g
   | _ => none
  | _ => none
 | .slice e, .one (.k (.str y)) =>
  match s with
  | .string =>
   if !RE X e then none else
   let (x, g) := g.push .sby [y]
   let (n, g) := g.push .slen [y]
   some (.pv (.one (.k (.fsl rows.length n))), some (rows ++ [Bb [.int .u8] x n]), g)
  | _ => none
 | _, _ => none
def execOp (X : Ctx) (inl : Inline) (fr : List SV) (rows : List Row) (gs : List (L × Bool)) (pc : L) (o : Oper) (g : G) : Option NM :=
 match o.op with
 | .move x | .assign x => RD fr gs x g
 | .pick c a b => do
  let p ← Cu fr gs c
  let x ← p.bool?
  match x with
  | .t true => do let p ← Cu fr gs a; one p g
  | .t false => do let p ← Cu fr gs b; one p g
  | x => do
   let p ← Cu fr ((x, true) :: gs) a
   let q ← Cu fr ((x, false) :: gs) b
   match p, q with
   | .one p, .one q => let (r, g) := FI x p q g; one (.one r) g
   | _, _ => none
 | .alloc t => do
  let ty ← X.ty t
  some (.pv (.one (.k (.ptr rows.length 0))), some (newRow rows t ty.size (DI ty.zero)), g)
 | .box t x => do
  let ty ← X.ty t
  let p ← Cu fr gs x
  if p.cells.length != ty.size then none
  some (.pv (.one (.k (.ptr rows.length 0))), some (newRow rows t ty.size p.cells), g)
 | .build t parts => do
  let ty ← X.ty t
  let ps ← FK fr gs parts.toList
  match ty.kind with
  | .struct fs => do let cs ← lay (Cw fs X) (DI ty.zero) ps; one (.agg cs) g
  | .arr _ e => do let te ← X.ty e; let cs ← lay (fun i => some (i * te.size, te.size)) (DI ty.zero) ps; one (.agg cs) g
  | _ => none
 | .buildSlice t n parts => do
  let ty ← X.ty t
  match ty.kind with
  | .slice e => do
   let te ← X.ty e
   if n == 0 then RB rows e te.zero parts.toList g else
   let ps ← FK fr gs parts.toList
   if n == 0 || te.size == 0 || 100000 < n * te.size then none
   let cs ← lay (fun i => some (i * te.size, te.size)) ((List.replicate n (DI te.zero)).flatten) ps
   some (.pv (.one (.k (.slc rows.length 0 n))), some (newRow rows e te.size cs), g)
  | _ => none
 | .load t a => do
  let ty ← X.ty t
  let p ← Cu fr gs a
  Rz rows ty.size ty.kind.agg p g
 | .store t a x => do
  let ty ← X.ty t
  let p ← Cu fr gs a
  let v ← Cu fr gs x
  RA rows ty.size p v g
 | .nilCheck x => do
  let p ← Cu fr gs x
  match p with
  | .one (.k (.ptr ..)) | .one (.k (.sptr ..)) | .one (.k (.lptr ..)) | .one (.clo ..) => one p g
  | _ => none
 | .binOp op t x y _ => do
  let p ← Cu fr gs x
  let q ← Cu fr gs y
  match MU X rows t op p q pc g with
  | some (r, g) => one r g
  | none => do
   let (r, g) ← binop X t op p q pc g
   one r g
 | .unOp op _ x => do
  let p ← Cu fr gs x
  match op, p with
  | .not, .one (.k (.bool x)) => let (z, g) := mkNot x g; one (.one (.k (.bool z))) g
  | .neg, .one (.k (.int k x)) => let (z, g) := mkNeg k x g; one (.one (.k (.int k z))) g
  | .xor, .one (.k (.int k x)) => let (z, g) := It .xor k (.n (if k.signed then -1 else k.max)) x g; one (.one (.k (.int k z))) g
  | _, _ => none
 | .convert s dst x => do
  let p ← Cu fr gs x
  let ts ← X.ty s
  let td ← X.ty dst
  Tt X rows ts.kind td.kind p g
 | .panic _ => some (.junk, none, g.AT pc (.t false))
 | .makeInterface t _ => do
  let ty ← X.ty t
  match ty.kind with
  | .string => some (.junk, none, g)
  | _ => none
 | .makeFunc (.func f) first captured => do
  let a ← Lb fr gs first.toList
  let b ← Lb fr gs captured.toList
  let a ← Lg a
  let b ← Lg b
  one (.one (.clo f a b)) g
 | .makeSlice t n c => do
  let ty ← X.ty t
  let p ← Cu fr gs n
  let q ← Cu fr gs c
  match ty.kind, p.int?, q.int? with
  | .slice e, some (_, .n a), some (_, .n b) => do
   let te ← X.ty e
   if a == 0 && b == 0 then PW rows e te.bytes te.zero (.n a) (.n b) pc g else
   if a ≤ 0 || a != b || 1000 < a || 1000 < te.bytes || te.size == 0 then none
   let m := a.toNat
   some (.pv (.one (.k (.slc rows.length 0 m))), some (newRow rows e te.size ((List.replicate m (DI te.zero)).flatten)), g)
  | .slice e, some (_, a), some (_, b) => do
   let te ← X.ty e
   PW rows e te.bytes te.zero a b pc g
  | _, _, _ => none
 | .slice t x lo hi none => do
  let ty ← X.ty t
  let p ← Cu fr gs x
  let l ← Hd fr gs lo
  let h ← Hd fr gs hi
  match ty.kind with
  | .arr n e => do let te ← X.ty e; MX te.size n p l h g
  | .slice e => do let te ← X.ty e; FL rows te.size p l h pc g
  | _ => none
 | .fieldAddr s x f => do
  let ty ← X.ty s
  let p ← Cu fr gs x
  match ty.kind with
  | .struct fs => do
   let (off, n) ← Cw fs X f
   if n == 0 then none
   match p with
   | .one (.k (.ptr r o)) => one (.one (.k (.ptr r (o + off)))) g
   | .one (.k (.sptr r o st num x)) => one (.one (.k (.sptr r (o + off) st num x))) g
   | .one (.k (.lptr r o es x nn)) => one (.one (.k (.lptr r (o + off) es x nn))) g
   | _ => none
  | _ => none
 | .field t x f => do
  let ty ← X.ty t
  let p ← Cu fr gs x
  match ty.kind, p with
  | .struct fs, .agg cs => do
   let (u, _) ← fs[f]?
   let tu ← X.ty u
   let (off, n) ← Cw fs X f
   let c ← Cv cs off n
   let v ← C9 tu.kind.agg c
   one v g
  | _, _ => none
 | .indexAddr t x i => do
  let ty ← X.ty t
  let p ← Cu fr gs x
  let q ← Cu fr gs i
  let (_, ix) ← q.int?
  match ty.kind, p with
  | .arr n e, .one (.k (.ptr r o)) => do
   let te ← X.ty e
   if n ≤ 1 then none
   match ix with
   | .n k => if 0 ≤ k && k < n then one (.one (.k (.ptr r (o + k.toNat * te.size)))) g else none
   | ix => let (c, g) := MT ix n g; let g := g.AT pc c; one (.one (.k (.sptr r o te.size n ix))) g
  | .slice e, .one (.k (.slc r o n)) => do
   let te ← X.ty e
   let row ← rows[r]?
   if row.es != te.size || row.cells.isEmpty then none
   match ix with
   | .n k => if 0 ≤ k && k < n then one (.one (.k (.ptr r ((o + k.toNat) * te.size)))) g else none
   | ix => let (c, g) := MT ix n g; let g := g.AT pc c; one (.one (.k (.sptr r (o * te.size) te.size n ix))) g
  | .slice e, .one (.k (.aslc r o es n _)) => do
   let te ← X.ty e
   if es != te.size then none
   match ix with
   | .n k => if 0 ≤ k && k < n then one (.one (.k (.ptr r (o + k.toNat * te.size)))) g else none
   | ix => let (c, g) := MT ix n g; let g := g.AT pc c; one (.one (.k (.sptr r o te.size n ix))) g
  | .slice e, p => do
   let te ← X.ty e
   let (r, n, q) ← FJ rows p
   if te.size != q.ss.length then none
   let (c, g) := HO ix n g
   let g := g.AT pc c
   one (.one (.k (.lptr r 0 te.size ix n))) g
  | _, _ => none
 | .index t x i => do
  let ty ← X.ty t
  let p ← Cu fr gs x
  let q ← Cu fr gs i
  let (_, ix) ← q.int?
  match ty.kind, p with
  | .arr n e, .agg cs => do
   let te ← X.ty e
   match ix with
   | .n k => do
    if !(0 ≤ k && k < n) then none
    let c ← Cv cs (k.toNat * te.size) te.size
    let v ← C9 te.kind.agg c
    one v g
   | ix => do
    let (c, g) := MT ix n g
    let g := g.AT pc c
    let (c, g) ← CY cs 0 te.size n ix te.size g
    let v ← C9 te.kind.agg c
    one v g
  | .string, .one (.k (.str y)) =>
   let (n, g) := g.push .slen [y]
   let (c, g) := HO ix n g
   let g := g.AT pc c
   let (z, g) := g.push .sget [y, ix]
   one (.one (.k (.int .u8 z))) g
  | _, _ => none
 | .extract x i =>
  match x with
  | .tmp t => (match fr[t]? with
   | some (.tup l) => do let p ← l[i]?; one p g
   | _ => none)
  | _ => none
 | .call c => do
  let args ← Lb fr gs c.args.toList
  match c.callee with
  | .value f => do
   let p ← Cu fr gs f
   match p with
   | .one (.clo f a b) => JZ X inl f (a.map (fun x => .one (.k x)) ++ args ++ b.map (fun x => .one (.k x))) rows pc g
   | .one (.cfn x f h) => Hh X inl x f h args rows pc g
   | _ => none
  | .builtin .len => do
   let t ← c.argTypes[0]?
   let ty ← X.ty t
   match ty.kind, args with
   | .slice _, [.one (.k (.slc _ _ n))] => one (.one (.k (.int .i64 (.n n)))) g
   | .slice _, [.one (.k (.aslc _ _ _ n _))] => one (.one (.k (.int .i64 (.n n)))) g
   | .slice _, [.one (.k (.lsl _ n))] | .slice _, [.one (.k (.fsl _ n))] => one (.one (.k (.int .i64 n))) g
   | .slice _, [.one (.k .nilslc)] => one (.one (.k (.int .i64 (.n 0)))) g
   | .slice _, [.one (.k (.val x))] => let (z, g) := g.push .len [x]; one (.one (.k (.int .i64 z))) g
   | .string, [.one (.k (.str x))] => let (z, g) := g.push .slen [x]; one (.one (.k (.int .i64 z))) g
   | _, _ => none
  | .builtin .min =>
   match args with
   | [.one (.k (.int k x)), .one (.k (.int k' y))] => if BT k k' then let (z, g) := g.push .mn [x, y]; one (.one (.k (.int k z))) g else none
   | _ => none
  | .builtin .max =>
   match args with
   | [.one (.k (.int k x)), .one (.k (.int k' y))] => if BT k k' then let (z, g) := g.push .mx [x, y]; one (.one (.k (.int k z))) g else none
   | _ => none
  | .builtin .copy => do
   let t ← c.argTypes[0]?
   let ty ← X.ty t
   match ty.kind, args with
   | .slice e, [p, q] => do
    let te ← X.ty e
    if te.size != 1 then none
    if c.argTypes.toList != [t, t] then none
    LY rows p q pc g
   | _, _ => none
  | .builtin .append => do
   let t ← c.argTypes[0]?
   let ty ← X.ty t
   match ty.kind, args with
   | .slice e, [p, q] => do
    let te ← X.ty e
    if te.size == 0 then none
    if c.argTypes.toList != [t, t] then none
    match p with
    | .one (.k (.lsl ..)) => Gq rows e te.size te.bytes p q pc g
    | .one (.k .nilslc) => (match OX e X.muts with
     | some ss => Gr rows e ss te.size te.bytes q pc g
     | none => CR rows e te.size te.bytes p q g)
    | _ => CR rows e te.size te.bytes p q g
   | _, _ => none
  | _ => none
 | _ => none
def MY (fr : List SV) (ops : List Oper) (o : Oper) : Option (Option (List (L × Bool))) :=
 match o.guard with
 | none => some (some [])
 | some (j, want) => do
  let oj ← ops[j]?
  let d ← oj.dst
  let s ← fr[d]?
  match s with
  | .undef => some none
  | .pv (.one (.k (.bool (.t b)))) => some (if b == want then some [] else none)
  | .pv (.one (.k (.bool x))) => some (some [(x, want)])
  | .cond gs (.one (.k (.bool (.t b)))) => if b == want then some (some gs) else some none
  | .cond gs (.one (.k (.bool x))) => some (some ((x, want) :: gs))
  | _ => none
def OY (fr : List SV) : Option Nat → SV → List SV
 | none, _ => fr
 | some d, v => fr.set d v
def RF (gs : List (L × Bool)) (v : SV) : Option SV :=
 match gs, v with
 | [], v => some v
 | gs, .pv p => some (.cond gs p)
 | _, _ => none
def MZ (p : L) (r : Row) (g : G) : Option (Row × G) :=
 match r.lst with
 | some q =>
  if r.own || !r.cells.isEmpty || q.own || q.ss.length == 0 || q.ty != 0 then none else
  let (z, g) := Ej p q.x .e g
  let (m, g) := DG p q.n (.n 0) g
  some (Bb q.ss z m, g)
 | none => none
def FM (p : L) : List Row → G → Option (List Row × G)
 | [], g => some ([], g)
 | r :: l, g => do
  let (r, g) ← MZ p r g
  let (l, g) ← FM p l g
  some (r :: l, g)
def L0 (b : Nat) (news : List Row) : K → K
 | .fsl r n => if r < b then .fsl r n else (match news[r - b]? with | some row => (match row.lst with | some q => .fsl r q.n | none => .junk) | none => .junk)
 | k => k
def PY (b : Nat) (news : List Row) : C → C
 | .k x => .k (L0 b news x)
 | .clo f x y => .clo f (x.map (L0 b news)) (y.map (L0 b news))
 | c => c
def RG (b : Nat) (news : List Row) : PV → PV
 | .one c => .one (PY b news c)
 | .agg l => .agg (l.map (PY b news))
def J1 (o : Oper) : Bool := match o.op with | .load .. => true | .slice .. => true | _ => false
def Gs : Option EZ → Option EZ → Bool
 | none, none => true
 | some p, some q => p.own == q.own && p.ty == q.ty && BG p.ss q.ss && p.x.same q.x && p.n.same q.n
 | _, _ => false
def C1 : List Row → List Row → Bool
 | [], [] => true
 | a :: l, b :: m => a.own == b.own && a.ty == b.ty && a.es == b.es && Hc a.cells b.cells && Gs a.lst b.lst && C1 l m
 | _, _ => false
def M0 (rows rows1 : List Row) (gs : List (L × Bool)) (v : SV) (g : G) : Option (SV × List Row × G) :=
 match v with
 | .pv (.one (.k (.slc r 0 m))) =>
  if r != rows.length || !C1 rows (rows1.take rows.length) || rows1.length != rows.length + 1 then none else
  match rows1[r]? with
  | none => none
  | some row =>
   if !row.own || row.es != 1 || row.cells.length != m then none else
   match LZ (RC row.cells) row.cells with
   | none => none
   | some xs =>
    let (z, g) := g.push .mkl xs
    let (q, g) := AG (.t true) gs g
    let (z2, g) := Ej q z .e g
    let (m2, g) := DG q (.n m) (.n 0) g
    some (.cond gs (.one (.k (.fsl (rows.length + 1) m2))), rows ++ [Row.dead] ++ [Bb [.int (RC row.cells)] z2 m2], g)
 | _ => none
def M1 (rows rows' : List Row) (gs : List (L × Bool)) (o : Oper) (v : SV) (g : G) : Option (SV × List Row × G) :=
 if J1 o then
  match v with
  | .pv p => do
   let (q, g) := AG (.t true) gs g
   let (news, g) ← FM q (rows'.drop rows.length) g
   some (.cond gs (RG rows.length news p), rows ++ news, g)
  | _ => none
 else if C1 rows rows' then
  match v with
  | .pv p => some (.cond gs p, rows', g)
  | _ => none
 else M0 rows rows' gs v g
def Bt (X : Ctx) (inl : Inline) (quiet : Bool) (ops : List Oper) (pc : L) : List Oper → List SV → List Row → G → Option (List SV × List Row × G)
 | [], fr, rows, g => some (fr, rows, g)
 | o :: l, fr, rows, g => do
  let w ← MY fr ops o
  match w with
  | none => Bt X inl quiet ops pc l (OY fr o.dst .undef) rows g
  | some gs => do
   let (p, g) := AG pc gs g
   let (v0, r, g) ← execOp X inl fr rows gs p o g
   let v ← RF gs v0
   match r with
   | none => Bt X inl quiet ops pc l (OY fr o.dst v) rows g
   | some rows' =>
    if quiet then none else
    if gs.isEmpty then Bt X inl quiet ops pc l (OY fr o.dst v) rows' g else do
     let (v, rows', g) ← M1 rows rows' gs o v0 g
     Bt X inl quiet ops pc l (OY fr o.dst v) rows' g
def TG (X : Ctx) (o : Oper) : Bool :=
 match o.op with
 | .alloc _ | .box .. | .buildSlice .. | .makeSlice .. | .store .. => true
 | .call { callee := .value (.func f), .. } => (look f X.ctr).isNone
 | .call { callee := .value _, .. } => true
 | .call { callee := .builtin .append, .. } => true
 | _ => false
def ED (X : Ctx) : List Oper → Nat
 | [] => 0
 | o :: l => if TG X o then 0 else ED X l + 1
def M3 (l : List Oper) : Bool := l.zipIdx.all fun x => x.1.after.toList.all fun e => !Region.binds .any e || decide (e.on < x.2)
def JJ (l : List Oper) (n : Nat) : Bool := l.all fun o => match o.guard with | none => true | some (j, _) => decide (j < n)
def OZ (l : List Oper) (n : Nat) : Bool :=
 decide (n < l.length) && Region.sinkB .any l.toArray n && Region.chainB .any l.toArray n && M3 (l.take n) && JJ (l.take n) n &&
 Region.lexB .any (l.take n).toArray && Region.seqB .any l.toArray (l.length - n) n (Array.replicate n true ++ Array.replicate (l.length - n) false)
structure Nd where
 listed : List Bool
 fr : List SV
 rows : List Row
 g : G
def Cn : List DF → List DF → Bool
 | [], [] => true
 | a :: l, b :: m => a.d.same b.d && L.Hb a.args b.args && L.Hb a.res b.res && Cn l m
 | _, _ => false
def C2 : List Def → List Def → Bool
 | [], [] => true
 | a :: l, b :: m => a.base == b.base && a.d.same b.d && L.Hb a.args b.args && C2 l m
 | _, _ => false
def PV.same : PV → PV → Bool
 | .one a, .one b => a.same b
 | .agg a, .agg b => Hc a b
 | _, _ => false
def Gt : List PV → List PV → Bool
 | [], [] => true
 | a :: l, b :: m => a.same b && Gt l m
 | _, _ => false
def Hj : List (L × Bool) → List (L × Bool) → Bool
 | [], [] => true
 | a :: l, b :: m => a.1.same b.1 && a.2 == b.2 && Hj l m
 | _, _ => false
def SV.same : SV → SV → Bool
 | .pv a, .pv b => a.same b
 | .tup a, .tup b => Gt a b
 | .cond g a, .cond h b => Hj g h && a.same b
 | .undef, .undef | .junk, .junk => true
 | _, _ => false
def Gu : List SV → List SV → Bool
 | [], [] => true
 | a :: l, b :: m => a.same b && Gu l m
 | _, _ => false
def DC : List Bool → List Bool → Bool
 | [], [] => true
 | a :: l, b :: m => a == b && DC l m
 | _, _ => false
def Nd.same (a b : Nd) : Bool := Gu a.fr b.fr && C1 a.rows b.rows && a.g.next == b.g.next && C2 a.g.defs b.g.defs && L.Hb a.g.obs b.g.obs && Cn a.g.known b.g.known
def Uc (M : Nat) (ρ : Nat → Option Nat) : K → K → Bool
 | .junk, _ => true
 | .int k x, .int k' y => BT k k' && x.same y
 | .bool x, .bool y => x.same y
 | .str x, .str y => x.same y
 | .val x, .val y => x.same y
 | .ptr r o, .ptr r' o' => decide (r < M) && decide (ρ r = some r') && o == o'
 | .sptr r o s n x, .sptr r' o' s' n' x' => decide (r < M) && decide (ρ r = some r') && o == o' && s == s' && n == n' && x.same x'
 | .slc r o n, .slc r' o' n' => decide (r < M) && decide (ρ r = some r') && o == o' && n == n'
 | .aslc r o s n c, .aslc r' o' s' n' c' => decide (r < M) && decide (ρ r = some r') && o == o' && s == s' && n == n' && c == c'
 | .lsl r n, .lsl r' n' => decide (r < M) && decide (ρ r = some r') && n.same n'
 | .lsl r n, .nilslc => decide (r < M) && decide (ρ r = none) && n.same (.n 0)
 | .fsl r n, .fsl r' n' => decide (r < M) && decide (ρ r = some r') && n.same n'
 | .lptr r o s x n, .lptr r' o' s' x' n' => decide (r < M) && decide (ρ r = some r') && o == o' && s == s' && x.same x' && n.same n'
 | .nilslc, .nilslc | .nilptr, .nilptr | .nilfn, .nilfn => true
 | _, _ => false
def Cb {α : Type} (f : α → α → Bool) : List α → List α → Bool
 | [], [] => true
 | a :: l, b :: m => f a b && Cb f l m
 | _, _ => false
def TH (M : Nat) (ρ : Nat → Option Nat) : C → C → Bool
 | .k .junk, _ => true
 | .k a, .k b => Uc M ρ a b
 | .clo f a b, .clo g c d => f == g && Cb (Uc M ρ) a c && Cb (Uc M ρ) b d
 | _, _ => false
def QF (M : Nat) (ρ : Nat → Option Nat) : PV → PV → Bool
 | .one a, .one b => TH M ρ a b
 | .agg a, .agg b => Cb (TH M ρ) a b
 | _, _ => false
def SY (M : Nat) (ρ : Nat → Option Nat) : SV → SV → Bool
 | .junk, _ => true
 | .undef, .undef => true
 | .pv a, .pv b => QF M ρ a b
 | .tup a, .tup b => Cb (QF M ρ) a b
 | .cond gs a, .cond hs b => Hj gs hs && QF M ρ a b
 | _, _ => false
def Row.M4 (r : Row) : Bool := !r.own && r.cells.isEmpty && r.lst.isNone
def PZ (M : Nat) (ρ : Nat → Option Nat) (t s : Row) : Bool :=
 t.own == s.own && t.ty == s.ty && t.es == s.es && Cb (TH M ρ) t.cells s.cells && Gs t.lst s.lst
def JK (t : Row) : Bool :=
 !t.own && t.cells.isEmpty && (match t.lst with | some q => q.own && q.x.same .e && q.n.same (.n 0) && q.ss.length != 0 | none => false)
def M5 (M : Nat) (ρ : Nat → Option Nat) (rows : List Row) (r : Nat) (t : Row) : Bool :=
 t.M4 || (match ρ r with
  | some r' => (match rows[r']? with | some s => PZ M ρ t s | none => false)
  | none => JK t)
def FN (M : Nat) (ρ : Nat → Option Nat) (rows : List Row) : Nat → List Row → Bool
 | _, [] => true
 | r, t :: l => M5 M ρ rows r t && FN M ρ rows (r + 1) l
def Row.owned (t : Row) : Bool := t.own || (match t.lst with | some q => q.own | none => false)
def M6 : Option Nat → List Nat → List Nat
 | some x, l => x :: l
 | none, l => l
def BK (ρ : Nat → Option Nat) : Nat → List Row → List Nat
 | _, [] => []
 | r, t :: l => if t.owned then M6 (ρ r) (BK ρ (r + 1) l) else BK ρ (r + 1) l
def Hk : List Nat → Bool
 | [] => true
 | a :: l => l.all (fun b => a != b) && Hk l
def RH (ρ : Nat → Option Nat) (m : Nat) : Bool := (List.range m).all fun r => decide (ρ r = some r)
def QG (ρ : Nat → Option Nat) (m : Nat) (t s : St) : Bool :=
 Cb (SY t.rows.length ρ) t.fr s.fr && FN t.rows.length ρ s.rows 0 t.rows && Hk (BK ρ 0 t.rows) && RH ρ m && decide (m ≤ s.rows.length) && decide (m ≤ t.rows.length)
def RI (t s : L) : List (Nat × L) := match t with | .var i => [(i, s)] | _ => []
def UU : K → K → List (Nat × L) × List (Nat × Option Nat)
 | .int _ x, .int _ y | .bool x, .bool y | .str x, .str y | .val x, .val y => (RI x y, [])
 | .ptr r _, .ptr r' _ => ([], [(r, some r')])
 | .sptr r _ _ _ x, .sptr r' _ _ _ x' => (RI x x', [(r, some r')])
 | .slc r _ _, .slc r' _ _ => ([], [(r, some r')])
 | .aslc r _ _ _ _, .aslc r' _ _ _ _ => ([], [(r, some r')])
 | .lsl r n, .lsl r' n' => (RI n n', [(r, some r')])
 | .lsl r n, .nilslc => (RI n (.n 0), [(r, none)])
 | .fsl r n, .fsl r' n' => (RI n n', [(r, some r')])
 | .lptr r _ _ x n, .lptr r' _ _ x' n' => (RI x x' ++ RI n n', [(r, some r')])
 | _, _ => ([], [])
def Hl {α : Type} (f : α → α → List (Nat × L) × List (Nat × Option Nat)) : List α → List α → List (Nat × L) × List (Nat × Option Nat)
 | a :: l, b :: m => let x := f a b; let y := Hl f l m; (x.1 ++ y.1, x.2 ++ y.2)
 | _, _ => ([], [])
def UW : C → C → List (Nat × L) × List (Nat × Option Nat)
 | .k a, .k b => UU a b
 | .clo _ a b, .clo _ c d => let x := Hl UU a c; let y := Hl UU b d; (x.1 ++ y.1, x.2 ++ y.2)
 | _, _ => ([], [])
def TI : PV → PV → List (Nat × L) × List (Nat × Option Nat)
 | .one a, .one b => UW a b
 | .agg a, .agg b => Hl UW a b
 | _, _ => ([], [])
def UX : SV → SV → List (Nat × L) × List (Nat × Option Nat)
 | .pv a, .pv b => TI a b
 | .tup a, .tup b => Hl TI a b
 | .cond _ a, .cond _ b => TI a b
 | _, _ => ([], [])
def Uk (t s : Row) : List (Nat × L) × List (Nat × Option Nat) :=
 let x := Hl UW t.cells s.cells
 match t.lst, s.lst with
 | some p, some q => (RI p.x q.x ++ RI p.n q.n ++ x.1, x.2)
 | _, _ => x
def Tu (m : Nat) (l : List (Nat × Option Nat)) (r : Nat) : Option Nat := if r < m then some r else match look r l with | some x => x | none => none
def RJ (rows : List Row) (ρ : Nat → Option Nat) : Nat → List Row → List (Nat × L)
 | _, [] => []
 | r, t :: l => (match ρ r with
   | some r' => (match rows[r']? with | some s => (Uk t s).1 | none => [])
   | none => (match t.lst with | some q => RI q.x .e ++ RI q.n (.n 0) | none => [])) ++ RJ rows ρ (r + 1) l
def Gv (m : Nat) (t s : St) : List (Nat × L) × (Nat → Option Nat) :=
 let (a, b) := Hl UX t.fr s.fr
 (a ++ RJ s.rows (Tu m b) 0 t.rows, Tu m b)
def E4 (X : Ctx) (inl : Inline) (ops : List Oper) (pc : L) (nd : Nd) (i : Nat) : Option Nd := do
 let o ← ops[i]?
 let (fr, rows, g) ← Bt X inl false ops pc [o] nd.fr nd.rows nd.g
 if nd.rows.length ≤ rows.length then some ⟨nd.listed.set i true, fr, rows, g⟩ else none
def RK (ops : List Oper) (listed : List Bool) (i : Nat) : Bool :=
 match ops[i]? with
 | some o => (match o.op with | .move _ | .assign _ => Region.free .any ops.toArray listed.toArray i | _ => false)
 | none => false
def SZ {α β : Type} (f : α → Option β) : List α → Option (List β)
 | [] => some []
 | a :: l => do let b ← f a; let r ← SZ f l; some (b :: r)
def RL (X : Ctx) (inl : Inline) (ops : List Oper) (pc : L) (nd : Nd) : Option (List Nd) :=
 let r := Region.ready .any ops.toArray nd.listed.toArray
 match r.find? (RK ops nd.listed) with
 | some i => do let n ← E4 X inl ops pc nd i; some [n]
 | none => if r.isEmpty then none else SZ (E4 X inl ops pc nd) r
def Nd.fits (bs : Nat) (m n : Nd) : Bool :=
 m.g.next == n.g.next && C2 m.g.defs n.g.defs && L.Hb m.g.obs n.g.obs && Cn m.g.known n.g.known &&
 QG (Gv bs ⟨m.fr, m.rows, .t true⟩ ⟨n.fr, n.rows, .t true⟩).2 bs ⟨m.fr, m.rows, .t true⟩ ⟨n.fr, n.rows, .t true⟩
def NN (bs : Nat) (n : Nd) : List Nd → Option (List Nd)
 | [] => some [n]
 | m :: l => if DC m.listed n.listed then (if m.same n || m.fits bs n then some (m :: l) else none) else do let r ← NN bs n l; some (m :: r)
def J2 (bs : Nat) : List Nd → List Nd → Option (List Nd)
 | [], l => some l
 | n :: ns, l => do let l ← NN bs n l; J2 bs ns l
def HR (X : Ctx) (inl : Inline) (ops : List Oper) (pc : L) (bs : Nat) : List Nd → List Nd → Option (List Nd)
 | [], out => some out
 | nd :: l, out => do
  let ns ← RL X inl ops pc nd
  let out ← J2 bs ns out
  HR X inl ops pc bs l out
def explore (X : Ctx) (inl : Inline) (ops : List Oper) (pc : L) (bs : Nat) : Nat → List Nd → Option (List Nd)
 | 0, l => some l
 | k + 1, l => do let l ← HR X inl ops pc bs l []; explore X inl ops pc bs k l
def P0 (X : Ctx) (inl : Inline) (ops : List Oper) (S : St) (g : G) : Option (St × G) :=
 if ED X ops == ops.length then
  if Region.lexB .any ops.toArray then do
   let (fr, rows, g) ← Bt X inl true ops S.pc ops S.fr S.rows g
   some ({ S with fr, rows }, g)
  else none
 else none
def P1 (X : Ctx) (inl : Inline) (ops : List Oper) (S : St) (g : G) : Option (St × G) :=
 if OZ ops (ED X ops) then do
  let (fr, rows, g) ← Bt X inl true (ops.take (ED X ops)) S.pc (ops.take (ED X ops)) S.fr S.rows g
  let (fr, rows, g) ← Bt X inl false ops S.pc (ops.drop (ED X ops)) fr rows g
  some ({ S with fr, rows }, g)
 else none
def NO (X : Ctx) (inl : Inline) (ops : List Oper) (S : St) (g : G) : Option (St × G) :=
 if Region.noSelect ops.toArray then
  match explore X inl ops S.pc S.rows.length ops.length [⟨List.replicate ops.length false, S.fr, S.rows, g⟩] with
  | some [E] => if (Region.ready .any ops.toArray E.listed.toArray).isEmpty then some ({ S with fr := E.fr, rows := E.rows }, E.g) else none
  | _ => none
 else none
def RM (X : Ctx) (inl : Inline) (ops : List Oper) (S : St) (g : G) : Option (St × G) :=
 match NO X inl ops S { g with known := Ug :: g.known } with
 | some (S', g') => (match g'.known with
  | k :: l => if MK k then some (S', { g' with known := l }) else none
  | [] => none)
 | none => none
def Hm (X : Ctx) (inl : Inline) (ops : List Oper) (draw : Bool) (S : St) (g : G) : Option (St × G) :=
 if draw then
  match P0 X inl ops S g with
  | some r => some r
  | none => match P1 X inl ops S g with
   | some r => some r
   | none => match NO X inl ops S g with
    | some r => some r
    | none => match Bt X inl false ops S.pc ops S.fr S.rows g with
     | some (_, _, g1) => (match NO X inl ops S g1 with
      | some r => some r
      | none => RM X inl ops S g1)
     | none => none
 else do
  let (fr, rows, g) ← Bt X inl false ops S.pc ops S.fr S.rows g
  some ({ S with fr, rows }, g)
def isFalse : L → Bool
 | .t false => true
 | _ => false
def results (X : Ctx) (S : St) : List ResultVar → G → Option (List PV × G)
 | [], g => some ([], g)
 | .tmp t :: l, g => do
  let p ← slot S.fr [] t
  let (r, g) ← results X S l g
  some (p :: r, g)
 | .cell a t :: l, g => do
  let p ← slot S.fr [] a
  let ty ← X.ty t
  match p with
  | .one (.k (.ptr r off)) => do
   let row ← S.rows[r]?
   let cs ← Cv row.cells off ty.size
   let v ← C9 ty.kind.agg cs
   let (q, g) ← results X S l g
   some (v :: q, g)
  | _ => none
def J3 (o : Ah) (g : G) : Option (St × G) :=
 match o with
 | [(.norm, s)] | [(.ret, s)] => some (s, g)
 | [(.norm, s), (.ret, t)] => some (Bx s.pc none s t g)
 | [(.ret, t), (.norm, s)] => some (Bx s.pc none s t g)
 | _ => none
def B5 (σ : Nat → L) : L → L
 | .var i => σ i
 | x => x
def QH (σ : Nat → L) : K → K
 | .int k x => .int k (B5 σ x)
 | .bool x => .bool (B5 σ x)
 | .str x => .str (B5 σ x)
 | .val x => .val (B5 σ x)
 | .sptr r o s n x => .sptr r o s n (B5 σ x)
 | .lsl r n => .lsl r (B5 σ n)
 | .fsl r n => .fsl r (B5 σ n)
 | .lptr r o s x n => .lptr r o s (B5 σ x) (B5 σ n)
 | k => k
def O0 (σ : Nat → L) : C → C
 | .k x => .k (QH σ x)
 | .clo f a b => .clo f (a.map (QH σ)) (b.map (QH σ))
 | .cfn x f h => .cfn (B5 σ x) f h
def L2 (σ : Nat → L) : PV → PV
 | .one c => .one (O0 σ c)
 | .agg l => .agg (l.map (O0 σ))
def J4 (σ : Nat → L) : SV → SV
 | .pv p => .pv (L2 σ p)
 | .tup l => .tup (l.map (L2 σ))
 | .cond gs p => .cond (gs.map fun x => (B5 σ x.1, x.2)) (L2 σ p)
 | s => s
def DK (σ : Nat → L) (r : Row) : Row := { r with cells := r.cells.map (O0 σ), lst := r.lst.map fun q => { q with x := B5 σ q.x, n := B5 σ q.n } }
def CG (σ : Nat → L) (s : St) : St := ⟨s.fr.map (J4 σ), s.rows.map (DK σ), B5 σ s.pc⟩
def DL (l : List (Nat × L)) (k : Nat) : List L := (List.range k).map fun i => match look i l with | some x => x | none => .n 0
def Bl (ls : List L) (i : Nat) : L := match ls[i]? with | some x => x | none => .n 0
def BU (q : Lp) (ls more : List L) (i : Nat) : L :=
 if i < q.k then (if q.Iw.getD i false then Bl ls i else .n 0) else Bl more (i - q.k)
def DM (b w : Nat) : List L := (List.range w).map fun j => .var (b + j)
def Lp.tag (q : Lp) (i : Nat) : Tag := if i < q.k then .any else q.tags.getD (i - q.k) .any
def FO (tg : Nat → Tag) (want : Tag) : L → Bool
 | .var i => tg i == want || tg i == .any
 | _ => true
def QI (tg : Nat → Tag) : K → Bool
 | .int _ x => FO tg .i x
 | .bool x => FO tg .b x
 | .str x => FO tg .s x
 | .val x => FO tg .v x
 | .sptr _ _ _ _ x => FO tg .i x
 | .lsl _ n => FO tg .i n
 | .fsl _ n => FO tg .i n
 | .lptr _ _ _ x n => FO tg .i x && FO tg .i n
 | _ => true
def O1 (tg : Nat → Tag) : C → Bool
 | .k x => QI tg x
 | .clo _ a b => a.all (QI tg) && b.all (QI tg)
 | .cfn x _ _ => FO tg .b x
def P2 (tg : Nat → Tag) : PV → Bool
 | .one c => O1 tg c
 | .agg l => l.all (O1 tg)
def P3 (tg : Nat → Tag) : SV → Bool
 | .pv p => P2 tg p
 | .tup l => l.all (P2 tg)
 | .cond _ _ => false
 | _ => true
def O2 (tg : Nat → Tag) (r : Row) : Bool := r.cells.all (O1 tg) && (match r.lst with | some q => FO tg .any q.x && FO tg .i q.n | none => true)
def P4 (tg : Nat → Tag) (s : St) : Bool := s.fr.all (P3 tg) && s.rows.all (O2 tg) && FO tg .b s.pc
def BV (σ : Nat → L) (pc : L) : List (EB × St) → G → Ah × G
 | [], g => ([], g)
 | (x, s) :: l, g =>
  let (p, g) := mkAnd pc (B5 σ s.pc) g
  let (r, g) := BV σ pc l g
  ((x, { CG σ s with pc := p }) :: r, g)
def Gw (pc : L) (a : L) : List L → G → G
 | [], g => g
 | b :: l, g =>
  let (z, g) := mkAnd a b g
  let (z, g) := mkNot z g
  Gw pc a l (g.AT pc z)
def Bm (pc : L) : List L → G → G
 | [], g => g
 | a :: l, g => Bm pc l (Gw pc a l g)
def P5 : List (EB × St) → Bool
 | [] => true
 | (x, _) :: l => l.all (fun y => !x.same y.1) && P5 l
def M7 (L : Lp) (S : St) (g : G) : Option (Ah × G) := do
 if S.rows.length != L.m then none
 let (a, ρ) := Gv L.m L.tm S
 let ls := DL a L.k
 if !QG ρ L.m (CG (Bl ls) L.tm) S || !P5 L.outs || !L.outs.all (fun x => P4 L.tag x.2 && decide (L.m ≤ x.2.rows.length)) then none
 let (b, g) := g.Ba (.call L.id) ls (1 + L.w)
 let g := g.AT S.pc (.var b)
 let σ := BU L ls (DM (b + 1) L.w)
 let g := Bm S.pc (L.outs.map fun x => B5 σ x.2.pc) g
 some (BV σ S.pc L.outs g)
def EE (f : Nat) (p : List Bool) (S : St) (g : G) : List Lp → Option (Ah × G)
 | [] => none
 | L :: l => if L.f == f && Cb (· == ·) L.p p then (match M7 L S g with | some r => some r | none => EE f p S g l) else EE f p S g l
def S0 (f : Nat) (p : List Bool) (l : List Lp) : Bool := l.any fun L => L.f == f && Cb (· == ·) L.p p
def HS (q : Lp) : St := CG (fun i => if i < q.k then .var i else .n 0) { q.tm with pc := .t true }
def Tv (q : Lp) (ls : List L) : Bool := (List.range q.k).all fun i => !q.Iw.getD i false || (Bl ls i).same (.var i)
def RN (q : Lp) (s : St) : Option (List L) :=
 let (a, ρ) := Gv q.m q.tm s
 let ls := DL a q.k
 if QG ρ q.m (CG (Bl ls) q.tm) s && Tv q ls then some ls else none
def M8 (q : Lp) (o : Ah) : Option (Option (L × List L)) :=
 match Ah.get .norm o with
 | none => some none
 | some s => match RN q s with | some ls => some (some (s.pc, ls)) | none => none
structure Ex where
 x : EB
 pc : L
 t : St
 lx : List (Option L)
 deriving Inhabited
def TJ (q : Lp) (lx : List (Option L)) (i : Nat) : Tag := if i < q.k then .any else match lx.getD (i - q.k) none with | some _ => q.tags.getD (i - q.k) .any | none => .no
def L3 (lx : List (Option L)) : List L := lx.map fun x => match x with | some l => l | none => .n 0
def NP (k : Nat) : List L := (List.range k).map .var
def TL (q : Lp) (pc : L) (ml : List (Nat × L)) : List (Option L) :=
 match pc with
 | .var i => ((List.range q.w).map fun j => look (q.k + j) ml).set (i - q.k) (some (.t true))
 | _ => (List.range q.w).map fun j => look (q.k + j) ml
def Ve (q : Lp) : L → Bool
 | .var i => decide (q.k ≤ i) && decide (i < q.k + q.w)
 | .t true => true
 | _ => false
def RO (q : Lp) (x : EB) (t s : St) : Option Ex :=
 let (a, ρ) := Gv q.m t s
 let lx := TL q t.pc a
 if QG ρ q.m (CG (BU q (NP q.k) (L3 lx)) t) s && P4 (TJ q lx) t && Ve q t.pc then some ⟨x, s.pc, t, lx⟩ else none
def NQ (x : EB) : List (EB × St) → Option St
 | [] => none
 | (y, t) :: l => if x.same y then some t else NQ x l
def Gx (q : Lp) : Ah → Option (List Ex)
 | [] => some []
 | (x, s) :: l => do
  let r ← Gx q l
  if x.same .norm then some r else do
  let t ← NQ x q.outs
  let y ← RO q x t s
  some (y :: r)
mutual
def exec (X : Ctx) : Nat → Nat → List Bool → Code → St → G → Option (Ah × G)
 | 0, _, _, _, _, _ => none
 | n + 1, f, pa, c, S, g =>
  match c with
  | .skip => some ([(.norm, S)], g)
  | .ret => some ([(.ret, S)], g)
  | .exit id => some ([(.exit id, S)], g)
  | .region _ ops draw => do
   let (S, g) ← Hm X (inline X n) ops.toList draw S g
   some ([(.norm, S)], g)
  | .seq a b => do
   let (o, g) ← exec X n f (false :: pa) a S g
   match Ah.get .norm o with
   | none => some (o, g)
   | some s =>
    if isFalse s.pc then some (Ah.drop .norm o, g) else do
    let rest := Ah.drop .norm o
    let (o2, g) ← exec X n f (true :: pa) b s g
    if rest.isEmpty then some (o2, g) else
    let (nc, g) := mkNot s.pc g
    some (combine s.pc nc none o2 rest g)
  | .cond c a b => do
   let p ← Cu S.fr [] c
   let x ← p.bool?
   match x with
   | .t true => exec X n f (false :: pa) a S g
   | .t false => exec X n f (true :: pa) b S g
   | x => do
    let (nx, g) := mkNot x g
    let (p1, g) := mkAnd S.pc x g
    let (p2, g) := mkAnd S.pc nx g
    let (o1, g) ← exec X n f (false :: pa) a { S with pc := p1 } g
    let (o2, g) ← exec X n f (true :: pa) b { S with pc := p2 } g
    some (combine x nx (some (S.pc, p1, p2)) o1 o2 g)
  | .block id c => do
   let (o, g) ← exec X n f (false :: pa) c S g
   match Ah.get (.exit id) o, Ah.get .norm o with
   | none, _ => some (o, g)
   | some t, none => some ((.norm, t) :: Ah.drop (.exit id) o, g)
   | some t, some s =>
    let (u, g) := Bx s.pc none s t g
    some ((.norm, u) :: Ah.drop (.exit id) (Ah.drop .norm o), g)
  | .loop c => if S0 f pa X.lps then EE f pa S g X.lps else rounds X n f (false :: pa) c S X.lim g
  | _ => none
def rounds (X : Ctx) : Nat → Nat → List Bool → Code → St → Nat → G → Option (Ah × G)
 | 0, _, _, _, _, _, _ => none
 | n + 1, f, pa, c, S, k, g => do
  if k == 0 then
   let (np, g) := mkNot S.pc g
   some ([], g.AT (.t true) np)
  else
  let (o, g) ← exec X n f pa c S g
  match Ah.get .norm o with
  | none => some (o, g)
  | some s =>
   let rest := Ah.drop .norm o
   if isFalse s.pc then some (rest, g) else do
   let (o2, g) ← rounds X n f pa c s (match s.pc with | .t true => k | _ => k - 1) g
   if rest.isEmpty then some (o2, g) else
   let (nc, g) := mkNot s.pc g
   some (combine s.pc nc none o2 rest g)
def inline (X : Ctx) : Nat → Inline
 | 0, _, _, _, _, _ => none
 | n + 1, f, args, rows, pc, g =>
  match look f X.big with
  | some _ => JY f args rows pc g X.big
  | none =>
  match look f X.muts with
  | some m => if m.f == f then (if m.grow then J0 m args rows pc g else MW m args rows pc g) else none
  | none => do
  let fn ← X.fns f
  let body ← fn.body
  let fr := args.map .pv ++ List.replicate (fn.ntmps - args.length) .undef
  let (o, g) ← exec X n f [] body ⟨fr, rows, pc⟩ g
  let (s, g) ← J3 o g
  let (rs, g) ← results X s fn.results.toList g
  some (HM rs, s.rows, g)
end
def run (X : Ctx) (n : Nat) (f : Nat) (args : List PV) (rows : List Row) (next : Nat) (known : List DF := []) : Option (SV × List Row × G) :=
 inline X n f args rows (.t true) ⟨next, [], [], known⟩
end Rx
namespace Rx
open Go
@[simp] theorem A.AI (n : Int) : (A.i n).int = n := rfl
@[simp] theorem A.AX (t : Bool) : (A.b t).bool = t := rfl
@[simp] theorem A.Ul (x : Value) : (A.v x).val = x := rfl
@[simp] theorem L.By (e : Nat → A) (n : Int) : (L.n n).ev e = .i n := rfl
@[simp] theorem L.Db (e : Nat → A) (t : Bool) : (L.t t).ev e = .b t := rfl
@[simp] theorem L.Dp (e : Nat → A) : L.e.ev e = .l [] := rfl
@[simp] theorem A.Fv (l : List A) : (A.l l).AL = l := rfl
@[simp] theorem L.Aw (e : Nat → A) (i : Nat) : (L.var i).ev e = e i := rfl
section
variable {T : Nat → List A → Bool × List A} {e : Nat → A}
def Good (T : Nat → List A → Bool × List A) (e : Nat → A) (g : G) : Prop :=
 (∀ d ∈ g.defs, d.holds T e) ∧ (∀ o ∈ g.obs, (o.ev e).bool = true) ∧ (∀ k ∈ g.known, k.holds T e)
theorem O3 {a b : Int} (h : MI a b = true) : a = b := by simpa [MI] using h
theorem HT : ∀ {a b : List UInt8}, DB a b = true → a = b
 | [], [], _ => rfl
 | [], _ :: _, h => by simp [DB] at h
 | _ :: _, [], h => by simp [DB] at h
 | a :: l, b :: m, h => by
  simp only [DB, Bool.and_eq_true, beq_iff_eq] at h
  rw [UInt8.toNat_inj.1 h.1, HT h.2]
theorem L.Ae {a b : L} (h : a.same b = true) : a = b := by
 cases a <;> cases b <;> simp [L.same] at h
 ·rw [O3 h]
 ·rw [h]
 ·rw [HT h]
 ·rw [h]
 ·rfl
theorem L.Cx : ∀ {a b : List L}, L.Hb a b = true → a = b
 | [], [], _ => rfl
 | [], _ :: _, h => by simp [L.Hb] at h
 | _ :: _, [], h => by simp [L.Hb] at h
 | _ :: _, _ :: _, h => by
  simp only [L.Hb, Bool.and_eq_true] at h
  rw [L.Ae h.1, L.Cx h.2]
theorem D.Ae {a b : D} (h : a.same b = true) : a = b := of_decide_eq_true h
theorem Hn {d : D} {args : List L} : ∀ {l : List DF} {r : List L}, NK d args l = some r → (∀ k ∈ l, k.holds T e) → d.ev T (args.map (L.ev e)) = r.map (L.ev e)
 | k :: l, r, h, hk => by
  unfold NK at h
  split at h
  ·rename_i hs
   rw [Bool.and_eq_true] at hs
   injection h with h
   subst h
   have := hk k (by simp)
   unfold DF.holds at this
   rw [← D.Ae hs.1, ← L.Cx hs.2]
   exact this
  ·exact Hn h fun k hk' => hk k (by simp [hk'])
theorem Gy {d : D} {args : List L} : ∀ {n : Nat} {l : List Def} {b : Nat}, findD d args n l = some b → ⟨b, d, args⟩ ∈ l
 | n + 1, x :: l, b, h => by
  unfold findD at h
  split at h
  ·rename_i hs
   rw [Bool.and_eq_true] at hs
   injection h with h
   subst h
   obtain ⟨xb, xd, xa⟩ := x
   have h1 := L.Cx hs.1
   have h2 := D.Ae hs.2
   simp only at h1 h2
   rw [h1, h2]
   exact List.mem_cons_self ..
  ·exact List.mem_cons_of_mem _ (Gy h)
 | 0, _, _, h => by simp [findD] at h
 | _ + 1, [], _, h => by simp [findD] at h
theorem Af {g : G} {d : D} {args : List L} (h : Good T e (g.push d args).2) :
  Good T e g ∧ ∀ a, (d.ev T (args.map (L.ev e)))[0]? = some a → (g.push d args).1.ev e = a := by
 unfold G.push at h ⊢
 split at h
 ·rename_i x r hf
  refine ⟨h, fun a ha => ?_⟩
  rw [Hn hf h.2.2] at ha
  simpa using ha
 ·rename_i hf
  split at h
  ·rename_i b hb
   refine ⟨h, fun a ha => ?_⟩
   have := h.1 _ (Gy hb) 0 a ha
   simpa using this
  ·obtain ⟨h1, h2, h3⟩ := h
   simp only at h1 h2 h3 ⊢
   refine ⟨⟨fun x hx => h1 x (by simp [hx]), h2, h3⟩, fun a ha => ?_⟩
   have := h1 _ (List.mem_cons_self ..) 0 a ha
   simpa using this
theorem Cf {g : G} {d : D} {args : List L} {n : Nat} (h : Good T e (g.Ba d args n).2) :
  Good T e g ∧ ∀ j a, (d.ev T (args.map (L.ev e)))[j]? = some a → e ((g.Ba d args n).1 + j) = a := by
 obtain ⟨h1, h2, h3⟩ := h
 simp only [G.Ba] at h1 h2 h3 ⊢
 exact ⟨⟨fun x hx => h1 x (by simp [hx]), h2, h3⟩, fun j a ha => h1 _ (List.mem_cons_self ..) j a ha⟩
theorem IB {op k a b} {g : G} (h : Good T e (La op k a b g).2) : Good T e g ∧ (La op k a b g).1.ev e = .i (LL op k (a.ev e).int (b.ev e).int) := by
 unfold La at h ⊢
 split at h <;> rename_i h0
 ·exact ⟨h, by simp⟩
 ·have := Af h
  exact ⟨this.1, this.2 _ (by simp [D.ev])⟩
theorem L4 {op k a b} {g : G} (h : Good T e (NL op k a b g).2) : Good T e g ∧ (NL op k a b g).1.ev e = .i (MJ op k (a.ev e).int (b.ev e).int) := by
 unfold NL at h ⊢
 split at h <;> rename_i h0
 ·exact ⟨h, by simp⟩
 ·have := Af h
  exact ⟨this.1, this.2 _ (by simp [D.ev])⟩
theorem EF {op k a b} {g : G} (h : Good T e (It op k a b g).2) : Good T e g ∧ (It op k a b g).1.ev e = .i (K8 op k (a.ev e).int (b.ev e).int) := by
 unfold It at h ⊢
 split at h <;> rename_i h0
 ·exact ⟨h, by simp⟩
 ·have := Af h
  exact ⟨this.1, this.2 _ (by simp [D.ev])⟩
theorem As {op a b} {g : G} (h : Good T e (Av op a b g).2) : Good T e g ∧ (Av op a b g).1.ev e = .b (CX op (a.ev e).int (b.ev e).int) := by
 unfold Av at h ⊢
 split at h <;> rename_i h0
 ·exact ⟨h, by simp⟩
 ·have := Af h
  exact ⟨this.1, this.2 _ (by simp [D.ev])⟩
theorem NR {k a} {g : G} (h : Good T e (Iu k a g).2) : Good T e g ∧ (Iu k a g).1.ev e = .i (k.wrap (a.ev e).int) := by
 unfold Iu at h ⊢
 split at h <;> rename_i h0
 ·exact ⟨h, by simp⟩
 ·have := Af h
  exact ⟨this.1, this.2 _ (by simp [D.ev])⟩
theorem O4 {k a} {g : G} (h : Good T e (mkNeg k a g).2) : Good T e g ∧ (mkNeg k a g).1.ev e = .i (k.wrap (0 - (a.ev e).int)) := by
 unfold mkNeg at h ⊢
 split at h <;> rename_i h0
 ·exact ⟨h, by simp⟩
 ·have := Af h
  exact ⟨this.1, this.2 _ (by simp [D.ev])⟩
theorem QJ {op k a b} {g : G} (h : Good T e (SU op k a b g).2) : Good T e g ∧ (SU op k a b g).1.ev e = .i (NJ op k (a.ev e).int (b.ev e).int) := by
 unfold SU at h ⊢
 split at h <;> rename_i h0
 ·exact ⟨h, by simp⟩
 ·have := Af h
  exact ⟨this.1, this.2 _ (by simp [D.ev])⟩
theorem Bc {a} {g : G} (h : Good T e (mkNot a g).2) : Good T e g ∧ (mkNot a g).1.ev e = .b (!(a.ev e).bool) := by
 unfold mkNot at h ⊢
 split at h <;> rename_i h0
 ·exact ⟨h, by simp⟩
 ·have := Af h
  exact ⟨this.1, this.2 _ (by simp [D.ev])⟩
theorem Ho {a b} {g : G} (h : Good T e (LM a b g).2) : Good T e g ∧ (LM a b g).1.ev e = .b ((a.ev e).bool == (b.ev e).bool) := by
 unfold LM at h ⊢
 split at h <;> rename_i h0
 ·exact ⟨h, by simp⟩
 ·have := Af h
  exact ⟨this.1, this.2 _ (by simp [D.ev])⟩
theorem AE {a b} {g : G} (h : Good T e (mkAnd a b g).2) : Good T e g ∧ ((mkAnd a b g).1.ev e).bool = ((a.ev e).bool && (b.ev e).bool) := by
 unfold mkAnd at h ⊢
 split at h
 ·exact ⟨h, by simp⟩
 ·exact ⟨h, by simp⟩
 ·exact ⟨h, by simp⟩
 ·exact ⟨h, by simp⟩
 ·split at h
  ·rename_i hs
   refine ⟨h, ?_⟩
   simp only [hs, if_true]
   rw [← L.Ae hs]
   simp
  ·rename_i hs
   have := Af h
   refine ⟨this.1, ?_⟩
   simp only [hs, Bool.false_eq_true, if_false]
   rw [this.2 (.b ((a.ev e).bool && (b.ev e).bool)) (by simp [D.ev])]
   rfl
theorem Co {c a b} {g : G} (h : Good T e (DG c a b g).2) : Good T e g ∧ ((DG c a b g).1.ev e).int = if (c.ev e).bool then (a.ev e).int else (b.ev e).int := by
 unfold DG at h ⊢
 split at h
 ·exact ⟨h, by simp⟩
 ·exact ⟨h, by simp⟩
 ·split at h
  ·rename_i hs
   refine ⟨h, ?_⟩
   simp only [hs, if_true]
   rw [← L.Ae hs]
   simp
  ·rename_i hs
   have := Af h
   refine ⟨this.1, ?_⟩
   simp only [hs, Bool.false_eq_true, if_false]
   rw [this.2 (.i (if (c.ev e).bool then (a.ev e).int else (b.ev e).int)) (by simp [D.ev])]
   rfl
theorem NS {c a b} {g : G} (h : Good T e (ML c a b g).2) : Good T e g ∧ ((ML c a b g).1.ev e).int = if (c.ev e).bool then (a.ev e).int else (b.ev e).int := by
 unfold ML at h ⊢
 split at h
 ·rename_i x hx
  refine ⟨h, ?_⟩
  have := h.1 _ (Gy hx) 0 (.i (if (c.ev e).bool then (a.ev e).int else (b.ev e).int)) (by simp [D.ev])
  show (e x).int = _
  simp only [Nat.add_zero] at this
  rw [this]
  rfl
 ·exact Co h
theorem C3 {c a b} {g : G} (h : Good T e (Iv c a b g).2) : Good T e g ∧ ((Iv c a b g).1.ev e).bool = if (c.ev e).bool then (a.ev e).bool else (b.ev e).bool := by
 unfold Iv at h ⊢
 split at h
 ·exact ⟨h, by simp⟩
 ·exact ⟨h, by simp⟩
 ·split at h
  ·rename_i hs
   refine ⟨h, ?_⟩
   simp only [hs, if_true]
   rw [← L.Ae hs]
   simp
  ·rename_i hs
   have := Af h
   refine ⟨this.1, ?_⟩
   simp only [hs, Bool.false_eq_true, if_false]
   rw [this.2 (.b (if (c.ev e).bool then (a.ev e).bool else (b.ev e).bool)) (by simp [D.ev])]
   rfl
theorem FP {c a b} {g : G} (h : Good T e (Ej c a b g).2) : Good T e g ∧ (Ej c a b g).1.ev e = if (c.ev e).bool then a.ev e else b.ev e := by
 unfold Ej at h ⊢
 split at h
 ·exact ⟨h, by simp⟩
 ·exact ⟨h, by simp⟩
 ·split at h
  ·rename_i hs
   refine ⟨h, ?_⟩
   simp only [hs, if_true]
   rw [← L.Ae hs]
   simp
  ·rename_i hs
   have := Af h
   refine ⟨this.1, ?_⟩
   simp only [hs, Bool.false_eq_true, if_false]
   rw [this.2 (if (c.ev e).bool then a.ev e else b.ev e) (by simp [D.ev])]
theorem Jb {c a b} {g : G} (h : Good T e (JS c a b g).2) : Good T e g ∧ ((JS c a b g).1.ev e).val = if (c.ev e).bool then (a.ev e).val else (b.ev e).val := by
 unfold JS at h ⊢
 split at h
 ·exact ⟨h, by simp⟩
 ·exact ⟨h, by simp⟩
 ·split at h
  ·rename_i hs
   refine ⟨h, ?_⟩
   simp only [hs, if_true]
   rw [← L.Ae hs]
   simp
  ·rename_i hs
   have := Af h
   refine ⟨this.1, ?_⟩
   simp only [hs, Bool.false_eq_true, if_false]
   rw [this.2 (.v (if (c.ev e).bool then (a.ev e).val else (b.ev e).val)) (by simp [D.ev])]
   rfl
theorem IC {g : G} {c : L} (h : Good T e (g.note c)) : Good T e g ∧ (c.ev e).bool = true := by
 unfold G.note at h
 split at h
 ·rename_i hs
  refine ⟨h, ?_⟩
  obtain ⟨x, hx, hxs⟩ := List.any_eq_true.1 hs
  rw [← L.Ae hxs]
  exact h.2.1 x hx
 ·exact ⟨⟨h.1, fun o ho => h.2.1 o (by simp [ho]), h.2.2⟩, h.2.1 _ (by simp)⟩
theorem Al {g : G} {pc c : L} (h : Good T e (g.AT pc c)) : Good T e g ∧ ((pc.ev e).bool = true → (c.ev e).bool = true) := by
 unfold G.AT at h
 split at h
 ·exact ⟨h, fun _ => rfl⟩
 ·exact ⟨h, fun h => by simp at h⟩
 ·exact ⟨(IC h).1, fun _ => (IC h).2⟩
 ·simp only at h
  obtain ⟨h1, h2⟩ := IC h
  have := Af h1
  refine ⟨this.1, fun hp => ?_⟩
  rw [this.2 (.b (!(pc.ev e).bool || (c.ev e).bool)) (by simp [D.ev])] at h2
  simpa [hp] using h2
theorem Gz {x : L} {n : Nat} {g : G} (h : Good T e (MT x n g).2) : Good T e g ∧ (((MT x n g).1.ev e).bool = true ↔ 0 ≤ (x.ev e).int ∧ (x.ev e).int < n) := by
 unfold MT at h ⊢
 simp only at h ⊢
 have h1 := AE h
 have h2 := As h1.1
 have h3 := As h2.1
 refine ⟨h3.1, ?_⟩
 rw [h1.2, h2.2, h3.2, Bool.and_eq_true]
 exact ⟨fun h => ⟨of_decide_eq_true h.1, of_decide_eq_true h.2⟩, fun h => ⟨decide_eq_true h.1, decide_eq_true h.2⟩⟩
theorem CI {x n : L} {g : G} (h : Good T e (HO x n g).2) : Good T e g ∧ (((HO x n g).1.ev e).bool = true ↔ 0 ≤ (x.ev e).int ∧ (x.ev e).int < (n.ev e).int) := by
 unfold HO at h ⊢
 simp only at h ⊢
 have h1 := AE h
 have h2 := As h1.1
 have h3 := As h2.1
 refine ⟨h3.1, ?_⟩
 rw [h1.2, h2.2, h3.2, Bool.and_eq_true]
 exact ⟨fun h => ⟨of_decide_eq_true h.1, of_decide_eq_true h.2⟩, fun h => ⟨decide_eq_true h.1, decide_eq_true h.2⟩⟩
theorem NT {x y pc : L} {g : G} (h : Good T e (Iz x y pc g).2) : Good T e g ∧ (Iz x y pc g).1.ev e = .v (.string ((x.ev e).str ++ (y.ev e).str)) ∧
  ((pc.ev e).bool = true → ((x.ev e).str.size : Int) ≤ 4611686018427387903 ∧ ((y.ev e).str.size : Int) ≤ 4611686018427387903) := by
 unfold Iz at h ⊢
 simp only at h ⊢
 have hz := Af h
 have hm1 := Al hz.1
 have hc1 := As hm1.1
 have hm2 := Al hc1.1
 have hc2 := As hm2.1
 have hl2 := Af hc2.1
 have hl1 := Af hl2.1
 have e1 := hl1.2 (.i ((x.ev e).str.size : Int)) (by simp [D.ev])
 have e2 := hl2.2 (.i ((y.ev e).str.size : Int)) (by simp [D.ev])
 have e3 := hz.2 (.v (.string ((x.ev e).str ++ (y.ev e).str))) (by simp [D.ev])
 refine ⟨hl1.1, e3, fun hpc => ?_⟩
 have b1 := hm2.2 hpc
 rw [hc2.2, e1] at b1
 have b2 := hm1.2 hpc
 rw [hc1.2, e2] at b2
 exact ⟨of_decide_eq_true b1, of_decide_eq_true b2⟩
theorem O5 {op k a b pc} {g : G} (h : Good T e (LQ op k a b pc g).2) : Good T e g ∧ (LQ op k a b pc g).1.ev e = .i (NJ op k (a.ev e).int (b.ev e).int) ∧ ((pc.ev e).bool = true → (0 : Int) ≤ (b.ev e).int) := by
 unfold LQ at h ⊢
 simp only at h ⊢
 have hm := QJ h
 have hmu := Al hm.1
 have hle := As hmu.1
 refine ⟨hle.1, hm.2, fun hpc => ?_⟩
 have h0 := hmu.2 hpc
 rw [hle.2] at h0
 exact of_decide_eq_true h0
theorem Bn : ∀ {gs : List (L × Bool)} {pc : L} {g : G}, Good T e (AG pc gs g).2 →
  Good T e g ∧ (((AG pc gs g).1.ev e).bool = true ↔ (pc.ev e).bool = true ∧ ∀ x ∈ gs, (x.1.ev e).bool = x.2)
 | [], pc, g, h => by simpa [AG] using h
 | (x, t) :: l, pc, g, h => by
  unfold AG at h ⊢
  cases t
  ·simp only [Bool.false_eq_true, if_false] at h ⊢
   have h1 := Bn h
   have h2 := AE h1.1
   have h3 := Bc h2.1
   refine ⟨h3.1, ?_⟩
   rw [h1.2, h2.2, h3.2]
   simp [and_assoc]
  ·simp only [if_true] at h ⊢
   have h1 := Bn h
   have h2 := AE h1.1
   refine ⟨h2.1, ?_⟩
   rw [h1.2, h2.2]
   simp [and_assoc]
end
end Rx
namespace Rx
open Go Go.RowKit
structure Lc where
 blk : Nat
 off : Nat
 cap : Nat
 es : Nat
 v : Value
 emp : Bool
 deriving Inhabited
abbrev Lc.Lh (b o c s : Nat) : Lc := ⟨b, o, c, s, Go.undef, false⟩
def Ak.AZ : Ak → A → Value
 | .int k, a => .int k a.int
 | .bool, a => .bool a.bool
 | .str, a => .string a.str
 | .val, a => E0 a.val
 | .sl _, _ => .slice none 0 0
def Bi (ss : List Ak) (as : List A) : List Value := as.zipIdx.map fun x => (ss.getD (x.2 % ss.length) .bool).AZ x.1
theorem EG {ss : List Ak} {as : List A} (j : Nat) : (Bi ss as)[j]? = as[j]?.map fun a => (ss.getD (j % ss.length) .bool).AZ a := by
 simp only [Bi, List.getElem?_map, List.getElem?_zipIdx, Option.map_map]
 congr 1
 funext a
 simp
theorem BH {ss : List Ak} {as : List A} : (Bi ss as).length = as.length := by simp [Bi]
inductive EH (M : Addr → Option Value) : Ak → A → Value → Prop
 | sc {s : Ak} {a : A} : s.single = true → EH M s a (s.AZ a)
 | emp {ss : List Ak} {b : Option Addr} {c : Nat} : EH M (.sl ss) (.l []) (.slice b 0 c)
 | sl {ss : List Ak} {as : List A} {us : List Value} {b o n c : Nat} : n ≤ c → 0 < ss.length → as.length = n * ss.length → us.length = as.length →
   (∀ (j : Nat) u, us[j]? = some u → M ⟨b, o + j, none⟩ = some u) → (∀ (j : Nat) s a u, ss[j % ss.length]? = some s → as[j]? = some a → us[j]? = some u → EH M s a u) → EH M (.sl ss) (.l as) (.slice (some ⟨b, o, none⟩) n c)
theorem EH.mono {M M' : Addr → Option Value} (h : ∀ a u, M a = some u → M' a = some u) {s : Ak} {a : A} {v : Value} (hf : EH M s a v) : EH M' s a v := by
 induction hf with
 | sc h1 => exact .sc h1
 | emp => exact .emp
 | sl hc h0 h1 h2 h3 _ ih => exact .sl hc h0 h1 h2 (fun j u hu => h _ _ (h3 j u hu)) ih
theorem EH.single {M : Addr → Option Value} {s : Ak} {a : A} {v : Value} (h : EH M s a v) (hs : s.single = true) : v = s.AZ a := by
 cases h with
 | sc => rfl
 | emp => simp [Ak.single] at hs
 | sl => simp [Ak.single] at hs
structure Bd where
 n : Nat
 F : Nat → Prop
def Bd.own (B : Bd) (k : Nat) : Prop := B.n ≤ k ∧ ¬ B.F k
def Bd.le (B : Bd) (w : World) : Prop := B.n ≤ w.heap.size ∧ ∀ k, B.F k → k < w.heap.size
theorem Bd.le.mono {B : Bd} {w w' : World} (h : B.le w) (hs : w.heap.size ≤ w'.heap.size) : B.le w' := ⟨Nat.le_trans h.1 hs, fun k hk => Nat.lt_of_lt_of_le (h.2 k hk) hs⟩
theorem Bd.le.new {B : Bd} {w : World} (h : B.le w) : B.own w.heap.size := ⟨h.1, fun hk => Nat.lt_irrefl _ (h.2 _ hk)⟩
theorem Bd.le.RP {B : Bd} {w : World} (h : B.le w) {k : Nat} (hk : w.heap.size ≤ k) : B.own k := ⟨Nat.le_trans h.1 hk, fun hf => absurd (h.2 _ hf) (by omega)⟩
open Classical in
noncomputable def CJ (F : Nat → Prop) (w : World) (a : Addr) : Option Value := if F a.block then w.cell? a else none
theorem O6 {F : Nat → Prop} {w w' : World} (hw : ∀ k, F k → w'.heap[k]? = w.heap[k]?) : CJ F w' = CJ F w := by
 funext a
 unfold CJ
 split
 ·rename_i h
  exact World.cell?_of_block (w := w) (hw _ h)
 ·rfl
theorem Cp {F : Nat → Prop} {w : World} {a : Addr} {u : Value} (h : CJ F w a = some u) : w.cell? a = some u ∧ F a.block := by
 unfold CJ at h
 split at h
 ·rename_i hf; exact ⟨h, hf⟩
 ·cases h
theorem CS {F : Nat → Prop} {w : World} {a : Addr} {u : Value} (h : w.cell? a = some u) (hf : F a.block) : CJ F w a = some u := by
 unfold CJ
 rw [if_pos hf]
 exact h
theorem GA {F F' : Nat → Prop} {w w' : World} (h : ∀ k, F k → F' k) (hw : ∀ k, F k → w'.heap[k]? = w.heap[k]?) (a : Addr) (u : Value) (ha : CJ F w a = some u) : CJ F' w' a = some u := by
 obtain ⟨h1, h2⟩ := Cp ha
 exact CS ((World.cell?_of_block (w := w) (hw _ h2)).trans h1) (h _ h2)
noncomputable abbrev BO (B : Bd) (w : World) : Addr → Option Value := CJ B.F w
theorem CK {B : Bd} {w w' : World} (hw : ∀ k, B.F k → w'.heap[k]? = w.heap[k]?) : BO B w' = BO B w := O6 hw
abbrev Loc := Nat → Lc
section
variable {T : Nat → List A → Bool × List A} {e : Nat → A}
def K.AZ (e : Nat → A) (loc : Loc) : K → Value
 | .int k x => .int k (x.ev e).int
 | .bool x => .bool (x.ev e).bool
 | .str x => .string (x.ev e).str
 | .val x => E0 (x.ev e).val
 | .ptr r o => .pointer (some ⟨(loc r).blk, (loc r).off + o, none⟩)
 | .sptr r o st _ x => .pointer (some ⟨(loc r).blk, (loc r).off + (o + st * (x.ev e).int.toNat), none⟩)
 | .slc r o n => .slice (some ⟨(loc r).blk, (loc r).off + o * (loc r).es, none⟩) n ((loc r).cap - o)
 | .aslc r o _ n c => .slice (some ⟨(loc r).blk, (loc r).off + o, none⟩) n c
 | .lsl r n => if (loc r).emp then (loc r).v else .slice (some ⟨(loc r).blk, (loc r).off, none⟩) (n.ev e).int.toNat (loc r).cap
 | .fsl r _ => (loc r).v
 | .lptr r o st x _ => .pointer (some ⟨(loc r).blk, (loc r).off + (o + st * (x.ev e).int.toNat), none⟩)
 | .nilslc => .slice none 0 0
 | .nilptr => .pointer none
 | .nilfn => .nilFunc
 | .junk => Go.undef
def K.ok (e : Nat → A) (n : Nat) (loc : Loc) : K → Prop
 | .ptr r _ => r < n
 | .sptr r _ _ num x => r < n ∧ 0 ≤ (x.ev e).int ∧ (x.ev e).int < num
 | .slc r _ _ => r < n
 | .aslc r _ _ _ _ => r < n
 | .lsl r k => r < n ∧ 0 ≤ (k.ev e).int ∧ ((loc r).emp = true → (loc r).v = .slice none 0 0 ∧ (k.ev e).int = 0)
 | .fsl r k => r < n ∧ 0 ≤ (k.ev e).int ∧ ∃ a c, (loc r).v = .slice a (k.ev e).int.toNat c
 | .lptr r _ _ x k => r < n ∧ 0 ≤ (x.ev e).int ∧ (x.ev e).int < (k.ev e).int
 | _ => True
def K.rel (e : Nat → A) (n : Nat) (loc : Loc) (k : K) (v : Value) : Prop :=
 k.ok e n loc ∧ v.oneCell' = true ∧ (k = .junk ∨ v = k.AZ e loc)
def Cc (e : Nat → A) (n : Nat) (loc : Loc) : List K → List Value → Prop
 | [], [] => True
 | k :: l, v :: m => k.rel e n loc v ∧ Cc e n loc l m
 | _, _ => False
def C.rel (e : Nat → A) (n : Nat) (loc : Loc) : C → Value → Prop
 | .k x, v => x.rel e n loc v
 | .clo f a b, v => ∃ va vb : List Value, v = .func (.func f) va.toArray vb.toArray ∧ Cc e n loc a va ∧ Cc e n loc b vb
 | .cfn x f h, v => v = .func (.func (if (x.ev e).bool then f else h)) #[] #[]
def Ag (e : Nat → A) (n : Nat) (loc : Loc) : List C → List Value → Prop
 | [], [] => True
 | k :: l, v :: m => k.rel e n loc v ∧ Ag e n loc l m
 | _, _ => False
def PV.rel (e : Nat → A) (n : Nat) (loc : Loc) : PV → Value → Prop
 | .one c, v => c.rel e n loc v
 | .agg l, v => ∃ vs : List Value, v = .agg vs.toArray ∧ Ag e n loc l vs
def An (e : Nat → A) (n : Nat) (loc : Loc) : List PV → List Value → Prop
 | [], [] => True
 | k :: l, v :: m => k.rel e n loc v ∧ An e n loc l m
 | _, _ => False
def Holds (e : Nat → A) (gs : List (L × Bool)) : Prop := ∀ x ∈ gs, (x.1.ev e).bool = x.2
def SV.rel (e : Nat → A) (n : Nat) (loc : Loc) : SV → Value → Prop
 | .pv p, v => p.rel e n loc v
 | .tup l, v => ∃ vs : List Value, v = .tuple vs.toArray ∧ An e n loc l vs
 | .cond gs p, v => (Holds e gs → p.rel e n loc v) ∧ (¬ Holds e gs → v = Go.undef)
 | .undef, v => v = Go.undef
 | .junk, _ => True
def Ay (n : Nat) (loc loc' : Loc) : Prop := ∀ r, r < n → loc' r = loc r
theorem Ay.refl (n : Nat) (loc : Loc) : Ay n loc loc := fun _ _ => rfl
theorem Ay.trans {n m : Nat} {a b c : Loc} (h : Ay n a b) (k : Ay m b c) (hn : n ≤ m) : Ay n a c :=
 fun r hr => (k r (Nat.lt_of_lt_of_le hr hn)).trans (h r hr)
variable {n n' : Nat} {loc loc' : Loc}
theorem K.Bh {k : K} {v : Value} (h : k.rel e n loc v) (hl : Ay n loc loc') (hn : n ≤ n') : k.rel e n' loc' v := by
 obtain ⟨h1, h2, h3⟩ := h
 refine ⟨?_, h2, ?_⟩
 ·cases k <;> simp only [K.ok] at h1 ⊢ <;> first | trivial | exact h1 | exact Nat.lt_of_lt_of_le h1 hn | exact ⟨Nat.lt_of_lt_of_le h1.1 hn, h1.2⟩ | (rw [hl _ h1.1]; exact ⟨Nat.lt_of_lt_of_le h1.1 hn, h1.2⟩)
 ·rcases h3 with h3 | h3
  ·exact .inl h3
  ·refine .inr ?_
   rw [h3]
   cases k <;> simp only [K.ok] at h1 <;> simp only [K.AZ]
   ·rw [hl _ h1]
   ·rw [hl _ h1.1]
   ·rw [hl _ h1]
   ·rw [hl _ h1]
   ·rw [hl _ h1.1]
   ·rw [hl _ h1.1]
   ·rw [hl _ h1.1]
theorem ID : ∀ {l : List K} {m : List Value}, Cc e n loc l m → Ay n loc loc' → n ≤ n' → Cc e n' loc' l m
 | [], [], _, _, _ => trivial
 | _ :: _, _ :: _, h, hl, hn => ⟨K.Bh h.1 hl hn, ID h.2 hl hn⟩
theorem C.Bh {c : C} {v : Value} (h : c.rel e n loc v) (hl : Ay n loc loc') (hn : n ≤ n') : c.rel e n' loc' v := by
 cases c with
 | k x => exact K.Bh h hl hn
 | clo f a b =>
  obtain ⟨va, vb, h1, h2, h3⟩ := h
  exact ⟨va, vb, h1, ID h2 hl hn, ID h3 hl hn⟩
 | cfn x f h' => exact h
theorem EI : ∀ {l : List C} {m : List Value}, Ag e n loc l m → Ay n loc loc' → n ≤ n' → Ag e n' loc' l m
 | [], [], _, _, _ => trivial
 | _ :: _, _ :: _, h, hl, hn => ⟨C.Bh h.1 hl hn, EI h.2 hl hn⟩
theorem PV.Bh {p : PV} {v : Value} (h : p.rel e n loc v) (hl : Ay n loc loc') (hn : n ≤ n') : p.rel e n' loc' v := by
 cases p with
 | one c => exact C.Bh h hl hn
 | agg l =>
  obtain ⟨vs, h1, h2⟩ := h
  exact ⟨vs, h1, EI h2 hl hn⟩
theorem J5 : ∀ {l : List PV} {m : List Value}, An e n loc l m → Ay n loc loc' → n ≤ n' → An e n' loc' l m
 | [], [], _, _, _ => trivial
 | _ :: _, _ :: _, h, hl, hn => ⟨PV.Bh h.1 hl hn, J5 h.2 hl hn⟩
theorem SV.Bh {p : SV} {v : Value} (h : p.rel e n loc v) (hl : Ay n loc loc') (hn : n ≤ n') : p.rel e n' loc' v := by
 cases p with
 | pv c => exact PV.Bh h hl hn
 | tup l =>
  obtain ⟨vs, h1, h2⟩ := h
  exact ⟨vs, h1, J5 h2 hl hn⟩
 | cond gs p => exact ⟨fun hg => PV.Bh (h.1 hg) hl hn, h.2⟩
 | undef => exact h
 | junk => trivial
theorem AB : ∀ {l : List C} {m : List Value}, Ag e n loc l m → l.length = m.length
 | [], [], _ => rfl
 | _ :: _, _ :: _, h => by simp [AB h.2]
theorem Hp : ∀ {l : List PV} {m : List Value}, An e n loc l m → l.length = m.length
 | [], [], _ => rfl
 | _ :: _, _ :: _, h => by simp [Hp h.2]
theorem Cq : ∀ {l : List C} {m : List Value}, Ag e n loc l m → ∀ {j : Nat} {c : C}, l[j]? = some c → ∃ v, m[j]? = some v ∧ c.rel e n loc v
 | [], [], _, j, c, h => by simp at h
 | a :: l, b :: m, h, 0, c, hc => by simp at hc; subst hc; exact ⟨b, rfl, h.1⟩
 | a :: l, b :: m, h, j + 1, c, hc => by simpa using Cq h.2 (j := j) (by simpa using hc)
theorem Dq : ∀ {l : List C} {m : List Value} {l' : List C} {m' : List Value}, Ag e n loc l m → Ag e n loc l' m' → Ag e n loc (l ++ l') (m ++ m')
 | [], [], _, _, _, h => h
 | _ :: _, _ :: _, _, _, h, h' => ⟨h.1, Dq h.2 h'⟩
theorem E5 : ∀ {l : List C} {m : List Value}, Ag e n loc l m → ∀ k, Ag e n loc (l.take k) (m.take k)
 | [], [], _, k => by simp [Ag]
 | _ :: _, _ :: _, h, 0 => by simp [Ag]
 | _ :: _, _ :: _, h, k + 1 => ⟨h.1, E5 h.2 k⟩
theorem E6 : ∀ {l : List C} {m : List Value}, Ag e n loc l m → ∀ k, Ag e n loc (l.drop k) (m.drop k)
 | [], [], _, k => by simp [Ag]
 | _ :: _, _ :: _, h, 0 => h
 | _ :: _, _ :: _, h, k + 1 => by simpa using E6 h.2 k
theorem EJ : ∀ {l : List C} {m : List Value} {c : C} {v : Value}, Ag e n loc l m → c.rel e n loc v → ∀ k, Ag e n loc (l.set k c) (m.set k v)
 | [], [], _, _, _, _, k => by simp [Ag]
 | _ :: _, _ :: _, _, _, h, hc, 0 => ⟨hc, h.2⟩
 | _ :: _, _ :: _, _, _, h, hc, k + 1 => ⟨h.1, EJ h.2 hc k⟩
theorem A2 {l : List C} {off k : Nat} {r : List C} (h : Cv l off k = some r) : off + k ≤ l.length ∧ r = (l.drop off).take k ∧ r.length = k := by
 unfold Cv at h
 split at h
 ·rename_i h0
  injection h with h
  subst h
  exact ⟨h0, rfl, by simp; omega⟩
 ·cases h
theorem C.JL {c : C} {v : Value} (h : c.rel e n loc v) : v.oneCell' = true := by
 cases c with
 | k x => exact h.2.1
 | clo f a b => obtain ⟨_, _, rfl, _⟩ := h; rfl
 | cfn x f h' => rw [show v = _ from h]; rfl
theorem EK : ∀ {l : List C} {m : List Value}, Ag e n loc l m → ∀ v ∈ m, v.oneCell' = true
 | [], [], _, v, hv => by cases hv
 | _ :: _, b :: m, h, v, hv => by
  rcases List.mem_cons.1 hv with rfl | hv
  ·exact C.JL h.1
  ·exact EK h.2 v hv
theorem QK {v : Value} (h : v.oneCell' = true) : v.cells = #[v] := by
 cases v <;> simp [Value.oneCell'] at h <;> rfl
theorem PV.EL {p : PV} {v : Value} (h : p.rel e n loc v) : ∃ vs, v.cells = vs.toArray ∧ Ag e n loc p.cells vs := by
 cases p with
 | one c => exact ⟨[v], QK (C.JL h), h, trivial⟩
 | agg l => obtain ⟨vs, rfl, h2⟩ := h; exact ⟨vs, rfl, h2⟩
theorem A6 {agg : Bool} {l : List C} {p : PV} (h : C9 agg l = some p) : (agg = true ∧ p = .agg l) ∨ (agg = false ∧ ∃ c, l = [c] ∧ p = .one c) := by
 unfold C9 at h
 cases agg with
 | true => simp at h; exact .inl ⟨rfl, h.symm⟩
 | false =>
  simp only [Bool.false_eq_true, if_false] at h
  split at h
  ·injection h with h; exact .inr ⟨rfl, _, rfl, h.symm⟩
  ·cases h
def Au (e : Nat → A) (n : Nat) (loc : Loc) (w : World) (B : Bd) (r : Nat) (row : Row) : Prop :=
 if row.own = true then
  (loc r).off = 0 ∧ (loc r).es = row.es ∧ B.own (loc r).blk ∧ (loc r).cap ≤ maxLen ∧
   ∃ vs spare : List Value, w.heap[(loc r).blk]? = some (.cells (vs ++ spare).toArray row.ty (0, 0)) ∧ Ag e n loc row.cells vs ∧ (vs ++ spare).length = (loc r).cap * row.es
 else
  row.cells ≠ [] → (loc r).es = row.es ∧ B.F (loc r).blk ∧ ∀ j c, row.cells[j]? = some c → ∃ v, w.cell? ⟨(loc r).blk, (loc r).off + j, none⟩ = some v ∧ c.rel e n loc v
def Bv (M : Addr → Option Value) (ss : List Ak) (as : List A) (us : List Value) : Prop :=
 us.length = as.length ∧ ∀ (j : Nat) s a u, ss[j % ss.length]? = some s → as[j]? = some a → us[j]? = some u → EH M s a u
theorem Bv.mono {M M' : Addr → Option Value} {ss : List Ak} {as : List A} {us : List Value} (h : ∀ a u, M a = some u → M' a = some u) (hd : Bv M ss as us) : Bv M' ss as us :=
 ⟨hd.1, fun j s a u h1 h2 h3 => (hd.2 j s a u h1 h2 h3).mono h⟩
theorem Bv.single {M : Addr → Option Value} {ss : List Ak} {as : List A} {us : List Value} (hs : 0 < ss.length) (hsg : ss.all Ak.single = true) (hd : Bv M ss as us) : us = Bi ss as := by
 apply List.ext_getElem?
 intro j
 rw [EG]
 by_cases hj : j < as.length
 ·have ha : as[j]? = some as[j] := List.getElem?_eq_getElem hj
  have hu : us[j]? = some (us[j]'(by rw [hd.1]; exact hj)) := List.getElem?_eq_getElem _
  have hlt := Nat.mod_lt j hs
  have h1 : ss[j % ss.length]? = some ss[j % ss.length] := List.getElem?_eq_getElem hlt
  have h2 := hd.2 j _ _ _ h1 ha hu
  rw [List.all_eq_true] at hsg
  rw [hu, ha, h2.single (hsg _ (List.getElem_mem hlt))]
  simp [List.getD, h1]
 ·rw [List.getElem?_eq_none (by rw [hd.1]; omega), List.getElem?_eq_none (by omega)]
  rfl
theorem Bv.EM {M : Addr → Option Value} {ss : List Ak} {as : List A} (hs : 0 < ss.length) (hsg : ss.all Ak.single = true) : Bv M ss as (Bi ss as) :=
 ⟨BH, fun j s a u h1 h2 h3 => by
  rw [EG, h2] at h3
  simp only [Option.map_some, Option.some.injEq] at h3
  have h4 : ss.getD (j % ss.length) .bool = s := by simp [List.getD, h1]
  rw [h4] at h3
  subst h3
  rw [List.all_eq_true] at hsg
  exact .sc (hsg _ (List.mem_of_getElem? h1))⟩
theorem Bv.append {M : Addr → Option Value} {ss : List Ak} {as bs : List A} {us vs : List Value} (hm : as.length % ss.length = 0) (h : Bv M ss as us) (h' : Bv M ss bs vs) : Bv M ss (as ++ bs) (us ++ vs) := by
 refine ⟨by simp [h.1, h'.1], fun j s a u h1 h2 h3 => ?_⟩
 by_cases hj : j < as.length
 ·rw [List.getElem?_append_left hj] at h2
  rw [List.getElem?_append_left (by rw [h.1]; exact hj)] at h3
  exact h.2 j s a u h1 h2 h3
 ·rw [List.getElem?_append_right (by omega)] at h2
  rw [List.getElem?_append_right (by rw [h.1]; omega), h.1] at h3
  have : j % ss.length = (j - as.length) % ss.length := by
   conv => lhs; rw [show j = (j - as.length) + as.length by omega]
   rw [Nat.add_mod, hm, Nat.add_zero, Nat.mod_mod]
  rw [this] at h1
  exact h'.2 _ s a u h1 h2 h3
theorem Bv.set {M : Addr → Option Value} {ss : List Ak} {as : List A} {us : List Value} (h : Bv M ss as us) {i : Nat} {s : Ak} {y : A} {v : Value} (hs : ss[i % ss.length]? = some s) (hf : EH M s y v) : Bv M ss (as.set i y) (us.set i v) := by
 refine ⟨by simp [h.1], fun j s' a u h1 h2 h3 => ?_⟩
 rw [List.getElem?_set] at h2 h3
 by_cases hij : i = j
 ·subst hij
  rw [if_pos rfl] at h2 h3
  split at h2
  ·split at h3
   ·injection h2 with h2
    injection h3 with h3
    rw [hs] at h1
    injection h1 with h1
    subst h1 h2 h3
    exact hf
   ·cases h3
  ·cases h2
 ·rw [if_neg hij] at h2 h3
  exact h.2 j s' a u h1 h2 h3
def Be (e : Nat → A) (loc : Loc) (w : World) (B : Bd) (r : Nat) (q : EZ) : Prop :=
 ∃ (as : List A) (m : Nat), q.x.ev e = .l as ∧ as.length = m * q.ss.length ∧ (q.n.ev e).int = m ∧ 0 < q.ss.length ∧
  if q.own = true then
   if (loc r).emp = true then m = 0 ∧ (loc r).v = .slice none 0 0
   else (loc r).off = 0 ∧ B.own (loc r).blk ∧ (loc r).cap ≤ maxLen ∧ ∃ us spare : List Value, w.heap[(loc r).blk]? = some (.cells (us ++ spare).toArray q.ty (0, 0)) ∧ (us ++ spare).length = (loc r).cap * q.ss.length ∧ Bv (BO B w) q.ss as us
  else (∃ a c, (loc r).v = .slice a m c ∧ (m ≠ 0 → a = some ⟨(loc r).blk, (loc r).off, none⟩)) ∧ EH (BO B w) (.sl q.ss) (.l as) (loc r).v
def Bp (loc : Loc) (r : Nat) (x : Row) : Prop := ∃ q, x.lst = some q ∧ q.own = true ∧ (loc r).emp = false
structure Ad (e : Nat → A) (loc : Loc) (rows : List Row) (w : World) (B : Bd) : Prop where
 row : ∀ r x, rows[r]? = some x → Au e rows.length loc w B r x
 lst : ∀ r x q, rows[r]? = some x → x.lst = some q → x.own = false ∧ Be e loc w B r q
 lapart : ∀ (r s : Nat) (x y : Row), rows[r]? = some x → rows[s]? = some y → Bp loc r x → (y.own = true ∨ Bp loc s y ∧ r ≠ s) → (loc r).blk ≠ (loc s).blk
 apart : ∀ (r s : Nat) (x y : Row), rows[r]? = some x → rows[s]? = some y → x.own = true → y.own = true → r ≠ s → (loc r).blk ≠ (loc s).blk
theorem D1 {w : World} {k : Nat} {o : Obj} (h : w.heap[k]? = some o) : k < w.heap.size := (Array.getElem?_eq_some_iff.1 h).1
theorem Be.lt {B : Bd} {r : Nat} {w : World} {q : EZ} (h : Be e loc w B r q) (ho : q.own = true) (he : (loc r).emp = false) : (loc r).blk < w.heap.size ∧ B.own (loc r).blk := by
 obtain ⟨as, m, _, _, _, _, h⟩ := h
 rw [if_pos ho, if_neg (by simp [he])] at h
 obtain ⟨_, h1, _, us, sp, h2, _⟩ := h
 exact ⟨D1 h2, h1⟩
theorem Ad.NU {rows : List Row} {w : World} {B : Bd} (h : Ad e loc rows w B) {r : Nat} {x : Row} (hx : rows[r]? = some x) (ho : Bp loc r x) : (loc r).blk < w.heap.size ∧ B.own (loc r).blk := by
 obtain ⟨q, h1, h2, h3⟩ := ho
 exact (h.lst r x q hx h1).2.lt h2 h3
theorem Be.Iw {B : Bd} {r : Nat} {w w' : World} {q : EZ} (h : Be e loc w B r q) (hw : q.own = true → (loc r).emp = false → w'.heap[(loc r).blk]? = w.heap[(loc r).blk]?)
  (hB : ∀ k, B.F k → w'.heap[k]? = w.heap[k]?) : Be e loc w' B r q := by
 obtain ⟨as, m, h1, h2, h3, h4, h⟩ := h
 refine ⟨as, m, h1, h2, h3, h4, ?_⟩
 split
 ·rename_i ho
  rw [if_pos ho] at h
  split
  ·rename_i he
   rw [if_pos he] at h
   exact h
  ·rename_i he
   rw [if_neg he] at h
   rw [hw ho (by simpa using he), CK hB]
   exact h
 ·rename_i ho
  rw [if_neg ho] at h
  rw [CK hB]
  exact h
theorem Be.frame {B : Bd} {r : Nat} {w w' : World} {q : EZ} (h : Be e loc w B r q) (hB : B.le w) (hw : ∀ k, k < w.heap.size → w'.heap[k]? = w.heap[k]?) : Be e loc w' B r q :=
 h.Iw (fun ho he => hw _ (h.lt ho he).1) (fun k hk => hw k (hB.2 k hk))
theorem Be.at_ {B : Bd} {r s : Nat} {w : World} {q : EZ} (h : Be e loc w B r q) (hl : loc' s = loc r) : Be e loc' w B s q := by
 unfold Be at h ⊢
 rw [hl]
 exact h
theorem Au.frame {B : Bd} {r : Nat} {row : Row} {w w' : World} (h : Au e n loc w B r row) (hB : B.le w)
  (hw : ∀ k, k < w.heap.size → w'.heap[k]? = w.heap[k]?) : Au e n loc w' B r row := by
 unfold Au at h ⊢
 split
 ·rename_i ho
  rw [if_pos ho] at h
  obtain ⟨h1, h2, h3, h4, vs, sp, h5, h6, h7⟩ := h
  exact ⟨h1, h2, h3, h4, vs, sp, (hw _ (D1 h5)).trans h5, h6, h7⟩
 ·rename_i ho
  rw [if_neg ho] at h
  intro hc
  obtain ⟨h1, h2, h3⟩ := h hc
  refine ⟨h1, h2, fun j c hj => ?_⟩
  obtain ⟨v, hv, hr⟩ := h3 j c hj
  exact ⟨v, (World.cell?_of_block (w := w) (hw _ (hB.2 _ h2))).trans hv, hr⟩
theorem Ad.frame {rows : List Row} {B : Bd} {w w' : World} (h : Ad e loc rows w B) (hB : B.le w)
  (hw : ∀ k, k < w.heap.size → w'.heap[k]? = w.heap[k]?) : Ad e loc rows w' B :=
 ⟨fun r x hx => (h.row r x hx).frame hB hw, fun r x q hx hq => ⟨(h.lst r x q hx hq).1, (h.lst r x q hx hq).2.frame hB hw⟩, h.lapart, h.apart⟩
theorem Ad.below {rows : List Row} {B : Bd} {w w' : World} (h : Ad e loc rows w B) (hB : B.le w)
  (hw : Below w.heap.size w w') : Ad e loc rows w' B := h.frame hB hw.block
theorem Au.ext {B : Bd} {r : Nat} {row : Row} {w : World} (h : Au e n loc w B r row) (hr : r < n) (hl : Ay n loc loc') (hn : n ≤ n') : Au e n' loc' w B r row := by
 unfold Au at h ⊢
 rw [hl r hr]
 split
 ·rename_i ho
  rw [if_pos ho] at h
  obtain ⟨h1, h2, h3, h4, vs, sp, h5, h6, h7⟩ := h
  exact ⟨h1, h2, h3, h4, vs, sp, h5, EI h6 hl hn, h7⟩
 ·rename_i ho
  rw [if_neg ho] at h
  intro hc
  obtain ⟨h1, h2, h3⟩ := h hc
  refine ⟨h1, h2, fun j c hj => ?_⟩
  obtain ⟨v, hv, hr⟩ := h3 j c hj
  exact ⟨v, hv, C.Bh hr hl hn⟩
def Az (loc : Loc) (n : Nat) (x : Lc) : Loc := fun r => if r = n then x else loc r
theorem AP (loc : Loc) (n : Nat) (x : Lc) : Ay n loc (Az loc n x) := fun r hr => by simp [Az, Nat.ne_of_lt hr]
theorem Ai (loc : Loc) (n : Nat) (x : Lc) : Az loc n x n = x := by simp [Az]
theorem Ab {α : Type} {l : List α} {r : Nat} {x : α} (h : l[r]? = some x) : r < l.length := by
 rcases Nat.lt_or_ge r l.length with h' | h'
 ·exact h'
 ·rw [List.getElem?_eq_none h'] at h; cases h
theorem Ad.new {rows : List Row} {B : Bd} {w : World} (h : Ad e loc rows w B) (hB : B.le w) {ty es cap : Nat} {cells : List C} {vs spare : List Value}
  {w' : World} {g : Nat} (hg : g = w.heap.size) (hw : ∀ k, k < w.heap.size → w'.heap[k]? = w.heap[k]?) (hn : w'.heap[g]? = some (.cells (vs ++ spare).toArray ty (0, 0)))
  (hc : Ag e rows.length loc cells vs) (hl : (vs ++ spare).length = cap * es) (hm : cap ≤ maxLen) :
  Ad e (Az loc rows.length (.Lh g 0 cap es)) (newRow rows ty es cells) w' B := by
 subst hg
 have hx := AP loc rows.length (.Lh w.heap.size 0 cap es)
 have hlen : (newRow rows ty es cells).length = rows.length + 1 := by simp [newRow]
 have old : ∀ r x, (newRow rows ty es cells)[r]? = some x → r ≠ rows.length → rows[r]? = some x := fun r x hx hne => by
  simp only [newRow, List.getElem?_append] at hx
  split at hx
  ·exact hx
  ·rename_i h0
   have := Ab hx
   simp at this
   omega
 have new : ∀ x, (newRow rows ty es cells)[rows.length]? = some x → x = { own := true, ty, es, cells } := fun x hx => by
  simp [newRow] at hx; exact hx.symm
 have hlt : ∀ r x, rows[r]? = some x → x.own = true → (loc r).blk < w.heap.size := fun r x hr ho => by
  have := h.row r x hr
  unfold Au at this
  rw [if_pos ho] at this
  obtain ⟨_, _, _, _, _, _, h5, _⟩ := this
  exact D1 h5
 have oldl : ∀ (r : Nat) (x : Row) (q : EZ), (newRow rows ty es cells)[r]? = some x → x.lst = some q → rows[r]? = some x := fun r x q hr hq => by
  refine old r x hr fun h0 => ?_
  subst h0
  rw [new x hr] at hq
  cases hq
 refine ⟨fun r x hr => ?_, fun r x q hr hq => ?_, fun r s x y hr hs hox hoy => ?_, fun r s x y hr hs ho ho' hne => ?_⟩
 rotate_left
 ·have hr' := oldl r x q hr hq
  obtain ⟨k1, k2⟩ := h.lst r x q hr' hq
  exact ⟨k1, (k2.frame hB hw).at_ (hx r (Ab hr'))⟩
 ·obtain ⟨q, k1, k2, k3⟩ := hox
  have hr' := oldl r x q hr k1
  rw [hx r (Ab hr')] at k3 ⊢
  have hlo := h.NU hr' ⟨q, k1, k2, k3⟩
  by_cases hsn : s = rows.length
  ·subst hsn
   rw [Ai]
   exact Nat.ne_of_lt hlo.1
  ·have hs' := old s y hs hsn
   have hls := hx s (Ab hs')
   rw [hls]
   refine h.lapart r s x y hr' hs' ⟨q, k1, k2, k3⟩ ?_
   rcases hoy with hoy | ⟨⟨q', m1, m2, m3⟩, hne⟩
   ·exact .inl hoy
   ·exact .inr ⟨⟨q', m1, m2, by rw [← hls]; exact m3⟩, hne⟩
 rotate_left
 ·rw [hlen]
  by_cases hrn : r = rows.length
  ·subst hrn
   rw [new x hr]
   unfold Au
   rw [if_pos rfl, Ai]
   exact ⟨rfl, rfl, hB.new, hm, vs, spare, hn, EI hc hx (by omega), hl⟩
  ·have hr' := old r x hr hrn
   exact ((h.row r x hr').frame hB hw).ext (Ab hr') hx (by omega)
 ·by_cases hrn : r = rows.length
  ·by_cases hsn : s = rows.length
   ·omega
   ·have hs' := old s y hs hsn
    subst hrn
    rw [Ai, hx s (Ab hs')]
    exact Nat.ne_of_gt (hlt s y hs' ho')
  ·have hr' := old r x hr hrn
   rw [hx r (Ab hr')]
   by_cases hsn : s = rows.length
   ·subst hsn
    rw [Ai]
    exact Nat.ne_of_lt (hlt r x hr' ho)
   ·have hs' := old s y hs hsn
    rw [hx s (Ab hs')]
    exact h.apart r s x y hr' hs' ho ho' hne
theorem Ad.write {rows : List Row} {B : Bd} {w w' : World} (h : Ad e loc rows w B) (hB : B.le w) {r : Nat} {row : Row} {cells : List C} {vs spare : List Value}
  (hr : rows[r]? = some row) (ho : row.own = true) (hw : ∀ k, k ≠ (loc r).blk → w'.heap[k]? = w.heap[k]?)
  (hn : w'.heap[(loc r).blk]? = some (.cells (vs ++ spare).toArray row.ty (0, 0))) (hc : Ag e rows.length loc cells vs) (hl : (vs ++ spare).length = (loc r).cap * row.es) :
  Ad e loc (rows.set r { row with cells := cells }) w' B := by
 have hrow := h.row r row hr
 unfold Au at hrow
 rw [if_pos ho] at hrow
 obtain ⟨h1, h2, h3, h4, _⟩ := hrow
 have hlt := Ab hr
 have other : ∀ s y, (rows.set r { row with cells := cells })[s]? = some y → s ≠ r → rows[s]? = some y := fun s y hs hne => by
  rwa [List.getElem?_set_ne (Ne.symm hne)] at hs
 have same : ∀ y, (rows.set r { row with cells := cells })[r]? = some y → y = { row with cells := cells } := fun y hy => by
  rw [List.getElem?_set_self hlt] at hy; injection hy with hy; exact hy.symm
 have hlst : row.lst = none := by
  cases hq : row.lst with
  | none => rfl
  | some q => have := (h.lst r row q hr hq).1; rw [ho] at this; cases this
 have otherl : ∀ (s : Nat) (y : Row) (q : EZ), (rows.set r { row with cells := cells })[s]? = some y → y.lst = some q → s ≠ r ∧ rows[s]? = some y := fun s y q hs hq => by
  have hne : s ≠ r := fun h0 => by
   subst h0
   rw [same y hs] at hq
   simp only at hq
   rw [hlst] at hq
   cases hq
  exact ⟨hne, other s y hs hne⟩
 have rowlt : (loc r).blk < w.heap.size := by
  have hrow := h.row r row hr
  unfold Au at hrow
  rw [if_pos ho] at hrow
  obtain ⟨_, _, _, _, _, _, h5, _⟩ := hrow
  exact D1 h5
 refine ⟨fun s y hs => ?_, fun s y q hs hq => ?_, fun s t x y hs ht ox oy => ?_, fun s t x y hs ht ox oy hne => ?_⟩
 rotate_left
 ·obtain ⟨hne, hs'⟩ := otherl s y q hs hq
  obtain ⟨k1, k2⟩ := h.lst s y q hs' hq
  refine ⟨k1, k2.Iw (fun h1 h2 => hw _ (h.lapart s r y row hs' hr ⟨q, hq, h1, h2⟩ (.inl ho))) (fun k hk => hw _ (fun h0 => h3.2 (h0 ▸ hk)))⟩
 ·obtain ⟨q, k1, k2, k3⟩ := ox
  obtain ⟨hne, hs'⟩ := otherl s x q hs k1
  by_cases htr : t = r
  ·subst htr
   exact h.lapart s t x row hs' hr ⟨q, k1, k2, k3⟩ (.inl ho)
  ·exact h.lapart s t x y hs' (other t y ht htr) ⟨q, k1, k2, k3⟩ oy
 rotate_left
 ·rw [List.length_set]
  by_cases hsr : s = r
  ·subst hsr
   rw [same y hs]
   unfold Au
   rw [if_pos ho]
   exact ⟨h1, h2, h3, h4, vs, spare, hn, hc, hl⟩
  ·have hs' := other s y hs hsr
   have hy := h.row s y hs'
   unfold Au at hy ⊢
   split
   ·rename_i oy
    rw [if_pos oy] at hy
    obtain ⟨a1, a2, a3, a4, vs', sp', a5, a6, a7⟩ := hy
    exact ⟨a1, a2, a3, a4, vs', sp', (hw _ (h.apart s r y row hs' hr oy ho hsr)).trans a5, a6, a7⟩
   ·rename_i oy
    rw [if_neg oy] at hy
    intro hc'
    obtain ⟨a1, a2, a3⟩ := hy hc'
    refine ⟨a1, a2, fun j c hj => ?_⟩
    obtain ⟨v, hv, hvr⟩ := a3 j c hj
    exact ⟨v, (World.cell?_of_block (w := w) (hw _ (fun h0 => h3.2 (h0 ▸ a2)))).trans hv, hvr⟩
 ·have : ∀ (s : Nat) (x : Row), (rows.set r { row with cells := cells })[s]? = some x → x.own = true → ∃ x' : Row, rows[s]? = some x' ∧ x'.own = true := fun s x hs ox => by
   by_cases hsr : s = r
   ·subst hsr; exact ⟨row, hr, ho⟩
   ·exact ⟨x, other s x hs hsr, ox⟩
  obtain ⟨x', hx', ox'⟩ := this s x hs ox
  obtain ⟨y', hy', oy'⟩ := this t y ht oy
  exact h.apart s t x' y' hx' hy' ox' oy' hne
theorem Ad.kill {rows : List Row} {B : Bd} {w : World} (h : Ad e loc rows w B) (r : Nat) : Ad e loc (rows.set r Row.dead) w B := by
 have other : ∀ s y, (rows.set r Row.dead)[s]? = some y → y = Row.dead ∨ rows[s]? = some y := fun s y hs => by
  by_cases hsr : s = r
  ·subst hsr
   by_cases hl : s < rows.length
   ·rw [List.getElem?_set_self hl] at hs; injection hs with hs; exact .inl hs.symm
   ·rw [List.getElem?_eq_none (by simp; omega)] at hs; cases hs
  ·exact .inr (by rwa [List.getElem?_set_ne (Ne.symm hsr)] at hs)
 refine ⟨fun s y hs => ?_, fun s y q hs hq => ?_, fun s t x y hs ht ox oy => ?_, fun s t x y hs ht ox oy hne => ?_⟩
 rotate_left
 ·rcases other s y hs with rfl | hs'
  ·simp [Row.dead] at hq
  ·exact h.lst s y q hs' hq
 ·rcases other s x hs with rfl | hs'
  ·obtain ⟨q, k1, _⟩ := ox
   simp [Row.dead] at k1
  ·rcases other t y ht with rfl | ht'
   ·rcases oy with oy | ⟨⟨q, k1, _⟩, _⟩
    ·simp [Row.dead] at oy
    ·simp [Row.dead] at k1
   ·exact h.lapart s t x y hs' ht' ox oy
 rotate_left
 ·rw [List.length_set]
  rcases other s y hs with rfl | hs'
  ·unfold Au; simp [Row.dead]
  ·exact h.row s y hs'
 ·rcases other s x hs with rfl | hs'
  ·simp [Row.dead] at ox
  ·rcases other t y ht with rfl | ht'
   ·simp [Row.dead] at oy
   ·exact h.apart s t x y hs' ht' ox oy hne
theorem Ad.NV {rows : List Row} {B : Bd} {w : World} (h : Ad e loc rows w B) {F : Nat → Prop} (hF : ∀ k, B.F k → F k)
  (hA : ∀ (r : Nat) x, rows[r]? = some x → (x.own = true ∨ Bp loc r x) → ¬ F (loc r).blk) : Ad e loc rows w ⟨B.n, F⟩ := by
 have hm : ∀ a u, BO B w a = some u → BO ⟨B.n, F⟩ w a = some u := GA hF fun _ _ => rfl
 refine ⟨fun r x hx => ?_, fun r x q hx hq => ⟨(h.lst r x q hx hq).1, ?_⟩, h.lapart, h.apart⟩
 ·have := h.row r x hx
  unfold Au at this ⊢
  split
  ·rename_i ho
   rw [if_pos ho] at this
   obtain ⟨h1, h2, h3, h4⟩ := this
   exact ⟨h1, h2, ⟨h3.1, hA r x hx (.inl ho)⟩, h4⟩
  ·rename_i ho
   rw [if_neg ho] at this
   intro hc
   obtain ⟨h1, h2, h3⟩ := this hc
   exact ⟨h1, hF _ h2, h3⟩
 ·obtain ⟨as, m, h1, h2, h3, h4, h5⟩ := (h.lst r x q hx hq).2
  refine ⟨as, m, h1, h2, h3, h4, ?_⟩
  split
  ·rename_i ho
   rw [if_pos ho] at h5
   split
   ·rename_i he
    rw [if_pos he] at h5
    exact h5
   ·rename_i he
    rw [if_neg he] at h5
    obtain ⟨g1, g2, g3, us, sp, g4, g5, g6⟩ := h5
    exact ⟨g1, ⟨g2.1, hA r x hx (.inr ⟨q, hq, ho, by simpa using he⟩)⟩, g3, us, sp, g4, g5, g6.mono hm⟩
  ·rename_i ho
   rw [if_neg ho] at h5
   exact ⟨h5.1, h5.2.mono hm⟩
end
end Rx
namespace Rx
open Go Go.RowKit
section
variable {T : Nat → List A → Bool × List A} {e : Nat → A} {n n' : Nat} {loc loc' : Loc}
structure Am (e : Nat → A) (n : Nat) (loc : Loc) (fr : List SV) (tm : Array Value) : Prop where
 len : fr.length ≤ tm.size
 at_ : ∀ (i : Nat) (s : SV) (v : Value), fr[i]? = some s → tm[i]? = some v → s.rel e n loc v
theorem Am.ext {fr : List SV} {tm : Array Value} (h : Am e n loc fr tm) (hl : Ay n loc loc') (hn : n ≤ n') : Am e n' loc' fr tm :=
 ⟨h.len, fun i s v hs hv => SV.Bh (h.at_ i s v hs hv) hl hn⟩
theorem Am.get {fr : List SV} {tm : Array Value} (h : Am e n loc fr tm) {i : Nat} {s : SV} (hs : fr[i]? = some s) : ∃ v, tm[i]? = some v ∧ tm.getD i Go.undef = v ∧ s.rel e n loc v := by
 have hi : i < tm.size := Nat.lt_of_lt_of_le (Ab hs) h.len
 refine ⟨tm[i], by simp [hi], by simp [hi], h.at_ i s _ hs (by simp [hi])⟩
theorem Am.put {fr : List SV} {a : Act} (h : Am e n loc fr a.tmps) {s : SV} {v : Value} (hs : s.rel e n loc v) (d : Option Nat) : Am e n loc (OY fr d s) (a.put d v).tmps := by
 cases d with
 | none => exact h
 | some d =>
  refine ⟨by simpa [OY, Act.put] using h.len, fun i t u ht hu => ?_⟩
  simp only [OY, Act.put] at ht hu
  by_cases hid : d = i
  ·subst hid
   have hlt : d < fr.length := by have := Ab ht; simpa using this
   rw [List.getElem?_set_self hlt] at ht
   rw [Array.getElem?_setIfInBounds_self_of_lt (Nat.lt_of_lt_of_le hlt h.len)] at hu
   injection ht with ht
   injection hu with hu
   subst ht hu
   exact hs
  ·rw [List.getElem?_set_ne hid] at ht
   rw [Array.getElem?_setIfInBounds_ne hid] at hu
   exact h.at_ i t u ht hu
theorem J6 {g : L × Bool} : ∀ {gs : List (L × Bool)}, Rr g gs = true → Holds e gs → (g.1.ev e).bool = g.2
 | [], h, _ => by simp [Rr] at h
 | x :: l, h, hg => by
  simp only [Rr, Bool.or_eq_true, Bool.and_eq_true, beq_iff_eq] at h
  rcases h with ⟨h1, h2⟩ | h
  ·rw [L.Ae h1, h2]; exact hg x (by simp)
  ·exact J6 h (fun y hy => hg y (by simp [hy]))
theorem Hq : ∀ {hs gs : List (L × Bool)}, Rs hs gs = true → Holds e gs → Holds e hs
 | [], _, _, _ => fun x hx => by cases hx
 | x :: l, gs, h, hg => by
  simp only [Rs, Bool.and_eq_true] at h
  intro y hy
  rcases List.mem_cons.1 hy with rfl | hy
  ·exact J6 h.1 hg
  ·exact Hq h.2 hg y hy
theorem Hr {fr : List SV} {tm : Array Value} {gs : List (L × Bool)} {t : Nat} {p : PV} (h : slot fr gs t = some p) (hf : Am e n loc fr tm) (hg : Holds e gs) : p.rel e n loc (tm.getD t Go.undef) := by
 unfold slot at h
 split at h
 ·rename_i q hq
  injection h with h; subst h
  obtain ⟨v, _, hv, hr⟩ := hf.get hq
  rw [hv]; exact hr
 ·rename_i hs q hq
  split at h
  ·rename_i hsub
   injection h with h; subst h
   obtain ⟨v, _, hv, hr⟩ := hf.get hq
   rw [hv]; exact hr.1 (Hq hsub hg)
  ·cases h
 ·cases h
theorem HU {v : Value} {c : C} (h : MN v = some c) : c.rel e n loc v := by
 unfold MN at h
 split at h <;> first | (injection h with h; subst h) | cases h
 all_goals (refine ⟨?_, ?_, .inr ?_⟩ <;> first | trivial | rfl)
theorem GQ : ∀ {vs : List Value} {cs : List C}, HI vs = some cs → Ag e n loc cs vs
 | [], cs, h => by simp [HI] at h; subst h; trivial
 | v :: l, cs, h => by
  simp only [HI, Option.bind_eq_bind, Option.bind_eq_some_iff, Option.some.injEq] at h
  obtain ⟨c, hc, r, hr, rfl⟩ := h
  exact ⟨HU hc, GQ hr⟩
theorem Li {v : Value} {p : PV} (h : MO v = some p) : p.rel e n loc v := by
 unfold MO at h
 split at h
 ·rename_i cs
  simp only [Option.map_eq_some_iff] at h
  obtain ⟨l, hl, rfl⟩ := h
  exact ⟨cs.toList, by simp, GQ hl⟩
 ·simp only [Option.map_eq_some_iff] at h
  obtain ⟨c, hc, rfl⟩ := h
  exact HU hc
theorem Aa {fr : List SV} {a : Act} {gs : List (L × Bool)} {x : Operand} {p : PV} (h : Cu fr gs x = some p) (hf : Am e n loc fr a.tmps) (hg : Holds e gs) : p.rel e n loc (a.eval x) := by
 cases x with
 | tmp t => exact Hr h hf hg
 | const v => exact Li h
 | func f =>
  simp only [Cu, Option.some.injEq] at h
  subst h
  exact ⟨[], [], rfl, trivial, trivial⟩
 | global g => cases h
theorem E7 {fr : List SV} {a : Act} {gs : List (L × Bool)} : ∀ {xs : List Operand} {ps : List PV}, Lb fr gs xs = some ps → Am e n loc fr a.tmps → Holds e gs → An e n loc ps (xs.map a.eval)
 | [], ps, h, _, _ => by simp [Lb] at h; subst h; trivial
 | x :: l, ps, h, hf, hg => by
  simp only [Lb, Option.bind_eq_bind, Option.bind_eq_some_iff, Option.some.injEq] at h
  obtain ⟨p, hp, r, hr, rfl⟩ := h
  exact ⟨Aa hp hf hg, E7 hr hf hg⟩
theorem AY {a b : IntKind} (h : BT a b = true) : a = b := by simpa [BT] using h
mutual
theorem Ak.Ae : ∀ {a b : Ak}, a.same b = true → a = b
 | .int a, .int b, h => congrArg Ak.int (AY (by simpa [Ak.same] using h))
 | .bool, .bool, _ => rfl
 | .val, .val, _ => rfl
 | .str, .str, _ => rfl
 | .sl a, .sl b, h => congrArg Ak.sl (Bw (by simpa [Ak.same] using h))
 | .int _, .bool, h | .int _, .str, h | .int _, .val, h | .int _, .sl _, h | .bool, .int _, h | .bool, .str, h | .bool, .val, h | .bool, .sl _, h
 | .str, .int _, h | .str, .bool, h | .str, .val, h | .str, .sl _, h | .val, .int _, h | .val, .bool, h | .val, .str, h | .val, .sl _, h
 | .sl _, .int _, h | .sl _, .bool, h | .sl _, .str, h | .sl _, .val, h => by simp [Ak.same] at h
theorem Bw : ∀ {a b : List Ak}, BG a b = true → a = b
 | [], [], _ => rfl
 | [], _ :: _, h => by simp [BG] at h
 | _ :: _, [], h => by simp [BG] at h
 | a :: l, b :: m, h => by
  simp only [BG, Bool.and_eq_true] at h
  have h1 : a = b := Ak.Ae h.1
  have h2 : l = m := Bw h.2
  rw [h1, h2]
end
theorem K.Ae {a b : K} (h : a.same b = true) : a = b := by
 cases a <;> cases b <;> simp [K.same] at h
 ·rw [AY h.1, L.Ae h.2]
 ·rw [L.Ae h]
 ·rw [L.Ae h]
 ·rw [L.Ae h]
 ·rw [h.1, h.2]
 ·obtain ⟨⟨⟨⟨h1, h2⟩, h3⟩, h4⟩, h5⟩ := h
  rw [h1, h2, h3, h4, L.Ae h5]
 ·rw [h.1.1, h.1.2, h.2]
 ·obtain ⟨⟨⟨⟨h1, h2⟩, h3⟩, h4⟩, h5⟩ := h
  rw [h1, h2, h3, h4, h5]
 ·rw [h.1, L.Ae h.2]
 ·rw [h.1, L.Ae h.2]
 ·obtain ⟨⟨⟨⟨h1, h2⟩, h3⟩, h4⟩, h5⟩ := h
  rw [h1, h2, h3, L.Ae h4, L.Ae h5]
 all_goals rfl
theorem GB : ∀ {a b : List K}, FH a b = true → a = b
 | [], [], _ => rfl
 | [], _ :: _, h => by simp [FH] at h
 | _ :: _, [], h => by simp [FH] at h
 | a :: l, b :: m, h => by
  simp only [FH, Bool.and_eq_true] at h
  rw [K.Ae h.1, GB h.2]
theorem C.Ae {a b : C} (h : a.same b = true) : a = b := by
 cases a <;> cases b <;> simp [C.same] at h
 ·rw [K.Ae h]
 ·rw [h.1.1, GB h.1.2, GB h.2]
 ·rw [L.Ae h.1.1, h.1.2, h.2]
def pick {α : Type} (t : Bool) (a b : α) : α := if t then a else b
theorem K.BI {k : K} {v : Value} (h : k.rel e n loc v) : K.junk.rel e n loc v := ⟨trivial, h.2.1, .inl rfl⟩
theorem C.BI {c : C} {v : Value} (h : c.rel e n loc v) : (C.k .junk).rel e n loc v := ⟨trivial, C.JL h, .inl rfl⟩
theorem NW {c : L} {a b : K} {g : G} (h : Good T e (MP c a b g).2) :
  Good T e g ∧ ∀ n loc v, (pick (c.ev e).bool a b).rel e n loc v → (MP c a b g).1.rel e n loc v := by
 unfold MP at h ⊢
 split at h
 ·rename_i k x k' y
  split at h
  ·rename_i hk
   simp only [hk, if_true] at h ⊢
   have := Co h
   refine ⟨this.1, fun n loc v hv => ?_⟩
   have hk' := AY hk
   subst hk'
   cases hc : (c.ev e).bool <;> simp only [pick, hc, if_true, if_false, Bool.false_eq_true] at hv
   all_goals
    obtain ⟨h1, h2, h3⟩ := hv
    have h3 := h3.resolve_left (by simp)
    refine ⟨trivial, h2, .inr ?_⟩
    rw [h3]
    simp only [K.AZ]
    rw [this.2]
    simp [hc]
  ·rename_i hk
   simp only [hk, Bool.false_eq_true, if_false] at h ⊢
   exact ⟨h, fun n loc v hv => K.BI hv⟩
 ·rename_i x y
  simp only at h ⊢
  have := C3 h
  refine ⟨this.1, fun n loc v hv => ?_⟩
  cases hc : (c.ev e).bool <;> simp only [pick, hc, if_true, if_false, Bool.false_eq_true] at hv
  all_goals
   obtain ⟨h1, h2, h3⟩ := hv
   have h3 := h3.resolve_left (by simp)
   refine ⟨trivial, h2, .inr ?_⟩
   rw [h3]
   simp only [K.AZ]
   rw [this.2]
   simp [hc]
 ·rename_i x y
  simp only at h ⊢
  have := Jb h
  refine ⟨this.1, fun n loc v hv => ?_⟩
  cases hc : (c.ev e).bool <;> simp only [pick, hc, if_true, if_false, Bool.false_eq_true] at hv
  all_goals
   obtain ⟨h1, h2, h3⟩ := hv
   have h3 := h3.resolve_left (by simp)
   refine ⟨trivial, h2, .inr ?_⟩
   rw [h3]
   simp only [K.AZ, A.str]
   rw [this.2]
   simp [hc]
 ·rename_i x y
  simp only at h ⊢
  have := Jb h
  refine ⟨this.1, fun n loc v hv => ?_⟩
  cases hc : (c.ev e).bool <;> simp only [pick, hc, if_true, if_false, Bool.false_eq_true] at hv
  all_goals
   obtain ⟨h1, h2, h3⟩ := hv
   have h3 := h3.resolve_left (by simp)
   refine ⟨trivial, h2, .inr ?_⟩
   rw [h3]
   simp only [K.AZ]
   rw [this.2]
   simp [hc]
 ·rename_i r k r' k'
  split at h
  ·rename_i hs
   have hs' : r = r' := by simpa using hs
   subst hs'
   simp only [hs, if_true] at h ⊢
   have := Co h
   refine ⟨this.1, fun n loc v hv => ?_⟩
   cases hc : (c.ev e).bool <;> simp only [pick, hc, if_true, if_false, Bool.false_eq_true] at hv
   all_goals
    obtain ⟨h1, h2, h3⟩ := hv
    have h3 := h3.resolve_left (by simp)
    have hi := this.2
    simp only [hc, if_true, if_false, Bool.false_eq_true] at hi
    refine ⟨?_, h2, .inr ?_⟩
    ·simp only [K.ok] at h1 ⊢
     rw [hi]
     exact h1
    ·rw [h3]
     simp only [K.AZ]
     rw [hi]
  ·rename_i hs
   simp only [hs, Bool.false_eq_true, if_false] at h ⊢
   exact ⟨h, fun n loc v hv => K.BI hv⟩
 ·rename_i r k r' k'
  split at h
  ·rename_i hs
   have hs' : r = r' := by simpa using hs
   subst hs'
   simp only [hs, if_true] at h ⊢
   have := Co h
   refine ⟨this.1, fun n loc v hv => ?_⟩
   cases hc : (c.ev e).bool <;> simp only [pick, hc, if_true, if_false, Bool.false_eq_true] at hv
   all_goals
    obtain ⟨h1, h2, h3⟩ := hv
    have h3 := h3.resolve_left (by simp)
    have hi := this.2
    simp only [hc, if_true, if_false, Bool.false_eq_true] at hi
    refine ⟨?_, h2, .inr ?_⟩
    ·simp only [K.ok] at h1 ⊢
     rw [hi]
     exact h1
    ·rw [h3]
     simp only [K.AZ]
  ·rename_i hs
   simp only [hs, Bool.false_eq_true, if_false] at h ⊢
   exact ⟨h, fun n loc v hv => K.BI hv⟩
 ·split at h
  ·rename_i hs
   simp only [hs, if_true] at h ⊢
   refine ⟨h, fun n loc v hv => ?_⟩
   rw [← K.Ae hs] at hv
   simpa [pick] using hv
  ·rename_i hs
   simp only [hs, Bool.false_eq_true, if_false] at h ⊢
   exact ⟨h, fun n loc v hv => K.BI hv⟩
theorem Cr {c : L} {a b : C} {g : G} (h : Good T e (FI c a b g).2) :
  Good T e g ∧ ∀ n loc v, (pick (c.ev e).bool a b).rel e n loc v → (FI c a b g).1.rel e n loc v := by
 unfold FI at h ⊢
 split at h
 ·simp only at h ⊢
  have := NW h
  refine ⟨this.1, fun n loc v hv => this.2 n loc v ?_⟩
  cases hc : (c.ev e).bool <;> simp only [pick, hc, if_true, if_false, Bool.false_eq_true] at hv ⊢ <;> exact hv
 ·split at h
  ·rename_i hs
   simp only [hs, if_true] at h ⊢
   refine ⟨h, fun n loc v hv => ?_⟩
   have hs := eq_of_beq hs
   subst hs
   simpa [pick] using hv
  ·rename_i hs
   simp only [hs, Bool.false_eq_true, if_false] at h ⊢
   refine ⟨h, fun n loc v hv => ?_⟩
   show v = _
   cases hc : (c.ev e).bool
   ·simp only [pick, hc, if_false, Bool.false_eq_true] at hv ⊢
    obtain ⟨va, vb, rfl, h1, h2⟩ := hv
    cases va <;> cases vb <;> first | rfl | exact h1.elim | exact h2.elim
   ·simp only [pick, hc, if_true] at hv ⊢
    obtain ⟨va, vb, rfl, h1, h2⟩ := hv
    cases va <;> cases vb <;> first | rfl | exact h1.elim | exact h2.elim
 ·split at h
  ·rename_i hs
   simp only [hs, if_true] at h ⊢
   refine ⟨h, fun n loc v hv => ?_⟩
   rw [← C.Ae hs] at hv
   simpa [pick] using hv
  ·rename_i hs
   simp only [hs, Bool.false_eq_true, if_false] at h ⊢
   exact ⟨h, fun n loc v hv => C.BI hv⟩
theorem Dr {c : L} : ∀ {a b : List C} {g : G}, a.length = b.length → Good T e (AO c a b g).2 →
  Good T e g ∧ ∀ n loc vs, Ag e n loc (pick (c.ev e).bool a b) vs → Ag e n loc (AO c a b g).1 vs
 | [], [], g, _, h => ⟨h, fun n loc vs hv => by cases hc : (c.ev e).bool <;> simpa [pick, hc, AO] using hv⟩
 | a :: l, b :: m, g, hl, h => by
  unfold AO at h ⊢
  simp only at h ⊢
  have h2 := Dr (by simpa using hl) h
  have h1 := Cr h2.1
  refine ⟨h1.1, fun n loc vs hv => ?_⟩
  cases hc : (c.ev e).bool <;> simp only [pick, hc, if_true, if_false, Bool.false_eq_true] at hv <;> (cases vs with
   | nil => exact hv.elim
   | cons v vs => exact ⟨h1.2 n loc v (by simp only [pick, hc, if_true, if_false, Bool.false_eq_true]; exact hv.1), h2.2 n loc vs (by simp only [pick, hc, if_true, if_false, Bool.false_eq_true]; exact hv.2)⟩)
 | [], _ :: _, _, hl, _ => by simp at hl
 | _ :: _, [], _, hl, _ => by simp at hl
theorem M9 {c : L} {a b : SV} {g : G} (h : Good T e (JF c a b g).2) :
  Good T e g ∧ ∀ n loc v, (pick (c.ev e).bool a b).rel e n loc v → (JF c a b g).1.rel e n loc v := by
 unfold JF at h ⊢
 split at h
 ·simp only at h ⊢
  have := Cr h
  refine ⟨this.1, fun n loc v hv => this.2 n loc v ?_⟩
  cases hc : (c.ev e).bool <;> simpa [pick, hc, SV.rel, PV.rel] using hv
 ·split at h
  ·rename_i hl
   simp only [hl, if_true] at h ⊢
   have := Dr (by simpa using hl) h
   refine ⟨this.1, fun n loc v hv => ?_⟩
   cases hc : (c.ev e).bool <;> simp only [pick, hc, if_true, if_false, Bool.false_eq_true, SV.rel, PV.rel] at hv <;> obtain ⟨vs, h1, h2⟩ := hv
   all_goals exact ⟨vs, h1, this.2 n loc vs (by simpa [pick, hc] using h2)⟩
  ·rename_i hl
   simp only [hl, Bool.false_eq_true, if_false] at h ⊢
   exact ⟨h, fun n loc v hv => trivial⟩
 ·simp only at h ⊢
  exact ⟨h, fun n loc v hv => by cases hc : (c.ev e).bool <;> simpa [pick, hc] using hv⟩
 ·exact ⟨h, fun n loc v hv => trivial⟩
theorem Ds {c : L} : ∀ {a b : List SV} {g : G}, Good T e (AU c a b g).2 →
  Good T e g ∧ (AU c a b g).1.length ≤ a.length ∧ (AU c a b g).1.length ≤ b.length ∧
   ∀ n loc (i : Nat) s v, (pick (c.ev e).bool a b)[i]? = some s → s.rel e n loc v → ∀ s', (AU c a b g).1[i]? = some s' → s'.rel e n loc v
 | [], b, g, h => ⟨h, by simp [AU], by simp [AU], fun n loc i s v h1 _ s' h2 => by simp [AU] at h2⟩
 | a :: l, b :: m, g, h => by
  unfold AU at h ⊢
  simp only at h ⊢
  have h2 := Ds h
  have h1 := M9 h2.1
  obtain ⟨_, l1, l2, h3⟩ := h2
  refine ⟨h1.1, by simpa using l1, by simpa using l2, fun n loc i s v hs hv s' hs' => ?_⟩
  cases i with
  | zero =>
   simp only [List.getElem?_cons_zero, Option.some.injEq] at hs'
   subst hs'
   refine h1.2 n loc v ?_
   cases hc : (c.ev e).bool <;> simp [pick, hc] at hs ⊢ <;> subst hs <;> exact hv
  | succ i =>
   refine h3 n loc i s v ?_ hv s' (by simpa using hs')
   cases hc : (c.ev e).bool <;> simpa [pick, hc] using hs
 | _ :: _, [], g, h => ⟨h, by simp [AU], by simp [AU], fun n loc i s v h1 _ s' h2 => by simp [AU] at h2⟩
theorem Am.merge {c : L} {a b : List SV} {g : G} {tm : Array Value} (h : Good T e (AU c a b g).2)
  (hf : Am e n loc (pick (c.ev e).bool a b) tm) : Am e n loc (AU c a b g).1 tm := by
 obtain ⟨_, l1, l2, h1⟩ := Ds h
 have hlp : (AU c a b g).1.length ≤ (pick (c.ev e).bool a b).length := by cases hc : (c.ev e).bool <;> simpa [pick, hc]
 refine ⟨Nat.le_trans hlp hf.len, fun i s v hs hv => ?_⟩
 have hi : i < (pick (c.ev e).bool a b).length := Nat.lt_of_lt_of_le (Ab hs) hlp
 have hp : (pick (c.ev e).bool a b)[i]? = some ((pick (c.ev e).bool a b)[i]) := List.getElem?_eq_getElem hi
 exact h1 n loc i _ v hp (hf.at_ i _ v hp hv) s hs
theorem J7 {c : L} : ∀ {a b : List C} {g : G}, Good T e (AO c a b g).2 →
   ∀ n loc (i : Nat) s v, (pick (c.ev e).bool a b)[i]? = some s → s.rel e n loc v → ∀ s', (AO c a b g).1[i]? = some s' → s'.rel e n loc v
 | [], b, g, _ => fun n loc i s v h1 _ s' h2 => by simp [AO] at h2
 | a :: l, b :: m, g, h => by
  unfold AO at h ⊢
  simp only at h ⊢
  have h3 := J7 h
  have hg : ∀ {a b : List C} {g : G}, Good T e (AO c a b g).2 → Good T e g := by
   intro a
   induction a with
   | nil => intro b g h; simpa [AO] using h
   | cons x l ih =>
    intro b g h
    cases b with
    | nil => simpa [AO] using h
    | cons y m =>
     unfold AO at h
     simp only at h
     exact (Cr (ih h)).1
  have h1 := Cr (hg h)
  intro n loc i s v hs hv s' hs'
  cases i with
  | zero =>
   simp only [List.getElem?_cons_zero, Option.some.injEq] at hs'
   subst hs'
   refine h1.2 n loc v ?_
   cases hc : (c.ev e).bool <;> simp [pick, hc] at hs ⊢ <;> subst hs <;> exact hv
  | succ i =>
   refine h3 n loc i s v ?_ hv s' (by simpa using hs')
   cases hc : (c.ev e).bool <;> simpa [pick, hc] using hs
 | _ :: _, [], g, _ => fun n loc i s v h1 _ s' h2 => by simp [AO] at h2
theorem Jc {c : L} : ∀ {a b : List C} {g : G}, (AO c a b g).1.length ≤ a.length ∧ (AO c a b g).1.length ≤ b.length
 | [], b, g => by simp [AO]
 | a :: l, b :: m, g => by unfold AO; simp only [List.length_cons]; have := @Jc c l m (FI c a b g).2; omega
 | _ :: _, [], g => by simp [AO]
theorem Row.Na {w : World} {B : Bd} {r : Nat} : Au e n loc w B r Row.dead := by unfold Au; simp [Row.dead]
def UY (e : Nat → A) (p q : EZ) : Prop := p.own = q.own ∧ p.ty = q.ty ∧ p.ss = q.ss ∧ p.x.ev e = q.x.ev e ∧ (p.n.ev e).int = (q.n.ev e).int
theorem Be.of_eq {w : World} {B : Bd} {r : Nat} {p q : EZ} (h : Be e loc w B r q) (hq : UY e p q) : Be e loc w B r p := by
 obtain ⟨h1, h2, h3, h4, h5⟩ := hq
 unfold Be at h ⊢
 rw [h1, h2, h3, h4, h5]
 exact h
theorem GR {c : L} {a b : Option EZ} {g : G} (h : Good T e (HJ c a b g).2) :
  Good T e g ∧ ∀ l, (HJ c a b g).1 = some l → (l = none → pick (c.ev e).bool a b = none) ∧ ∀ p, l = some p → ∃ q, pick (c.ev e).bool a b = some q ∧ UY e p q := by
 unfold HJ at h ⊢
 split at h
 ·exact ⟨h, fun l hl => ⟨fun _ => by cases (c.ev e).bool <;> rfl, fun p hp => by subst hp; simp at hl⟩⟩
 ·rename_i p q
  split at h
  ·rename_i hs
   simp only [hs, if_true] at h ⊢
   simp only [Bool.and_eq_true, beq_iff_eq] at hs
   obtain ⟨⟨h1, h2⟩, h3⟩ := hs
   have h3 := Bw h3
   have m1 := NS h
   have m2 := FP m1.1
   refine ⟨m2.1, fun l hl => ?_⟩
   injection hl with hl
   subst hl
   refine ⟨fun h => by simp at h, fun p' hp => ?_⟩
   injection hp with hp
   subst hp
   cases hc : (c.ev e).bool
   ·exact ⟨q, rfl, h1, h2, h3, by rw [m2.2]; simp [hc], by rw [m1.2]; simp [hc]⟩
   ·exact ⟨p, rfl, rfl, rfl, rfl, by rw [m2.2]; simp [hc], by rw [m1.2]; simp [hc]⟩
  ·rename_i hs
   simp only [hs, Bool.false_eq_true, if_false] at h ⊢
   exact ⟨h, fun l hl => by simp at hl⟩
 ·exact ⟨h, fun l hl => by simp at hl⟩
structure J8 (e : Nat → A) (x x' : Row) : Prop where
 own : x'.own = true → x.own = true
 own' : x'.lst ≠ none → x.own = false → x'.own = false
 lst : ∀ p, x'.lst = some p → ∃ q, x.lst = some q ∧ UY e p q
 row : ∀ n loc w B r, Au e n loc w B r x → Au e n loc w B r x'
theorem J8.refl (x : Row) : J8 e x x := ⟨id, fun _ h => h, fun p hp => ⟨p, hp, rfl, rfl, rfl, rfl, rfl⟩, fun _ _ _ _ _ h => h⟩
theorem J8.dead (x : Row) : J8 e x Row.dead := ⟨fun h => by simp [Row.dead] at h, fun h => by simp [Row.dead] at h, fun p h => by simp [Row.dead] at h, fun _ _ _ _ _ _ => Row.Na⟩
theorem Lj {c : L} {a b : Row} {g : G} (h : Good T e (HK c a b g).2) :
  Good T e g ∧ J8 e (pick (c.ev e).bool a b) (HK c a b g).1 := by
 unfold HK at h ⊢
 split at h
 ·rename_i hs
  simp only [hs, if_true] at h ⊢
  simp only [Bool.and_eq_true, beq_iff_eq] at hs
  obtain ⟨⟨⟨h1, h2⟩, h3⟩, h4⟩ := hs
  split at h
  ·rename_i l g1 hl
   simp only at h ⊢
   have hm := Dr h4 h
   have hml := GR (T := T) (e := e) (c := c) (a := a.lst) (b := b.lst) (g := g) (by rw [hl]; exact hm.1)
   have hml2 := hml.2 l (by rw [hl])
   have ho : (pick (c.ev e).bool a b).own = a.own := by cases hc : (c.ev e).bool <;> simp [pick, h1]
   have hlp : pick (c.ev e).bool a.lst b.lst = (pick (c.ev e).bool a b).lst := by cases hc : (c.ev e).bool <;> simp [pick]
   refine ⟨hml.1, fun h => by rw [ho]; exact h, fun _ h => by rw [ho] at h; exact h, fun p hp => by rw [← hlp]; exact hml2.2 p hp, fun n loc w B r hr => ?_⟩
   have ht : (pick (c.ev e).bool a b).ty = a.ty := by cases hc : (c.ev e).bool <;> simp [pick, h2]
   have he : (pick (c.ev e).bool a b).es = a.es := by cases hc : (c.ev e).bool <;> simp [pick, h3]
   have hcs : (pick (c.ev e).bool a b).cells = pick (c.ev e).bool a.cells b.cells := by cases hc : (c.ev e).bool <;> simp [pick]
   unfold Au at hr ⊢
   rw [ho, ht, he, hcs] at hr
   split
   ·rename_i hoo
    rw [if_pos hoo] at hr
    obtain ⟨a1, a2, a3, a4, vs, sp, a5, a6, a7⟩ := hr
    exact ⟨a1, a2, a3, a4, vs, sp, a5, hm.2 n loc vs a6, a7⟩
   ·rename_i hoo
    rw [if_neg hoo] at hr
    intro hne
    have hle : (AO c a.cells b.cells g1).1.length ≤ (pick (c.ev e).bool a.cells b.cells).length := by
     have := @Jc c a.cells b.cells g1
     cases hc : (c.ev e).bool
     ·exact this.2
     ·exact this.1
    have hne' : pick (c.ev e).bool a.cells b.cells ≠ [] := fun h0 => by
     rw [h0] at hle
     exact hne (List.eq_nil_of_length_eq_zero (Nat.le_zero.1 hle))
    obtain ⟨a1, a2, a3⟩ := hr hne'
    refine ⟨a1, a2, fun j s' hj => ?_⟩
    have hlt : j < (pick (c.ev e).bool a.cells b.cells).length := Nat.lt_of_lt_of_le (Ab hj) hle
    have hp := List.getElem?_eq_getElem hlt
    obtain ⟨v, hv, hrel⟩ := a3 j _ hp
    exact ⟨v, hv, J7 h n loc j _ v hp hrel s' hj⟩
  ·rename_i g1 hl
   simp only at h ⊢
   have hml := GR (T := T) (e := e) (c := c) (a := a.lst) (b := b.lst) (g := g) (by rw [hl]; exact h)
   exact ⟨hml.1, .dead _⟩
 ·rename_i hs
  simp only [hs, Bool.false_eq_true, if_false] at h ⊢
  exact ⟨h, .dead _⟩
theorem Cy {c : L} : ∀ {a b : List Row} {g : G}, Good T e (AS c a b g).2 →
  Good T e g ∧ a.length ≤ (AS c a b g).1.length ∧ b.length ≤ (AS c a b g).1.length ∧
   ∀ (r : Nat) x', (AS c a b g).1[r]? = some x' → x' = Row.dead ∨ ∃ x, (pick (c.ev e).bool a b)[r]? = some x ∧ J8 e x x'
 | [], m, g, h => by
  simp only [AS] at h ⊢
  exact ⟨h, by simp, by simp, fun r x' hx => .inl (by simp at hx; exact hx.2.symm)⟩
 | a :: l, [], g, h => by
  simp only [AS] at h ⊢
  exact ⟨h, by simp, by simp, fun r x' hx => .inl (by
   have : x' ∈ (a :: l).map fun _ => Row.dead := List.mem_of_getElem? hx
   simp only [List.mem_map] at this
   obtain ⟨_, _, h⟩ := this
   exact h.symm)⟩
 | a :: l, b :: m, g, h => by
  simp only [AS] at h ⊢
  have h2 := Cy h
  have h1 := Lj h2.1
  obtain ⟨_, l1, l2, h3⟩ := h2
  refine ⟨h1.1, by simpa using l1, by simpa using l2, fun r x' hx => ?_⟩
  cases r with
  | zero =>
   simp only [List.getElem?_cons_zero, Option.some.injEq] at hx
   subst hx
   exact .inr ⟨pick (c.ev e).bool a b, by cases hc : (c.ev e).bool <;> simp [pick], h1.2⟩
  | succ r =>
   rcases h3 r x' (by simpa using hx) with h4 | ⟨x, hx', h5⟩
   ·exact .inl h4
   ·exact .inr ⟨x, by cases hc : (c.ev e).bool <;> simpa [pick, hc] using hx', h5⟩
theorem Ad.P6 {rows rows' : List Row} {w : World} {B : Bd} (hr : Ad e loc rows w B) (hlen : rows.length ≤ rows'.length)
  (h3 : ∀ (r : Nat) x', rows'[r]? = some x' → x' = Row.dead ∨ ∃ x, rows[r]? = some x ∧ J8 e x x') : Ad e loc rows' w B := by
 have back : ∀ (r : Nat) x', rows'[r]? = some x' → (x'.own = true ∨ x'.lst ≠ none) → ∃ x, rows[r]? = some x ∧ J8 e x x' := fun r x' hx hne => by
  rcases h3 r x' hx with rfl | h
  ·simp [Row.dead] at hne
  ·exact h
 refine ⟨fun r x' hx => ?_, fun r x' q hx hq => ?_, fun r s x y hx hy ox oy => ?_, fun r s x y hx hy ox oy hne => ?_⟩
 ·rcases h3 r x' hx with rfl | ⟨x, hx', h5⟩
  ·exact Row.Na
  ·exact h5.row _ _ _ _ _ ((hr.row r x hx').ext (Ab hx') (Ay.refl _ _) hlen)
 ·obtain ⟨x, hx', h5⟩ := back r x' hx (.inr (by simp [hq]))
  obtain ⟨q0, k1, k2⟩ := h5.lst q hq
  obtain ⟨m1, m2⟩ := hr.lst r x q0 hx' k1
  exact ⟨h5.own' (by simp [hq]) m1, m2.of_eq k2⟩
 ·obtain ⟨q, o1, o2, o3⟩ := ox
  obtain ⟨x', hx', h5⟩ := back r x hx (.inr (by simp [o1]))
  obtain ⟨q0, k1, k2⟩ := h5.lst q o1
  have ox' : Bp loc r x' := ⟨q0, k1, by rw [← k2.1]; exact o2, o3⟩
  rcases oy with oy | ⟨⟨p, p1, p2, p3⟩, hne⟩
  ·obtain ⟨y', hy', h6⟩ := back s y hy (.inl oy)
   exact hr.lapart r s x' y' hx' hy' ox' (.inl (h6.own oy))
  ·obtain ⟨y', hy', h6⟩ := back s y hy (.inr (by simp [p1]))
   obtain ⟨p0, m1, m2⟩ := h6.lst p p1
   exact hr.lapart r s x' y' hx' hy' ox' (.inr ⟨⟨p0, m1, by rw [← m2.1]; exact p2, p3⟩, hne⟩)
 ·obtain ⟨x', hx', h5⟩ := back r x hx (.inl ox)
  obtain ⟨y', hy', h6⟩ := back s y hy (.inl oy)
  exact hr.apart r s x' y' hx' hy' (h5.own ox) (h6.own oy) hne
theorem Ad.merge {c : L} {a b : List Row} {g : G} {w : World} {B : Bd} (h : Good T e (AS c a b g).2)
  (hr : Ad e loc (pick (c.ev e).bool a b) w B) : Ad e loc (AS c a b g).1 w B := by
 obtain ⟨_, l1, l2, h3⟩ := Cy h
 exact hr.P6 (by cases hc : (c.ev e).bool <;> simpa [pick, hc]) h3
end
end Rx
namespace Rx
open Go Go.RowKit
def UZ : Value → Option K
 | .int k 0 => some (.int k (.n 0))
 | .bool false => some (.bool (.t false))
 | .string s => if s.data.toList.isEmpty then some (.str (.s [])) else none
 | .slice none 0 0 => some .nilslc
 | .pointer none => some .nilptr
 | .nilFunc => some .nilfn
 | _ => none
def RQ : List Value → Option (List K)
 | [] => some []
 | v :: l => do let k ← UZ v; let r ← RQ l; some (k :: r)
def IE : List (Nat × Nat) → List (Nat × Nat) → Bool
 | [], [] => true
 | a :: l, b :: m => a.1 == b.1 && a.2 == b.2 && IE l m
 | _, _ => false
def TK.okB : TK → TypeDesc → Bool
 | .int k, .int k' => BT k k'
 | .bool, .bool => true
 | .string, .string => true
 | .ptr e, .pointer e' => e == e'
 | .slice e, .slice e' => e == e'
 | .arr n e, .array n' e' => n == n' && e == e'
 | .struct fs, .struct gs => IE (gs.toList.map fun f => (f.type, f.offset)) fs
 | .func, .func .. => true
 | _, _ => false
def Nb (P : Program) : TypeDesc → Bool
 | .struct gs => gs.toList.all fun f => (P.info? f.type).isSome
 | _ => true
def Ty.okB (P : Program) (t : Nat) (ty : Ty) : Bool :=
 match P.info? t, P.underlying t with
 | some i, some d => i.size == ty.size && i.bytes == ty.bytes && ty.kind.okB d && ty.zero.length == ty.size && Nb P d &&
  (match i.zero with
  | some z => z.cells.size == ty.size && (match RQ z.cells.toList with | some ks => FH ks ty.zero | none => false)
  | none => false)
 | _, _ => false
section
variable {T : Nat → List A → Bool × List A} {e : Nat → A} {n n' : Nat} {loc loc' : Loc} {P : Program}
theorem S1 {v : Value} {k : K} (h : UZ v = some k) : k.rel e n loc v := by
 unfold UZ at h
 split at h
 ·injection h with h; subst h; exact ⟨trivial, rfl, .inr rfl⟩
 ·injection h with h; subst h; exact ⟨trivial, rfl, .inr rfl⟩
 ·rename_i s
  split at h
  ·rename_i hs
   injection h with h; subst h
   refine ⟨trivial, rfl, .inr ?_⟩
   obtain ⟨⟨l⟩⟩ := s
   have : l = [] := by simpa using hs
   subst this
   rfl
  ·cases h
 ·injection h with h; subst h; exact ⟨trivial, rfl, .inr rfl⟩
 ·injection h with h; subst h; exact ⟨trivial, rfl, .inr rfl⟩
 ·injection h with h; subst h; exact ⟨trivial, rfl, .inr rfl⟩
 ·cases h
theorem NX : ∀ {vs : List Value} {ks : List K}, RQ vs = some ks → Ag e n loc (DI ks) vs
 | [], ks, h => by simp [RQ] at h; subst h; trivial
 | v :: l, ks, h => by
  simp only [RQ, Option.bind_eq_bind, Option.bind_eq_some_iff, Option.some.injEq] at h
  obtain ⟨k, hk, r, hr, rfl⟩ := h
  exact ⟨S1 hk, NX hr⟩
theorem GC : ∀ {a b : List (Nat × Nat)}, IE a b = true → a = b
 | [], [], _ => rfl
 | [], _ :: _, h => by simp [IE] at h
 | _ :: _, [], h => by simp [IE] at h
 | (a, a') :: l, (b, b') :: m, h => by
  simp only [IE, Bool.and_eq_true, beq_iff_eq] at h
  obtain ⟨⟨h1, h2⟩, h3⟩ := h
  rw [show a = b from h1, show a' = b' from h2, GC h3]
structure Ek (P : Program) (t : Nat) (ty : Ty) : Prop where
 info : ∃ i z, P.info? t = some i ∧ i.size = ty.size ∧ i.bytes = ty.bytes ∧ i.zero = some z ∧ z.cells.size = ty.size ∧ ∀ (e : Nat → A) n loc, Ag e n loc (DI ty.zero) z.cells.toList
 kind : ∃ d, P.underlying t = some d ∧ ty.kind.okB d = true
 zlen : ty.zero.length = ty.size
 fields : ∀ d, P.underlying t = some d → Nb P d = true
theorem Ty.TM {t : Nat} {ty : Ty} (h : ty.okB P t = true) : Ek P t ty := by
 unfold Ty.okB at h
 split at h
 ·rename_i i d hi hd
  simp only [Bool.and_eq_true, beq_iff_eq] at h
  obtain ⟨⟨⟨⟨⟨h1, h2⟩, h3⟩, h4⟩, hfs⟩, h5⟩ := h
  split at h5
  ·rename_i z hz
   simp only [Bool.and_eq_true, beq_iff_eq] at h5
   obtain ⟨h5, h6⟩ := h5
   split at h6
   ·rename_i ks hks
    have h7 := GB h6
    exact ⟨⟨i, z, hi, h1, h2, hz, h5, fun e n loc => by rw [← h7]; exact NX hks⟩, ⟨d, hd, h3⟩, h4, fun d' hd' => by rw [hd] at hd'; injection hd' with hd'; subst hd'; exact hfs⟩
   ·cases h6
  ·cases h5
 ·cases h
def Bj (P : Program) (l : List (Nat × Ty)) : Prop := ∀ t ty, look t l = some ty → Ek P t ty
theorem HV {α : Type} {t : Nat} : ∀ {l : List (Nat × α)} {x : α}, look t l = some x → (t, x) ∈ l
 | [], _, h => by cases h
 | (u, y) :: l, x, h => by
  unfold look at h
  split at h
  ·rename_i hu
   injection h with h
   simp only [beq_iff_eq] at hu
   subst hu h
   exact List.mem_cons_self ..
  ·exact List.mem_cons_of_mem _ (HV h)
theorem Um {l : List (Nat × Ty)} (h : l.all (fun x => x.2.okB P x.1) = true) : Bj P l := fun t ty ht =>
 Ty.TM (List.all_eq_true.1 h (t, ty) (HV ht))
variable {t : Nat} {ty : Ty}
theorem HW {t : Nat} {i : TypeInfo} (h : P.info? t = some i) (w : World) : (typeInfo t).run P w = .ok i w := by simp [typeInfo, h]
theorem AQ (h : Ek P t ty) (w : World) : (Go.sizeOf t).run P w = .ok ty.size w := by
 obtain ⟨i, z, hi, hs, _⟩ := h.info
 simp [Go.sizeOf, HW hi, hs]
theorem J9 (h : Ek P t ty) : ∃ z : Value, z.cells.size = ty.size ∧ (∀ (e : Nat → A) n loc, Ag e n loc (DI ty.zero) z.cells.toList) ∧ ∀ w, (zeroValue t).run P w = .ok z w := by
 obtain ⟨i, z, hi, hs, _, hz, hzs, hr⟩ := h.info
 exact ⟨z, hzs, hr, fun w => by simp [zeroValue, HW hi, hz]⟩
theorem DD (h : Ek P t ty) (w : World) : (isAgg t).run P w = .ok ty.kind.agg w := by
 obtain ⟨d, hd, hk⟩ := h.kind
 simp only [isAgg, Sem.run_bind, run_underlying hd, Result.andThen_ok]
 generalize ty.kind = k at *
 cases k <;> cases d <;> simp [TK.okB] at hk <;> rfl
theorem addr_add (b o j : Nat) : (⟨b, o, none⟩ : Addr).add j = ⟨b, o + j, none⟩ := by
 unfold Addr.add; split <;> simp_all
theorem K.BW {k : K} {u v : Value} (hs : k.Ck = true) (h : k.rel e n loc u) (h' : k.rel e n loc v) : u = v := by
 rcases h.2.2 with h1 | h1
 ·subst h1; simp [K.Ck] at hs
 ·rcases h'.2.2 with h2 | h2
  ·subst h2; simp [K.Ck] at hs
  ·rw [h1, h2]
theorem E8 : ∀ {l : List K} {us vs : List Value}, l.all K.Ck = true → Cc e n loc l us → Cc e n loc l vs → us = vs
 | [], [], [], _, _, _ => rfl
 | k :: l, u :: us, v :: vs, hs, h, h' => by
  simp only [List.all_cons, Bool.and_eq_true] at hs
  rw [K.BW hs.1 h.1 h'.1, E8 hs.2 h.2 h'.2]
theorem C.BW {c : C} {u v : Value} (hs : c.Ck = true) (h : c.rel e n loc u) (h' : c.rel e n loc v) : u = v := by
 cases c with
 | k x => exact K.BW hs h h'
 | clo f a b =>
  simp only [C.Ck, Bool.and_eq_true] at hs
  obtain ⟨va, vb, rfl, h1, h2⟩ := h
  obtain ⟨va', vb', rfl, h1', h2'⟩ := h'
  rw [E8 hs.1 h1 h1', E8 hs.2 h2 h2']
 | cfn x f h2 => exact (show u = _ from h).trans (show v = _ from h').symm
theorem Bz : ∀ {l : List C} {us vs : List Value}, l.all C.Ck = true → Ag e n loc l us → Ag e n loc l vs → us = vs
 | [], [], [], _, _, _ => rfl
 | k :: l, u :: us, v :: vs, hs, h, h' => by
  simp only [List.all_cons, Bool.and_eq_true] at hs
  rw [C.BW hs.1 h.1 h'.1, Bz hs.2 h.2 h'.2]
theorem Ad.cell {rows : List Row} {w : World} {B : Bd} (h : Ad e loc rows w B) {r : Nat} {row : Row} (hr : rows[r]? = some row) {j : Nat} {c : C} (hj : row.cells[j]? = some c) :
  ∃ v, w.cell? ⟨(loc r).blk, (loc r).off + j, none⟩ = some v ∧ c.rel e rows.length loc v := by
 have hrow := h.row r row hr
 unfold Au at hrow
 split at hrow
 ·obtain ⟨h1, h2, h3, h4, vs, sp, h5, h6, h7⟩ := hrow
  obtain ⟨v, hv, hrel⟩ := Cq h6 hj
  refine ⟨v, ?_, hrel⟩
  have hlt := Ab hv
  rw [h1]
  simp only [World.cell?, h5, Nat.zero_add]
  simp [List.getElem?_append_left hlt, hv]
 ·have hne : row.cells ≠ [] := fun h0 => by rw [h0] at hj; simp at hj
  exact (hrow hne).2.2 j c hj
theorem Cg {w : World} {b o : Nat} : ∀ {cs : List C} , (∀ j c, cs[j]? = some c → ∃ v, w.cell? ⟨b, o + j, none⟩ = some v ∧ c.rel e n loc v) →
  ∃ vs : List Value, Ag e n loc cs vs ∧ ∀ j v, vs[j]? = some v → w.cell? ⟨b, o + j, none⟩ = some v := by
 intro cs
 induction cs generalizing o with
 | nil => intro _; exact ⟨[], trivial, fun j v h => by simp at h⟩
 | cons c cs ih =>
  intro h
  obtain ⟨v, hv, hr⟩ := h 0 c rfl
  obtain ⟨vs, h1, h2⟩ := ih (o := o + 1) (fun j c' hj => by
   obtain ⟨u, hu, hur⟩ := h (j + 1) c' (by simpa using hj)
   exact ⟨u, by rw [← hu]; congr 2; omega, hur⟩)
  refine ⟨v :: vs, ⟨hr, h1⟩, fun j u hj => ?_⟩
  cases j with
  | zero => simp at hj; subst hj; exact hv
  | succ j => rw [← h2 j u (by simpa using hj)]; congr 2; omega
theorem AM (h : Ek P t ty) {w : World} {b o : Nat} {cs : List C} {vs : List Value} {p : PV} (hr : Ag e n loc cs vs) (hc : ∀ j v, vs[j]? = some v → w.cell? ⟨b, o + j, none⟩ = some v)
  (hl : cs.length = ty.size) (hp : C9 ty.kind.agg cs = some p) :
  ∃ v, p.rel e n loc v ∧ (Instr.loadAt t (.pointer (some ⟨b, o, none⟩))).run P w = .ok v w := by
 have hvl : vs.length = ty.size := by rw [← AB hr, hl]
 rcases A6 hp with ⟨ha, rfl⟩ | ⟨ha, c, rfl, rfl⟩
 ·refine ⟨.agg vs.toArray, ⟨vs, rfl, hr⟩, ?_⟩
  have hld := run_loadCells_list (P := P) w ⟨b, o, none⟩ vs (fun j v hj => by rw [addr_add]; exact hc j v hj)
  rw [hvl] at hld
  simp [Instr.loadAt, Instr.sureAddr, loadVar, DD h, ha, AQ h, hld]
 ·cases vs with
  | nil => exact hr.elim
  | cons v vs =>
   have hv := hc 0 v rfl
   simp only [Nat.add_zero] at hv
   exact ⟨v, hr.1, by simp [Instr.loadAt, Instr.sureAddr, loadVar, DD h, ha, hv]⟩
theorem E9 {B : Nat} {w : World} {b : Nat} (hb : B ≤ b) (cs : Array Value) : Below B w (w.setRow b cs) :=
 ⟨rfl, rfl, rfl, by simp, fun k hk => setRow_other w b k cs (by omega)⟩
theorem BA {B : Nat} {w : World} (hb : B ≤ w.heap.size) (o : Obj) : Below B w (w.alloc o) :=
 (Below.refl B w).alloc hb o
theorem FQ : ∀ {l : List C} {vs : List Value} {c : List C} {us : List Value} {off : Nat}, Ag e n loc l vs → Ag e n loc c us → off + c.length ≤ l.length →
  Ag e n loc (setCells l off c) (vs.take off ++ us ++ vs.drop (off + us.length))
 | l, vs, [], [], off, h, _, _ => by simpa [setCells] using h
 | l, vs, c :: cs, u :: us, off, h, hc, hl => by
  have hll := AB h
  have h1 := EJ h hc.1 off
  have h2 := FQ (off := off + 1) h1 hc.2 (by simp at hl ⊢; omega)
  have hlt : off < vs.length := by simp at hl; omega
  have e1 : (vs.set off u).take (off + 1) = vs.take off ++ [u] := by
   rw [List.take_set, List.take_succ_eq_append_getElem hlt, List.set_append_right _ _ (by simp; omega)]
   simp [Nat.min_eq_left (Nat.le_of_lt hlt)]
  have e2 : (vs.set off u).drop (off + 1 + us.length) = vs.drop (off + (u :: us).length) := by
   rw [List.drop_set_of_lt (by omega)]
   congr 1
   simp; omega
  rw [e1, e2] at h2
  simpa [setCells] using h2
theorem HX : ∀ {c l : List C} {off : Nat}, (setCells l off c).length = l.length
 | [], l, off => rfl
 | c :: cs, l, off => by simp [setCells, HX]
end
end Rx
namespace Rx
open Go Go.RowKit
structure W0 where
 w : World
 S : Nat → Prop
instance : Inhabited W0 := ⟨⟨default, fun _ => True⟩⟩
def Vf (P : Program) (o : Oper) (a : Act) (w : World) (u : Value) (w' : World) : Prop :=
 (Go.execOp a.eval o).run P w = .ok (.value u) w' ∨ ((Go.execOp a.eval o).run P w = .ok .skip w' ∧ u = Go.undef)
def RR (P : Program) (o : Oper) (a : Act) (w : World) (R : Value → World → Prop) : Prop :=
 (∃ u w', Vf P o a w u w' ∧ R u w') ∨ (∃ f args, (Go.execOp a.eval o).run P w = .ok (.enter f args) w ∧ Calls P f args w (fun en w'' => ∃ u, en = .returned u ∧ R u w''))
def Ka (P : Program) (o : Oper) (a : Act) (Cl : World → Prop) (u : Value) (w : World) : Prop :=
 Vf P o a w u w ∨ (∃ f args, (Go.execOp a.eval o).run P w = .ok (.enter f args) w ∧ Calls P f args w (fun en w'' => en = .returned u ∧ Cl w''))
theorem RR.wp {P : Program} {o : Oper} {a : Act} {w : World} {R : Value → World → Prop} {K : Act → World → Prop} {Q : Exit → Act → World → Prop}
  (h : RR P o a w R) (hk : ∀ u w', R u w' → K (a.put o.dst u) w') : o.wp P a w K Q := by
 unfold Oper.wp
 rcases h with ⟨u, w', h1 | ⟨h1, h2⟩, hr⟩ | ⟨f, args, h1, h2⟩
 ·rw [h1]; exact hk u w' hr
 ·rw [h1]; subst h2; exact hk _ w' hr
 ·rw [h1]
  refine h2.mono ?_
  rintro en w'' ⟨u, rfl, hr⟩
  exact hk u w'' hr
theorem Ka.quietAt {P : Program} {o : Oper} {a : Act} {w : World} {Cl : World → Prop} {u : Value} (h : Ka P o a Cl u w) : o.quietAt P a Cl w u := by
 unfold Oper.quietAt
 rcases h with (h1 | ⟨h1, h2⟩) | ⟨f, args, h1, h2⟩
 ·rw [h1]; exact ⟨rfl, rfl⟩
 ·rw [h1]; exact ⟨rfl, h2⟩
 ·rw [h1]; exact ⟨rfl, h2⟩
theorem Ka.U0 {P : Program} {o : Oper} {a : Act} {w : World} {Cl : World → Prop} {u : Value} {R : Value → World → Prop} (h : Ka P o a Cl u w) (hc : Cl w) (hr : ∀ w', Cl w' → R u w') : RR P o a w R := by
 rcases h with h | ⟨f, args, h1, h2⟩
 ·exact .inl ⟨u, w, h, hr w hc⟩
 ·exact .inr ⟨f, args, h1, h2.mono fun en w'' ⟨h3, h4⟩ => ⟨u, h3, hr w'' h4⟩⟩
theorem Ka.pure {P : Program} {o : Oper} {a : Act} {w : World} {Cl : World → Prop} {u : Value} (h : (Go.execOp a.eval o).run P w = .ok (.value u) w) : Ka P o a Cl u w := .inl (.inl h)
section
variable {T : Nat → List A → Bool × List A} {e : Nat → A} {n n' : Nat} {loc loc' : Loc} {P : Program} {X : Ctx} {w0 : W0}
def AV (e : Nat → A) (w0 : W0) (loc : Loc) (rows : List Row) (w : World) : Prop :=
 ∃ B : Bd, (B.n = w0.w.heap.size ∧ (∀ k, B.F k → w0.S k ∨ B.n ≤ k) ∧ B.le w) ∧ Ad e loc rows w B ∧ Below w0.w.heap.size w0.w w
theorem AV.Tw {rows : List Row} {w : World} (h : AV e w0 loc rows w) : Below w0.w.heap.size w0.w w := by
 obtain ⟨_, _, _, h⟩ := h; exact h
theorem AV.le {rows : List Row} {w : World} (h : AV e w0 loc rows w) : w0.w.heap.size ≤ w.heap.size := h.Tw.size
theorem AV.FR {rows : List Row} {w w' : World} (h : AV e w0 loc rows w) (hb : Below w.heap.size w w') : AV e w0 loc rows w' := by
 have hle := h.le
 obtain ⟨B, ⟨h1, h2, h3⟩, h4, h5⟩ := h
 exact ⟨B, ⟨h1, h2, h3.mono hb.size⟩, h4.below h3 hb, h5.trans (hb.mono hle)⟩
theorem AV.cell {rows : List Row} {w : World} (h : AV e w0 loc rows w) {r : Nat} {row : Row} (hr : rows[r]? = some row) {j : Nat} {c : C} (hj : row.cells[j]? = some c) :
  ∃ v, w.cell? ⟨(loc r).blk, (loc r).off + j, none⟩ = some v ∧ c.rel e rows.length loc v := by
 obtain ⟨B, _, h, _⟩ := h; exact h.cell hr hj
def Vm (P : Program) (e : Nat → A) (w0 : W0) (fr : List SV) (rows : List Row) (gs : List (L × Bool)) (pc : L) (o : Oper) (v : SV) : Prop :=
 ∀ (loc : Loc) (a : Act) (w1 : World), (pc.ev e).bool = true → Holds e gs → Am e rows.length loc fr a.tmps → AV e w0 loc rows w1 →
  ∃ u, v.rel e rows.length loc u ∧ ∀ w, AV e w0 loc rows w → Ka P o a (AV e w0 loc rows) u w
def Vn (P : Program) (e : Nat → A) (w0 : W0) (fr : List SV) (rows : List Row) (gs : List (L × Bool)) (pc : L) (o : Oper) (v : SV) (rows' : List Row) : Prop :=
 ∀ (loc : Loc) (a : Act) (w : World), (pc.ev e).bool = true → Holds e gs → Am e rows.length loc fr a.tmps → AV e w0 loc rows w →
  RR P o a w fun u w' => ∃ loc', Ay rows.length loc loc' ∧ rows.length ≤ rows'.length ∧ v.rel e rows'.length loc' u ∧ AV e w0 loc' rows' w'
def A0 (P : Program) (T : Nat → List A → Bool × List A) (e : Nat → A) (w0 : W0) (fr : List SV) (rows : List Row) (gs : List (L × Bool)) (pc : L) (o : Oper) (g : G) : Option NM → Prop
 | none => True
 | some (v, none, g') => Good T e g' → Good T e g ∧ Vm P e w0 fr rows gs pc o v
 | some (v, some rows', g') => Good T e g' → Good T e g ∧ Vn P e w0 fr rows gs pc o v rows'
variable {fr : List SV} {rows : List Row} {gs : List (L × Bool)} {pc : L} {o : Oper} {g : G} {inl : Inline}
theorem Ac {p : PV} {g' : G} (h : Good T e g' → Good T e g ∧ ∀ (loc : Loc) (a : Act) (w1 : World), (pc.ev e).bool = true → Holds e gs → Am e rows.length loc fr a.tmps → AV e w0 loc rows w1 →
  ∃ u, p.rel e rows.length loc u ∧ ∀ w, AV e w0 loc rows w → (Go.execOp a.eval o).run P w = .ok (.value u) w) : A0 P T e w0 fr rows gs pc o g (one p g') := by
 intro hg
 obtain ⟨h1, h2⟩ := h hg
 refine ⟨h1, fun loc a w1 hp hgs hf hw => ?_⟩
 obtain ⟨u, hu, hr⟩ := h2 loc a w1 hp hgs hf hw
 exact ⟨u, hu, fun w hw => .pure (hr w hw)⟩
theorem P7 {x : Operand} (ho : o.op = .move x ∨ o.op = .assign x) : A0 P T e w0 fr rows gs pc o g (execOp X inl fr rows gs pc o g) := by
 have hrun : ∀ (a : Act) w, (Go.execOp a.eval o).run P w = .ok (.value (a.eval x)) w := fun a w => by rcases ho with h | h <;> simp [Go.execOp, h]
 have hx : execOp X inl fr rows gs pc o g = RD fr gs x g := by
  obtain ⟨dst, op, ty, pos, after, guard⟩ := o
  rcases ho with h | h <;> simp only at h <;> subst h <;> rfl
 rw [hx]
 unfold RD
 cases x with
 | tmp t =>
  simp only
  split
  ·rename_i hs p hfr
   split
   ·rename_i hsub
    refine Ac fun hg => ⟨hg, fun loc a w1 hp hgs hf hw => ?_⟩
    obtain ⟨v, _, hv, hr⟩ := hf.get hfr
    exact ⟨v, hr.1 (Hq hsub hgs), fun w _ => by rw [hrun]; simp only [Act.eval, hv]⟩
   ·trivial
  ·rename_i s _ hfr
   refine fun hg => ⟨hg, fun loc a w1 hp hgs hf hw => ?_⟩
   obtain ⟨v, _, hv, hr⟩ := hf.get hfr
   exact ⟨v, hr, fun w _ => .pure (by rw [hrun]; simp only [Act.eval, hv])⟩
  ·trivial
 | const v =>
  simp only
  cases hp : Cu fr gs (.const v) with
  | none => trivial
  | some p => exact Ac fun hg => ⟨hg, fun loc a w1 _ hgs hf _ => ⟨_, Aa hp hf hgs, fun w _ => hrun a w⟩⟩
 | global v =>
  simp only
  cases hp : Cu fr gs (.global v) with
  | none => trivial
  | some p => exact Ac fun hg => ⟨hg, fun loc a w1 _ hgs hf _ => ⟨_, Aa hp hf hgs, fun w _ => hrun a w⟩⟩
 | func v =>
  simp only
  cases hp : Cu fr gs (.func v) with
  | none => trivial
  | some p => exact Ac fun hg => ⟨hg, fun loc a w1 _ hgs hf _ => ⟨_, Aa hp hf hgs, fun w _ => hrun a w⟩⟩
theorem PV.Kb {p : PV} {x : L} {v : Value} (h : p.bool? = some x) (hr : p.rel e n loc v) : v = .bool (x.ev e).bool := by
 unfold PV.bool? at h
 split at h
 ·injection h with h; subst h
  rcases hr.2.2 with h1 | h1
  ·cases h1
  ·exact h1
 ·cases h
theorem PV.B6 {p : PV} {k : IntKind} {x : L} {v : Value} (h : p.int? = some (k, x)) (hr : p.rel e n loc v) : v = .int k (x.ev e).int := by
 unfold PV.int? at h
 split at h
 ·simp only [Option.some.injEq, Prod.mk.injEq] at h
  obtain ⟨rfl, rfl⟩ := h
  rcases hr.2.2 with h1 | h1
  ·cases h1
  ·exact h1
 ·cases h
theorem Bu {k : IntKind} {x : L} {v : Value} (hr : (PV.one (.k (.int k x))).rel e n loc v) : v = .int k (x.ev e).int := by
 rcases hr.2.2 with h1 | h1
 ·cases h1
 ·exact h1
theorem DN {x : L} {v : Value} (hr : (PV.one (.k (.bool x))).rel e n loc v) : v = .bool (x.ev e).bool := by
 rcases hr.2.2 with h1 | h1
 ·cases h1
 ·exact h1
theorem Nc {x : L} {v : Value} (hr : (PV.one (.k (.str x))).rel e n loc v) : v = .string (x.ev e).str := by
 rcases hr.2.2 with h1 | h1
 ·cases h1
 ·exact h1
theorem Bf {k : IntKind} {x : L} {i : Int} (h : (x.ev e).int = i) : (PV.one (.k (.int k x))).rel e n loc (.int k i) := ⟨trivial, rfl, .inr (by simp [K.AZ, h])⟩
theorem BQ {x : L} {i : Bool} (h : (x.ev e).bool = i) : (PV.one (.k (.bool x))).rel e n loc (.bool i) := ⟨trivial, rfl, .inr (by simp [K.AZ, h])⟩
theorem Hs {x : L} {t : Bool} {gs : List (L × Bool)} (h : (x.ev e).bool = t) (hg : Holds e gs) : Holds e ((x, t) :: gs) := fun z hz => by
 rcases List.mem_cons.1 hz with rfl | hz
 ·exact h
 ·exact hg z hz
theorem S3 {c x y : Operand} (ho : o.op = .pick c x y) : A0 P T e w0 fr rows gs pc o g (execOp X inl fr rows gs pc o g) := by
 have hrun : ∀ (a : Act) (t : Bool) w, a.eval c = .bool t → (Go.execOp a.eval o).run P w = .ok (.value (if t then a.eval x else a.eval y)) w := fun a t w h => by
  simp [Go.execOp, ho, h, asBool]
 obtain ⟨dst, op, ty, pos, after, guard⟩ := o
 simp only at ho
 subst ho
 simp only [execOp, Option.bind_eq_bind]
 cases hp : Cu fr gs c with
 | none => trivial
 | some p =>
  simp only [Option.bind_some]
  cases hb : p.bool? with
  | none => trivial
  | some b =>
   simp only [Option.bind_some]
   have hc : ∀ loc (a : Act), Am e rows.length loc fr a.tmps → Holds e gs → a.eval c = .bool (b.ev e).bool := fun loc a hf hgs => PV.Kb hb (Aa hp hf hgs)
   split
   ·cases hx : Cu fr gs x with
    | none => trivial
    | some q =>
     simp only [Option.bind_some]
     exact Ac fun hg => ⟨hg, fun loc a w1 _ hgs hf _ => ⟨_, Aa hx hf hgs, fun w _ => by rw [hrun a _ w (hc loc a hf hgs)]; simp⟩⟩
   ·cases hx : Cu fr gs y with
    | none => trivial
    | some q =>
     simp only [Option.bind_some]
     exact Ac fun hg => ⟨hg, fun loc a w1 _ hgs hf _ => ⟨_, Aa hx hf hgs, fun w _ => by rw [hrun a _ w (hc loc a hf hgs)]; simp⟩⟩
   ·cases hx : Cu fr ((b, true) :: gs) x with
    | none => trivial
    | some q1 =>
     simp only [Option.bind_some]
     cases hy : Cu fr ((b, false) :: gs) y with
     | none => trivial
     | some q2 =>
      simp only [Option.bind_some]
      split
      ·rename_i c1 c2
       refine Ac fun hg => ?_
       have hm := Cr hg
       refine ⟨hm.1, fun loc a w1 _ hgs hf _ => ⟨if (b.ev e).bool then a.eval x else a.eval y, hm.2 _ _ _ ?_, fun w _ => hrun a _ w (hc loc a hf hgs)⟩⟩
       cases hbe : (b.ev e).bool
       ·simp only [pick, Bool.false_eq_true, if_false]; exact Aa hy hf (Hs hbe hgs)
       ·simp only [pick, if_true]; exact Aa hx hf (Hs hbe hgs)
      ·trivial
theorem NY {x : Operand} (ho : o.op = .nilCheck x) : A0 P T e w0 fr rows gs pc o g (execOp X inl fr rows gs pc o g) := by
 obtain ⟨dst, op, ty, pos, after, guard⟩ := o
 simp only at ho
 subst ho
 simp only [execOp, Option.bind_eq_bind]
 cases hp : Cu fr gs x with
 | none => trivial
 | some p =>
  simp only [Option.bind_some]
  split
  ·rename_i r off
   refine Ac fun hg => ⟨hg, fun loc a w1 _ hgs hf _ => ?_⟩
   have h := Aa hp hf hgs
   refine ⟨_, h, fun w _ => ?_⟩
   rcases h.2.2 with h1 | h1
   ·cases h1
   ·simp only [Go.execOp, h1, K.AZ]; rfl
  ·rename_i r off st num y
   refine Ac fun hg => ⟨hg, fun loc a w1 _ hgs hf _ => ?_⟩
   have h := Aa hp hf hgs
   refine ⟨_, h, fun w _ => ?_⟩
   rcases h.2.2 with h1 | h1
   ·cases h1
   ·simp only [Go.execOp, h1, K.AZ]; rfl
  ·rename_i r off st num y
   refine Ac fun hg => ⟨hg, fun loc a w1 _ hgs hf _ => ?_⟩
   have h := Aa hp hf hgs
   refine ⟨_, h, fun w _ => ?_⟩
   rcases h.2.2 with h1 | h1
   ·cases h1
   ·simp only [Go.execOp, h1, K.AZ]; rfl
  ·rename_i f a b
   refine Ac fun hg => ⟨hg, fun loc a w1 _ hgs hf _ => ?_⟩
   have h := Aa hp hf hgs
   refine ⟨_, h, fun w _ => ?_⟩
   obtain ⟨va, vb, h1, _⟩ := h
   simp only [Go.execOp, h1]; rfl
  ·trivial
theorem S4 {op : UnOp} {t : TypeId} {x : Operand} (ho : o.op = .unOp op t x) : A0 P T e w0 fr rows gs pc o g (execOp X inl fr rows gs pc o g) := by
 obtain ⟨dst, op', ty, pos, after, guard⟩ := o
 simp only at ho
 subst ho
 simp only [execOp, Option.bind_eq_bind]
 cases hp : Cu fr gs x with
 | none => trivial
 | some p =>
  simp only [Option.bind_some]
  split
  ·rename_i y
   refine Ac fun hg => ?_
   have hm := Bc hg
   refine ⟨hm.1, fun loc a w1 _ hgs hf _ => ⟨.bool (!(y.ev e).bool), BQ (by rw [hm.2]; rfl), fun w _ => ?_⟩⟩
   have h := DN (Aa hp hf hgs)
   simp [Go.execOp, h, Op.unary]
  ·rename_i k y
   refine Ac fun hg => ?_
   have hm := O4 hg
   refine ⟨hm.1, fun loc a w1 _ hgs hf _ => ⟨.int k (k.wrap (0 - (y.ev e).int)), Bf (by rw [hm.2]; rfl), fun w _ => ?_⟩⟩
   have h := Bu (Aa hp hf hgs)
   simp [Go.execOp, h, Op.unary, Op.intArith]
  ·rename_i k y
   refine Ac fun hg => ?_
   have hm := EF hg
   refine ⟨hm.1, fun loc a w1 _ hgs hf _ => ⟨_, Bf (by rw [hm.2]), fun w _ => ?_⟩⟩
   have h := Bu (Aa hp hf hgs)
   simp [Go.execOp, h, Op.unary, Op.intBits, K8]
  ·trivial
theorem NZ {t : Nat} {ty : Ty} {k : IntKind} (h : Ek P t ty) (hk : ty.kind = .int k) : P.underlying t = some (.int k) := by
 obtain ⟨d, hd, hkd⟩ := h.kind
 rw [hk] at hkd
 cases d <;> simp [TK.okB] at hkd
 rw [hd, AY hkd]
theorem Bo {t : Nat} {ty : Ty} (h : Ek P t ty) (hk : ty.kind = .string) : P.underlying t = some .string := by
 obtain ⟨d, hd, hkd⟩ := h.kind
 rw [hk] at hkd
 cases d <;> simp [TK.okB] at hkd
 exact hd
theorem Ap {t : Nat} {ty : Ty} {u : Nat} (h : Ek P t ty) (hk : ty.kind = .slice u) : P.underlying t = some (.slice u) := by
 obtain ⟨d, hd, hkd⟩ := h.kind
 rw [hk] at hkd
 cases d <;> simp [TK.okB] at hkd
 rw [hd, hkd]
theorem HY {t : Nat} {ty : Ty} {m u : Nat} (h : Ek P t ty) (hk : ty.kind = .arr m u) : P.underlying t = some (.array m u) := by
 obtain ⟨d, hd, hkd⟩ := h.kind
 rw [hk] at hkd
 cases d <;> simp [TK.okB] at hkd
 rw [hd, hkd.1, hkd.2]
theorem FT {t : Nat} {ty : Ty} {fs : List (Nat × Nat)} (h : Ek P t ty) (hk : ty.kind = .struct fs) :
  ∃ gs : Array Field, P.underlying t = some (.struct gs) ∧ gs.toList.map (fun f => (f.type, f.offset)) = fs := by
 obtain ⟨d, hd, hkd⟩ := h.kind
 rw [hk] at hkd
 cases d <;> simp [TK.okB] at hkd
 exact ⟨_, hd, by simpa using GC hkd⟩
end
end Rx
namespace Rx
open Go Go.RowKit
def BX (off : Nat) (ls : List (Nat × Ak)) : List (Nat × Ak) := ls.map fun x => (x.1 + off, x.2)
def C4 (P : Program) (rec : Nat → Option (List (Nat × Ak))) : List Field → Option (List (Nat × Ak))
 | [] => some []
 | f :: fs =>
  if f.name = "_" then none else
  match rec f.type, P.info? f.type, C4 P rec fs with
  | some ls, some i, some r => if ls.all (fun x => decide (x.1 < i.size)) then some (BX f.offset ls ++ r) else none
  | _, _, _ => none
def Ch (size : Nat) (ls : List (Nat × Ak)) : List Nat → List (Nat × Ak)
 | [] => []
 | j :: js => BX (j * size) ls ++ Ch size ls js
def AR (P : Program) : Nat → Nat → Option (List (Nat × Ak))
 | 0, _ => none
 | d + 1, t =>
  match P.underlying t with
  | some (.int k) => some [(0, .int k)]
  | some .bool => some [(0, .bool)]
  | some .string => some [(0, .str)]
  | some (.array n e) =>
   match AR P d e, P.info? e with
   | some ls, some i => if ls.all (fun x => decide (x.1 < i.size)) then some (Ch i.size ls (List.range n)) else none
   | _, _ => none
  | some (.struct fs) => if P.stoodInHeld t then none else C4 P (AR P d) fs.toList
  | _ => none
def Ak.has : Ak → Value → Prop
 | .int k, v => ∃ n, v = .int k n
 | .bool, v => ∃ b, v = .bool b
 | .str, v => ∃ s, v = .string s
 | .val, _ => True
 | .sl _, _ => True
def Typed (ls : List (Nat × Ak)) (us : Array Value) : Prop := ∀ x ∈ ls, ∃ v, us[x.1]? = some v ∧ x.2.has v
def N0 : Option Value → Option Value → Bool
 | some (.int _ a), some (.int _ b) => a == b
 | some (.bool a), some (.bool b) => a == b
 | some (.string a), some (.string b) => a == b
 | _, _ => false
def allEq (us vs : Array Value) (ls : List (Nat × Ak)) : Bool := ls.all fun x => N0 us[x.1]? vs[x.1]?
def EN (P : Program) (t : Nat) : Bool := match P.underlying t with | some (.struct _) | some (.array _ _) => true | _ => false
def sub (P : Program) (t : Nat) (cs : Array Value) (off size : Nat) : Array Value := if EN P t then cs.extract off (off + size) else #[cs[off]?.getD Go.undef]
def RT (P : Program) (t : Nat) (us : Array Value) : Value := if EN P t then .agg us else us[0]?.getD Go.undef
section
variable {P : Program}
theorem O7 {t : Nat} {d : TypeDesc} (h : P.underlying t = some d) (w : World) : (isAgg t).run P w = .ok (EN P t) w := by
 simp only [isAgg, Sem.run_bind, run_underlying h, Result.andThen_ok, EN, h]
 cases d <;> rfl
theorem Typed.app {a b : List (Nat × Ak)} {us : Array Value} (h : Typed (a ++ b) us) : Typed a us ∧ Typed b us :=
 ⟨fun x hx => h x (by simp [hx]), fun x hx => h x (by simp [hx])⟩
theorem L5 {a b : List (Nat × Ak)} {us vs : Array Value} : allEq us vs (a ++ b) = (allEq us vs a && allEq us vs b) := by simp [allEq]
theorem GS {d t : Nat} {ls : List (Nat × Ak)} (h : AR P d t = some ls) (ha : EN P t = false) : ∀ x ∈ ls, x.1 = 0 := by
 cases d with
 | zero => cases h
 | succ d =>
  unfold AR at h
  unfold EN at ha
  split at h
  ·injection h with h; subst h; simp
  ·injection h with h; subst h; simp
  ·injection h with h; subst h; simp
  ·rename_i hu; simp [hu] at ha
  ·rename_i hu; simp [hu] at ha
  ·cases h
theorem Nf {d t : Nat} {ls : List (Nat × Ak)} (h : AR P d t = some ls) {size off : Nat} (hs : ∀ x ∈ ls, x.1 < size) (us : Array Value) : ∀ x ∈ ls, (us[x.1 + off]?.isSome = true) →
  (sub P t us off size)[x.1]? = us[x.1 + off]? := by
 intro x hx hsome
 unfold sub
 cases ha : EN P t with
 | true =>
  simp only [if_true]
  have hlt := hs x hx
  rw [Array.getElem?_extract]
  have hl : x.1 + off < us.size := by
   rcases Nat.lt_or_ge (x.1 + off) us.size with h' | h'
   ·exact h'
   ·rw [Array.getElem?_eq_none h'] at hsome; simp at hsome
  rw [if_pos (by omega), Nat.add_comm]
 | false =>
  have h0 := GS h ha x hx
  rw [h0, Nat.zero_add] at hsome ⊢
  simp only [Bool.false_eq_true, if_false]
  cases hu : us[off]? with
  | none => rw [hu] at hsome; simp at hsome
  | some v => simp
theorem GD {d t : Nat} {ls : List (Nat × Ak)} (h : AR P d t = some ls) {size off : Nat} (hs : ∀ x ∈ ls, x.1 < size) {us : Array Value} (hT : Typed (BX off ls) us) : Typed ls (sub P t us off size) := by
 intro x hx
 obtain ⟨v, hv, hh⟩ := hT (x.1 + off, x.2) (by simp only [BX, List.mem_map]; exact ⟨x, hx, rfl⟩)
 exact ⟨v, (Nf h hs us x hx (by simp [hv])).trans hv, hh⟩
theorem L6 {d t : Nat} {ls : List (Nat × Ak)} (h : AR P d t = some ls) {size off : Nat} (hs : ∀ x ∈ ls, x.1 < size) {us vs : Array Value} (hT : Typed (BX off ls) us) (hT' : Typed (BX off ls) vs) :
  allEq (sub P t us off size) (sub P t vs off size) ls = allEq us vs (BX off ls) := by
 have : ∀ l : List (Nat × Ak), (∀ x ∈ l, x ∈ ls) → allEq (sub P t us off size) (sub P t vs off size) l = allEq us vs (BX off l) := by
  intro l
  induction l with
  | nil => intro _; rfl
  | cons x l ih =>
   intro hl
   have hx := hl x (by simp)
   obtain ⟨v, hv, _⟩ := hT (x.1 + off, x.2) (by simp only [BX, List.mem_map]; exact ⟨x, hx, rfl⟩)
   obtain ⟨v', hv', _⟩ := hT' (x.1 + off, x.2) (by simp only [BX, List.mem_map]; exact ⟨x, hx, rfl⟩)
   have e1 := Nf (P := P) h (off := off) hs us x hx (by rw [hv]; rfl)
   have e2 := Nf (P := P) h (off := off) hs vs x hx (by rw [hv']; rfl)
   have := ih (fun y hy => hl y (by simp [hy]))
   simp only [allEq, BX, List.all_cons, List.map_cons] at this ⊢
   rw [e1, e2, this]
 exact this ls (fun x hx => hx)
theorem GF {d t : Nat} {ls : List (Nat × Ak)} (h : AR P d t = some ls) {i : TypeInfo} (hi : P.info? t = some i) {off : Nat} {us : Array Value} (hT : Typed (BX off ls) us) (hne : ls ≠ [] ∨ EN P t = true) (w : World) :
  (part t us off).run P w = .ok (RT P t (sub P t us off i.size)) w := by
 have hu : ∃ d, P.underlying t = some d := by
  cases d with
  | zero => cases h
  | succ d => unfold AR at h; split at h <;> first | exact ⟨_, ‹_›⟩ | cases h
 obtain ⟨dd, hd⟩ := hu
 simp only [part, Sem.run_bind, O7 hd, Result.andThen_ok]
 cases ha : EN P t with
 | true =>
  simp [RT, sub, ha, Go.sizeOf, HW hi]
 | false =>
  have hl : ls ≠ [] := by rcases hne with h1 | h1 <;> first | exact h1 | (rw [ha] at h1; cases h1)
  cases ls with
  | nil => exact absurd rfl hl
  | cons x l =>
   have h0 := GS h ha x (by simp)
   obtain ⟨v, hv, _⟩ := hT (x.1 + off, x.2) (by simp [BX])
   rw [h0, Nat.zero_add] at hv
   simp [RT, sub, ha, hv]
theorem L7 {d t : Nat} {ls : List (Nat × Ak)} (h : AR P d t = some ls) : ls ≠ [] ∨ EN P t = true := by
 cases d with
 | zero => cases h
 | succ d =>
  unfold AR at h
  unfold EN
  split at h
  ·injection h with h; subst h; simp
  ·injection h with h; subst h; simp
  ·injection h with h; subst h; simp
  ·rename_i hu; simp [hu]
  ·rename_i hu; simp [hu]
  ·cases h
def U1 (P : Program) (D t : Nat) (ls : List (Nat × Ak)) : Prop :=
 ∀ us vs : Array Value, Typed ls us → Typed ls vs → ∀ w, (Op.equalIn D t (RT P t us) (RT P t vs)).run P w = .ok (allEq us vs ls) w
theorem Kc {D : Nat} {rec : Nat → Option (List (Nat × Ak))} {d : Nat} (hrec : rec = AR P d) (IH : ∀ t ls, rec t = some ls → U1 P D t ls) (us vs : Array Value) : ∀ (fs : List Field) (ls : List (Nat × Ak)), C4 P rec fs = some ls → Typed ls us → Typed ls vs →
  ∀ w, (Op.eqFields D us vs fs).run P w = .ok (allEq us vs ls) w
 | [], ls, h, _, _, w => by simp [C4] at h; subst h; simp [Op.eqFields, allEq]
 | f :: fs, ls, h, hu, hv, w => by
  unfold C4 at h
  split at h
  ·cases h
  ·rename_i hn
   split at h
   ·rename_i l1 i r h1 h2 h3
    split at h
    ·rename_i hall
     injection h with h
     subst h
     have hs : ∀ x ∈ l1, x.1 < i.size := fun x hx => by simpa using List.all_eq_true.1 hall x hx
     have a1 := hu.app
     have a2 := hv.app
     have e1 : AR P d f.type = some l1 := by rw [← hrec]; exact h1
     have hne := L7 e1
     have ih := Kc hrec IH us vs fs r h3 a1.2 a2.2
     have hq := IH f.type l1 h1 _ _ (GD e1 hs a1.1) (GD e1 hs a2.1)
     rw [L6 e1 hs a1.1 a2.1] at hq
     simp only [Op.eqFields, hn, ne_eq, not_false_eq_true, if_true, Sem.run_bind, GF e1 h2 a1.1 hne, GF e1 h2 a2.1 hne, Result.andThen_ok, hq, L5, Sem.run_ite, ih, Sem.run_pure]
     cases allEq us vs (BX f.offset l1) <;> simp
    ·cases h
   ·cases h
theorem L8 {D e : Nat} {d : Nat} {l1 : List (Nat × Ak)} {i : TypeInfo} (e1 : AR P d e = some l1) (h2 : P.info? e = some i) (hs : ∀ x ∈ l1, x.1 < i.size) (IH : U1 P D e l1) (us vs : Array Value) : ∀ (js : List Nat), Typed (Ch i.size l1 js) us → Typed (Ch i.size l1 js) vs →
  ∀ w, (Op.eqItems D e i.size us vs js).run P w = .ok (allEq us vs (Ch i.size l1 js)) w
 | [], _, _, w => by simp [Op.eqItems, Ch, allEq]
 | j :: js, hu, hv, w => by
  have a1 := Typed.app (a := BX (j * i.size) l1) hu
  have a2 := Typed.app (a := BX (j * i.size) l1) hv
  have hne := L7 e1
  have ih := L8 e1 h2 hs IH us vs js a1.2 a2.2
  have hq := IH _ _ (GD e1 hs a1.1) (GD e1 hs a2.1)
  rw [L6 e1 hs a1.1 a2.1] at hq
  simp only [Op.eqItems, Ch, Sem.run_bind, GF e1 h2 a1.1 hne, GF e1 h2 a2.1 hne, Result.andThen_ok, hq, L5, Sem.run_ite, ih, Sem.run_pure]
  cases allEq us vs (BX (j * i.size) l1) <;> simp
theorem DO : ∀ (d t : Nat) (ls : List (Nat × Ak)), AR P d t = some ls → ∀ D, d ≤ D → U1 P D t ls
 | 0, _, _, h, _, _ => by cases h
 | d + 1, t, ls, h, D, hD => by
  obtain ⟨D, rfl⟩ : ∃ m, D = m + 1 := ⟨D - 1, by omega⟩
  intro us vs hu hv w
  unfold AR at h
  split at h
  ·rename_i k ht
   injection h with h; subst h
   obtain ⟨u, h1, n, rfl⟩ := hu (0, .int k) (by simp)
   obtain ⟨v, h2, m, rfl⟩ := hv (0, .int k) (by simp)
   simp only at h1 h2
   simp [RT, EN, ht, h1, h2, allEq, N0, run_equalIn_int w D t k k n m ht]
  ·rename_i ht
   injection h with h; subst h
   obtain ⟨u, h1, n, rfl⟩ := hu (0, .bool) (by simp)
   obtain ⟨v, h2, m, rfl⟩ := hv (0, .bool) (by simp)
   simp only at h1 h2
   simp [RT, EN, ht, h1, h2, allEq, N0, run_equalIn_bool w D t n m ht]
  ·rename_i ht
   injection h with h; subst h
   obtain ⟨u, h1, n, rfl⟩ := hu (0, .str) (by simp)
   obtain ⟨v, h2, m, rfl⟩ := hv (0, .str) (by simp)
   simp only at h1 h2
   simp [RT, EN, ht, h1, h2, allEq, N0, run_equalIn_string w D t n m ht, beq_toListBytes]
  ·rename_i n e' ht
   split at h
   ·rename_i l1 i h1 h2
    split at h
    ·rename_i hall
     injection h with h
     subst h
     have hs : ∀ x ∈ l1, x.1 < i.size := fun x hx => by simpa using List.all_eq_true.1 hall x hx
     have ha : EN P t = true := by simp [EN, ht]
     have hc : P.cellsOf e' = i.size := by simp [Program.cellsOf, h2]
     simp only [RT, ha, if_true]
     rw [run_equalIn_array w D us vs ht h2, hc]
     exact L8 h1 h2 hs (DO d e' l1 h1 D (by omega)) us vs _ hu hv w
    ·cases h
   ·cases h
  ·rename_i fs ht
   split at h
   ·cases h
   ·rename_i hst
    have ha : EN P t = true := by simp [EN, ht]
    have hf : P.fieldsOf t = fs := by simp [Program.fieldsOf, ht]
    simp only [RT, ha, if_true]
    rw [run_equalIn_struct w D t us vs (by rw [hf]; exact ht) (by simpa using hst), hf]
    exact Kc rfl (fun t ls hl => DO d t ls hl D (by omega)) us vs fs.toList ls h hu hv w
  ·cases h
end
end Rx
namespace Rx
open Go Go.RowKit
def IF : List (Nat × Ak) → List (Nat × Ak) → Bool
 | [], [] => true
 | a :: l, b :: m => a.1 == b.1 && a.2.same b.2 && IF l m
 | _, _ => false
theorem L9 : ∀ {a b : List (Nat × Ak)}, IF a b = true → a = b
 | [], [], _ => rfl
 | [], _ :: _, h => by simp [IF] at h
 | _ :: _, [], h => by simp [IF] at h
 | (a, a') :: l, (b, b') :: m, h => by
  simp only [IF, Bool.and_eq_true, beq_iff_eq] at h
  obtain ⟨⟨h1, h2⟩, h3⟩ := h
  rw [show a = b from h1, show a' = b' from Ak.Ae h2, L9 h3]
def Ts (P : Program) (x : Nat × List (Nat × Ak)) : Bool :=
 (match AR P 20 x.1 with | some ls => IF ls x.2 | none => false) && !P.eqGuardType P.depth x.1 && EN P x.1
def P8 (P : Program) (l : List (Nat × List (Nat × Ak))) : Prop :=
 ∀ t ls, look t l = some ls → AR P 20 t = some ls ∧ P.eqGuardType P.depth t = false ∧ EN P t = true
theorem Un {P : Program} {l : List (Nat × List (Nat × Ak))} (h : l.all (Ts P) = true) : P8 P l := fun t ls ht => by
 have := List.all_eq_true.1 h (t, ls) (HV ht)
 simp only [Ts, Bool.and_eq_true, Bool.not_eq_true'] at this
 obtain ⟨⟨h1, h2⟩, h3⟩ := this
 split at h1
 ·rename_i l' hl
  exact ⟨by rw [hl, L9 h1], h2, h3⟩
 ·cases h1
section
variable {T : Nat → List A → Bool × List A} {e : Nat → A} {n n' : Nat} {loc loc' : Loc} {P : Program} {X : Ctx} {w0 : W0}
variable {fr : List SV} {rows : List Row} {gs : List (L × Bool)} {pc : L} {o : Oper} {g : G} {inl : Inline}
theorem K.C5 {k : K} {s : Ak} {x : L} (h : k.LN = some (s, x)) : k = s.mk x := by
 cases k <;> simp [K.LN] at h <;> obtain ⟨rfl, rfl⟩ := h <;> rfl
theorem Ak.Ng {s : Ak} {x : L} {v : Value} (h : (s.mk x).rel e n loc v) : v = (s.mk x).AZ e loc := by
 rcases h.2.2 with h1 | h1
 ·cases s <;> cases h1
 ·exact h1
theorem Ak.RU {s : Ak} {x : L} {v : Value} (h : (s.mk x).rel e n loc v) : s.has v := by
 have := Ak.Ng h
 subst this
 cases s <;> first | exact ⟨_, rfl⟩ | trivial
theorem Fa {p q : List C} : ∀ {ls : List (Nat × Ak)} {g g' : G} {z : L}, DY p q ls g = some (z, g') → Good T e g' →
  Good T e g ∧ ∀ n loc us vs, Ag e n loc p us → Ag e n loc q vs → Typed ls us.toArray ∧ Typed ls vs.toArray ∧ (z.ev e).bool = allEq us.toArray vs.toArray ls
 | [], g, g', z, h, hg => by
  simp only [DY, Option.some.injEq, Prod.mk.injEq] at h
  obtain ⟨rfl, rfl⟩ := h
  exact ⟨hg, fun n loc us vs _ _ => ⟨fun x hx => (by cases hx), fun x hx => (by cases hx), by simp [allEq]⟩⟩
 | (o, s) :: l, g, g', z, h, hg => by
  unfold DY at h
  simp only [Option.bind_eq_bind, Option.bind_eq_some_iff] at h
  obtain ⟨⟨r, g1⟩, hr, h⟩ := h
  simp only at h
  split at h
  ·rename_i a b hp hq
   simp only [Option.bind_eq_some_iff] at h
   obtain ⟨⟨u, x⟩, hu, ⟨v, y⟩, hv, h⟩ := h
   simp only at h
   split at h
   ·cases h
   ·rename_i hs
    simp only [Bool.or_eq_true, Bool.not_eq_true', not_or, Bool.not_eq_false] at hs
    have e1 := Ak.Ae hs.1
    have e2 := Ak.Ae hs.2
    subst e1
    subst e2
    have ea := K.C5 hu
    have eb := K.C5 hv
    subst ea
    subst eb
    have key : ∀ n loc us vs, Ag e n loc p us → Ag e n loc q vs → ∃ a b, us[o]? = some a ∧ vs[o]? = some b ∧ v.has a ∧ v.has b ∧ a = (v.mk x).AZ e loc ∧ b = (v.mk y).AZ e loc := by
     intro n loc us vs hu hv
     obtain ⟨a, h1, h2⟩ := Cq hu hp
     obtain ⟨b, h3, h4⟩ := Cq hv hq
     exact ⟨a, b, h1, h3, Ak.RU h2, Ak.RU h4, Ak.Ng h2, Ak.Ng h4⟩
    have fin : ∀ (zz : L) (g2 : G), Good T e g2 → (Good T e g2 → Good T e g1 ∧ ∀ n loc us vs, Ag e n loc p us → Ag e n loc q vs → (zz.ev e).bool = N0 us.toArray[o]? vs.toArray[o]?) → z = (mkAnd zz r g2).1 → g' = (mkAnd zz r g2).2 →
      Good T e g ∧ ∀ n loc us vs, Ag e n loc p us → Ag e n loc q vs → Typed ((o, v) :: l) us.toArray ∧ Typed ((o, v) :: l) vs.toArray ∧ (z.ev e).bool = allEq us.toArray vs.toArray ((o, v) :: l) := by
     intro zz g2 hg2 hz hz1 hz2
     have hand := AE (hz2 ▸ hg)
     obtain ⟨h1, h2⟩ := hz hg2
     obtain ⟨h3, h4⟩ := Fa hr h1
     refine ⟨h3, fun n loc us vs hus hvs => ?_⟩
     obtain ⟨t1, t2, t3⟩ := h4 n loc us vs hus hvs
     obtain ⟨a, b, k1, k2, k3, k4, _, _⟩ := key n loc us vs hus hvs
     refine ⟨fun w hw => ?_, fun w hw => ?_, ?_⟩
     ·rcases List.mem_cons.1 hw with rfl | hw
      ·exact ⟨a, by simpa using k1, k3⟩
      ·exact t1 w hw
     ·rcases List.mem_cons.1 hw with rfl | hw
      ·exact ⟨b, by simpa using k2, k4⟩
      ·exact t2 w hw
     ·rw [hz1, hand.2, h2 n loc us vs hus hvs, t3]
      simp [allEq]
    cases v with
    | int k =>
     simp only [Option.some.injEq, Prod.ext_iff] at h
     have hg2 := (AE (h.2 ▸ hg)).1
     refine fin _ _ hg2 (fun hh => ?_) h.1.symm h.2.symm
     have hc := As hh
     refine ⟨hc.1, fun n loc us vs hus hvs => ?_⟩
     obtain ⟨a, b, k1, k2, _, _, rfl, rfl⟩ := key n loc us vs hus hvs
     rw [hc.2]
     simp [k1, k2, Ak.mk, K.AZ, N0, CX]
    | bool =>
     simp only [Option.some.injEq, Prod.ext_iff] at h
     have hg2 := (AE (h.2 ▸ hg)).1
     refine fin _ _ hg2 (fun hh => ?_) h.1.symm h.2.symm
     have hc := Ho hh
     refine ⟨hc.1, fun n loc us vs hus hvs => ?_⟩
     obtain ⟨a, b, k1, k2, _, _, rfl, rfl⟩ := key n loc us vs hus hvs
     rw [hc.2]
     simp [k1, k2, Ak.mk, K.AZ, N0]
    | str =>
     simp only [Option.some.injEq, Prod.ext_iff] at h
     have hg2 := (AE (h.2 ▸ hg)).1
     refine fin _ _ hg2 (fun hh => ?_) h.1.symm h.2.symm
     have hc := Af hh
     refine ⟨hc.1, fun n loc us vs hus hvs => ?_⟩
     obtain ⟨a, b, k1, k2, _, _, rfl, rfl⟩ := key n loc us vs hus hvs
     rw [hc.2 (.b ((x.ev e).str == (y.ev e).str)) (by simp [D.ev])]
     simp [k1, k2, Ak.mk, K.AZ, N0]
    | val => cases h
    | sl _ => cases h
  ·cases h
theorem Ao (op : BinOp) (t : TypeId) (x y : Operand) (k k' : IntKind) (a b : Int) (w : World) : (eqGuard op t x y (.int k a) (.int k' b)).run P w = .ok () w := by
 cases op <;> simp [eqGuard]
theorem EO (op : BinOp) (t : TypeId) (x y : Operand) (a b : Bool) (w : World) : (eqGuard op t x y (.bool a) (.bool b)).run P w = .ok () w := by
 cases op <;> simp [eqGuard]
theorem Dc (op : BinOp) (t : TypeId) (x y : Operand) (a b : ByteArray) (w : World) : (eqGuard op t x y (.string a) (.string b)).run P w = .ok () w := by
 cases op <;> simp [eqGuard]
theorem Ll {t u : TypeId} (hu : P.underlying t = some (.slice u)) (a : Addr) (m c : Nat) (w : World) : (Op.equal t (.slice (some a) m c) (.slice none 0 0)).run P w = .ok false w := by
 have h : ∀ d : Nat, (Op.equalIn (d + 1) t (.slice (some a) m c) (.slice none 0 0)).run P w = .ok false w := fun d => by
  simp [Op.equalIn, run_underlying hu]
 simp [Op.equal, Op.maxDepth, h 9999]
theorem O8 {p : PV} {r : Nat} {k : L} {q : EZ} {v : Value} {w : World} (h : FJ rows p = some (r, k, q)) (hcl : AV e w0 loc rows w) (hv : p.rel e rows.length loc v) (hk : 1 ≤ (k.ev e).int) :
  ∃ a m c, v = .slice (some a) m c := by
 unfold FJ at h
 obtain ⟨B, _, hR, _⟩ := hcl
 split at h
 ·rename_i r' k'
  simp only [Option.bind_eq_bind, Option.bind_eq_some_iff] at h
  obtain ⟨row, hrow, q', hq, h⟩ := h
  split at h
  ·simp only [Option.some.injEq, Prod.mk.injEq] at h
   obtain ⟨rfl, rfl, rfl⟩ := h
   obtain ⟨h1, _, h3⟩ := hv
   rcases h3 with h3 | h3
   ·cases h3
   ·simp only [K.ok] at h1
    cases he : (loc r').emp
    ·simp only [K.AZ, he, Bool.false_eq_true, if_false] at h3
     exact ⟨_, _, _, h3⟩
    ·have := (h1.2.2 he).2
     omega
  ·cases h
 ·rename_i r' k'
  simp only [Option.bind_eq_bind, Option.bind_eq_some_iff] at h
  obtain ⟨row, hrow, q', hq, h⟩ := h
  split at h
  ·rename_i hc
   simp only [Option.some.injEq, Prod.mk.injEq] at h
   obtain ⟨rfl, rfl, rfl⟩ := h
   simp only [Bool.and_eq_true, Bool.not_eq_true'] at hc
   have hn := L.Ae hc.2
   obtain ⟨_, _, h3⟩ := hv
   rcases h3 with h3 | h3
   ·cases h3
   ·obtain ⟨as, m, _, _, l3, _, l5⟩ := (hR.lst _ _ _ hrow hq).2
    rw [if_neg (by simp [hc.1])] at l5
    obtain ⟨⟨a, c, g1, g2⟩, _⟩ := l5
    have hm : m ≠ 0 := by rw [hn] at hk; omega
    rw [g2 hm] at g1
    exact ⟨_, _, _, h3.trans g1⟩
  ·cases h
 ·cases h
theorem Nh {t : TypeId} {op : BinOp} {p q r : PV} {g' : G} (hX : Bj P X.Ax) (h : MU X rows t op p q pc g = some (r, g')) (hg : Good T e g') :
  Good T e g ∧ ∃ v, (∀ n loc, r.rel e n loc v) ∧ ∀ (loc : Loc) (w : World), (pc.ev e).bool = true → AV e w0 loc rows w → ∀ u1 u2, p.rel e rows.length loc u1 → q.rel e rows.length loc u2 →
   (∀ x y, (eqGuard op t x y u1 u2).run P w = .ok () w) ∧ (binOp op t u1 u2).run P w = .ok v w := by
 unfold MU at h
 split at h
 ·simp only [Option.bind_eq_bind, Option.bind_eq_some_iff, Ctx.ty] at h
  obtain ⟨ty, hty, h⟩ := h
  split at h
  ·rename_i u hk
   have hu := Ap (hX t ty hty) hk
   simp only [Option.bind_eq_some_iff] at h
   obtain ⟨⟨r0, n, ql⟩, hl, h⟩ := h
   simp only at h
   have fin : ∀ (b : Bool), Good T e ((Av .leq (.n 1) n g).2.AT pc (Av .leq (.n 1) n g).1) → (op = .eql ∧ b = false ∨ op = .neq ∧ b = true) → Good T e g ∧ ∃ v, (∀ n loc, (PV.one (.k (.bool (.t b)))).rel e n loc v) ∧ ∀ (loc : Loc) (w : World), (pc.ev e).bool = true → AV e w0 loc rows w → ∀ u1 u2, p.rel e rows.length loc u1 → (PV.one (.k .nilslc)).rel e rows.length loc u2 →
     (∀ x y, (eqGuard op t x y u1 u2).run P w = .ok () w) ∧ (binOp op t u1 u2).run P w = .ok v w := fun b hg hb => by
    have hm := Al hg
    have hc := As hm.1
    refine ⟨hc.1, .bool b, fun n loc => BQ rfl, fun loc w hpc hcl u1 u2 h1 h2 => ?_⟩
    have h0 := hm.2 hpc
    rw [hc.2] at h0
    obtain ⟨a, m, c, rfl⟩ := O8 hl hcl h1 (of_decide_eq_true h0)
    have e2 : u2 = .slice none 0 0 := h2.2.2.resolve_left (by simp)
    subst e2
    have hr := Ll hu a m c w
    rcases hb with ⟨rfl, rfl⟩ | ⟨rfl, rfl⟩
    ·exact ⟨fun x y => by simp [eqGuard], by simp [binOp, hr]⟩
    ·exact ⟨fun x y => by simp [eqGuard], by simp [binOp, hr]⟩
   split at h
   ·simp only [Option.some.injEq, Prod.mk.injEq] at h
    obtain ⟨rfl, rfl⟩ := h
    exact fin false hg (.inl ⟨rfl, rfl⟩)
   ·simp only [Option.some.injEq, Prod.mk.injEq] at h
    obtain ⟨rfl, rfl⟩ := h
    exact fin true hg (.inr ⟨rfl, rfl⟩)
   ·cases h
  ·cases h
 ·cases h
theorem RV (hX : Bj P X.Ax) (hQ : P8 P X.eqs) {op : BinOp} {t u : TypeId} {x y : Operand} (ho : o.op = .binOp op t x y u) : A0 P T e w0 fr rows gs pc o g (execOp X inl fr rows gs pc o g) := by
 obtain ⟨dst, op', ty, pos, after, guard⟩ := o
 simp only at ho
 subst ho
 simp only [execOp, Option.bind_eq_bind]
 have hrun : ∀ (a : Act) (w : World) v, (eqGuard op t x y (a.eval x) (a.eval y)).run P w = .ok () w → (binOp op t (a.eval x) (a.eval y)).run P w = .ok v w →
   (Go.execOp a.eval ⟨dst, .binOp op t x y u, ty, pos, after, guard⟩).run P w = .ok (.value v) w := fun a w v h1 h2 => by
  simp [Go.execOp, h1, h2]
 cases hp : Cu fr gs x with
 | none => trivial
 | some p =>
  simp only [Option.bind_some]
  cases hq : Cu fr gs y with
  | none => trivial
  | some q =>
   simp only [Option.bind_some]
   cases hnc : MU X rows t op p q pc g with
   | some rg =>
    obtain ⟨r, g'⟩ := rg
    simp only
    refine Ac fun hg => ?_
    obtain ⟨h1, v, h2, h3⟩ := Nh hX hnc hg
    refine ⟨h1, fun loc act w1 hpc hgs hf hcl => ⟨v, h2 _ _, fun w hw => ?_⟩⟩
    obtain ⟨k1, k2⟩ := h3 loc w hpc hw _ _ (Aa hp hf hgs) (Aa hq hf hgs)
    exact hrun act w _ (k1 _ _) k2
   | none =>
   simp only
   unfold binop
   split
   ·rename_i k a k' b
    by_cases hsh : TE op = true
    ·rw [if_pos hsh]
     show A0 _ _ _ _ _ _ _ _ _ _ (one (.one (.k (.int k (LQ op k a b pc g).1))) (LQ op k a b pc g).2)
     refine Ac fun hg => ?_
     have hm := O5 hg
     refine ⟨hm.1, fun loc act w1 hpc hgs hf _ => ⟨_, Bf (by rw [hm.2.1]), fun w _ => hrun act w _ ?_ ?_⟩⟩
     ·rw [Bu (Aa hp hf hgs), Bu (Aa hq hf hgs)]; exact Ao ..
     ·have h0 := hm.2.2 hpc
      have h0' : ¬ (b.ev e).int < 0 := by omega
      rw [Bu (Aa hp hf hgs), Bu (Aa hq hf hgs)]
      cases op <;> simp [TE] at hsh <;> simp [binOp, Op.shift, NJ, h0']
    rw [if_neg hsh]
    split
    ·trivial
    ·rename_i hk
     have hk' := AY (by simpa using hk)
     subst hk'
     have hv : ∀ (loc : Loc) (act : Act), Am e rows.length loc fr act.tmps → Holds e gs → act.eval x = .int k (a.ev e).int ∧ act.eval y = .int k (b.ev e).int := fun loc act hf hgs =>
      ⟨Bu (Aa hp hf hgs), Bu (Aa hq hf hgs)⟩
     cases op
     case add =>
      show A0 _ _ _ _ _ _ _ _ _ _ (one (.one (.k (.int k (La .add k a b g).1))) (La .add k a b g).2)
      refine Ac fun hg => ?_
      have hm := IB hg
      refine ⟨hm.1, fun loc act w1 _ hgs hf _ => ⟨_, Bf (by rw [hm.2]), fun w _ => hrun act w _ ?_ ?_⟩⟩
      ·rw [(hv loc act hf hgs).1, (hv loc act hf hgs).2]; exact Ao ..
      ·rw [(hv loc act hf hgs).1, (hv loc act hf hgs).2]; simp [binOp, Op.intArith, LL]
     case sub =>
      show A0 _ _ _ _ _ _ _ _ _ _ (one (.one (.k (.int k (La .sub k a b g).1))) (La .sub k a b g).2)
      refine Ac fun hg => ?_
      have hm := IB hg
      refine ⟨hm.1, fun loc act w1 _ hgs hf _ => ⟨_, Bf (by rw [hm.2]), fun w _ => hrun act w _ ?_ ?_⟩⟩
      ·rw [(hv loc act hf hgs).1, (hv loc act hf hgs).2]; exact Ao ..
      ·rw [(hv loc act hf hgs).1, (hv loc act hf hgs).2]; simp [binOp, Op.intArith, LL]
     case mul =>
      show A0 _ _ _ _ _ _ _ _ _ _ (one (.one (.k (.int k (La .mul k a b g).1))) (La .mul k a b g).2)
      refine Ac fun hg => ?_
      have hm := IB hg
      refine ⟨hm.1, fun loc act w1 _ hgs hf _ => ⟨_, Bf (by rw [hm.2]), fun w _ => hrun act w _ ?_ ?_⟩⟩
      ·rw [(hv loc act hf hgs).1, (hv loc act hf hgs).2]; exact Ao ..
      ·rw [(hv loc act hf hgs).1, (hv loc act hf hgs).2]; simp [binOp, Op.intArith, LL]
     case quo =>
      show A0 _ _ _ _ _ _ _ _ _ _ (one (.one (.k (.int k (NL .quo k a b ((Av .neq b (.n 0) g).2.AT pc (Av .neq b (.n 0) g).1)).1))) (NL .quo k a b ((Av .neq b (.n 0) g).2.AT pc (Av .neq b (.n 0) g).1)).2)
      refine Ac fun hg => ?_
      have hm := L4 hg
      have hmu := Al hm.1
      have hne := As hmu.1
      refine ⟨hne.1, fun loc act w1 hpc hgs hf _ => ⟨_, Bf (by rw [hm.2]), fun w _ => hrun act w _ ?_ ?_⟩⟩
      ·rw [(hv loc act hf hgs).1, (hv loc act hf hgs).2]; exact Ao ..
      ·have h0 := hmu.2 hpc
       rw [hne.2] at h0
       have h0' : (b.ev e).int ≠ 0 := by simpa [CX] using h0
       rw [(hv loc act hf hgs).1, (hv loc act hf hgs).2]; simp [binOp, Op.intDiv, MJ, h0']
     case rem =>
      show A0 _ _ _ _ _ _ _ _ _ _ (one (.one (.k (.int k (NL .rem k a b ((Av .neq b (.n 0) g).2.AT pc (Av .neq b (.n 0) g).1)).1))) (NL .rem k a b ((Av .neq b (.n 0) g).2.AT pc (Av .neq b (.n 0) g).1)).2)
      refine Ac fun hg => ?_
      have hm := L4 hg
      have hmu := Al hm.1
      have hne := As hmu.1
      refine ⟨hne.1, fun loc act w1 hpc hgs hf _ => ⟨_, Bf (by rw [hm.2]), fun w _ => hrun act w _ ?_ ?_⟩⟩
      ·rw [(hv loc act hf hgs).1, (hv loc act hf hgs).2]; exact Ao ..
      ·have h0 := hmu.2 hpc
       rw [hne.2] at h0
       have h0' : (b.ev e).int ≠ 0 := by simpa [CX] using h0
       rw [(hv loc act hf hgs).1, (hv loc act hf hgs).2]; simp [binOp, Op.intDiv, MJ, h0']
     case shl => exact absurd rfl hsh
     case shr => exact absurd rfl hsh
     case and =>
      show A0 _ _ _ _ _ _ _ _ _ _ (one (.one (.k (.int k (It .and k a b g).1))) (It .and k a b g).2)
      refine Ac fun hg => ?_
      have hm := EF hg
      refine ⟨hm.1, fun loc act w1 _ hgs hf _ => ⟨_, Bf (by rw [hm.2]), fun w _ => hrun act w _ ?_ ?_⟩⟩
      ·rw [(hv loc act hf hgs).1, (hv loc act hf hgs).2]; exact Ao ..
      ·rw [(hv loc act hf hgs).1, (hv loc act hf hgs).2]; simp [binOp, Op.intBits, K8]
     case or =>
      show A0 _ _ _ _ _ _ _ _ _ _ (one (.one (.k (.int k (It .or k a b g).1))) (It .or k a b g).2)
      refine Ac fun hg => ?_
      have hm := EF hg
      refine ⟨hm.1, fun loc act w1 _ hgs hf _ => ⟨_, Bf (by rw [hm.2]), fun w _ => hrun act w _ ?_ ?_⟩⟩
      ·rw [(hv loc act hf hgs).1, (hv loc act hf hgs).2]; exact Ao ..
      ·rw [(hv loc act hf hgs).1, (hv loc act hf hgs).2]; simp [binOp, Op.intBits, K8]
     case xor =>
      show A0 _ _ _ _ _ _ _ _ _ _ (one (.one (.k (.int k (It .xor k a b g).1))) (It .xor k a b g).2)
      refine Ac fun hg => ?_
      have hm := EF hg
      refine ⟨hm.1, fun loc act w1 _ hgs hf _ => ⟨_, Bf (by rw [hm.2]), fun w _ => hrun act w _ ?_ ?_⟩⟩
      ·rw [(hv loc act hf hgs).1, (hv loc act hf hgs).2]; exact Ao ..
      ·rw [(hv loc act hf hgs).1, (hv loc act hf hgs).2]; simp [binOp, Op.intBits, K8]
     case andNot =>
      show A0 _ _ _ _ _ _ _ _ _ _ (one (.one (.k (.int k (It .andNot k a b g).1))) (It .andNot k a b g).2)
      refine Ac fun hg => ?_
      have hm := EF hg
      refine ⟨hm.1, fun loc act w1 _ hgs hf _ => ⟨_, Bf (by rw [hm.2]), fun w _ => hrun act w _ ?_ ?_⟩⟩
      ·rw [(hv loc act hf hgs).1, (hv loc act hf hgs).2]; exact Ao ..
      ·rw [(hv loc act hf hgs).1, (hv loc act hf hgs).2]; simp [binOp, Op.intBits, K8]
     case eql =>
      show A0 _ _ _ _ _ _ _ _ _ _ (one (.one (.k (.bool (Av .eql a b g).1))) (Av .eql a b g).2)
      refine Ac fun hg => ?_
      have hm := As hg
      refine ⟨hm.1, fun loc act w1 _ hgs hf _ => ⟨_, BQ (by rw [hm.2]), fun w _ => hrun act w _ ?_ ?_⟩⟩
      ·rw [(hv loc act hf hgs).1, (hv loc act hf hgs).2]; exact Ao ..
      ·rw [(hv loc act hf hgs).1, (hv loc act hf hgs).2]; simp [binOp, Op.intCmp, CX]
     case neq =>
      show A0 _ _ _ _ _ _ _ _ _ _ (one (.one (.k (.bool (Av .neq a b g).1))) (Av .neq a b g).2)
      refine Ac fun hg => ?_
      have hm := As hg
      refine ⟨hm.1, fun loc act w1 _ hgs hf _ => ⟨_, BQ (by rw [hm.2]), fun w _ => hrun act w _ ?_ ?_⟩⟩
      ·rw [(hv loc act hf hgs).1, (hv loc act hf hgs).2]; exact Ao ..
      ·rw [(hv loc act hf hgs).1, (hv loc act hf hgs).2]; simp [binOp, Op.intCmp, CX]
     case lss =>
      show A0 _ _ _ _ _ _ _ _ _ _ (one (.one (.k (.bool (Av .lss a b g).1))) (Av .lss a b g).2)
      refine Ac fun hg => ?_
      have hm := As hg
      refine ⟨hm.1, fun loc act w1 _ hgs hf _ => ⟨_, BQ (by rw [hm.2]), fun w _ => hrun act w _ ?_ ?_⟩⟩
      ·rw [(hv loc act hf hgs).1, (hv loc act hf hgs).2]; exact Ao ..
      ·rw [(hv loc act hf hgs).1, (hv loc act hf hgs).2]; simp [binOp, Op.intCmp, CX]
     case leq =>
      show A0 _ _ _ _ _ _ _ _ _ _ (one (.one (.k (.bool (Av .leq a b g).1))) (Av .leq a b g).2)
      refine Ac fun hg => ?_
      have hm := As hg
      refine ⟨hm.1, fun loc act w1 _ hgs hf _ => ⟨_, BQ (by rw [hm.2]), fun w _ => hrun act w _ ?_ ?_⟩⟩
      ·rw [(hv loc act hf hgs).1, (hv loc act hf hgs).2]; exact Ao ..
      ·rw [(hv loc act hf hgs).1, (hv loc act hf hgs).2]; simp [binOp, Op.intCmp, CX]
     case gtr =>
      show A0 _ _ _ _ _ _ _ _ _ _ (one (.one (.k (.bool (Av .gtr a b g).1))) (Av .gtr a b g).2)
      refine Ac fun hg => ?_
      have hm := As hg
      refine ⟨hm.1, fun loc act w1 _ hgs hf _ => ⟨_, BQ (by rw [hm.2]), fun w _ => hrun act w _ ?_ ?_⟩⟩
      ·rw [(hv loc act hf hgs).1, (hv loc act hf hgs).2]; exact Ao ..
      ·rw [(hv loc act hf hgs).1, (hv loc act hf hgs).2]; simp [binOp, Op.intCmp, CX]
     case geq =>
      show A0 _ _ _ _ _ _ _ _ _ _ (one (.one (.k (.bool (Av .geq a b g).1))) (Av .geq a b g).2)
      refine Ac fun hg => ?_
      have hm := As hg
      refine ⟨hm.1, fun loc act w1 _ hgs hf _ => ⟨_, BQ (by rw [hm.2]), fun w _ => hrun act w _ ?_ ?_⟩⟩
      ·rw [(hv loc act hf hgs).1, (hv loc act hf hgs).2]; exact Ao ..
      ·rw [(hv loc act hf hgs).1, (hv loc act hf hgs).2]; simp [binOp, Op.intCmp, CX]
   ·rename_i a b
    simp only [Option.bind_eq_bind, Ctx.ty]
    cases ht : look t X.Ax with
    | none => trivial
    | some tt =>
     have hv : ∀ (loc : Loc) (act : Act), Am e rows.length loc fr act.tmps → Holds e gs → act.eval x = .bool (a.ev e).bool ∧ act.eval y = .bool (b.ev e).bool := fun loc act hf hgs =>
      ⟨DN (Aa hp hf hgs), DN (Aa hq hf hgs)⟩
     simp only [Option.bind_some]
     split
     ·rename_i hk
      have hu : P.underlying t = some .bool := by
       obtain ⟨d, hd, hkd⟩ := (hX t tt ht).kind
       rw [hk] at hkd
       cases d <;> simp [TK.okB] at hkd
       exact hd
      refine Ac fun hg => ?_
      have hm := Ho hg
      refine ⟨hm.1, fun loc act w1 _ hgs hf _ => ⟨_, BQ (by rw [hm.2]), fun w _ => hrun act w _ ?_ ?_⟩⟩
      ·rw [(hv loc act hf hgs).1, (hv loc act hf hgs).2]; exact EO ..
      ·rw [(hv loc act hf hgs).1, (hv loc act hf hgs).2]; simp [binOp, Op.equal, Op.maxDepth, run_equalIn_bool w 9999 t _ _ hu]
     ·rename_i hk
      have hu : P.underlying t = some .bool := by
       obtain ⟨d, hd, hkd⟩ := (hX t tt ht).kind
       rw [hk] at hkd
       cases d <;> simp [TK.okB] at hkd
       exact hd
      refine Ac fun hg => ?_
      have hm := Bc hg
      have hm2 := Ho hm.1
      refine ⟨hm2.1, fun loc act w1 _ hgs hf _ => ⟨_, BQ (by rw [hm.2, hm2.2]), fun w _ => hrun act w _ ?_ ?_⟩⟩
      ·rw [(hv loc act hf hgs).1, (hv loc act hf hgs).2]; exact EO ..
      ·rw [(hv loc act hf hgs).1, (hv loc act hf hgs).2]; simp [binOp, Op.equal, Op.maxDepth, run_equalIn_bool w 9999 t _ _ hu]
     ·trivial
   ·rename_i a b
    have hv : ∀ (loc : Loc) (act : Act), Am e rows.length loc fr act.tmps → Holds e gs → act.eval x = .string (a.ev e).str ∧ act.eval y = .string (b.ev e).str := fun loc act hf hgs =>
     ⟨by rcases (Aa hp hf hgs).2.2 with h | h; cases h; exact h, by rcases (Aa hq hf hgs).2.2 with h | h; cases h; exact h⟩
    split
    ·show A0 _ _ _ _ _ _ _ _ _ _ (one (.one (.k (.bool (g.push .eqS [a, b]).1))) (g.push .eqS [a, b]).2)
     refine Ac fun hg => ?_
     have hm := Af hg
     have hz := hm.2 (.b ((a.ev e).str == (b.ev e).str)) (by simp [D.ev])
     refine ⟨hm.1, fun loc act w1 _ hgs hf _ => ⟨_, BQ (by rw [hz]), fun w _ => hrun act w _ ?_ ?_⟩⟩
     ·rw [(hv loc act hf hgs).1, (hv loc act hf hgs).2]; exact Dc ..
     ·rw [(hv loc act hf hgs).1, (hv loc act hf hgs).2]; simp [binOp, Op.stringOp, beq_toListBytes]
    ·show A0 _ _ _ _ _ _ _ _ _ _ (one (.one (.k (.bool (mkNot (g.push .eqS [a, b]).1 (g.push .eqS [a, b]).2).1))) (mkNot (g.push .eqS [a, b]).1 (g.push .eqS [a, b]).2).2)
     refine Ac fun hg => ?_
     have hm := Bc hg
     have hm2 := Af hm.1
     have hz := hm2.2 (.b ((a.ev e).str == (b.ev e).str)) (by simp [D.ev])
     refine ⟨hm2.1, fun loc act w1 _ hgs hf _ => ⟨_, BQ (by rw [hm.2, hz]), fun w _ => hrun act w _ ?_ ?_⟩⟩
     ·rw [(hv loc act hf hgs).1, (hv loc act hf hgs).2]; exact Dc ..
     ·rw [(hv loc act hf hgs).1, (hv loc act hf hgs).2]; simp [binOp, Op.stringOp, beq_toListBytes]
    ·show A0 _ _ _ _ _ _ _ _ _ _ (one (.one (.k (.str (Iz a b pc g).1))) (Iz a b pc g).2)
     refine Ac fun hg => ?_
     obtain ⟨z1, z2, z3⟩ := NT hg
     refine ⟨z1, fun loc act w1 hpc hgs hf _ => ⟨.string ((a.ev e).str ++ (b.ev e).str), ⟨trivial, rfl, .inr (by simp only [K.AZ, A.str, z2, A.Ul, strOf])⟩, fun w _ => hrun act w _ ?_ ?_⟩⟩
     ·rw [(hv loc act hf hgs).1, (hv loc act hf hgs).2]; exact Dc ..
     ·obtain ⟨b1, b2⟩ := z3 hpc
      have hmx : IntKind.i64.max = 9223372036854775807 := rfl
      rw [(hv loc act hf hgs).1, (hv loc act hf hgs).2]
      have hle : ¬ ((((a.ev e).str.size + (b.ev e).str.size : Nat) : Int) > IntKind.i64.max) := by rw [hmx]; omega
      simp [binOp, Op.stringOp]
      omega
    ·trivial
   ·rename_i c d
    simp only [Option.bind_eq_bind]
    cases hl : look t X.eqs with
    | none => trivial
    | some ls =>
     obtain ⟨hq1, hq2, hq3⟩ := hQ t ls hl
     simp only [Option.bind_some]
     have hv : ∀ (loc : Loc) (act : Act), Am e rows.length loc fr act.tmps → Holds e gs → ∃ us vs : List Value, act.eval x = .agg us.toArray ∧ act.eval y = .agg vs.toArray ∧ Ag e rows.length loc c us ∧ Ag e rows.length loc d vs := fun loc act hf hgs => by
      obtain ⟨us, h1, h2⟩ := Aa hp hf hgs
      obtain ⟨vs, h3, h4⟩ := Aa hq hf hgs
      exact ⟨us, vs, h1, h3, h2, h4⟩
     have hE : ∀ us vs : List Value, Typed ls us.toArray → Typed ls vs.toArray → ∀ w, (Op.equalIn 10000 t (.agg us.toArray) (.agg vs.toArray)).run P w = .ok (allEq us.toArray vs.toArray ls) w := fun us vs t1 t2 w => by
      have := DO 20 t ls hq1 10000 (by omega) us.toArray vs.toArray t1 t2 w
      simpa [RT, hq3] using this
     split
     ·cases hc : DY c d ls g with
      | none => trivial
      | some r =>
       obtain ⟨z, g2⟩ := r
       refine Ac fun hg => ?_
       obtain ⟨h1, h2⟩ := Fa hc hg
       refine ⟨h1, fun loc act w1 _ hgs hf _ => ?_⟩
       obtain ⟨us, vs, e1, e2, r1, r2⟩ := hv loc act hf hgs
       obtain ⟨t1, t2, t3⟩ := h2 _ _ us vs r1 r2
       refine ⟨_, BQ t3, fun w _ => hrun act w _ ?_ ?_⟩
       ·rw [e1, e2]; exact run_eqGuard_agg w _ _ _ _ _ _ hq2
       ·rw [e1, e2, run_eql_struct, hE us vs t1 t2]; rfl
     ·cases hc : DY c d ls g with
      | none => trivial
      | some r =>
       obtain ⟨z, g2⟩ := r
       refine Ac fun hg => ?_
       have hm := Bc hg
       obtain ⟨h1, h2⟩ := Fa hc hm.1
       refine ⟨h1, fun loc act w1 _ hgs hf _ => ?_⟩
       obtain ⟨us, vs, e1, e2, r1, r2⟩ := hv loc act hf hgs
       obtain ⟨t1, t2, t3⟩ := h2 _ _ us vs r1 r2
       refine ⟨_, BQ (by rw [hm.2, t3]), fun w _ => hrun act w _ ?_ ?_⟩
       ·rw [e1, e2]; exact run_eqGuard_agg w _ _ _ _ _ _ hq2
       ·rw [e1, e2, run_neq_struct, hE us vs t1 t2]; rfl
     ·trivial
   ·trivial
end
end Rx
namespace Rx
open Go Go.RowKit
section
variable {T : Nat → List A → Bool × List A} {e : Nat → A} {n n' : Nat} {loc loc' : Loc} {P : Program} {X : Ctx} {w0 : W0}
variable {fr : List SV} {rows : List Row} {gs : List (L × Bool)} {pc : L} {o : Oper} {g : G} {inl : Inline}
theorem El : ∀ {k off st : Nat} {l cs : List C}, EC l off st k = some cs → cs.length = k ∧ ∀ i, i < k → cs[i]? = l[off + st * i]?
 | 0, off, st, l, cs, h => by simp [EC] at h; subst h; exact ⟨rfl, fun i hi => by omega⟩
 | k + 1, off, st, l, cs, h => by
  simp only [EC, Option.bind_eq_bind, Option.bind_eq_some_iff, Option.some.injEq] at h
  obtain ⟨c, hc, r, hr, rfl⟩ := h
  obtain ⟨h1, h2⟩ := El hr
  refine ⟨by simp [h1], fun i hi => ?_⟩
  cases i with
  | zero => simp [hc]
  | succ i =>
   rw [List.getElem?_cons_succ, h2 i (by omega)]
   congr 1
   rw [Nat.mul_succ]; omega
theorem FU {s : Ak} : ∀ {cs : List C} {ls : List L}, leaves s cs = some ls → ls.length = cs.length ∧ ∀ (i : Nat) c, cs[i]? = some c → ∃ y, ls[i]? = some y ∧ c = .k (s.mk y)
 | [], ls, h => by simp [leaves] at h; subst h; exact ⟨rfl, fun i c h => by simp at h⟩
 | .k x :: l, ls, h => by
  simp only [leaves, Option.bind_eq_bind, Option.bind_eq_some_iff] at h
  obtain ⟨⟨u, y⟩, hu, h⟩ := h
  simp only at h
  split at h
  ·rename_i hs
   simp only [Option.bind_eq_some_iff, Option.some.injEq] at h
   obtain ⟨r, hr, rfl⟩ := h
   obtain ⟨h1, h2⟩ := FU hr
   have e1 := Ak.Ae hs
   subst e1
   have e2 := K.C5 hu
   subst e2
   refine ⟨by simp [h1], fun i c hc => ?_⟩
   cases i with
   | zero => simp at hc; subst hc; exact ⟨y, rfl, rfl⟩
   | succ i => simpa using h2 i c (by simpa using hc)
  ·cases h
 | .clo _ _ _ :: _, _, h => by simp [leaves] at h
theorem Ak.IG {s : Ak} {y z : L} {v : Value} (h : (s.mk y).rel e n loc v) (hz : z.ev e = y.ev e) : (s.mk z).rel e n loc v := by
 have hv := Ak.Ng h
 refine ⟨?_, h.2.1, .inr ?_⟩
 ·cases s <;> trivial
 ·rw [hv]; cases s <;> simp only [Ak.mk, K.AZ, hz]
theorem O9 {s : Ak} {x : L} {a : A} (_ : s.single = true) (h : x.ev e = a) : (s.mk x).rel e n loc (s.AZ a) := by
 subst h
 cases s <;> refine ⟨trivial, ?_, .inr rfl⟩
 all_goals first | rfl | skip
 simp only [Ak.AZ]
 unfold E0
 split <;> rfl
theorem S5 (s : Ak) (a : A) : (s.AZ a).oneCell' = true := by
 cases s <;> try rfl
 simp only [Ak.AZ]
 unfold E0
 split <;> rfl
theorem P9 {s : Ak} {x : L} {v : Value} (h : (s.mk x).rel e n loc v) : v = s.AZ (x.ev e) := by
 cases s <;> (rcases h.2.2 with h1 | h1) <;> first | (cases h1; done) | (rw [h1]; rfl)
theorem Kd {α : Type} {l : List α} {k m : Nat} {x : α} (h : l[k]? = some x) : (l.drop k).take (m + 1) = x :: (l.drop (k + 1)).take m := by
 have hk := Ab h
 rw [List.drop_eq_getElem_cons hk, List.take_succ_cons]
 rw [List.getElem?_eq_getElem hk] at h
 injection h with h
 rw [h]
theorem Em {cells : List C} {st num : Nat} {x : L} : ∀ {m off : Nat} {g g' : G} {rs : List C}, CY cells off st num x m g = some (rs, g') → Good T e g' →
  Good T e g ∧ rs.length = m ∧ rs.all C.Ck = true ∧ ∀ i : Nat, (x.ev e).int = i → i < num → ∀ n loc vs, Ag e n loc cells vs → Ag e n loc rs ((vs.drop (off + st * i)).take m)
 | 0, off, g, g', rs, h, hg => by
  simp only [CY, Option.some.injEq, Prod.mk.injEq] at h
  obtain ⟨rfl, rfl⟩ := h
  exact ⟨hg, rfl, rfl, fun i _ _ n loc vs _ => by simp [Ag]⟩
 | m + 1, off, g, g', rs, h, hg => by
  simp only [CY, Option.bind_eq_bind, Option.bind_eq_some_iff, Option.some.injEq] at h
  obtain ⟨cs, hcs, s, hs, ls, hls, h⟩ := h
  obtain ⟨⟨r, g2⟩, hr, h⟩ := h
  simp only [Prod.mk.injEq] at h
  obtain ⟨rfl, rfl⟩ := h
  obtain ⟨h1, h2, h2s, h3⟩ := Em hr hg
  have hp := Af h1
  obtain ⟨l1, l2⟩ := El hcs
  obtain ⟨k1, k2⟩ := FU hls
  refine ⟨hp.1, by simp [h2], by cases s <;> simpa [C.Ck, K.Ck, Ak.mk] using h2s, fun i hi hlt n loc vs hv => ?_⟩
  have hc : ∃ c, cs[i]? = some c := ⟨cs[i]'(by omega), List.getElem?_eq_getElem (by omega)⟩
  obtain ⟨c, hc⟩ := hc
  obtain ⟨y, hy, rfl⟩ := k2 i c hc
  have hcell : cells[off + st * i]? = some (.k (s.mk y)) := (l2 i hlt).symm.trans hc
  obtain ⟨v, hv1, hv2⟩ := Cq hv hcell
  rw [Kd hv1]
  refine ⟨?_, by simpa [Nat.add_right_comm] using h3 i hi hlt n loc vs hv⟩
  have hev : (g.push .sel (x :: ls)).1.ev e = y.ev e := hp.2 _ (by
   simp only [D.ev, List.map_cons, List.getElem?_cons_zero, hi, Int.toNat_natCast, List.getElem?_map, hy, Option.map_some, Option.getD_some])
  exact Ak.IG hv2 hev
theorem Jd {u : Nat} {tu : Ty} (h : Ek P u tu) {cs : List C} {vs : List Value} {off : Nat} {c : List C} {p : PV} (hr : Ag e n loc cs vs) (hc : Cv cs off tu.size = some c) (hp : C9 tu.kind.agg c = some p) :
  ∃ v, p.rel e n loc v ∧ ∀ w, (part u vs.toArray off).run P w = .ok v w := by
 obtain ⟨h1, rfl, h3⟩ := A2 hc
 have hl := AB hr
 have hcr := E5 (E6 hr off) tu.size
 rcases A6 hp with ⟨ha, rfl⟩ | ⟨ha, c, hcc, rfl⟩
 ·refine ⟨.agg ((vs.drop off).take tu.size).toArray, ⟨_, rfl, hcr⟩, fun w => ?_⟩
  simp only [part, Sem.run_bind, DD h, ha, if_true, Result.andThen_ok, AQ h, Sem.run_pure]
  congr 2
  apply Array.ext'
  simp [List.extract]
 ·rw [hcc] at hcr
  cases hv : (vs.drop off).take tu.size with
  | nil => rw [hv] at hcr; exact hcr.elim
  | cons v l =>
   rw [hv] at hcr
   refine ⟨v, hcr.1, fun w => ?_⟩
   have hoff : vs[off]? = some v := by
    have := congrArg (·[0]?) hv
    simp only [List.getElem?_cons_zero, List.getElem?_take, List.getElem?_drop, Nat.add_zero] at this
    split at this
    ·exact this
    ·cases this
   simp [part, DD h, ha, hoff]
theorem En (hX : Bj P X.Ax) {fs : List (Nat × Nat)} {i off m : Nat} (h : Cw fs X i = some (off, m)) : ∃ t ty, fs[i]? = some (t, off) ∧ look t X.Ax = some ty ∧ m = ty.size ∧ Ek P t ty := by
 simp only [Cw, Ctx.ty, Option.bind_eq_bind, Option.bind_eq_some_iff, Option.some.injEq, Prod.mk.injEq] at h
 obtain ⟨⟨t, o⟩, h1, ty, h2, h3, h4⟩ := h
 simp only at h2 h3
 subst h3
 exact ⟨t, ty, h1, h2, h4.symm, hX t ty h2⟩
theorem RW (hX : Bj P X.Ax) {t : TypeId} {x : Operand} {f : Nat} (ho : o.op = .field t x f) : A0 P T e w0 fr rows gs pc o g (execOp X inl fr rows gs pc o g) := by
 obtain ⟨dst, op', ty, pos, after, guard⟩ := o
 simp only at ho
 subst ho
 simp only [execOp, Option.bind_eq_bind, Ctx.ty]
 cases ht : look t X.Ax with
 | none => trivial
 | some tt =>
  simp only [Option.bind_some]
  cases hp : Cu fr gs x with
  | none => trivial
  | some p =>
   simp only [Option.bind_some]
   split
   ·rename_i fs cs hk
    cases hf : fs[f]? with
    | none => trivial
    | some u =>
     obtain ⟨u, off'⟩ := u
     simp only [Option.bind_some]
     cases hu : look u X.Ax with
     | none => trivial
     | some tu =>
      simp only [Option.bind_some]
      cases hs : Cw fs X f with
      | none => trivial
      | some om =>
       obtain ⟨off, m⟩ := om
       simp only [Option.bind_some]
       cases hc : Cv cs off m with
       | none => trivial
       | some c =>
        simp only [Option.bind_some]
        cases hm : C9 tu.kind.agg c with
        | none => trivial
        | some q =>
         simp only [Option.bind_some]
         obtain ⟨u', ty', h1, h2, h3, h4⟩ := En hX hs
         rw [hf] at h1
         simp only [Option.some.injEq, Prod.mk.injEq] at h1
         obtain ⟨rfl, rfl⟩ := h1
         rw [hu] at h2
         injection h2 with h2
         subst h2
         subst h3
         obtain ⟨gs', hg1, hg2⟩ := FT (hX t tt ht) hk
         have hfd : ∃ fd, gs'[f]? = some fd ∧ fd.type = u ∧ fd.offset = off' := by
          have := congrArg (·[f]?) hg2
          simp only [List.getElem?_map, hf] at this
          cases hfd : gs'.toList[f]? with
          | none => rw [hfd] at this; cases this
          | some fd =>
           rw [hfd] at this
           simp only [Option.map_some, Option.some.injEq, Prod.mk.injEq] at this
           exact ⟨fd, by simpa using hfd, this.1, this.2⟩
         obtain ⟨fd, hfd, rfl, rfl⟩ := hfd
         refine Ac fun hg => ⟨hg, fun loc a w1 _ hgs hfr _ => ?_⟩
         obtain ⟨vs, e1, e2⟩ := Aa hp hfr hgs
         obtain ⟨v, r1, r2⟩ := Jd h4 e2 hc hm
         refine ⟨v, r1, fun w _ => ?_⟩
         simp [Go.execOp, Instr.field, run_underlying hg1, hfd, e1, asAgg, r2]
   ·trivial
theorem Pa {x : Operand} {i : Nat} (ho : o.op = .extract x i) : A0 P T e w0 fr rows gs pc o g (execOp X inl fr rows gs pc o g) := by
 obtain ⟨dst, op', ty, pos, after, guard⟩ := o
 simp only at ho
 subst ho
 simp only [execOp, Option.bind_eq_bind]
 split
 ·rename_i t
  split
  ·rename_i l hl
   cases hi : l[i]? with
   | none => trivial
   | some p =>
    simp only [Option.bind_some]
    refine Ac fun hg => ⟨hg, fun loc a w1 _ hgs hfr _ => ?_⟩
    obtain ⟨v, _, hv, vs, rfl, hr⟩ := hfr.get hl
    have : ∀ {l : List PV} {vs : List Value} {i : Nat} {p : PV}, An e rows.length loc l vs → l[i]? = some p → ∃ v, vs[i]? = some v ∧ p.rel e rows.length loc v := by
     intro l
     induction l with
     | nil => intro vs i p _ h; simp at h
     | cons a l ih =>
      intro vs i p h hp
      cases vs with
      | nil => exact h.elim
      | cons b vs =>
       cases i with
       | zero => simp at hp; subst hp; exact ⟨b, rfl, h.1⟩
       | succ i => simpa using ih h.2 (by simpa using hp)
    obtain ⟨v, hv1, hv2⟩ := this hr hi
    refine ⟨v, hv2, fun w _ => ?_⟩
    simp only [Go.execOp, Act.eval, hv]
    simp [Instr.extract, hv1]
  ·trivial
 ·trivial
theorem Ke : ∀ {l : List PV} {ks : List K} {vs : List Value}, Lg l = some ks → An e n loc l vs → Cc e n loc ks vs
 | [], ks, vs, h, hv => by
  simp [Lg] at h
  subst h
  cases vs with
  | nil => trivial
  | cons => exact hv.elim
 | .one (.k x) :: l, ks, vs, h, hv => by
  simp only [Lg, Option.bind_eq_bind, Option.bind_eq_some_iff, Option.some.injEq] at h
  obtain ⟨r, hr, rfl⟩ := h
  cases vs with
  | nil => exact hv.elim
  | cons v vs => exact ⟨hv.1, Ke hr hv.2⟩
 | .one (.clo ..) :: _, _, _, h, _ => by simp [Lg] at h
 | .agg _ :: _, _, _, h, _ => by simp [Lg] at h
theorem N1 {f : Nat} {first caps : Array Operand} (ho : o.op = .makeFunc (.func f) first caps) : A0 P T e w0 fr rows gs pc o g (execOp X inl fr rows gs pc o g) := by
 obtain ⟨dst, op', ty, pos, after, guard⟩ := o
 simp only at ho
 subst ho
 simp only [execOp, Option.bind_eq_bind]
 cases ha : Lb fr gs first.toList with
 | none => trivial
 | some as =>
  simp only [Option.bind_some]
  cases hb : Lb fr gs caps.toList with
  | none => trivial
  | some bs =>
   simp only [Option.bind_some]
   cases h1 : Lg as with
   | none => trivial
   | some k1 =>
    simp only [Option.bind_some]
    cases h2 : Lg bs with
    | none => trivial
    | some k2 =>
     simp only [Option.bind_some]
     refine Ac fun hg => ⟨hg, fun loc a w1 _ hgs hfr _ => ?_⟩
     have r1 := Ke h1 (E7 ha hfr hgs)
     have r2 := Ke h2 (E7 hb hfr hgs)
     refine ⟨.func (.func f) (first.map a.eval) (caps.map a.eval), ⟨_, _, ?_, r1, r2⟩, fun w _ => by simp [Go.execOp, Instr.makeFunc]⟩
     simp only [Value.func.injEq, true_and]
     constructor <;> (apply Array.ext'; simp)
theorem RX {x : Operand} (ho : o.op = .panic x) : A0 P T e w0 fr rows gs pc o g (execOp X inl fr rows gs pc o g) := by
 simp only [execOp, ho]
 intro hg
 have hm := Al hg
 refine ⟨hm.1, fun loc a w1 hpc _ _ _ => ?_⟩
 have := hm.2 hpc
 simp at this
theorem II (hX : Bj P X.Ax) {t : TypeId} {x : Operand} (ho : o.op = .makeInterface t x) : A0 P T e w0 fr rows gs pc o g (execOp X inl fr rows gs pc o g) := by
 obtain ⟨dst, op', ty, pos, after, guard⟩ := o
 simp only at ho
 subst ho
 simp only [execOp, Option.bind_eq_bind, Ctx.ty]
 cases ht : look t X.Ax with
 | none => trivial
 | some tt =>
  simp only [Option.bind_some]
  split
  ·rename_i hk
   have hun := Bo (hX t tt ht) hk
   refine fun hg => ⟨hg, fun loc a w1 _ _ _ _ => ⟨.iface t (a.eval x), trivial, fun w _ => .pure ?_⟩⟩
   simp [Go.execOp, Instr.makeInterface, run_underlying hun]
  ·trivial
end
end Rx
