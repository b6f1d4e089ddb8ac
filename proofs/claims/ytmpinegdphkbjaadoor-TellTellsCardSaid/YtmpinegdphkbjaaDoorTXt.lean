import Derived.Test.YtmpinegdphkbjaaDoorTXc
import Derived.Test.YtmpinegdphkbjaaDoorTXd
set_option linter.unusedVariables false
set_option linter.unusedSimpArgs false
namespace Rx.S
open Go Rx
set_option maxRecDepth 100000
def VV (al : List A) : Bool × List A := (Day.i64 (gi al 2), [Day.Vo (Day.L1.mk (ge al 0) (gi al 1)) (gi al 2)])
def U5 (al : List A) : Bool × List A := (Day.i64 (Day.Fr.id (Day.Fr.mk (gi al 0) (gi al 1))), [.v (.string (Day.Dq (Day.Fr.mk (gi al 0) (gi al 1))))])
def U6 (al : List A) : Bool × List A := (Day.i64 (Day.ND.pos (Day.ND.mk (gi al 0) (gi al 1) (gi al 2) (gi al 3))), [.v (.string (Day.Jk (Day.ND.mk (gi al 0) (gi al 1) (gi al 2) (gi al 3))))])
def WG (al : List A) : Bool × List A := let z0 := (Day.Lk.mk (gi al 0) (gi al 1) (gi al 2) (gi al 3) (gi al 4) (ge al 5) (gi al 6)); (Day.Lk.ok z0, [.v (.string (Day.Dg z0))])
def WH (al : List A) : Bool × List A := (Day.L1.RW (Day.L1.mk (ge al 0) (gi al 1)), [.v (.string (Day.GU (Day.L1.mk (ge al 0) (gi al 1))))])
def U7 (al : List A) : Bool × List A := (Day.i64 (gi al 0), [.v (.string (Day.Mh (gi al 0)))])
def U8 (al : List A) : Bool × List A := (Day.i64 (Day.Fr.id (Day.Fr.mk (gi al 0) (gi al 1))), [.v (.string (Day.Dq (Day.Fr.mk (gi al 0) (gi al 1))))])
def U9 (al : List A) : Bool × List A := (Day.i64 (Day.ND.pos (Day.ND.mk (gi al 0) (gi al 1) (gi al 2) (gi al 3))), [.v (.string (Day.Jk (Day.ND.mk (gi al 0) (gi al 1) (gi al 2) (gi al 3))))])
def Va (al : List A) : Bool × List A := let z0 := (Day.Lk.mk (gi al 0) (gi al 1) (gi al 2) (gi al 3) (gi al 4) (ge al 5) (gi al 6)); (Day.Lk.ok z0, [.v (.string (Day.Dg z0))])
def Vb (al : List A) : Bool × List A := (Day.L1.RW (Day.L1.mk (ge al 0) (gi al 1)), [.v (.string (Day.GU (Day.L1.mk (ge al 0) (gi al 1))))])
def WI (al : List A) : Bool × List A := (true, [.b (true)])
def WJ (al : List A) : Bool × List A := (Day.L1.E8 (Day.L1.mk (ge al 0) (gi al 1)), [.b (Day.L1.Ut (Day.L1.mk (ge al 0) (gi al 1)))])
def Wx (al : List A) : Bool × List A := (Day.i64 (Day.Fr.id (Day.Fr.mk (gi al 0) (gi al 1))) && (Day.i64 (Day.ND.pos (Day.ND.mk (gi al 2) (gi al 3) (gi al 4) (gi al 5))) && Day.L1.E8 (Day.L1.mk (ge al 6) (gi al 7))), [.b (true)])
def GV (al : List A) : Bool × List A := let z0 := (Day.Lk.mk (gi al 1) (gi al 2) (gi al 3) (gi al 4) (gi al 5) (ge al 9) (gi al 6)); (Day.fP (Day.L1.mk (ge al 10) (gi al 0)) z0 (gi al 8), [.i (Day.fN (Day.L1.mk (ge al 10) (gi al 0)) z0 (gi al 8)), Day.fX (Day.L1.mk (ge al 10) (gi al 0)) z0 (gi al 8)])
def GW (al : List A) : Bool × List A := let z0 := (Day.Lk.mk (gi al 1) (gi al 2) (gi al 3) (gi al 4) (gi al 5) (ge al 9) (gi al 6)); (Day.nP (Day.L1.mk (ge al 10) (gi al 0)) z0 (gi al 8), [.i (Day.nN (Day.L1.mk (ge al 10) (gi al 0)) z0 (gi al 8)), Day.nX (Day.L1.mk (ge al 10) (gi al 0)) z0 (gi al 8)])
def GX (al : List A) : Bool × List A := let z0 := (Day.Lk.mk (gi al 1) (gi al 2) (gi al 3) (gi al 4) (gi al 5) (ge al 12) (gi al 6)); (Day.fP (Day.L1.mk (ge al 13) (gi al 0)) z0 (gi al 9), [.i (Day.fN (Day.L1.mk (ge al 13) (gi al 0)) z0 (gi al 9)), .i ((2 : Int)), .b (false), Day.fX (Day.L1.mk (ge al 13) (gi al 0)) z0 (gi al 9)])
def GY (al : List A) : Bool × List A := let z0 := (Day.Lk.mk (gi al 1) (gi al 2) (gi al 3) (gi al 4) (gi al 5) (ge al 14) (gi al 6)); (Day.nP (Day.L1.mk (ge al 15) (gi al 0)) z0 (gi al 11), [.i (Day.nN (Day.L1.mk (ge al 15) (gi al 0)) z0 (gi al 11)), .i (Day.Lk.n z0), .b (false), Day.nX (Day.L1.mk (ge al 15) (gi al 0)) z0 (gi al 11)])
def GZ (al : List A) : Bool × List A := (Day.kP (Day.L1.mk (ge al 4) (gi al 1)) (Day.L1.mk (ge al 3) (gi al 0)) (gi al 2), [.i (Day.kN (Day.L1.mk (ge al 4) (gi al 1)) (Day.L1.mk (ge al 3) (gi al 0)) (gi al 2)), Day.kX (Day.L1.mk (ge al 4) (gi al 1)) (Day.L1.mk (ge al 3) (gi al 0)) (gi al 2)])
def G0 (al : List A) : Bool × List A := (Day.dP (gs al 1) (gi al 2), [.v (.string (Day.dS (gs al 1) (gi al 2)))])
def G1 (al : List A) : Bool × List A := (Day.rP (gs al 6) (Day.L1.mk (ge al 15) (gi al 5)) (gi al 7), [.v (.string (Day.rS (gs al 6) (Day.L1.mk (ge al 15) (gi al 5)) (gi al 7)))])
def G2 (al : List A) : Bool × List A := (Day.qP (gs al 1) (Day.L1.mk (ge al 3) (gi al 0)) (gi al 2), [.v (.string (Day.qS (gs al 1) (Day.L1.mk (ge al 3) (gi al 0)) (gi al 2)))])
def G3 (al : List A) : Bool × List A := (Day.wP (Day.L1.mk (ge al 3) (gi al 0)) (gi al 1), [.b (Day.Mi (Day.L1.mk (ge al 3) (gi al 0)) (gi al 1)), .b (Day.HG (Day.L1.mk (ge al 3) (gi al 0)) (gi al 1))])
def G4 (al : List A) : Bool × List A := (Day.O0 (Day.L1.mk (ge al 10) (gi al 6)) (gi al 7), [.b (false), .b (true)])
def table : List (Nat × (List A → Bool × List A)) := [(20, VV), (11, U5), (13, U6), (9, WG), (8, WH), (17, U7), (12, U8), (14, U9), (10, Va), (15, Vb), (7, WI), (6, WJ), (5, Wx), (1030, GV), (1031, GW), (1044, GX), (1045, GY), (1046, GZ), (1050, G0), (1080, G1), (1090, G2), (1110, G3), (1120, G4)]
def T : Nat → List A → Bool × List A := Xi table
theorem Ua : T 20 = VV := rfl
theorem Ub : T 11 = U5 := rfl
theorem Uc : T 13 = U6 := rfl
theorem Wy : T 9 = WG := rfl
theorem Wz : T 8 = WH := rfl
theorem Ud : T 17 = U7 := rfl
theorem Ue : T 12 = U8 := rfl
theorem Uf : T 14 = U9 := rfl
theorem Ug : T 10 = Va := rfl
theorem Uh : T 15 = Vb := rfl
theorem WA : T 7 = WI := rfl
theorem WB : T 6 = WJ := rfl
theorem WC : T 5 = Wx := rfl
theorem Mk : T 1030 = GV := rfl
theorem Ml : T 1031 = GW := rfl
theorem Mm : T 1044 = GX := rfl
theorem Mn : T 1045 = GY := rfl
theorem Mo : T 1046 = GZ := rfl
theorem Mp : T 1050 = G0 := rfl
theorem Mq : T 1080 = G1 := rfl
theorem Mr : T 1090 = G2 := rfl
theorem Ms : T 1110 = G3 := rfl
theorem Mt : T 1120 = G4 := rfl
def ws : List (Nat × Nat) := [(20, 2), (11, 2), (13, 2), (9, 2), (8, 2), (17, 2), (12, 2), (14, 2), (10, 2), (15, 2), (7, 2), (6, 2), (5, 2), (1030, 3), (1031, 3), (1044, 5), (1045, 5), (1046, 3), (1050, 2), (1080, 2), (1090, 2), (1110, 3), (1120, 3)]
theorem Bn : F1 T ws := fun f k h al => by
 have := I1 h
 simp only [ws, List.mem_cons, List.not_mem_nil, or_false, Prod.mk.injEq] at this
 rcases this with ⟨rfl, rfl⟩ | ⟨rfl, rfl⟩ | ⟨rfl, rfl⟩ | ⟨rfl, rfl⟩ | ⟨rfl, rfl⟩ | ⟨rfl, rfl⟩ | ⟨rfl, rfl⟩ | ⟨rfl, rfl⟩ | ⟨rfl, rfl⟩ | ⟨rfl, rfl⟩ | ⟨rfl, rfl⟩ | ⟨rfl, rfl⟩ | ⟨rfl, rfl⟩ | ⟨rfl, rfl⟩ | ⟨rfl, rfl⟩ | ⟨rfl, rfl⟩ | ⟨rfl, rfl⟩ | ⟨rfl, rfl⟩ | ⟨rfl, rfl⟩ | ⟨rfl, rfl⟩ | ⟨rfl, rfl⟩ | ⟨rfl, rfl⟩ | ⟨rfl, rfl⟩
 ·rw [Ua]; exact Nat.le_refl _
 ·rw [Ub]; exact Nat.le_refl _
 ·rw [Uc]; exact Nat.le_refl _
 ·rw [Wy]; exact Nat.le_refl _
 ·rw [Wz]; exact Nat.le_refl _
 ·rw [Ud]; exact Nat.le_refl _
 ·rw [Ue]; exact Nat.le_refl _
 ·rw [Uf]; exact Nat.le_refl _
 ·rw [Ug]; exact Nat.le_refl _
 ·rw [Uh]; exact Nat.le_refl _
 ·rw [WA]; exact Nat.le_refl _
 ·rw [WB]; exact Nat.le_refl _
 ·rw [WC]; exact Nat.le_refl _
 ·rw [Mk]; exact Nat.le_refl _
 ·rw [Ml]; exact Nat.le_refl _
 ·rw [Mm]; exact Nat.le_refl _
 ·rw [Mn]; exact Nat.le_refl _
 ·rw [Mo]; exact Nat.le_refl _
 ·rw [Mp]; exact Nat.le_refl _
 ·rw [Mq]; exact Nat.le_refl _
 ·rw [Mr]; exact Nat.le_refl _
 ·rw [Ms]; exact Nat.le_refl _
 ·rw [Mt]; exact Nat.le_refl _
theorem Mu {a b : Int} {l m : List A} (h : a = b) (k : l = m) : (A.i a :: l) = (A.i b :: m) := by subst h k; rfl
theorem N7 {a b : Bool} {l m : List A} (h : a = b) (k : l = m) : (A.b a :: l) = (A.b b :: m) := by subst h k; rfl
theorem Ui {a b : ByteArray} {l m : List A} (h : a = b) (k : l = m) : (A.v (.string a) :: l) = (A.v (.string b) :: m) := by subst h k; rfl
theorem PX {a b : A} {l m : List A} (h : a = b) (k : l = m) : (a :: l) = (b :: m) := by subst h k; rfl
theorem AP {e : Nat → A} {b : Nat} {a0 a1 a2 : L} (h : Def.holds T e ⟨b, .call 20, [a0, a1, a2]⟩) :
  (e b).bool = (Day.i64 (a2.ev e).int) ∧ e (b + 1) = (Day.Vo (Day.L1.mk (a0.ev e) (a1.ev e).int) (a2.ev e).int) := by
 have hp := Cq Ua h
 have ho := fun j a => Cr (a := a) Ua j h
 simp only [VV, gi, gb, gs, gv, ge, List.map_cons, List.map_nil, List.getD_cons_zero, List.getD_cons_succ, L.AM, A.Ap] at hp ho
 exact ⟨hp, (ho 0 _ rfl :)⟩
theorem Mv {e : Nat → A} {b : Nat} {a0 a1 : L} (h : Def.holds T e ⟨b, .call 11, [a0, a1]⟩) :
  (e b).bool = (Day.i64 (Day.Fr.id (Day.Fr.mk (a0.ev e).int (a1.ev e).int))) ∧ (e (b + 1)).str = (Day.Dq (Day.Fr.mk (a0.ev e).int (a1.ev e).int)) := by
 have hp := Cq Ub h
 have ho := fun j a => Cr (a := a) Ub j h
 simp only [U5, gi, gb, gs, gv, ge, List.map_cons, List.map_nil, List.getD_cons_zero, List.getD_cons_succ, L.AM, A.Ap] at hp ho
 exact ⟨hp, (congrArg A.str (ho 0 _ rfl) :)⟩
theorem H4 {e : Nat → A} {b : Nat} {a0 a1 a2 a3 : L} (h : Def.holds T e ⟨b, .call 13, [a0, a1, a2, a3]⟩) :
  ∀ z0, z0 = (Day.ND.mk (a0.ev e).int (a1.ev e).int (a2.ev e).int (a3.ev e).int) → (e b).bool = (Day.i64 (Day.ND.pos z0)) ∧ (e (b + 1)).str = (Day.Jk z0) := by
 intro z0 hz0
 subst hz0
 have hp := Cq Uc h
 have ho := fun j a => Cr (a := a) Uc j h
 simp only [U6, gi, gb, gs, gv, ge, List.map_cons, List.map_nil, List.getD_cons_zero, List.getD_cons_succ, L.AM, A.Ap] at hp ho
 exact ⟨hp, (congrArg A.str (ho 0 _ rfl) :)⟩
theorem H5 {e : Nat → A} {b : Nat} {a0 a1 a2 a3 a4 a5 a6 : L} (h : Def.holds T e ⟨b, .call 9, [a0, a1, a2, a3, a4, a5, a6]⟩) :
  ∀ z0, z0 = (Day.Lk.mk (a0.ev e).int (a1.ev e).int (a2.ev e).int (a3.ev e).int (a4.ev e).int (a5.ev e) (a6.ev e).int) → (e b).bool = (Day.Lk.ok z0) ∧ (e (b + 1)).str = (Day.Dg z0) := by
 intro z0 hz0
 subst hz0
 have hp := Cq Wy h
 have ho := fun j a => Cr (a := a) Wy j h
 simp only [WG, gi, gb, gs, gv, ge, List.map_cons, List.map_nil, List.getD_cons_zero, List.getD_cons_succ, L.AM, A.Ap] at hp ho
 exact ⟨hp, (congrArg A.str (ho 0 _ rfl) :)⟩
theorem Mw {e : Nat → A} {b : Nat} {a0 a1 : L} (h : Def.holds T e ⟨b, .call 8, [a0, a1]⟩) :
  (e b).bool = (Day.L1.RW (Day.L1.mk (a0.ev e) (a1.ev e).int)) ∧ (e (b + 1)).str = (Day.GU (Day.L1.mk (a0.ev e) (a1.ev e).int)) := by
 have hp := Cq Wz h
 have ho := fun j a => Cr (a := a) Wz j h
 simp only [WH, gi, gb, gs, gv, ge, List.map_cons, List.map_nil, List.getD_cons_zero, List.getD_cons_succ, L.AM, A.Ap] at hp ho
 exact ⟨hp, (congrArg A.str (ho 0 _ rfl) :)⟩
theorem Cn {e : Nat → A} {b : Nat} {a0 : L} (h : Def.holds T e ⟨b, .call 17, [a0]⟩) :
  (e b).bool = (Day.i64 (a0.ev e).int) ∧ (e (b + 1)).str = (Day.Mh (a0.ev e).int) := by
 have hp := Cq Ud h
 have ho := fun j a => Cr (a := a) Ud j h
 simp only [U7, gi, gb, gs, gv, ge, List.map_cons, List.map_nil, List.getD_cons_zero, List.getD_cons_succ, L.AM, A.Ap] at hp ho
 exact ⟨hp, (congrArg A.str (ho 0 _ rfl) :)⟩
theorem DT {e : Nat → A} {b : Nat} {a0 a1 : L} (h : Def.holds T e ⟨b, .call 12, [a0, a1]⟩) :
  (e b).bool = (Day.i64 (Day.Fr.id (Day.Fr.mk (a0.ev e).int (a1.ev e).int))) ∧ (e (b + 1)).str = (Day.Dq (Day.Fr.mk (a0.ev e).int (a1.ev e).int)) := by
 have hp := Cq Ue h
 have ho := fun j a => Cr (a := a) Ue j h
 simp only [U8, gi, gb, gs, gv, ge, List.map_cons, List.map_nil, List.getD_cons_zero, List.getD_cons_succ, L.AM, A.Ap] at hp ho
 exact ⟨hp, (congrArg A.str (ho 0 _ rfl) :)⟩
theorem G5 {e : Nat → A} {b : Nat} {a0 a1 a2 a3 : L} (h : Def.holds T e ⟨b, .call 14, [a0, a1, a2, a3]⟩) :
  ∀ z0, z0 = (Day.ND.mk (a0.ev e).int (a1.ev e).int (a2.ev e).int (a3.ev e).int) → (e b).bool = (Day.i64 (Day.ND.pos z0)) ∧ (e (b + 1)).str = (Day.Jk z0) := by
 intro z0 hz0
 subst hz0
 have hp := Cq Uf h
 have ho := fun j a => Cr (a := a) Uf j h
 simp only [U9, gi, gb, gs, gv, ge, List.map_cons, List.map_nil, List.getD_cons_zero, List.getD_cons_succ, L.AM, A.Ap] at hp ho
 exact ⟨hp, (congrArg A.str (ho 0 _ rfl) :)⟩
theorem G6 {e : Nat → A} {b : Nat} {a0 a1 a2 a3 a4 a5 a6 : L} (h : Def.holds T e ⟨b, .call 10, [a0, a1, a2, a3, a4, a5, a6]⟩) :
  ∀ z0, z0 = (Day.Lk.mk (a0.ev e).int (a1.ev e).int (a2.ev e).int (a3.ev e).int (a4.ev e).int (a5.ev e) (a6.ev e).int) → (e b).bool = (Day.Lk.ok z0) ∧ (e (b + 1)).str = (Day.Dg z0) := by
 intro z0 hz0
 subst hz0
 have hp := Cq Ug h
 have ho := fun j a => Cr (a := a) Ug j h
 simp only [Va, gi, gb, gs, gv, ge, List.map_cons, List.map_nil, List.getD_cons_zero, List.getD_cons_succ, L.AM, A.Ap] at hp ho
 exact ⟨hp, (congrArg A.str (ho 0 _ rfl) :)⟩
theorem KQ {e : Nat → A} {b : Nat} {a0 a1 : L} (h : Def.holds T e ⟨b, .call 15, [a0, a1]⟩) :
  (e b).bool = (Day.L1.RW (Day.L1.mk (a0.ev e) (a1.ev e).int)) ∧ (e (b + 1)).str = (Day.GU (Day.L1.mk (a0.ev e) (a1.ev e).int)) := by
 have hp := Cq Uh h
 have ho := fun j a => Cr (a := a) Uh j h
 simp only [Vb, gi, gb, gs, gv, ge, List.map_cons, List.map_nil, List.getD_cons_zero, List.getD_cons_succ, L.AM, A.Ap] at hp ho
 exact ⟨hp, (congrArg A.str (ho 0 _ rfl) :)⟩
theorem Gm {e : Nat → A} {b : Nat} (h : Def.holds T e ⟨b, .call 7, []⟩) :
  (e b).bool = (true) ∧ (e (b + 1)).bool = (true) := by
 have hp := Cq WA h
 have ho := fun j a => Cr (a := a) WA j h
 simp only [WI, gi, gb, gs, gv, ge, List.map_cons, List.map_nil, List.getD_cons_zero, List.getD_cons_succ, L.AM, A.Ap] at hp ho
 exact ⟨hp, (congrArg A.bool (ho 0 _ rfl) :)⟩
theorem Na {e : Nat → A} {b : Nat} {a0 a1 : L} (h : Def.holds T e ⟨b, .call 6, [a0, a1]⟩) :
  (e b).bool = (Day.L1.E8 (Day.L1.mk (a0.ev e) (a1.ev e).int)) ∧ (e (b + 1)).bool = (Day.L1.Ut (Day.L1.mk (a0.ev e) (a1.ev e).int)) := by
 have hp := Cq WB h
 have ho := fun j a => Cr (a := a) WB j h
 simp only [WJ, gi, gb, gs, gv, ge, List.map_cons, List.map_nil, List.getD_cons_zero, List.getD_cons_succ, L.AM, A.Ap] at hp ho
 exact ⟨hp, (congrArg A.bool (ho 0 _ rfl) :)⟩
theorem SC {e : Nat → A} {b : Nat} {a0 a1 a2 a3 a4 a5 a6 a7 a8 a9 a10 : L} (h : Def.holds T e ⟨b, .call 1030, [a0, a1, a2, a3, a4, a5, a6, a7, a8, a9, a10]⟩) :
  ∀ z0, z0 = (Day.Lk.mk (a1.ev e).int (a2.ev e).int (a3.ev e).int (a4.ev e).int (a5.ev e).int (a9.ev e) (a6.ev e).int) → (e b).bool = (Day.fP (Day.L1.mk (a10.ev e) (a0.ev e).int) z0 (a8.ev e).int) ∧ (e (b + 1)).int = (Day.fN (Day.L1.mk (a10.ev e) (a0.ev e).int) z0 (a8.ev e).int) ∧ e (b + 2) = (Day.fX (Day.L1.mk (a10.ev e) (a0.ev e).int) z0 (a8.ev e).int) := by
 intro z0 hz0
 subst hz0
 have hp := Cq Mk h
 have ho := fun j a => Cr (a := a) Mk j h
 simp only [GV, gi, gb, gs, gv, ge, List.map_cons, List.map_nil, List.getD_cons_zero, List.getD_cons_succ, L.AM, A.Ap] at hp ho
 exact ⟨hp, (congrArg A.int (ho 0 _ rfl) :), (ho 1 _ rfl :)⟩
theorem SD {e : Nat → A} {b : Nat} {a0 a1 a2 a3 a4 a5 a6 a7 a8 a9 a10 : L} (h : Def.holds T e ⟨b, .call 1031, [a0, a1, a2, a3, a4, a5, a6, a7, a8, a9, a10]⟩) :
  ∀ z0, z0 = (Day.Lk.mk (a1.ev e).int (a2.ev e).int (a3.ev e).int (a4.ev e).int (a5.ev e).int (a9.ev e) (a6.ev e).int) → (e b).bool = (Day.nP (Day.L1.mk (a10.ev e) (a0.ev e).int) z0 (a8.ev e).int) ∧ (e (b + 1)).int = (Day.nN (Day.L1.mk (a10.ev e) (a0.ev e).int) z0 (a8.ev e).int) ∧ e (b + 2) = (Day.nX (Day.L1.mk (a10.ev e) (a0.ev e).int) z0 (a8.ev e).int) := by
 intro z0 hz0
 subst hz0
 have hp := Cq Ml h
 have ho := fun j a => Cr (a := a) Ml j h
 simp only [GW, gi, gb, gs, gv, ge, List.map_cons, List.map_nil, List.getD_cons_zero, List.getD_cons_succ, L.AM, A.Ap] at hp ho
 exact ⟨hp, (congrArg A.int (ho 0 _ rfl) :), (ho 1 _ rfl :)⟩
theorem SE {e : Nat → A} {b : Nat} {a0 a1 a2 a3 a4 a5 a6 a7 a8 a9 a10 a11 a12 a13 : L} (h : Def.holds T e ⟨b, .call 1044, [a0, a1, a2, a3, a4, a5, a6, a7, a8, a9, a10, a11, a12, a13]⟩) :
  ∀ z0, z0 = (Day.Lk.mk (a1.ev e).int (a2.ev e).int (a3.ev e).int (a4.ev e).int (a5.ev e).int (a12.ev e) (a6.ev e).int) → (e b).bool = (Day.fP (Day.L1.mk (a13.ev e) (a0.ev e).int) z0 (a9.ev e).int) ∧ (e (b + 1)).int = (Day.fN (Day.L1.mk (a13.ev e) (a0.ev e).int) z0 (a9.ev e).int) ∧ (e (b + 2)).int = ((2 : Int)) ∧ (e (b + 3)).bool = (false) ∧ e (b + 4) = (Day.fX (Day.L1.mk (a13.ev e) (a0.ev e).int) z0 (a9.ev e).int) := by
 intro z0 hz0
 subst hz0
 have hp := Cq Mm h
 have ho := fun j a => Cr (a := a) Mm j h
 simp only [GX, gi, gb, gs, gv, ge, List.map_cons, List.map_nil, List.getD_cons_zero, List.getD_cons_succ, L.AM, A.Ap] at hp ho
 exact ⟨hp, (congrArg A.int (ho 0 _ rfl) :), (congrArg A.int (ho 1 _ rfl) :), (congrArg A.bool (ho 2 _ rfl) :), (ho 3 _ rfl :)⟩
theorem SF {e : Nat → A} {b : Nat} {a0 a1 a2 a3 a4 a5 a6 a7 a8 a9 a10 a11 a12 a13 a14 a15 : L} (h : Def.holds T e ⟨b, .call 1045, [a0, a1, a2, a3, a4, a5, a6, a7, a8, a9, a10, a11, a12, a13, a14, a15]⟩) :
  ∀ z0, z0 = (Day.Lk.mk (a1.ev e).int (a2.ev e).int (a3.ev e).int (a4.ev e).int (a5.ev e).int (a14.ev e) (a6.ev e).int) → (e b).bool = (Day.nP (Day.L1.mk (a15.ev e) (a0.ev e).int) z0 (a11.ev e).int) ∧ (e (b + 1)).int = (Day.nN (Day.L1.mk (a15.ev e) (a0.ev e).int) z0 (a11.ev e).int) ∧ (e (b + 2)).int = (Day.Lk.n z0) ∧ (e (b + 3)).bool = (false) ∧ e (b + 4) = (Day.nX (Day.L1.mk (a15.ev e) (a0.ev e).int) z0 (a11.ev e).int) := by
 intro z0 hz0
 subst hz0
 have hp := Cq Mn h
 have ho := fun j a => Cr (a := a) Mn j h
 simp only [GY, gi, gb, gs, gv, ge, List.map_cons, List.map_nil, List.getD_cons_zero, List.getD_cons_succ, L.AM, A.Ap] at hp ho
 exact ⟨hp, (congrArg A.int (ho 0 _ rfl) :), (congrArg A.int (ho 1 _ rfl) :), (congrArg A.bool (ho 2 _ rfl) :), (ho 3 _ rfl :)⟩
theorem SG {e : Nat → A} {b : Nat} {a0 a1 a2 a3 a4 : L} (h : Def.holds T e ⟨b, .call 1046, [a0, a1, a2, a3, a4]⟩) :
  (e b).bool = (Day.kP (Day.L1.mk (a4.ev e) (a1.ev e).int) (Day.L1.mk (a3.ev e) (a0.ev e).int) (a2.ev e).int) ∧ (e (b + 1)).int = (Day.kN (Day.L1.mk (a4.ev e) (a1.ev e).int) (Day.L1.mk (a3.ev e) (a0.ev e).int) (a2.ev e).int) ∧ e (b + 2) = (Day.kX (Day.L1.mk (a4.ev e) (a1.ev e).int) (Day.L1.mk (a3.ev e) (a0.ev e).int) (a2.ev e).int) := by
 have hp := Cq Mo h
 have ho := fun j a => Cr (a := a) Mo j h
 simp only [GZ, gi, gb, gs, gv, ge, List.map_cons, List.map_nil, List.getD_cons_zero, List.getD_cons_succ, L.AM, A.Ap] at hp ho
 exact ⟨hp, (congrArg A.int (ho 0 _ rfl) :), (ho 1 _ rfl :)⟩
theorem SH {e : Nat → A} {b : Nat} {a0 a1 a2 : L} (h : Def.holds T e ⟨b, .call 1050, [a0, a1, a2]⟩) :
  (e b).bool = (Day.dP (a1.ev e).str (a2.ev e).int) ∧ (e (b + 1)).str = (Day.dS (a1.ev e).str (a2.ev e).int) := by
 have hp := Cq Mp h
 have ho := fun j a => Cr (a := a) Mp j h
 simp only [G0, gi, gb, gs, gv, ge, List.map_cons, List.map_nil, List.getD_cons_zero, List.getD_cons_succ, L.AM, A.Ap] at hp ho
 exact ⟨hp, (congrArg A.str (ho 0 _ rfl) :)⟩
theorem SI {e : Nat → A} {b : Nat} {a0 a1 a2 a3 a4 a5 a6 a7 a8 a9 a10 a11 a12 a13 a14 a15 : L} (h : Def.holds T e ⟨b, .call 1080, [a0, a1, a2, a3, a4, a5, a6, a7, a8, a9, a10, a11, a12, a13, a14, a15]⟩) :
  (e b).bool = (Day.rP (a6.ev e).str (Day.L1.mk (a15.ev e) (a5.ev e).int) (a7.ev e).int) ∧ (e (b + 1)).str = (Day.rS (a6.ev e).str (Day.L1.mk (a15.ev e) (a5.ev e).int) (a7.ev e).int) := by
 have hp := Cq Mq h
 have ho := fun j a => Cr (a := a) Mq j h
 simp only [G1, gi, gb, gs, gv, ge, List.map_cons, List.map_nil, List.getD_cons_zero, List.getD_cons_succ, L.AM, A.Ap] at hp ho
 exact ⟨hp, (congrArg A.str (ho 0 _ rfl) :)⟩
theorem SJ {e : Nat → A} {b : Nat} {a0 a1 a2 a3 : L} (h : Def.holds T e ⟨b, .call 1090, [a0, a1, a2, a3]⟩) :
  (e b).bool = (Day.qP (a1.ev e).str (Day.L1.mk (a3.ev e) (a0.ev e).int) (a2.ev e).int) ∧ (e (b + 1)).str = (Day.qS (a1.ev e).str (Day.L1.mk (a3.ev e) (a0.ev e).int) (a2.ev e).int) := by
 have hp := Cq Mr h
 have ho := fun j a => Cr (a := a) Mr j h
 simp only [G2, gi, gb, gs, gv, ge, List.map_cons, List.map_nil, List.getD_cons_zero, List.getD_cons_succ, L.AM, A.Ap] at hp ho
 exact ⟨hp, (congrArg A.str (ho 0 _ rfl) :)⟩
theorem SK {e : Nat → A} {b : Nat} {a0 a1 a2 a3 : L} (h : Def.holds T e ⟨b, .call 1110, [a0, a1, a2, a3]⟩) :
  (e b).bool = (Day.wP (Day.L1.mk (a3.ev e) (a0.ev e).int) (a1.ev e).int) ∧ (e (b + 1)).bool = (Day.Mi (Day.L1.mk (a3.ev e) (a0.ev e).int) (a1.ev e).int) ∧ (e (b + 2)).bool = (Day.HG (Day.L1.mk (a3.ev e) (a0.ev e).int) (a1.ev e).int) := by
 have hp := Cq Ms h
 have ho := fun j a => Cr (a := a) Ms j h
 simp only [G3, gi, gb, gs, gv, ge, List.map_cons, List.map_nil, List.getD_cons_zero, List.getD_cons_succ, L.AM, A.Ap] at hp ho
 exact ⟨hp, (congrArg A.bool (ho 0 _ rfl) :), (congrArg A.bool (ho 1 _ rfl) :)⟩
theorem SL {e : Nat → A} {b : Nat} {a0 a1 a2 a3 a4 a5 a6 a7 a8 a9 a10 : L} (h : Def.holds T e ⟨b, .call 1120, [a0, a1, a2, a3, a4, a5, a6, a7, a8, a9, a10]⟩) :
  (e b).bool = (Day.O0 (Day.L1.mk (a10.ev e) (a6.ev e).int) (a7.ev e).int) ∧ (e (b + 1)).bool = (false) ∧ (e (b + 2)).bool = (true) := by
 have hp := Cq Mt h
 have ho := fun j a => Cr (a := a) Mt j h
 simp only [G4, gi, gb, gs, gv, ge, List.map_cons, List.map_nil, List.getD_cons_zero, List.getD_cons_succ, L.AM, A.Ap] at hp ho
 exact ⟨hp, (congrArg A.bool (ho 0 _ rfl) :), (congrArg A.bool (ho 1 _ rfl) :)⟩
end Rx.S
