import Derived.Test.YtmpinegdphkbjaaDoorUXc
import Derived.Test.YtmpinegdphkbjaaDoorUXd
set_option linter.unusedVariables false
set_option linter.unusedSimpArgs false
namespace Rx.S
open Go Rx
set_option maxRecDepth 100000
def Us (al : List A) : Bool × List A := (Day.i64 (gi al 2), [Day.TX (Day.L1.mk (ge al 0) (gi al 1)) (gi al 2)])
def TJ (al : List A) : Bool × List A := (Day.i64 (Day.ND.pos (Day.ND.mk (gi al 0) (gi al 1) (gi al 2) (gi al 3))), [.v (.string (Day.OQ (Day.ND.mk (gi al 0) (gi al 1) (gi al 2) (gi al 3))))])
def U9 (al : List A) : Bool × List A := let z0 := (Day.Lk.mk (gi al 0) (gi al 1) (gi al 2) (gi al 3) (gi al 4) (ge al 5) (gi al 6)); (Day.Lk.ok z0, [.v (.string (Day.OR z0))])
def Va (al : List A) : Bool × List A := (Day.L1.SS (Day.L1.mk (ge al 0) (gi al 1)), [.v (.string (Day.Cf (Day.L1.mk (ge al 0) (gi al 1))))])
def Vb (al : List A) : Bool × List A := (true, [.b (true)])
def Vc (al : List A) : Bool × List A := (Day.L1.Fa (Day.L1.mk (ge al 0) (gi al 1)), [.b (Day.L1.Tb (Day.L1.mk (ge al 0) (gi al 1)))])
def U1 (al : List A) : Bool × List A := (Day.L1.Fa (Day.L1.mk (ge al 0) (gi al 1)), [.b (true)])
def Gj (al : List A) : Bool × List A := let z0 := (Day.Lk.mk (gi al 1) (gi al 2) (gi al 3) (gi al 4) (gi al 5) (ge al 9) (gi al 6)); (Day.fP (Day.L1.mk (ge al 10) (gi al 0)) z0 (gi al 8), [.i (Day.fN (Day.L1.mk (ge al 10) (gi al 0)) z0 (gi al 8)), Day.fX (Day.L1.mk (ge al 10) (gi al 0)) z0 (gi al 8)])
def Gk (al : List A) : Bool × List A := let z0 := (Day.Lk.mk (gi al 1) (gi al 2) (gi al 3) (gi al 4) (gi al 5) (ge al 9) (gi al 6)); (Day.nP (Day.L1.mk (ge al 10) (gi al 0)) z0 (gi al 8), [.i (Day.nN (Day.L1.mk (ge al 10) (gi al 0)) z0 (gi al 8)), Day.nX (Day.L1.mk (ge al 10) (gi al 0)) z0 (gi al 8)])
def Gl (al : List A) : Bool × List A := let z0 := (Day.Lk.mk (gi al 1) (gi al 2) (gi al 3) (gi al 4) (gi al 5) (ge al 12) (gi al 6)); (Day.fP (Day.L1.mk (ge al 13) (gi al 0)) z0 (gi al 9), [.i (Day.fN (Day.L1.mk (ge al 13) (gi al 0)) z0 (gi al 9)), .i ((2 : Int)), .b (false), Day.fX (Day.L1.mk (ge al 13) (gi al 0)) z0 (gi al 9)])
def Gm (al : List A) : Bool × List A := let z0 := (Day.Lk.mk (gi al 1) (gi al 2) (gi al 3) (gi al 4) (gi al 5) (ge al 14) (gi al 6)); (Day.nP (Day.L1.mk (ge al 15) (gi al 0)) z0 (gi al 11), [.i (Day.nN (Day.L1.mk (ge al 15) (gi al 0)) z0 (gi al 11)), .i (Day.Lk.n z0), .b (false), Day.nX (Day.L1.mk (ge al 15) (gi al 0)) z0 (gi al 11)])
def Gn (al : List A) : Bool × List A := (Day.kP (Day.L1.mk (ge al 4) (gi al 1)) (Day.L1.mk (ge al 3) (gi al 0)) (gi al 2), [.i (Day.kN (Day.L1.mk (ge al 4) (gi al 1)) (Day.L1.mk (ge al 3) (gi al 0)) (gi al 2)), Day.kX (Day.L1.mk (ge al 4) (gi al 1)) (Day.L1.mk (ge al 3) (gi al 0)) (gi al 2)])
def Gp (al : List A) : Bool × List A := (Day.wP (Day.L1.mk (ge al 3) (gi al 0)) (gi al 1), [.b (Day.K4 (Day.L1.mk (ge al 3) (gi al 0)) (gi al 1)), .b (Day.GW (Day.L1.mk (ge al 3) (gi al 0)) (gi al 1))])
def Gq (al : List A) : Bool × List A := (Day.Td (gs al 1) (gi al 2) (gi al 4), [.i (Day.Lw (gs al 1) (gi al 2) (gi al 4)), .i (Day.QV (gs al 1) (gi al 2) (gi al 4)), .i (Day.Lw (gs al 1) (gi al 2) (gi al 4)), .i (Day.Fg (gs al 1)), .b (Day.PU (gs al 1) (gi al 2) (gi al 4)), .b (Day.PU (gs al 1) (gi al 2) (gi al 4)), .b (false)])
def Gr (al : List A) : Bool × List A := (Day.RN (gs al 1) (Day.L1.mk (ge al 6) (gi al 0)) (gi al 2) (gi al 3), [.i ((0 : Int)), .b (false), .i (Day.Fg (gs al 1)), .b (true)])
def table : List (Nat × (List A → Bool × List A)) := [(20, Us), (13, TJ), (9, U9), (8, Va), (7, Vb), (6, Vc), (3, U1), (1030, Gj), (1031, Gk), (1044, Gl), (1045, Gm), (1046, Gn), (1110, Gp), (1130, Gq), (1131, Gr)]
def T : Nat → List A → Bool × List A := VI table
theorem S0 : T 20 = Us := rfl
theorem S1 : T 13 = TJ := rfl
theorem U2 : T 9 = U9 := rfl
theorem U3 : T 8 = Va := rfl
theorem U4 : T 7 = Vb := rfl
theorem U5 : T 6 = Vc := rfl
theorem U6 : T 3 = U1 := rfl
theorem La : T 1030 = Gj := rfl
theorem Lb : T 1031 = Gk := rfl
theorem Ld : T 1044 = Gl := rfl
theorem Le : T 1045 = Gm := rfl
theorem Lf : T 1046 = Gn := rfl
theorem Lg : T 1110 = Gp := rfl
theorem Lh : T 1130 = Gq := rfl
theorem Li : T 1131 = Gr := rfl
def ws : List (Nat × Nat) := [(20, 2), (13, 2), (9, 2), (8, 2), (7, 2), (6, 2), (3, 2), (1030, 3), (1031, 3), (1044, 5), (1045, 5), (1046, 3), (1110, 3), (1130, 8), (1131, 5)]
theorem CN : FA T ws := fun f k h al => by
 have := H3 h
 simp only [ws, List.mem_cons, List.not_mem_nil, or_false, Prod.mk.injEq] at this
 rcases this with ⟨rfl, rfl⟩ | ⟨rfl, rfl⟩ | ⟨rfl, rfl⟩ | ⟨rfl, rfl⟩ | ⟨rfl, rfl⟩ | ⟨rfl, rfl⟩ | ⟨rfl, rfl⟩ | ⟨rfl, rfl⟩ | ⟨rfl, rfl⟩ | ⟨rfl, rfl⟩ | ⟨rfl, rfl⟩ | ⟨rfl, rfl⟩ | ⟨rfl, rfl⟩ | ⟨rfl, rfl⟩ | ⟨rfl, rfl⟩
 ·rw [S0]; exact Nat.le_refl _
 ·rw [S1]; exact Nat.le_refl _
 ·rw [U2]; exact Nat.le_refl _
 ·rw [U3]; exact Nat.le_refl _
 ·rw [U4]; exact Nat.le_refl _
 ·rw [U5]; exact Nat.le_refl _
 ·rw [U6]; exact Nat.le_refl _
 ·rw [La]; exact Nat.le_refl _
 ·rw [Lb]; exact Nat.le_refl _
 ·rw [Ld]; exact Nat.le_refl _
 ·rw [Le]; exact Nat.le_refl _
 ·rw [Lf]; exact Nat.le_refl _
 ·rw [Lg]; exact Nat.le_refl _
 ·rw [Lh]; exact Nat.le_refl _
 ·rw [Li]; exact Nat.le_refl _
theorem Fe {a b : Int} {l m : List A} (h : a = b) (k : l = m) : (A.i a :: l) = (A.i b :: m) := by subst h k; rfl
theorem Is {a b : Bool} {l m : List A} (h : a = b) (k : l = m) : (A.b a :: l) = (A.b b :: m) := by subst h k; rfl
theorem OU {a b : A} {l m : List A} (h : a = b) (k : l = m) : (a :: l) = (b :: m) := by subst h k; rfl
theorem AX {e : Nat → A} {b : Nat} {a0 a1 a2 : L} (h : Def.holds T e ⟨b, .call 20, [a0, a1, a2]⟩) :
  (e b).bool = (Day.i64 (a2.ev e).int) ∧ e (b + 1) = (Day.TX (Day.L1.mk (a0.ev e) (a1.ev e).int) (a2.ev e).int) := by
 have hp := En S0 h
 have ho := fun j a => Eo (a := a) S0 j h
 simp only [Us, gi, gb, gs, gv, ge, List.map_cons, List.map_nil, List.getD_cons_zero, List.getD_cons_succ, L.Bj, A.AB] at hp ho
 exact ⟨hp, (ho 0 _ rfl :)⟩
theorem LZ {e : Nat → A} {b : Nat} {a0 a1 a2 a3 : L} (h : Def.holds T e ⟨b, .call 13, [a0, a1, a2, a3]⟩) :
  ∀ z0, z0 = (Day.ND.mk (a0.ev e).int (a1.ev e).int (a2.ev e).int (a3.ev e).int) → (e b).bool = (Day.i64 (Day.ND.pos z0)) ∧ (e (b + 1)).str = (Day.OQ z0) := by
 intro z0 hz0
 subst hz0
 have hp := En S1 h
 have ho := fun j a => Eo (a := a) S1 j h
 simp only [TJ, gi, gb, gs, gv, ge, List.map_cons, List.map_nil, List.getD_cons_zero, List.getD_cons_succ, L.Bj, A.AB] at hp ho
 exact ⟨hp, (congrArg A.str (ho 0 _ rfl) :)⟩
theorem L0 {e : Nat → A} {b : Nat} {a0 a1 a2 a3 a4 a5 a6 : L} (h : Def.holds T e ⟨b, .call 9, [a0, a1, a2, a3, a4, a5, a6]⟩) :
  ∀ z0, z0 = (Day.Lk.mk (a0.ev e).int (a1.ev e).int (a2.ev e).int (a3.ev e).int (a4.ev e).int (a5.ev e) (a6.ev e).int) → (e b).bool = (Day.Lk.ok z0) ∧ (e (b + 1)).str = (Day.OR z0) := by
 intro z0 hz0
 subst hz0
 have hp := En U2 h
 have ho := fun j a => Eo (a := a) U2 j h
 simp only [U9, gi, gb, gs, gv, ge, List.map_cons, List.map_nil, List.getD_cons_zero, List.getD_cons_succ, L.Bj, A.AB] at hp ho
 exact ⟨hp, (congrArg A.str (ho 0 _ rfl) :)⟩
theorem Lj {e : Nat → A} {b : Nat} {a0 a1 : L} (h : Def.holds T e ⟨b, .call 8, [a0, a1]⟩) :
  (e b).bool = (Day.L1.SS (Day.L1.mk (a0.ev e) (a1.ev e).int)) ∧ (e (b + 1)).str = (Day.Cf (Day.L1.mk (a0.ev e) (a1.ev e).int)) := by
 have hp := En U3 h
 have ho := fun j a => Eo (a := a) U3 j h
 simp only [Va, gi, gb, gs, gv, ge, List.map_cons, List.map_nil, List.getD_cons_zero, List.getD_cons_succ, L.Bj, A.AB] at hp ho
 exact ⟨hp, (congrArg A.str (ho 0 _ rfl) :)⟩
theorem FN {e : Nat → A} {b : Nat} (h : Def.holds T e ⟨b, .call 7, []⟩) :
  (e b).bool = (true) ∧ (e (b + 1)).bool = (true) := by
 have hp := En U4 h
 have ho := fun j a => Eo (a := a) U4 j h
 simp only [Vb, gi, gb, gs, gv, ge, List.map_cons, List.map_nil, List.getD_cons_zero, List.getD_cons_succ, L.Bj, A.AB] at hp ho
 exact ⟨hp, (congrArg A.bool (ho 0 _ rfl) :)⟩
theorem L2 {e : Nat → A} {b : Nat} {a0 a1 : L} (h : Def.holds T e ⟨b, .call 6, [a0, a1]⟩) :
  (e b).bool = (Day.L1.Fa (Day.L1.mk (a0.ev e) (a1.ev e).int)) ∧ (e (b + 1)).bool = (Day.L1.Tb (Day.L1.mk (a0.ev e) (a1.ev e).int)) := by
 have hp := En U5 h
 have ho := fun j a => Eo (a := a) U5 j h
 simp only [Vc, gi, gb, gs, gv, ge, List.map_cons, List.map_nil, List.getD_cons_zero, List.getD_cons_succ, L.Bj, A.AB] at hp ho
 exact ⟨hp, (congrArg A.bool (ho 0 _ rfl) :)⟩
theorem Ry {e : Nat → A} {b : Nat} {a0 a1 a2 a3 a4 a5 a6 a7 a8 a9 a10 : L} (h : Def.holds T e ⟨b, .call 1030, [a0, a1, a2, a3, a4, a5, a6, a7, a8, a9, a10]⟩) :
  ∀ z0, z0 = (Day.Lk.mk (a1.ev e).int (a2.ev e).int (a3.ev e).int (a4.ev e).int (a5.ev e).int (a9.ev e) (a6.ev e).int) → (e b).bool = (Day.fP (Day.L1.mk (a10.ev e) (a0.ev e).int) z0 (a8.ev e).int) ∧ (e (b + 1)).int = (Day.fN (Day.L1.mk (a10.ev e) (a0.ev e).int) z0 (a8.ev e).int) ∧ e (b + 2) = (Day.fX (Day.L1.mk (a10.ev e) (a0.ev e).int) z0 (a8.ev e).int) := by
 intro z0 hz0
 subst hz0
 have hp := En La h
 have ho := fun j a => Eo (a := a) La j h
 simp only [Gj, gi, gb, gs, gv, ge, List.map_cons, List.map_nil, List.getD_cons_zero, List.getD_cons_succ, L.Bj, A.AB] at hp ho
 exact ⟨hp, (congrArg A.int (ho 0 _ rfl) :), (ho 1 _ rfl :)⟩
theorem Rz {e : Nat → A} {b : Nat} {a0 a1 a2 a3 a4 a5 a6 a7 a8 a9 a10 : L} (h : Def.holds T e ⟨b, .call 1031, [a0, a1, a2, a3, a4, a5, a6, a7, a8, a9, a10]⟩) :
  ∀ z0, z0 = (Day.Lk.mk (a1.ev e).int (a2.ev e).int (a3.ev e).int (a4.ev e).int (a5.ev e).int (a9.ev e) (a6.ev e).int) → (e b).bool = (Day.nP (Day.L1.mk (a10.ev e) (a0.ev e).int) z0 (a8.ev e).int) ∧ (e (b + 1)).int = (Day.nN (Day.L1.mk (a10.ev e) (a0.ev e).int) z0 (a8.ev e).int) ∧ e (b + 2) = (Day.nX (Day.L1.mk (a10.ev e) (a0.ev e).int) z0 (a8.ev e).int) := by
 intro z0 hz0
 subst hz0
 have hp := En Lb h
 have ho := fun j a => Eo (a := a) Lb j h
 simp only [Gk, gi, gb, gs, gv, ge, List.map_cons, List.map_nil, List.getD_cons_zero, List.getD_cons_succ, L.Bj, A.AB] at hp ho
 exact ⟨hp, (congrArg A.int (ho 0 _ rfl) :), (ho 1 _ rfl :)⟩
theorem RA {e : Nat → A} {b : Nat} {a0 a1 a2 a3 a4 a5 a6 a7 a8 a9 a10 a11 a12 a13 : L} (h : Def.holds T e ⟨b, .call 1044, [a0, a1, a2, a3, a4, a5, a6, a7, a8, a9, a10, a11, a12, a13]⟩) :
  ∀ z0, z0 = (Day.Lk.mk (a1.ev e).int (a2.ev e).int (a3.ev e).int (a4.ev e).int (a5.ev e).int (a12.ev e) (a6.ev e).int) → (e b).bool = (Day.fP (Day.L1.mk (a13.ev e) (a0.ev e).int) z0 (a9.ev e).int) ∧ (e (b + 1)).int = (Day.fN (Day.L1.mk (a13.ev e) (a0.ev e).int) z0 (a9.ev e).int) ∧ (e (b + 2)).int = ((2 : Int)) ∧ (e (b + 3)).bool = (false) ∧ e (b + 4) = (Day.fX (Day.L1.mk (a13.ev e) (a0.ev e).int) z0 (a9.ev e).int) := by
 intro z0 hz0
 subst hz0
 have hp := En Ld h
 have ho := fun j a => Eo (a := a) Ld j h
 simp only [Gl, gi, gb, gs, gv, ge, List.map_cons, List.map_nil, List.getD_cons_zero, List.getD_cons_succ, L.Bj, A.AB] at hp ho
 exact ⟨hp, (congrArg A.int (ho 0 _ rfl) :), (congrArg A.int (ho 1 _ rfl) :), (congrArg A.bool (ho 2 _ rfl) :), (ho 3 _ rfl :)⟩
theorem RB {e : Nat → A} {b : Nat} {a0 a1 a2 a3 a4 a5 a6 a7 a8 a9 a10 a11 a12 a13 a14 a15 : L} (h : Def.holds T e ⟨b, .call 1045, [a0, a1, a2, a3, a4, a5, a6, a7, a8, a9, a10, a11, a12, a13, a14, a15]⟩) :
  ∀ z0, z0 = (Day.Lk.mk (a1.ev e).int (a2.ev e).int (a3.ev e).int (a4.ev e).int (a5.ev e).int (a14.ev e) (a6.ev e).int) → (e b).bool = (Day.nP (Day.L1.mk (a15.ev e) (a0.ev e).int) z0 (a11.ev e).int) ∧ (e (b + 1)).int = (Day.nN (Day.L1.mk (a15.ev e) (a0.ev e).int) z0 (a11.ev e).int) ∧ (e (b + 2)).int = (Day.Lk.n z0) ∧ (e (b + 3)).bool = (false) ∧ e (b + 4) = (Day.nX (Day.L1.mk (a15.ev e) (a0.ev e).int) z0 (a11.ev e).int) := by
 intro z0 hz0
 subst hz0
 have hp := En Le h
 have ho := fun j a => Eo (a := a) Le j h
 simp only [Gm, gi, gb, gs, gv, ge, List.map_cons, List.map_nil, List.getD_cons_zero, List.getD_cons_succ, L.Bj, A.AB] at hp ho
 exact ⟨hp, (congrArg A.int (ho 0 _ rfl) :), (congrArg A.int (ho 1 _ rfl) :), (congrArg A.bool (ho 2 _ rfl) :), (ho 3 _ rfl :)⟩
theorem RC {e : Nat → A} {b : Nat} {a0 a1 a2 a3 a4 : L} (h : Def.holds T e ⟨b, .call 1046, [a0, a1, a2, a3, a4]⟩) :
  (e b).bool = (Day.kP (Day.L1.mk (a4.ev e) (a1.ev e).int) (Day.L1.mk (a3.ev e) (a0.ev e).int) (a2.ev e).int) ∧ (e (b + 1)).int = (Day.kN (Day.L1.mk (a4.ev e) (a1.ev e).int) (Day.L1.mk (a3.ev e) (a0.ev e).int) (a2.ev e).int) ∧ e (b + 2) = (Day.kX (Day.L1.mk (a4.ev e) (a1.ev e).int) (Day.L1.mk (a3.ev e) (a0.ev e).int) (a2.ev e).int) := by
 have hp := En Lf h
 have ho := fun j a => Eo (a := a) Lf j h
 simp only [Gn, gi, gb, gs, gv, ge, List.map_cons, List.map_nil, List.getD_cons_zero, List.getD_cons_succ, L.Bj, A.AB] at hp ho
 exact ⟨hp, (congrArg A.int (ho 0 _ rfl) :), (ho 1 _ rfl :)⟩
theorem RD {e : Nat → A} {b : Nat} {a0 a1 a2 a3 : L} (h : Def.holds T e ⟨b, .call 1110, [a0, a1, a2, a3]⟩) :
  (e b).bool = (Day.wP (Day.L1.mk (a3.ev e) (a0.ev e).int) (a1.ev e).int) ∧ (e (b + 1)).bool = (Day.K4 (Day.L1.mk (a3.ev e) (a0.ev e).int) (a1.ev e).int) ∧ (e (b + 2)).bool = (Day.GW (Day.L1.mk (a3.ev e) (a0.ev e).int) (a1.ev e).int) := by
 have hp := En Lg h
 have ho := fun j a => Eo (a := a) Lg j h
 simp only [Gp, gi, gb, gs, gv, ge, List.map_cons, List.map_nil, List.getD_cons_zero, List.getD_cons_succ, L.Bj, A.AB] at hp ho
 exact ⟨hp, (congrArg A.bool (ho 0 _ rfl) :), (congrArg A.bool (ho 1 _ rfl) :)⟩
theorem RE {e : Nat → A} {b : Nat} {a0 a1 a2 a3 a4 a5 a6 a7 a8 : L} (h : Def.holds T e ⟨b, .call 1130, [a0, a1, a2, a3, a4, a5, a6, a7, a8]⟩) :
  (e b).bool = (Day.Td (a1.ev e).str (a2.ev e).int (a4.ev e).int) ∧ (e (b + 1)).int = (Day.Lw (a1.ev e).str (a2.ev e).int (a4.ev e).int) ∧ (e (b + 2)).int = (Day.QV (a1.ev e).str (a2.ev e).int (a4.ev e).int) ∧ (e (b + 3)).int = (Day.Lw (a1.ev e).str (a2.ev e).int (a4.ev e).int) ∧ (e (b + 4)).int = (Day.Fg (a1.ev e).str) ∧ (e (b + 5)).bool = (Day.PU (a1.ev e).str (a2.ev e).int (a4.ev e).int) ∧ (e (b + 6)).bool = (Day.PU (a1.ev e).str (a2.ev e).int (a4.ev e).int) ∧ (e (b + 7)).bool = (false) := by
 have hp := En Lh h
 have ho := fun j a => Eo (a := a) Lh j h
 simp only [Gq, gi, gb, gs, gv, ge, List.map_cons, List.map_nil, List.getD_cons_zero, List.getD_cons_succ, L.Bj, A.AB] at hp ho
 exact ⟨hp, (congrArg A.int (ho 0 _ rfl) :), (congrArg A.int (ho 1 _ rfl) :), (congrArg A.int (ho 2 _ rfl) :), (congrArg A.int (ho 3 _ rfl) :), (congrArg A.bool (ho 4 _ rfl) :), (congrArg A.bool (ho 5 _ rfl) :), (congrArg A.bool (ho 6 _ rfl) :)⟩
theorem RF {e : Nat → A} {b : Nat} {a0 a1 a2 a3 a4 a5 a6 : L} (h : Def.holds T e ⟨b, .call 1131, [a0, a1, a2, a3, a4, a5, a6]⟩) :
  (e b).bool = (Day.RN (a1.ev e).str (Day.L1.mk (a6.ev e) (a0.ev e).int) (a2.ev e).int (a3.ev e).int) ∧ (e (b + 1)).int = ((0 : Int)) ∧ (e (b + 2)).bool = (false) ∧ (e (b + 3)).int = (Day.Fg (a1.ev e).str) ∧ (e (b + 4)).bool = (true) := by
 have hp := En Li h
 have ho := fun j a => Eo (a := a) Li j h
 simp only [Gr, gi, gb, gs, gv, ge, List.map_cons, List.map_nil, List.getD_cons_zero, List.getD_cons_succ, L.Bj, A.AB] at hp ho
 exact ⟨hp, (congrArg A.int (ho 0 _ rfl) :), (congrArg A.bool (ho 1 _ rfl) :), (congrArg A.int (ho 2 _ rfl) :), (congrArg A.bool (ho 3 _ rfl) :)⟩
end Rx.S
