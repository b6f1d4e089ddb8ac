import Derived.Test.YtmpinegdphkbjaaDoorVXc
import Derived.Test.YtmpinegdphkbjaaDoorVXd
set_option linter.unusedVariables false
set_option linter.unusedSimpArgs false
namespace Rx.S
open Go Rx
set_option maxRecDepth 100000
def T4 (al : List A) : Bool × List A := (Day.i64 (gi al 2), [Day.TC (Day.L1.mk (ge al 0) (gi al 1)) (gi al 2)])
def Tm (al : List A) : Bool × List A := (Day.i64 (Day.ND.pos (Day.ND.mk (gi al 0) (gi al 1) (gi al 2) (gi al 3))), [.v (.string (Day.OF (Day.ND.mk (gi al 0) (gi al 1) (gi al 2) (gi al 3))))])
def UN (al : List A) : Bool × List A := let z0 := (Day.Lk.mk (gi al 0) (gi al 1) (gi al 2) (gi al 3) (gi al 4) (ge al 5) (gi al 6)); (Day.Lk.ok z0, [.v (.string (Day.OG z0))])
def UO (al : List A) : Bool × List A := (Day.L1.Qs (Day.L1.mk (ge al 0) (gi al 1)), [.v (.string (Day.DV (Day.L1.mk (ge al 0) (gi al 1))))])
def UP (al : List A) : Bool × List A := (true, [.b (true)])
def UQ (al : List A) : Bool × List A := (Day.L1.EY (Day.L1.mk (ge al 0) (gi al 1)), [.b (Day.L1.SR (Day.L1.mk (ge al 0) (gi al 1)))])
def UF (al : List A) : Bool × List A := (Day.L1.EY (Day.L1.mk (ge al 0) (gi al 1)) && (Day.L1.Uf (Day.L1.mk (ge al 0) (gi al 1)) && Day.u8 (gi al 2)), [.b (true)])
def F9 (al : List A) : Bool × List A := let z0 := (Day.Lk.mk (gi al 1) (gi al 2) (gi al 3) (gi al 4) (gi al 5) (ge al 9) (gi al 6)); (Day.fP (Day.L1.mk (ge al 10) (gi al 0)) z0 (gi al 8), [.i (Day.fN (Day.L1.mk (ge al 10) (gi al 0)) z0 (gi al 8)), Day.fX (Day.L1.mk (ge al 10) (gi al 0)) z0 (gi al 8)])
def Ga (al : List A) : Bool × List A := let z0 := (Day.Lk.mk (gi al 1) (gi al 2) (gi al 3) (gi al 4) (gi al 5) (ge al 9) (gi al 6)); (Day.nP (Day.L1.mk (ge al 10) (gi al 0)) z0 (gi al 8), [.i (Day.nN (Day.L1.mk (ge al 10) (gi al 0)) z0 (gi al 8)), Day.nX (Day.L1.mk (ge al 10) (gi al 0)) z0 (gi al 8)])
def Gb (al : List A) : Bool × List A := let z0 := (Day.Lk.mk (gi al 1) (gi al 2) (gi al 3) (gi al 4) (gi al 5) (ge al 12) (gi al 6)); (Day.fP (Day.L1.mk (ge al 13) (gi al 0)) z0 (gi al 9), [.i (Day.fN (Day.L1.mk (ge al 13) (gi al 0)) z0 (gi al 9)), .i ((2 : Int)), .b (false), Day.fX (Day.L1.mk (ge al 13) (gi al 0)) z0 (gi al 9)])
def Gc (al : List A) : Bool × List A := let z0 := (Day.Lk.mk (gi al 1) (gi al 2) (gi al 3) (gi al 4) (gi al 5) (ge al 14) (gi al 6)); (Day.nP (Day.L1.mk (ge al 15) (gi al 0)) z0 (gi al 11), [.i (Day.nN (Day.L1.mk (ge al 15) (gi al 0)) z0 (gi al 11)), .i (Day.Lk.n z0), .b (false), Day.nX (Day.L1.mk (ge al 15) (gi al 0)) z0 (gi al 11)])
def Gd (al : List A) : Bool × List A := (Day.kP (Day.L1.mk (ge al 4) (gi al 1)) (Day.L1.mk (ge al 3) (gi al 0)) (gi al 2), [.i (Day.kN (Day.L1.mk (ge al 4) (gi al 1)) (Day.L1.mk (ge al 3) (gi al 0)) (gi al 2)), Day.kX (Day.L1.mk (ge al 4) (gi al 1)) (Day.L1.mk (ge al 3) (gi al 0)) (gi al 2)])
def Ge (al : List A) : Bool × List A := (Day.wP (Day.L1.mk (ge al 3) (gi al 0)) (gi al 1), [.b (Day.KP (Day.L1.mk (ge al 3) (gi al 0)) (gi al 1)), .b (Day.GM (Day.L1.mk (ge al 3) (gi al 0)) (gi al 1))])
def table : List (Nat × (List A → Bool × List A)) := [(20, T4), (13, Tm), (9, UN), (8, UO), (7, UP), (6, UQ), (4, UF), (1030, F9), (1031, Ga), (1044, Gb), (1045, Gc), (1046, Gd), (1110, Ge)]
def T : Nat → List A → Bool × List A := Vo table
theorem SG : T 20 = T4 := rfl
theorem SH : T 13 = Tm := rfl
theorem UG : T 9 = UN := rfl
theorem UH : T 8 = UO := rfl
theorem UI : T 7 = UP := rfl
theorem UJ : T 6 = UQ := rfl
theorem UK : T 4 = UF := rfl
theorem KS : T 1030 = F9 := rfl
theorem KT : T 1031 = Ga := rfl
theorem KU : T 1044 = Gb := rfl
theorem KV : T 1045 = Gc := rfl
theorem KW : T 1046 = Gd := rfl
theorem KX : T 1110 = Ge := rfl
def ws : List (Nat × Nat) := [(20, 2), (13, 2), (9, 2), (8, 2), (7, 2), (6, 2), (4, 2), (1030, 3), (1031, 3), (1044, 5), (1045, 5), (1046, 3), (1110, 3)]
theorem Df : Fj T ws := fun f k h al => by
 have := HV h
 simp only [ws, List.mem_cons, List.not_mem_nil, or_false, Prod.mk.injEq] at this
 rcases this with ⟨rfl, rfl⟩ | ⟨rfl, rfl⟩ | ⟨rfl, rfl⟩ | ⟨rfl, rfl⟩ | ⟨rfl, rfl⟩ | ⟨rfl, rfl⟩ | ⟨rfl, rfl⟩ | ⟨rfl, rfl⟩ | ⟨rfl, rfl⟩ | ⟨rfl, rfl⟩ | ⟨rfl, rfl⟩ | ⟨rfl, rfl⟩ | ⟨rfl, rfl⟩
 ·rw [SG]; exact Nat.le_refl _
 ·rw [SH]; exact Nat.le_refl _
 ·rw [UG]; exact Nat.le_refl _
 ·rw [UH]; exact Nat.le_refl _
 ·rw [UI]; exact Nat.le_refl _
 ·rw [UJ]; exact Nat.le_refl _
 ·rw [UK]; exact Nat.le_refl _
 ·rw [KS]; exact Nat.le_refl _
 ·rw [KT]; exact Nat.le_refl _
 ·rw [KU]; exact Nat.le_refl _
 ·rw [KV]; exact Nat.le_refl _
 ·rw [KW]; exact Nat.le_refl _
 ·rw [KX]; exact Nat.le_refl _
theorem KY {a b : Int} {l m : List A} (h : a = b) (k : l = m) : (A.i a :: l) = (A.i b :: m) := by subst h k; rfl
theorem Qx {a b : Bool} {l m : List A} (h : a = b) (k : l = m) : (A.b a :: l) = (A.b b :: m) := by subst h k; rfl
theorem OH {a b : A} {l m : List A} (h : a = b) (k : l = m) : (a :: l) = (b :: m) := by subst h k; rfl
theorem AW {e : Nat → A} {b : Nat} {a0 a1 a2 : L} (h : Def.holds T e ⟨b, .call 20, [a0, a1, a2]⟩) :
  (e b).bool = (Day.i64 (a2.ev e).int) ∧ e (b + 1) = (Day.TC (Day.L1.mk (a0.ev e) (a1.ev e).int) (a2.ev e).int) := by
 have hp := Fy SG h
 have ho := fun j a => Fz (a := a) SG j h
 simp only [T4, gi, gb, gs, gv, ge, List.map_cons, List.map_nil, List.getD_cons_zero, List.getD_cons_succ, L.By, A.AI] at hp ho
 exact ⟨hp, (ho 0 _ rfl :)⟩
theorem Lz {e : Nat → A} {b : Nat} {a0 a1 a2 a3 : L} (h : Def.holds T e ⟨b, .call 13, [a0, a1, a2, a3]⟩) :
  ∀ z0, z0 = (Day.ND.mk (a0.ev e).int (a1.ev e).int (a2.ev e).int (a3.ev e).int) → (e b).bool = (Day.i64 (Day.ND.pos z0)) ∧ (e (b + 1)).str = (Day.OF z0) := by
 intro z0 hz0
 subst hz0
 have hp := Fy SH h
 have ho := fun j a => Fz (a := a) SH j h
 simp only [Tm, gi, gb, gs, gv, ge, List.map_cons, List.map_nil, List.getD_cons_zero, List.getD_cons_succ, L.By, A.AI] at hp ho
 exact ⟨hp, (congrArg A.str (ho 0 _ rfl) :)⟩
theorem LA {e : Nat → A} {b : Nat} {a0 a1 a2 a3 a4 a5 a6 : L} (h : Def.holds T e ⟨b, .call 9, [a0, a1, a2, a3, a4, a5, a6]⟩) :
  ∀ z0, z0 = (Day.Lk.mk (a0.ev e).int (a1.ev e).int (a2.ev e).int (a3.ev e).int (a4.ev e).int (a5.ev e) (a6.ev e).int) → (e b).bool = (Day.Lk.ok z0) ∧ (e (b + 1)).str = (Day.OG z0) := by
 intro z0 hz0
 subst hz0
 have hp := Fy UG h
 have ho := fun j a => Fz (a := a) UG j h
 simp only [UN, gi, gb, gs, gv, ge, List.map_cons, List.map_nil, List.getD_cons_zero, List.getD_cons_succ, L.By, A.AI] at hp ho
 exact ⟨hp, (congrArg A.str (ho 0 _ rfl) :)⟩
theorem DW {e : Nat → A} {b : Nat} {a0 a1 : L} (h : Def.holds T e ⟨b, .call 8, [a0, a1]⟩) :
  (e b).bool = (Day.L1.Qs (Day.L1.mk (a0.ev e) (a1.ev e).int)) ∧ (e (b + 1)).str = (Day.DV (Day.L1.mk (a0.ev e) (a1.ev e).int)) := by
 have hp := Fy UH h
 have ho := fun j a => Fz (a := a) UH j h
 simp only [UO, gi, gb, gs, gv, ge, List.map_cons, List.map_nil, List.getD_cons_zero, List.getD_cons_succ, L.By, A.AI] at hp ho
 exact ⟨hp, (congrArg A.str (ho 0 _ rfl) :)⟩
theorem FB {e : Nat → A} {b : Nat} (h : Def.holds T e ⟨b, .call 7, []⟩) :
  (e b).bool = (true) ∧ (e (b + 1)).bool = (true) := by
 have hp := Fy UI h
 have ho := fun j a => Fz (a := a) UI j h
 simp only [UP, gi, gb, gs, gv, ge, List.map_cons, List.map_nil, List.getD_cons_zero, List.getD_cons_succ, L.By, A.AI] at hp ho
 exact ⟨hp, (congrArg A.bool (ho 0 _ rfl) :)⟩
theorem LB {e : Nat → A} {b : Nat} {a0 a1 : L} (h : Def.holds T e ⟨b, .call 6, [a0, a1]⟩) :
  (e b).bool = (Day.L1.EY (Day.L1.mk (a0.ev e) (a1.ev e).int)) ∧ (e (b + 1)).bool = (Day.L1.SR (Day.L1.mk (a0.ev e) (a1.ev e).int)) := by
 have hp := Fy UJ h
 have ho := fun j a => Fz (a := a) UJ j h
 simp only [UQ, gi, gb, gs, gv, ge, List.map_cons, List.map_nil, List.getD_cons_zero, List.getD_cons_succ, L.By, A.AI] at hp ho
 exact ⟨hp, (congrArg A.bool (ho 0 _ rfl) :)⟩
theorem Rf {e : Nat → A} {b : Nat} {a0 a1 a2 a3 a4 a5 a6 a7 a8 a9 a10 : L} (h : Def.holds T e ⟨b, .call 1030, [a0, a1, a2, a3, a4, a5, a6, a7, a8, a9, a10]⟩) :
  ∀ z0, z0 = (Day.Lk.mk (a1.ev e).int (a2.ev e).int (a3.ev e).int (a4.ev e).int (a5.ev e).int (a9.ev e) (a6.ev e).int) → (e b).bool = (Day.fP (Day.L1.mk (a10.ev e) (a0.ev e).int) z0 (a8.ev e).int) ∧ (e (b + 1)).int = (Day.fN (Day.L1.mk (a10.ev e) (a0.ev e).int) z0 (a8.ev e).int) ∧ e (b + 2) = (Day.fX (Day.L1.mk (a10.ev e) (a0.ev e).int) z0 (a8.ev e).int) := by
 intro z0 hz0
 subst hz0
 have hp := Fy KS h
 have ho := fun j a => Fz (a := a) KS j h
 simp only [F9, gi, gb, gs, gv, ge, List.map_cons, List.map_nil, List.getD_cons_zero, List.getD_cons_succ, L.By, A.AI] at hp ho
 exact ⟨hp, (congrArg A.int (ho 0 _ rfl) :), (ho 1 _ rfl :)⟩
theorem Rg {e : Nat → A} {b : Nat} {a0 a1 a2 a3 a4 a5 a6 a7 a8 a9 a10 : L} (h : Def.holds T e ⟨b, .call 1031, [a0, a1, a2, a3, a4, a5, a6, a7, a8, a9, a10]⟩) :
  ∀ z0, z0 = (Day.Lk.mk (a1.ev e).int (a2.ev e).int (a3.ev e).int (a4.ev e).int (a5.ev e).int (a9.ev e) (a6.ev e).int) → (e b).bool = (Day.nP (Day.L1.mk (a10.ev e) (a0.ev e).int) z0 (a8.ev e).int) ∧ (e (b + 1)).int = (Day.nN (Day.L1.mk (a10.ev e) (a0.ev e).int) z0 (a8.ev e).int) ∧ e (b + 2) = (Day.nX (Day.L1.mk (a10.ev e) (a0.ev e).int) z0 (a8.ev e).int) := by
 intro z0 hz0
 subst hz0
 have hp := Fy KT h
 have ho := fun j a => Fz (a := a) KT j h
 simp only [Ga, gi, gb, gs, gv, ge, List.map_cons, List.map_nil, List.getD_cons_zero, List.getD_cons_succ, L.By, A.AI] at hp ho
 exact ⟨hp, (congrArg A.int (ho 0 _ rfl) :), (ho 1 _ rfl :)⟩
theorem Rh {e : Nat → A} {b : Nat} {a0 a1 a2 a3 a4 a5 a6 a7 a8 a9 a10 a11 a12 a13 : L} (h : Def.holds T e ⟨b, .call 1044, [a0, a1, a2, a3, a4, a5, a6, a7, a8, a9, a10, a11, a12, a13]⟩) :
  ∀ z0, z0 = (Day.Lk.mk (a1.ev e).int (a2.ev e).int (a3.ev e).int (a4.ev e).int (a5.ev e).int (a12.ev e) (a6.ev e).int) → (e b).bool = (Day.fP (Day.L1.mk (a13.ev e) (a0.ev e).int) z0 (a9.ev e).int) ∧ (e (b + 1)).int = (Day.fN (Day.L1.mk (a13.ev e) (a0.ev e).int) z0 (a9.ev e).int) ∧ (e (b + 2)).int = ((2 : Int)) ∧ (e (b + 3)).bool = (false) ∧ e (b + 4) = (Day.fX (Day.L1.mk (a13.ev e) (a0.ev e).int) z0 (a9.ev e).int) := by
 intro z0 hz0
 subst hz0
 have hp := Fy KU h
 have ho := fun j a => Fz (a := a) KU j h
 simp only [Gb, gi, gb, gs, gv, ge, List.map_cons, List.map_nil, List.getD_cons_zero, List.getD_cons_succ, L.By, A.AI] at hp ho
 exact ⟨hp, (congrArg A.int (ho 0 _ rfl) :), (congrArg A.int (ho 1 _ rfl) :), (congrArg A.bool (ho 2 _ rfl) :), (ho 3 _ rfl :)⟩
theorem Ri {e : Nat → A} {b : Nat} {a0 a1 a2 a3 a4 a5 a6 a7 a8 a9 a10 a11 a12 a13 a14 a15 : L} (h : Def.holds T e ⟨b, .call 1045, [a0, a1, a2, a3, a4, a5, a6, a7, a8, a9, a10, a11, a12, a13, a14, a15]⟩) :
  ∀ z0, z0 = (Day.Lk.mk (a1.ev e).int (a2.ev e).int (a3.ev e).int (a4.ev e).int (a5.ev e).int (a14.ev e) (a6.ev e).int) → (e b).bool = (Day.nP (Day.L1.mk (a15.ev e) (a0.ev e).int) z0 (a11.ev e).int) ∧ (e (b + 1)).int = (Day.nN (Day.L1.mk (a15.ev e) (a0.ev e).int) z0 (a11.ev e).int) ∧ (e (b + 2)).int = (Day.Lk.n z0) ∧ (e (b + 3)).bool = (false) ∧ e (b + 4) = (Day.nX (Day.L1.mk (a15.ev e) (a0.ev e).int) z0 (a11.ev e).int) := by
 intro z0 hz0
 subst hz0
 have hp := Fy KV h
 have ho := fun j a => Fz (a := a) KV j h
 simp only [Gc, gi, gb, gs, gv, ge, List.map_cons, List.map_nil, List.getD_cons_zero, List.getD_cons_succ, L.By, A.AI] at hp ho
 exact ⟨hp, (congrArg A.int (ho 0 _ rfl) :), (congrArg A.int (ho 1 _ rfl) :), (congrArg A.bool (ho 2 _ rfl) :), (ho 3 _ rfl :)⟩
theorem Rj {e : Nat → A} {b : Nat} {a0 a1 a2 a3 a4 : L} (h : Def.holds T e ⟨b, .call 1046, [a0, a1, a2, a3, a4]⟩) :
  (e b).bool = (Day.kP (Day.L1.mk (a4.ev e) (a1.ev e).int) (Day.L1.mk (a3.ev e) (a0.ev e).int) (a2.ev e).int) ∧ (e (b + 1)).int = (Day.kN (Day.L1.mk (a4.ev e) (a1.ev e).int) (Day.L1.mk (a3.ev e) (a0.ev e).int) (a2.ev e).int) ∧ e (b + 2) = (Day.kX (Day.L1.mk (a4.ev e) (a1.ev e).int) (Day.L1.mk (a3.ev e) (a0.ev e).int) (a2.ev e).int) := by
 have hp := Fy KW h
 have ho := fun j a => Fz (a := a) KW j h
 simp only [Gd, gi, gb, gs, gv, ge, List.map_cons, List.map_nil, List.getD_cons_zero, List.getD_cons_succ, L.By, A.AI] at hp ho
 exact ⟨hp, (congrArg A.int (ho 0 _ rfl) :), (ho 1 _ rfl :)⟩
theorem Rk {e : Nat → A} {b : Nat} {a0 a1 a2 a3 : L} (h : Def.holds T e ⟨b, .call 1110, [a0, a1, a2, a3]⟩) :
  (e b).bool = (Day.wP (Day.L1.mk (a3.ev e) (a0.ev e).int) (a1.ev e).int) ∧ (e (b + 1)).bool = (Day.KP (Day.L1.mk (a3.ev e) (a0.ev e).int) (a1.ev e).int) ∧ (e (b + 2)).bool = (Day.GM (Day.L1.mk (a3.ev e) (a0.ev e).int) (a1.ev e).int) := by
 have hp := Fy KX h
 have ho := fun j a => Fz (a := a) KX j h
 simp only [Ge, gi, gb, gs, gv, ge, List.map_cons, List.map_nil, List.getD_cons_zero, List.getD_cons_succ, L.By, A.AI] at hp ho
 exact ⟨hp, (congrArg A.bool (ho 0 _ rfl) :), (congrArg A.bool (ho 1 _ rfl) :)⟩
end Rx.S
