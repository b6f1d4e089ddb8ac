import Derived.Test.YtkdhdjcngafocaaQXc
import Derived.Test.YtkdhdjcngafocaaQXd
set_option linter.unusedVariables false
set_option linter.unusedSimpArgs false
namespace Rx.S
open Go Rx
set_option maxRecDepth 100000
def Tl (al : List A) : Bool × List A := (true, [.i (Day.GH (gi al 0) (gi al 1) (gi al 2))])
def T3 (al : List A) : Bool × List A := (true, [.b (Day.right (gi al 0))])
def UO (al : List A) : Bool × List A := (Day.L1.ok (Day.L1.mk (ge al 0) (gi al 1)), [Day.Q5 (Day.L1.mk (ge al 0) (gi al 1))])
def T4 (al : List A) : Bool × List A := (true, [.b (Day.isNode (Day.Fl.mk (gi al 0) (gi al 1)) (gi al 2))])
def Vw (al : List A) : Bool × List A := (Day.L1.ok (Day.L1.mk (ge al 0) (gi al 1)), [.b (Day.Nb (Day.L1.mk (ge al 0) (gi al 1)) (gi al 2) (gi al 3))])
def Vx (al : List A) : Bool × List A := (Day.L1.ok (Day.L1.mk (ge al 0) (gi al 1)) && (Day.N8 (Day.L1.mk (ge al 0) (gi al 1)) && Day.i64 (gi al 3)), [.i (Day.BD (Day.L1.mk (ge al 0) (gi al 1)) (gi al 2) (gi al 3))])
def UP (al : List A) : Bool × List A := (Day.L1.ok (Day.L1.mk (ge al 1) (gi al 2)), [((Day.Ih (gi al 0) (Day.L1.mk (ge al 1) (gi al 2)))).x, .i (((Day.Ih (gi al 0) (Day.L1.mk (ge al 1) (gi al 2)))).n), .i (Day.Ky (gi al 0))])
def Vy (al : List A) : Bool × List A := (Day.L1.ok (Day.L1.mk (ge al 0) (gi al 1)), [.i (Day.Hr (Day.L1.mk (ge al 0) (gi al 1)) (Day.Fl.mk (gi al 2) (gi al 3)))])
def T5 (al : List A) : Bool × List A := (Day.L1.ok (Day.L1.mk (ge al 0) (gi al 1)) && Day.L1.ok (Day.L1.mk (ge al 2) (gi al 3)), [.b (Day.LC (Day.L1.mk (ge al 0) (gi al 1)) (Day.L1.mk (ge al 2) (gi al 3)))])
def Vz (al : List A) : Bool × List A := (true, [.b (true)])
def Vm (al : List A) : Bool × List A := (Day.L1.len (Day.L1.mk (ge al 0) (gi al 1)) && (Day.Oa (Day.L1.mk (ge al 0) (gi al 1)) && (Day.u8 (gi al 2) && Day.u16 (gi al 3))), [.b (true)])
def Vn (al : List A) : Bool × List A := (Day.L1.len (Day.L1.mk (ge al 0) (gi al 1)) && Day.Oa (Day.L1.mk (ge al 0) (gi al 1)), [.b (true)])
def GI (al : List A) : Bool × List A := (Day.HL (gi al 4) (gi al 0) && Day.Pa (ge al 6) (gi al 0), [Day.CV (ge al 6) ((gi al 0) - (gi al 4)).toNat (gi al 4).toNat])
def GJ (al : List A) : Bool × List A := (Day.L1.at (Day.L1.mk (ge al 5) (gi al 0)) (gi al 4) && Day.Be (Day.L1.mk (ge al 6) (gi al 3)) (gi al 4), [.i (Day.IQ (Day.L1.mk (ge al 5) (gi al 0)) (Day.Fl.mk (gi al 1) (gi al 2)) (gi al 4) (Day.L1.mk (ge al 6) (gi al 3))), Day.IP (Day.L1.mk (ge al 5) (gi al 0)) (Day.Fl.mk (gi al 1) (gi al 2)) (gi al 4) (Day.L1.mk (ge al 6) (gi al 3))])
def GK (al : List A) : Bool × List A := (Day.L1.at (Day.L1.mk (ge al 4) (gi al 0)) (gi al 2) && (Day.L1.at (Day.L1.mk (ge al 5) (gi al 1)) (gi al 2) && Day.UL (Day.L1.n (Day.L1.mk (ge al 4) (gi al 0))) (Day.L1.n (Day.L1.mk (ge al 5) (gi al 1)))), [.b (Day.Dq (Day.L1.mk (ge al 4) (gi al 0)) (Day.L1.mk (ge al 5) (gi al 1)) (gi al 2)), .b (Day.Bv (Day.L1.mk (ge al 4) (gi al 0)) (Day.L1.mk (ge al 5) (gi al 1)) (gi al 2))])
def GL (al : List A) : Bool × List A := (Day.L1.at (Day.L1.mk (ge al 6) (gi al 0)) (gi al 4) && Day.Be (Day.L1.mk (ge al 7) (gi al 3)) (gi al 4), [.i (Day.Ht (Day.L1.mk (ge al 6) (gi al 0)) (gi al 4) (Day.L1.mk (ge al 7) (gi al 3))), Day.Hs (Day.L1.mk (ge al 6) (gi al 0)) (gi al 4) (Day.L1.mk (ge al 7) (gi al 3))])
def GM (al : List A) : Bool × List A := (Day.L1.at (Day.L1.mk (ge al 6) (gi al 0)) (gi al 4) && Day.Be (Day.L1.mk (ge al 7) (gi al 3)) (gi al 4), [.i (Day.Ht (Day.L1.mk (ge al 6) (gi al 0)) (gi al 4) (Day.L1.mk (ge al 7) (gi al 3))), Day.Hs (Day.L1.mk (ge al 6) (gi al 0)) (gi al 4) (Day.L1.mk (ge al 7) (gi al 3))])
def GN (al : List A) : Bool × List A := (Day.L1.at (Day.L1.mk (ge al 11) (gi al 3)) (gi al 8) && (Day.UN (gi al 4) && (Day.I6 (gi al 5) (gi al 8) && (Day.I6 (gi al 6) (gi al 8) && Day.I6 (gi al 7) (gi al 8)))), [.i ((gi al 5) + Day.B5 (Day.L1.mk (ge al 11) (gi al 3)) (Day.Fl.mk (gi al 1) (gi al 2)) (gi al 4) (gi al 8)), .i ((gi al 6) + Day.B5 (Day.L1.mk (ge al 11) (gi al 3)) (Day.Fl.mk (gi al 1) (gi al 2)) ((gi al 4) - 1) (gi al 8)), .i ((gi al 7) + Day.DA (Day.L1.mk (ge al 11) (gi al 3)) (Day.Fl.mk (gi al 1) (gi al 2)) (gi al 8))])
def table : List (Nat × (List A → Bool × List A)) := [(22, Tl), (21, T3), (20, UO), (19, T4), (8, Vw), (9, Vx), (10, UP), (7, Vy), (12, T5), (6, Vz), (4, Vm), (3, Vn), (1160, GI), (1180, GJ), (1200, GK), (1230, GL), (1240, GM), (1241, GN)]
def T : Nat → List A → Bool × List A := V7 table
theorem RR : T 22 = Tl := rfl
theorem Tm : T 21 = T3 := rfl
theorem Tn : T 20 = UO := rfl
theorem To : T 19 = T4 := rfl
theorem Vo : T 8 = Vw := rfl
theorem Vp : T 9 = Vx := rfl
theorem T6 : T 10 = UP := rfl
theorem Vq : T 7 = Vy := rfl
theorem Tp : T 12 = T5 := rfl
theorem Vr : T 6 = Vz := rfl
theorem Vs : T 4 = Vm := rfl
theorem Vt : T 3 = Vn := rfl
theorem LF : T 1160 = GI := rfl
theorem LG : T 1180 = GJ := rfl
theorem LH : T 1200 = GK := rfl
theorem LI : T 1230 = GL := rfl
theorem LJ : T 1240 = GM := rfl
theorem LK : T 1241 = GN := rfl
def ws : List (Nat × Nat) := [(22, 2), (21, 2), (20, 2), (19, 2), (8, 2), (9, 2), (10, 4), (7, 2), (12, 2), (6, 2), (4, 2), (3, 2), (1160, 2), (1180, 3), (1200, 3), (1230, 3), (1240, 3), (1241, 4)]
theorem B6 : DL T ws := fun f k h al => by
 have := Ix h
 simp only [ws, List.mem_cons, List.not_mem_nil, or_false, Prod.mk.injEq] at this
 rcases this with ⟨rfl, rfl⟩ | ⟨rfl, rfl⟩ | ⟨rfl, rfl⟩ | ⟨rfl, rfl⟩ | ⟨rfl, rfl⟩ | ⟨rfl, rfl⟩ | ⟨rfl, rfl⟩ | ⟨rfl, rfl⟩ | ⟨rfl, rfl⟩ | ⟨rfl, rfl⟩ | ⟨rfl, rfl⟩ | ⟨rfl, rfl⟩ | ⟨rfl, rfl⟩ | ⟨rfl, rfl⟩ | ⟨rfl, rfl⟩ | ⟨rfl, rfl⟩ | ⟨rfl, rfl⟩ | ⟨rfl, rfl⟩
 ·rw [RR]; exact Nat.le_refl _
 ·rw [Tm]; exact Nat.le_refl _
 ·rw [Tn]; exact Nat.le_refl _
 ·rw [To]; exact Nat.le_refl _
 ·rw [Vo]; exact Nat.le_refl _
 ·rw [Vp]; exact Nat.le_refl _
 ·rw [T6]; exact Nat.le_refl _
 ·rw [Vq]; exact Nat.le_refl _
 ·rw [Tp]; exact Nat.le_refl _
 ·rw [Vr]; exact Nat.le_refl _
 ·rw [Vs]; exact Nat.le_refl _
 ·rw [Vt]; exact Nat.le_refl _
 ·rw [LF]; exact Nat.le_refl _
 ·rw [LG]; exact Nat.le_refl _
 ·rw [LH]; exact Nat.le_refl _
 ·rw [LI]; exact Nat.le_refl _
 ·rw [LJ]; exact Nat.le_refl _
 ·rw [LK]; exact Nat.le_refl _
theorem UQ {a : A} {x : Int} (h : a = .i x) : Tr a := by subst h; rfl
theorem Nf {a b : Int} {l m : List A} (h : a = b) (k : l = m) : (A.i a :: l) = (A.i b :: m) := by subst h k; rfl
theorem Ul {a b : Bool} {l m : List A} (h : a = b) (k : l = m) : (A.b a :: l) = (A.b b :: m) := by subst h k; rfl
theorem Rc {a b : A} {l m : List A} (h : a = b) (k : l = m) : (a :: l) = (b :: m) := by subst h k; rfl
theorem Kc {e : Nat → A} {b : Nat} {a0 a1 a2 : L} (h : Def.holds T e ⟨b, .call 22, [a0, a1, a2]⟩) :
  (e b).bool = (true) ∧ (e (b + 1)).int = (Day.GH (a0.ev e).int (a1.ev e).int (a2.ev e).int) := by
 have hp := Dz RR h
 have ho := fun j a => Dn (a := a) RR j h
 simp only [Tl, gi, gb, gs, gv, ge, List.map_cons, List.map_nil, List.getD_cons_zero, List.getD_cons_succ, L.A6, A.AA] at hp ho
 exact ⟨hp, (congrArg A.int (ho 0 _ rfl) :)⟩
theorem JG {e : Nat → A} {b : Nat} {a0 a1 a2 : L} (h : Def.holds T e ⟨b, .call 22, [a0, a1, a2]⟩) :
  Tr (e (b + 1)) := by
 have ho := fun j a => Dn (a := a) RR j h
 simp only [Tl, gi, gb, gs, gv, ge, List.map_cons, List.map_nil, List.getD_cons_zero, List.getD_cons_succ, L.A6, A.AA] at ho
 exact UQ (ho 0 _ rfl)
theorem LL {e : Nat → A} {b : Nat} {a0 : L} (h : Def.holds T e ⟨b, .call 21, [a0]⟩) :
  (e b).bool = (true) ∧ (e (b + 1)).bool = (Day.right (a0.ev e).int) := by
 have hp := Dz Tm h
 have ho := fun j a => Dn (a := a) Tm j h
 simp only [T3, gi, gb, gs, gv, ge, List.map_cons, List.map_nil, List.getD_cons_zero, List.getD_cons_succ, L.A6, A.AA] at hp ho
 exact ⟨hp, (congrArg A.bool (ho 0 _ rfl) :)⟩
theorem Kd {e : Nat → A} {b : Nat} {a0 a1 : L} (h : Def.holds T e ⟨b, .call 20, [a0, a1]⟩) :
  (e b).bool = (Day.L1.ok (Day.L1.mk (a0.ev e) (a1.ev e).int)) ∧ e (b + 1) = (Day.Q5 (Day.L1.mk (a0.ev e) (a1.ev e).int)) := by
 have hp := Dz Tn h
 have ho := fun j a => Dn (a := a) Tn j h
 simp only [UO, gi, gb, gs, gv, ge, List.map_cons, List.map_nil, List.getD_cons_zero, List.getD_cons_succ, L.A6, A.AA] at hp ho
 exact ⟨hp, (ho 0 _ rfl :)⟩
theorem LM {e : Nat → A} {b : Nat} {a0 a1 a2 : L} (h : Def.holds T e ⟨b, .call 19, [a0, a1, a2]⟩) :
  (e b).bool = (true) ∧ (e (b + 1)).bool = (Day.isNode (Day.Fl.mk (a0.ev e).int (a1.ev e).int) (a2.ev e).int) := by
 have hp := Dz To h
 have ho := fun j a => Dn (a := a) To j h
 simp only [T4, gi, gb, gs, gv, ge, List.map_cons, List.map_nil, List.getD_cons_zero, List.getD_cons_succ, L.A6, A.AA] at hp ho
 exact ⟨hp, (congrArg A.bool (ho 0 _ rfl) :)⟩
theorem CW {e : Nat → A} {b : Nat} {a0 a1 a2 a3 : L} (h : Def.holds T e ⟨b, .call 8, [a0, a1, a2, a3]⟩) :
  (e b).bool = (Day.L1.ok (Day.L1.mk (a0.ev e) (a1.ev e).int)) ∧ (e (b + 1)).bool = (Day.Nb (Day.L1.mk (a0.ev e) (a1.ev e).int) (a2.ev e).int (a3.ev e).int) := by
 have hp := Dz Vo h
 have ho := fun j a => Dn (a := a) Vo j h
 simp only [Vw, gi, gb, gs, gv, ge, List.map_cons, List.map_nil, List.getD_cons_zero, List.getD_cons_succ, L.A6, A.AA] at hp ho
 exact ⟨hp, (congrArg A.bool (ho 0 _ rfl) :)⟩
theorem F3 {e : Nat → A} {b : Nat} {a0 a1 a2 a3 : L} (h : Def.holds T e ⟨b, .call 9, [a0, a1, a2, a3]⟩) :
  (e b).bool = (Day.L1.ok (Day.L1.mk (a0.ev e) (a1.ev e).int) && (Day.N8 (Day.L1.mk (a0.ev e) (a1.ev e).int) && Day.i64 (a3.ev e).int)) ∧ (e (b + 1)).int = (Day.BD (Day.L1.mk (a0.ev e) (a1.ev e).int) (a2.ev e).int (a3.ev e).int) := by
 have hp := Dz Vp h
 have ho := fun j a => Dn (a := a) Vp j h
 simp only [Vx, gi, gb, gs, gv, ge, List.map_cons, List.map_nil, List.getD_cons_zero, List.getD_cons_succ, L.A6, A.AA] at hp ho
 exact ⟨hp, (congrArg A.int (ho 0 _ rfl) :)⟩
theorem F4 {e : Nat → A} {b : Nat} {a0 a1 a2 : L} (h : Def.holds T e ⟨b, .call 10, [a0, a1, a2]⟩) :
  (e b).bool = (Day.L1.ok (Day.L1.mk (a1.ev e) (a2.ev e).int)) ∧ e (b + 1) = (((Day.Ih (a0.ev e).int (Day.L1.mk (a1.ev e) (a2.ev e).int))).x) ∧ (e (b + 2)).int = (((Day.Ih (a0.ev e).int (Day.L1.mk (a1.ev e) (a2.ev e).int))).n) ∧ (e (b + 3)).int = (Day.Ky (a0.ev e).int) := by
 have hp := Dz T6 h
 have ho := fun j a => Dn (a := a) T6 j h
 simp only [UP, gi, gb, gs, gv, ge, List.map_cons, List.map_nil, List.getD_cons_zero, List.getD_cons_succ, L.A6, A.AA] at hp ho
 exact ⟨hp, (ho 0 _ rfl :), (congrArg A.int (ho 1 _ rfl) :), (congrArg A.int (ho 2 _ rfl) :)⟩
theorem HM {e : Nat → A} {b : Nat} {a0 a1 a2 a3 : L} (h : Def.holds T e ⟨b, .call 7, [a0, a1, a2, a3]⟩) :
  (e b).bool = (Day.L1.ok (Day.L1.mk (a0.ev e) (a1.ev e).int)) ∧ (e (b + 1)).int = (Day.Hr (Day.L1.mk (a0.ev e) (a1.ev e).int) (Day.Fl.mk (a2.ev e).int (a3.ev e).int)) := by
 have hp := Dz Vq h
 have ho := fun j a => Dn (a := a) Vq j h
 simp only [Vy, gi, gb, gs, gv, ge, List.map_cons, List.map_nil, List.getD_cons_zero, List.getD_cons_succ, L.A6, A.AA] at hp ho
 exact ⟨hp, (congrArg A.int (ho 0 _ rfl) :)⟩
theorem LN {e : Nat → A} {b : Nat} {a0 a1 a2 a3 : L} (h : Def.holds T e ⟨b, .call 12, [a0, a1, a2, a3]⟩) :
  (e b).bool = (Day.L1.ok (Day.L1.mk (a0.ev e) (a1.ev e).int) && Day.L1.ok (Day.L1.mk (a2.ev e) (a3.ev e).int)) ∧ (e (b + 1)).bool = (Day.LC (Day.L1.mk (a0.ev e) (a1.ev e).int) (Day.L1.mk (a2.ev e) (a3.ev e).int)) := by
 have hp := Dz Tp h
 have ho := fun j a => Dn (a := a) Tp j h
 simp only [T5, gi, gb, gs, gv, ge, List.map_cons, List.map_nil, List.getD_cons_zero, List.getD_cons_succ, L.A6, A.AA] at hp ho
 exact ⟨hp, (congrArg A.bool (ho 0 _ rfl) :)⟩
theorem Cp {e : Nat → A} {b : Nat} (h : Def.holds T e ⟨b, .call 6, []⟩) :
  (e b).bool = (true) ∧ (e (b + 1)).bool = (true) := by
 have hp := Dz Vr h
 have ho := fun j a => Dn (a := a) Vr j h
 simp only [Vz, gi, gb, gs, gv, ge, List.map_cons, List.map_nil, List.getD_cons_zero, List.getD_cons_succ, L.A6, A.AA] at hp ho
 exact ⟨hp, (congrArg A.bool (ho 0 _ rfl) :)⟩
theorem RT {e : Nat → A} {b : Nat} {a0 a1 a2 a3 a4 a5 a6 : L} (h : Def.holds T e ⟨b, .call 1160, [a0, a1, a2, a3, a4, a5, a6]⟩) :
  (e b).bool = (Day.HL (a4.ev e).int (a0.ev e).int && Day.Pa (a6.ev e) (a0.ev e).int) ∧ e (b + 1) = (Day.CV (a6.ev e) ((a0.ev e).int - (a4.ev e).int).toNat (a4.ev e).int.toNat) := by
 have hp := Dz LF h
 have ho := fun j a => Dn (a := a) LF j h
 simp only [GI, gi, gb, gs, gv, ge, List.map_cons, List.map_nil, List.getD_cons_zero, List.getD_cons_succ, L.A6, A.AA] at hp ho
 exact ⟨hp, (ho 0 _ rfl :)⟩
theorem RU {e : Nat → A} {b : Nat} {a0 a1 a2 a3 a4 a5 a6 : L} (h : Def.holds T e ⟨b, .call 1180, [a0, a1, a2, a3, a4, a5, a6]⟩) :
  (e b).bool = (Day.L1.at (Day.L1.mk (a5.ev e) (a0.ev e).int) (a4.ev e).int && Day.Be (Day.L1.mk (a6.ev e) (a3.ev e).int) (a4.ev e).int) ∧ (e (b + 1)).int = (Day.IQ (Day.L1.mk (a5.ev e) (a0.ev e).int) (Day.Fl.mk (a1.ev e).int (a2.ev e).int) (a4.ev e).int (Day.L1.mk (a6.ev e) (a3.ev e).int)) ∧ e (b + 2) = (Day.IP (Day.L1.mk (a5.ev e) (a0.ev e).int) (Day.Fl.mk (a1.ev e).int (a2.ev e).int) (a4.ev e).int (Day.L1.mk (a6.ev e) (a3.ev e).int)) := by
 have hp := Dz LG h
 have ho := fun j a => Dn (a := a) LG j h
 simp only [GJ, gi, gb, gs, gv, ge, List.map_cons, List.map_nil, List.getD_cons_zero, List.getD_cons_succ, L.A6, A.AA] at hp ho
 exact ⟨hp, (congrArg A.int (ho 0 _ rfl) :), (ho 1 _ rfl :)⟩
theorem RV {e : Nat → A} {b : Nat} {a0 a1 a2 a3 a4 a5 : L} (h : Def.holds T e ⟨b, .call 1200, [a0, a1, a2, a3, a4, a5]⟩) :
  (e b).bool = (Day.L1.at (Day.L1.mk (a4.ev e) (a0.ev e).int) (a2.ev e).int && (Day.L1.at (Day.L1.mk (a5.ev e) (a1.ev e).int) (a2.ev e).int && Day.UL (Day.L1.n (Day.L1.mk (a4.ev e) (a0.ev e).int)) (Day.L1.n (Day.L1.mk (a5.ev e) (a1.ev e).int)))) ∧ (e (b + 1)).bool = (Day.Dq (Day.L1.mk (a4.ev e) (a0.ev e).int) (Day.L1.mk (a5.ev e) (a1.ev e).int) (a2.ev e).int) ∧ (e (b + 2)).bool = (Day.Bv (Day.L1.mk (a4.ev e) (a0.ev e).int) (Day.L1.mk (a5.ev e) (a1.ev e).int) (a2.ev e).int) := by
 have hp := Dz LH h
 have ho := fun j a => Dn (a := a) LH j h
 simp only [GK, gi, gb, gs, gv, ge, List.map_cons, List.map_nil, List.getD_cons_zero, List.getD_cons_succ, L.A6, A.AA] at hp ho
 exact ⟨hp, (congrArg A.bool (ho 0 _ rfl) :), (congrArg A.bool (ho 1 _ rfl) :)⟩
theorem RW {e : Nat → A} {b : Nat} {a0 a1 a2 a3 a4 a5 a6 a7 : L} (h : Def.holds T e ⟨b, .call 1230, [a0, a1, a2, a3, a4, a5, a6, a7]⟩) :
  (e b).bool = (Day.L1.at (Day.L1.mk (a6.ev e) (a0.ev e).int) (a4.ev e).int && Day.Be (Day.L1.mk (a7.ev e) (a3.ev e).int) (a4.ev e).int) ∧ (e (b + 1)).int = (Day.Ht (Day.L1.mk (a6.ev e) (a0.ev e).int) (a4.ev e).int (Day.L1.mk (a7.ev e) (a3.ev e).int)) ∧ e (b + 2) = (Day.Hs (Day.L1.mk (a6.ev e) (a0.ev e).int) (a4.ev e).int (Day.L1.mk (a7.ev e) (a3.ev e).int)) := by
 have hp := Dz LI h
 have ho := fun j a => Dn (a := a) LI j h
 simp only [GL, gi, gb, gs, gv, ge, List.map_cons, List.map_nil, List.getD_cons_zero, List.getD_cons_succ, L.A6, A.AA] at hp ho
 exact ⟨hp, (congrArg A.int (ho 0 _ rfl) :), (ho 1 _ rfl :)⟩
theorem RX {e : Nat → A} {b : Nat} {a0 a1 a2 a3 a4 a5 a6 a7 : L} (h : Def.holds T e ⟨b, .call 1240, [a0, a1, a2, a3, a4, a5, a6, a7]⟩) :
  (e b).bool = (Day.L1.at (Day.L1.mk (a6.ev e) (a0.ev e).int) (a4.ev e).int && Day.Be (Day.L1.mk (a7.ev e) (a3.ev e).int) (a4.ev e).int) ∧ (e (b + 1)).int = (Day.Ht (Day.L1.mk (a6.ev e) (a0.ev e).int) (a4.ev e).int (Day.L1.mk (a7.ev e) (a3.ev e).int)) ∧ e (b + 2) = (Day.Hs (Day.L1.mk (a6.ev e) (a0.ev e).int) (a4.ev e).int (Day.L1.mk (a7.ev e) (a3.ev e).int)) := by
 have hp := Dz LJ h
 have ho := fun j a => Dn (a := a) LJ j h
 simp only [GM, gi, gb, gs, gv, ge, List.map_cons, List.map_nil, List.getD_cons_zero, List.getD_cons_succ, L.A6, A.AA] at hp ho
 exact ⟨hp, (congrArg A.int (ho 0 _ rfl) :), (ho 1 _ rfl :)⟩
theorem RY {e : Nat → A} {b : Nat} {a0 a1 a2 a3 a4 a5 a6 a7 a8 a9 a10 a11 : L} (h : Def.holds T e ⟨b, .call 1241, [a0, a1, a2, a3, a4, a5, a6, a7, a8, a9, a10, a11]⟩) :
  (e b).bool = (Day.L1.at (Day.L1.mk (a11.ev e) (a3.ev e).int) (a8.ev e).int && (Day.UN (a4.ev e).int && (Day.I6 (a5.ev e).int (a8.ev e).int && (Day.I6 (a6.ev e).int (a8.ev e).int && Day.I6 (a7.ev e).int (a8.ev e).int)))) ∧ (e (b + 1)).int = ((a5.ev e).int + Day.B5 (Day.L1.mk (a11.ev e) (a3.ev e).int) (Day.Fl.mk (a1.ev e).int (a2.ev e).int) (a4.ev e).int (a8.ev e).int) ∧ (e (b + 2)).int = ((a6.ev e).int + Day.B5 (Day.L1.mk (a11.ev e) (a3.ev e).int) (Day.Fl.mk (a1.ev e).int (a2.ev e).int) ((a4.ev e).int - 1) (a8.ev e).int) ∧ (e (b + 3)).int = ((a7.ev e).int + Day.DA (Day.L1.mk (a11.ev e) (a3.ev e).int) (Day.Fl.mk (a1.ev e).int (a2.ev e).int) (a8.ev e).int) := by
 have hp := Dz LK h
 have ho := fun j a => Dn (a := a) LK j h
 simp only [GN, gi, gb, gs, gv, ge, List.map_cons, List.map_nil, List.getD_cons_zero, List.getD_cons_succ, L.A6, A.AA] at hp ho
 exact ⟨hp, (congrArg A.int (ho 0 _ rfl) :), (congrArg A.int (ho 1 _ rfl) :), (congrArg A.int (ho 2 _ rfl) :)⟩
end Rx.S
