import Derived.Test.YtkdhdjcngafocaaPXc
import Derived.Test.YtkdhdjcngafocaaPXd
set_option linter.unusedVariables false
set_option linter.unusedSimpArgs false
namespace Rx.S
open Go Rx
set_option maxRecDepth 100000
def VN (al : List A) : Bool × List A := (true, [.i (Day.C5 (gi al 0) (gi al 1) (gi al 2))])
def VO (al : List A) : Bool × List A := (true, [.i (Day.C5 (gi al 0) (gi al 1) (gi al 2))])
def WK (al : List A) : Bool × List A := (true, [.b (Day.right (gi al 0))])
def WL (al : List A) : Bool × List A := (true, [.b (Day.right (gi al 0))])
def XD (al : List A) : Bool × List A := (Day.L1.ok (Day.L1.mk (ge al 0) (gi al 1)), [Day.Ts (Day.L1.mk (ge al 0) (gi al 1))])
def WM (al : List A) : Bool × List A := (true, [.b (Day.isNode (Day.Fl.mk (gi al 0) (gi al 1)) (gi al 2))])
def WN (al : List A) : Bool × List A := (true, [.b (Day.isNode (Day.Fl.mk (gi al 0) (gi al 1)) (gi al 2))])
def WO (al : List A) : Bool × List A := (true, [.b (Day.CQ (gi al 0))])
def WQ (al : List A) : Bool × List A := (true, [.b (Day.EZ (gi al 0))])
def Yx (al : List A) : Bool × List A := (Day.L1.ok (Day.L1.mk (ge al 0) (gi al 1)), [.b (Day.Og (Day.L1.mk (ge al 0) (gi al 1)) (gi al 2) (gi al 3))])
def Yy (al : List A) : Bool × List A := (Day.L1.ok (Day.L1.mk (ge al 0) (gi al 1)) && (Day.Fk (Day.L1.mk (ge al 0) (gi al 1)) && Day.i64 (gi al 3)), [.i (Day.C6 (Day.L1.mk (ge al 0) (gi al 1)) (gi al 2) (gi al 3))])
def WR (al : List A) : Bool × List A := (Day.L1.ok (Day.L1.mk (ge al 0) (gi al 1)), [.b (Day.Og (Day.L1.mk (ge al 0) (gi al 1)) (gi al 2) (gi al 3))])
def WS (al : List A) : Bool × List A := (Day.L1.ok (Day.L1.mk (ge al 0) (gi al 1)) && (Day.Fk (Day.L1.mk (ge al 0) (gi al 1)) && Day.i64 (gi al 3)), [.i (Day.C6 (Day.L1.mk (ge al 0) (gi al 1)) (gi al 2) (gi al 3))])
def WT (al : List A) : Bool × List A := (Day.L1.ok (Day.L1.mk (ge al 1) (gi al 2)), [.b (Day.HH (gi al 0) (Day.L1.mk (ge al 1) (gi al 2)))])
def WU (al : List A) : Bool × List A := (Day.L1.ok (Day.L1.mk (ge al 1) (gi al 2)), [.b (Day.HH (gi al 0) (Day.L1.mk (ge al 1) (gi al 2)))])
def WV (al : List A) : Bool × List A := (Day.L1.ok (Day.L1.mk (ge al 0) (gi al 1)), [.b (Day.Fk (Day.L1.mk (ge al 0) (gi al 1)))])
def XE (al : List A) : Bool × List A := (Day.L1.ok (Day.L1.mk (ge al 1) (gi al 2)), [((Day.B1 (gi al 0) (Day.L1.mk (ge al 1) (gi al 2)))).x, .i (((Day.B1 (gi al 0) (Day.L1.mk (ge al 1) (gi al 2)))).n), .i (Day.E0 (gi al 0))])
def XF (al : List A) : Bool × List A := (Day.L1.ok (Day.L1.mk (ge al 1) (gi al 2)), [((Day.B1 (gi al 0) (Day.L1.mk (ge al 1) (gi al 2)))).x, .i (((Day.B1 (gi al 0) (Day.L1.mk (ge al 1) (gi al 2)))).n), .i (Day.E0 (gi al 0))])
def Yz (al : List A) : Bool × List A := (Day.L1.ok (Day.L1.mk (ge al 0) (gi al 1)), [.i (Day.JR (Day.L1.mk (ge al 0) (gi al 1)) (Day.Fl.mk (gi al 2) (gi al 3)))])
def WW (al : List A) : Bool × List A := (Day.L1.ok (Day.L1.mk (ge al 0) (gi al 1)) && Day.Fk (Day.L1.mk (ge al 0) (gi al 1)), [.i (Day.JR (Day.L1.mk (ge al 0) (gi al 1)) (Day.Fl.mk (gi al 2) (gi al 3)))])
def WX (al : List A) : Bool × List A := (Day.L1.ok (Day.L1.mk (ge al 0) (gi al 1)) && Day.L1.ok (Day.L1.mk (ge al 2) (gi al 3)), [.b (Day.JS (Day.L1.mk (ge al 0) (gi al 1)) (Day.L1.mk (ge al 2) (gi al 3)))])
def YA (al : List A) : Bool × List A := (true, [.b (true)])
def Yl (al : List A) : Bool × List A := (Day.L1.len (Day.L1.mk (ge al 1) (gi al 2)) && Day.i64 (gi al 6), [.b (true)])
def HJ (al : List A) : Bool × List A := (Day.L1.at (Day.L1.mk (ge al 2) (gi al 0)) (gi al 1), [.i (Day.FY (Day.L1.mk (ge al 2) (gi al 0)) (gi al 1)), .b (Day.AU (Day.L1.mk (ge al 2) (gi al 0)) (gi al 1)), .b (Day.AQ (Day.L1.mk (ge al 2) (gi al 0)) (gi al 1))])
def HK (al : List A) : Bool × List A := (Day.L1.at (Day.L1.mk (ge al 3) (gi al 1)) (gi al 2), [.b (Day.AU (Day.L1.mk (ge al 3) (gi al 1)) (gi al 2)), .b (Day.AQ (Day.L1.mk (ge al 3) (gi al 1)) (gi al 2))])
def HL (al : List A) : Bool × List A := (Day.L1.at (Day.L1.mk (ge al 2) (gi al 0)) (gi al 1), [.b (Day.AU (Day.L1.mk (ge al 2) (gi al 0)) (gi al 1)), .b (Day.AQ (Day.L1.mk (ge al 2) (gi al 0)) (gi al 1))])
def HM (al : List A) : Bool × List A := (Day.CR (gi al 4) (gi al 0) && Day.He (ge al 6) (gi al 0), [Day.C8 (ge al 6) ((gi al 0) - (gi al 4)).toNat (gi al 4).toNat])
def HN (al : List A) : Bool × List A := (Day.CR (gi al 2) (gi al 0) && (Day.He (ge al 6) (gi al 0) && Day.L1.ok (Day.L1.mk (ge al 5) (gi al 1))), [Day.JU (Day.L1.mk (ge al 5) (gi al 1)) (ge al 6) (Day.Fm (gi al 0) (Day.L1.n (Day.L1.mk (ge al 5) (gi al 1))) - (gi al 2)).toNat (gi al 2).toNat])
def HO (al : List A) : Bool × List A := (Day.L1.at (Day.L1.mk (ge al 5) (gi al 0)) (gi al 4) && Day.E1 (Day.L1.mk (ge al 6) (gi al 3)) (gi al 4), [.i (Day.JW (Day.L1.mk (ge al 5) (gi al 0)) (Day.Fl.mk (gi al 1) (gi al 2)) (gi al 4) (Day.L1.mk (ge al 6) (gi al 3))), Day.JV (Day.L1.mk (ge al 5) (gi al 0)) (Day.Fl.mk (gi al 1) (gi al 2)) (gi al 4) (Day.L1.mk (ge al 6) (gi al 3))])
def HP (al : List A) : Bool × List A := (Day.L1.at (Day.L1.mk (ge al 8) (gi al 0)) (gi al 6) && Day.V8 (gi al 5) (gi al 6), [.i ((gi al 5) + Day.F0 (Day.L1.mk (ge al 8) (gi al 0)) (Day.Fl.mk (gi al 9) (gi al 10)) (gi al 4) (gi al 6)), .i (Day.L1.n (Day.L1.mk (ge al 8) (gi al 0))), .i (Day.L1.n (Day.L1.mk (ge al 8) (gi al 0))), .b (Day.no (gi al 4))])
def HQ (al : List A) : Bool × List A := (Day.L1.ok (Day.L1.mk (ge al 4) (gi al 0)) && Day.Xa (gi al 3), [.i (Day.Oh (Day.L1.mk (ge al 4) (gi al 0)) (Day.Fl.mk (gi al 1) (gi al 2)) (gi al 3)), .b (Day.HI (Day.L1.mk (ge al 4) (gi al 0)) (Day.Fl.mk (gi al 1) (gi al 2)) (gi al 3)), .b (Day.W9 (Day.L1.mk (ge al 4) (gi al 0)) (Day.Fl.mk (gi al 1) (gi al 2)) (gi al 3))])
def HR (al : List A) : Bool × List A := (Day.L1.at (Day.L1.mk (ge al 4) (gi al 0)) (gi al 2) && (Day.L1.at (Day.L1.mk (ge al 5) (gi al 1)) (gi al 2) && Day.XA (Day.L1.n (Day.L1.mk (ge al 4) (gi al 0))) (Day.L1.n (Day.L1.mk (ge al 5) (gi al 1)))), [.b (Day.DH (Day.L1.mk (ge al 4) (gi al 0)) (Day.L1.mk (ge al 5) (gi al 1)) (gi al 2)), .b (Day.BG (Day.L1.mk (ge al 4) (gi al 0)) (Day.L1.mk (ge al 5) (gi al 1)) (gi al 2))])
def table : List (Nat × (List A → Bool × List A)) := [(22, VN), (24, VO), (21, WK), (23, WL), (20, XD), (19, WM), (28, WN), (27, WO), (26, WQ), (8, Yx), (9, Yy), (15, WR), (17, WS), (13, WT), (14, WU), (16, WV), (10, XE), (11, XF), (7, Yz), (18, WW), (12, WX), (6, YA), (5, Yl), (1130, HJ), (1140, HK), (1150, HL), (1160, HM), (1170, HN), (1180, HO), (1190, HP), (1191, HQ), (1200, HR)]
def T : Nat → List A → Bool × List A := Y7 table
theorem Ue : T 22 = VN := rfl
theorem Uf : T 24 = VO := rfl
theorem VP : T 21 = WK := rfl
theorem VQ : T 23 = WL := rfl
theorem VR : T 20 = XD := rfl
theorem VS : T 19 = WM := rfl
theorem VT : T 28 = WN := rfl
theorem VU : T 27 = WO := rfl
theorem VV : T 26 = WQ := rfl
theorem Ym : T 8 = Yx := rfl
theorem Yn : T 9 = Yy := rfl
theorem VW : T 15 = WR := rfl
theorem VX : T 17 = WS := rfl
theorem VY : T 13 = WT := rfl
theorem VZ : T 14 = WU := rfl
theorem V0 : T 16 = WV := rfl
theorem WY : T 10 = XE := rfl
theorem WZ : T 11 = XF := rfl
theorem Yo : T 7 = Yz := rfl
theorem V1 : T 18 = WW := rfl
theorem V2 : T 12 = WX := rfl
theorem Yp : T 6 = YA := rfl
theorem Yq : T 5 = Yl := rfl
theorem Nr : T 1130 = HJ := rfl
theorem Ns : T 1140 = HK := rfl
theorem Nt : T 1150 = HL := rfl
theorem Nu : T 1160 = HM := rfl
theorem Nv : T 1170 = HN := rfl
theorem Nw : T 1180 = HO := rfl
theorem Nx : T 1190 = HP := rfl
theorem Ny : T 1191 = HQ := rfl
theorem Nz : T 1200 = HR := rfl
def ws : List (Nat × Nat) := [(22, 2), (24, 2), (21, 2), (23, 2), (20, 2), (19, 2), (28, 2), (27, 2), (26, 2), (8, 2), (9, 2), (15, 2), (17, 2), (13, 2), (14, 2), (16, 2), (10, 4), (11, 4), (7, 2), (18, 2), (12, 2), (6, 2), (5, 2), (1130, 4), (1140, 3), (1150, 3), (1160, 2), (1170, 2), (1180, 3), (1190, 5), (1191, 4), (1200, 3)]
theorem AS : D6 T ws := fun f k h al => by
 have := JA h
 simp only [ws, List.mem_cons, List.not_mem_nil, or_false, Prod.mk.injEq] at this
 rcases this with ⟨rfl, rfl⟩ | ⟨rfl, rfl⟩ | ⟨rfl, rfl⟩ | ⟨rfl, rfl⟩ | ⟨rfl, rfl⟩ | ⟨rfl, rfl⟩ | ⟨rfl, rfl⟩ | ⟨rfl, rfl⟩ | ⟨rfl, rfl⟩ | ⟨rfl, rfl⟩ | ⟨rfl, rfl⟩ | ⟨rfl, rfl⟩ | ⟨rfl, rfl⟩ | ⟨rfl, rfl⟩ | ⟨rfl, rfl⟩ | ⟨rfl, rfl⟩ | ⟨rfl, rfl⟩ | ⟨rfl, rfl⟩ | ⟨rfl, rfl⟩ | ⟨rfl, rfl⟩ | ⟨rfl, rfl⟩ | ⟨rfl, rfl⟩ | ⟨rfl, rfl⟩ | ⟨rfl, rfl⟩ | ⟨rfl, rfl⟩ | ⟨rfl, rfl⟩ | ⟨rfl, rfl⟩ | ⟨rfl, rfl⟩ | ⟨rfl, rfl⟩ | ⟨rfl, rfl⟩ | ⟨rfl, rfl⟩ | ⟨rfl, rfl⟩
 ·rw [Ue]; exact Nat.le_refl _
 ·rw [Uf]; exact Nat.le_refl _
 ·rw [VP]; exact Nat.le_refl _
 ·rw [VQ]; exact Nat.le_refl _
 ·rw [VR]; exact Nat.le_refl _
 ·rw [VS]; exact Nat.le_refl _
 ·rw [VT]; exact Nat.le_refl _
 ·rw [VU]; exact Nat.le_refl _
 ·rw [VV]; exact Nat.le_refl _
 ·rw [Ym]; exact Nat.le_refl _
 ·rw [Yn]; exact Nat.le_refl _
 ·rw [VW]; exact Nat.le_refl _
 ·rw [VX]; exact Nat.le_refl _
 ·rw [VY]; exact Nat.le_refl _
 ·rw [VZ]; exact Nat.le_refl _
 ·rw [V0]; exact Nat.le_refl _
 ·rw [WY]; exact Nat.le_refl _
 ·rw [WZ]; exact Nat.le_refl _
 ·rw [Yo]; exact Nat.le_refl _
 ·rw [V1]; exact Nat.le_refl _
 ·rw [V2]; exact Nat.le_refl _
 ·rw [Yp]; exact Nat.le_refl _
 ·rw [Yq]; exact Nat.le_refl _
 ·rw [Nr]; exact Nat.le_refl _
 ·rw [Ns]; exact Nat.le_refl _
 ·rw [Nt]; exact Nat.le_refl _
 ·rw [Nu]; exact Nat.le_refl _
 ·rw [Nv]; exact Nat.le_refl _
 ·rw [Nw]; exact Nat.le_refl _
 ·rw [Nx]; exact Nat.le_refl _
 ·rw [Ny]; exact Nat.le_refl _
 ·rw [Nz]; exact Nat.le_refl _
theorem V3 {a : A} {x : Int} (h : a = .i x) : V7 a := by subst h; rfl
theorem Pn {a b : Int} {l m : List A} (h : a = b) (k : l = m) : (A.i a :: l) = (A.i b :: m) := by subst h k; rfl
theorem HS {a b : Bool} {l m : List A} (h : a = b) (k : l = m) : (A.b a :: l) = (A.b b :: m) := by subst h k; rfl
theorem V4 {a b : A} {l m : List A} (h : a = b) (k : l = m) : (a :: l) = (b :: m) := by subst h k; rfl
theorem LC {e : Nat → A} {b : Nat} {a0 a1 a2 : L} (h : Def.holds T e ⟨b, .call 22, [a0, a1, a2]⟩) :
  (e b).bool = (true) ∧ (e (b + 1)).int = (Day.C5 (a0.ev e).int (a1.ev e).int (a2.ev e).int) := by
 have hp := Bn Ue h
 have ho := fun j a => Ba (a := a) Ue j h
 simp only [VN, gi, gb, gs, gv, ge, List.map_cons, List.map_nil, List.getD_cons_zero, List.getD_cons_succ, L.AB, A.Am] at hp ho
 exact ⟨hp, (congrArg A.int (ho 0 _ rfl) :)⟩
theorem KS {e : Nat → A} {b : Nat} {a0 a1 a2 : L} (h : Def.holds T e ⟨b, .call 22, [a0, a1, a2]⟩) :
  V7 (e (b + 1)) := by
 have ho := fun j a => Ba (a := a) Ue j h
 simp only [VN, gi, gb, gs, gv, ge, List.map_cons, List.map_nil, List.getD_cons_zero, List.getD_cons_succ, L.AB, A.Am] at ho
 exact V3 (ho 0 _ rfl)
theorem LD {e : Nat → A} {b : Nat} {a0 a1 a2 : L} (h : Def.holds T e ⟨b, .call 24, [a0, a1, a2]⟩) :
  (e b).bool = (true) ∧ (e (b + 1)).int = (Day.C5 (a0.ev e).int (a1.ev e).int (a2.ev e).int) := by
 have hp := Bn Uf h
 have ho := fun j a => Ba (a := a) Uf j h
 simp only [VO, gi, gb, gs, gv, ge, List.map_cons, List.map_nil, List.getD_cons_zero, List.getD_cons_succ, L.AB, A.Am] at hp ho
 exact ⟨hp, (congrArg A.int (ho 0 _ rfl) :)⟩
theorem KT {e : Nat → A} {b : Nat} {a0 a1 a2 : L} (h : Def.holds T e ⟨b, .call 24, [a0, a1, a2]⟩) :
  V7 (e (b + 1)) := by
 have ho := fun j a => Ba (a := a) Uf j h
 simp only [VO, gi, gb, gs, gv, ge, List.map_cons, List.map_nil, List.getD_cons_zero, List.getD_cons_succ, L.AB, A.Am] at ho
 exact V3 (ho 0 _ rfl)
theorem HT {e : Nat → A} {b : Nat} {a0 : L} (h : Def.holds T e ⟨b, .call 21, [a0]⟩) :
  (e b).bool = (true) ∧ (e (b + 1)).bool = (Day.right (a0.ev e).int) := by
 have hp := Bn VP h
 have ho := fun j a => Ba (a := a) VP j h
 simp only [WK, gi, gb, gs, gv, ge, List.map_cons, List.map_nil, List.getD_cons_zero, List.getD_cons_succ, L.AB, A.Am] at hp ho
 exact ⟨hp, (congrArg A.bool (ho 0 _ rfl) :)⟩
theorem GW {e : Nat → A} {b : Nat} {a0 : L} (h : Def.holds T e ⟨b, .call 23, [a0]⟩) :
  (e b).bool = (true) ∧ (e (b + 1)).bool = (Day.right (a0.ev e).int) := by
 have hp := Bn VQ h
 have ho := fun j a => Ba (a := a) VQ j h
 simp only [WL, gi, gb, gs, gv, ge, List.map_cons, List.map_nil, List.getD_cons_zero, List.getD_cons_succ, L.AB, A.Am] at hp ho
 exact ⟨hp, (congrArg A.bool (ho 0 _ rfl) :)⟩
theorem LF {e : Nat → A} {b : Nat} {a0 a1 : L} (h : Def.holds T e ⟨b, .call 20, [a0, a1]⟩) :
  (e b).bool = (Day.L1.ok (Day.L1.mk (a0.ev e) (a1.ev e).int)) ∧ e (b + 1) = (Day.Ts (Day.L1.mk (a0.ev e) (a1.ev e).int)) := by
 have hp := Bn VR h
 have ho := fun j a => Ba (a := a) VR j h
 simp only [XD, gi, gb, gs, gv, ge, List.map_cons, List.map_nil, List.getD_cons_zero, List.getD_cons_succ, L.AB, A.Am] at hp ho
 exact ⟨hp, (ho 0 _ rfl :)⟩
theorem NA {e : Nat → A} {b : Nat} {a0 a1 a2 : L} (h : Def.holds T e ⟨b, .call 19, [a0, a1, a2]⟩) :
  (e b).bool = (true) ∧ (e (b + 1)).bool = (Day.isNode (Day.Fl.mk (a0.ev e).int (a1.ev e).int) (a2.ev e).int) := by
 have hp := Bn VS h
 have ho := fun j a => Ba (a := a) VS j h
 simp only [WM, gi, gb, gs, gv, ge, List.map_cons, List.map_nil, List.getD_cons_zero, List.getD_cons_succ, L.AB, A.Am] at hp ho
 exact ⟨hp, (congrArg A.bool (ho 0 _ rfl) :)⟩
theorem NB {e : Nat → A} {b : Nat} {a0 a1 a2 : L} (h : Def.holds T e ⟨b, .call 28, [a0, a1, a2]⟩) :
  (e b).bool = (true) ∧ (e (b + 1)).bool = (Day.isNode (Day.Fl.mk (a0.ev e).int (a1.ev e).int) (a2.ev e).int) := by
 have hp := Bn VT h
 have ho := fun j a => Ba (a := a) VT j h
 simp only [WN, gi, gb, gs, gv, ge, List.map_cons, List.map_nil, List.getD_cons_zero, List.getD_cons_succ, L.AB, A.Am] at hp ho
 exact ⟨hp, (congrArg A.bool (ho 0 _ rfl) :)⟩
theorem NC {e : Nat → A} {b : Nat} {a0 : L} (h : Def.holds T e ⟨b, .call 27, [a0]⟩) :
  (e b).bool = (true) ∧ (e (b + 1)).bool = (Day.CQ (a0.ev e).int) := by
 have hp := Bn VU h
 have ho := fun j a => Ba (a := a) VU j h
 simp only [WO, gi, gb, gs, gv, ge, List.map_cons, List.map_nil, List.getD_cons_zero, List.getD_cons_succ, L.AB, A.Am] at hp ho
 exact ⟨hp, (congrArg A.bool (ho 0 _ rfl) :)⟩
theorem KU {e : Nat → A} {b : Nat} {a0 : L} (h : Def.holds T e ⟨b, .call 26, [a0]⟩) :
  (e b).bool = (true) ∧ (e (b + 1)).bool = (Day.EZ (a0.ev e).int) := by
 have hp := Bn VV h
 have ho := fun j a => Ba (a := a) VV j h
 simp only [WQ, gi, gb, gs, gv, ge, List.map_cons, List.map_nil, List.getD_cons_zero, List.getD_cons_succ, L.AB, A.Am] at hp ho
 exact ⟨hp, (congrArg A.bool (ho 0 _ rfl) :)⟩
theorem Gy {e : Nat → A} {b : Nat} {a0 a1 a2 a3 : L} (h : Def.holds T e ⟨b, .call 8, [a0, a1, a2, a3]⟩) :
  (e b).bool = (Day.L1.ok (Day.L1.mk (a0.ev e) (a1.ev e).int)) ∧ (e (b + 1)).bool = (Day.Og (Day.L1.mk (a0.ev e) (a1.ev e).int) (a2.ev e).int (a3.ev e).int) := by
 have hp := Bn Ym h
 have ho := fun j a => Ba (a := a) Ym j h
 simp only [Yx, gi, gb, gs, gv, ge, List.map_cons, List.map_nil, List.getD_cons_zero, List.getD_cons_succ, L.AB, A.Am] at hp ho
 exact ⟨hp, (congrArg A.bool (ho 0 _ rfl) :)⟩
theorem LG {e : Nat → A} {b : Nat} {a0 a1 a2 a3 : L} (h : Def.holds T e ⟨b, .call 9, [a0, a1, a2, a3]⟩) :
  (e b).bool = (Day.L1.ok (Day.L1.mk (a0.ev e) (a1.ev e).int) && (Day.Fk (Day.L1.mk (a0.ev e) (a1.ev e).int) && Day.i64 (a3.ev e).int)) ∧ (e (b + 1)).int = (Day.C6 (Day.L1.mk (a0.ev e) (a1.ev e).int) (a2.ev e).int (a3.ev e).int) := by
 have hp := Bn Yn h
 have ho := fun j a => Ba (a := a) Yn j h
 simp only [Yy, gi, gb, gs, gv, ge, List.map_cons, List.map_nil, List.getD_cons_zero, List.getD_cons_succ, L.AB, A.Am] at hp ho
 exact ⟨hp, (congrArg A.int (ho 0 _ rfl) :)⟩
theorem Gz {e : Nat → A} {b : Nat} {a0 a1 a2 a3 : L} (h : Def.holds T e ⟨b, .call 15, [a0, a1, a2, a3]⟩) :
  (e b).bool = (Day.L1.ok (Day.L1.mk (a0.ev e) (a1.ev e).int)) ∧ (e (b + 1)).bool = (Day.Og (Day.L1.mk (a0.ev e) (a1.ev e).int) (a2.ev e).int (a3.ev e).int) := by
 have hp := Bn VW h
 have ho := fun j a => Ba (a := a) VW j h
 simp only [WR, gi, gb, gs, gv, ge, List.map_cons, List.map_nil, List.getD_cons_zero, List.getD_cons_succ, L.AB, A.Am] at hp ho
 exact ⟨hp, (congrArg A.bool (ho 0 _ rfl) :)⟩
theorem LH {e : Nat → A} {b : Nat} {a0 a1 a2 a3 : L} (h : Def.holds T e ⟨b, .call 17, [a0, a1, a2, a3]⟩) :
  (e b).bool = (Day.L1.ok (Day.L1.mk (a0.ev e) (a1.ev e).int) && (Day.Fk (Day.L1.mk (a0.ev e) (a1.ev e).int) && Day.i64 (a3.ev e).int)) ∧ (e (b + 1)).int = (Day.C6 (Day.L1.mk (a0.ev e) (a1.ev e).int) (a2.ev e).int (a3.ev e).int) := by
 have hp := Bn VX h
 have ho := fun j a => Ba (a := a) VX j h
 simp only [WS, gi, gb, gs, gv, ge, List.map_cons, List.map_nil, List.getD_cons_zero, List.getD_cons_succ, L.AB, A.Am] at hp ho
 exact ⟨hp, (congrArg A.int (ho 0 _ rfl) :)⟩
theorem LI {e : Nat → A} {b : Nat} {a0 a1 a2 : L} (h : Def.holds T e ⟨b, .call 13, [a0, a1, a2]⟩) :
  (e b).bool = (Day.L1.ok (Day.L1.mk (a1.ev e) (a2.ev e).int)) ∧ (e (b + 1)).bool = (Day.HH (a0.ev e).int (Day.L1.mk (a1.ev e) (a2.ev e).int)) := by
 have hp := Bn VY h
 have ho := fun j a => Ba (a := a) VY j h
 simp only [WT, gi, gb, gs, gv, ge, List.map_cons, List.map_nil, List.getD_cons_zero, List.getD_cons_succ, L.AB, A.Am] at hp ho
 exact ⟨hp, (congrArg A.bool (ho 0 _ rfl) :)⟩
theorem LJ {e : Nat → A} {b : Nat} {a0 a1 a2 : L} (h : Def.holds T e ⟨b, .call 14, [a0, a1, a2]⟩) :
  (e b).bool = (Day.L1.ok (Day.L1.mk (a1.ev e) (a2.ev e).int)) ∧ (e (b + 1)).bool = (Day.HH (a0.ev e).int (Day.L1.mk (a1.ev e) (a2.ev e).int)) := by
 have hp := Bn VZ h
 have ho := fun j a => Ba (a := a) VZ j h
 simp only [WU, gi, gb, gs, gv, ge, List.map_cons, List.map_nil, List.getD_cons_zero, List.getD_cons_succ, L.AB, A.Am] at hp ho
 exact ⟨hp, (congrArg A.bool (ho 0 _ rfl) :)⟩
theorem KV {e : Nat → A} {b : Nat} {a0 a1 : L} (h : Def.holds T e ⟨b, .call 16, [a0, a1]⟩) :
  (e b).bool = (Day.L1.ok (Day.L1.mk (a0.ev e) (a1.ev e).int)) ∧ (e (b + 1)).bool = (Day.Fk (Day.L1.mk (a0.ev e) (a1.ev e).int)) := by
 have hp := Bn V0 h
 have ho := fun j a => Ba (a := a) V0 j h
 simp only [WV, gi, gb, gs, gv, ge, List.map_cons, List.map_nil, List.getD_cons_zero, List.getD_cons_succ, L.AB, A.Am] at hp ho
 exact ⟨hp, (congrArg A.bool (ho 0 _ rfl) :)⟩
theorem DP {e : Nat → A} {b : Nat} {a0 a1 a2 : L} (h : Def.holds T e ⟨b, .call 10, [a0, a1, a2]⟩) :
  (e b).bool = (Day.L1.ok (Day.L1.mk (a1.ev e) (a2.ev e).int)) ∧ e (b + 1) = (((Day.B1 (a0.ev e).int (Day.L1.mk (a1.ev e) (a2.ev e).int))).x) ∧ (e (b + 2)).int = (((Day.B1 (a0.ev e).int (Day.L1.mk (a1.ev e) (a2.ev e).int))).n) ∧ (e (b + 3)).int = (Day.E0 (a0.ev e).int) := by
 have hp := Bn WY h
 have ho := fun j a => Ba (a := a) WY j h
 simp only [XE, gi, gb, gs, gv, ge, List.map_cons, List.map_nil, List.getD_cons_zero, List.getD_cons_succ, L.AB, A.Am] at hp ho
 exact ⟨hp, (ho 0 _ rfl :), (congrArg A.int (ho 1 _ rfl) :), (congrArg A.int (ho 2 _ rfl) :)⟩
theorem LK {e : Nat → A} {b : Nat} {a0 a1 a2 : L} (h : Def.holds T e ⟨b, .call 11, [a0, a1, a2]⟩) :
  (e b).bool = (Day.L1.ok (Day.L1.mk (a1.ev e) (a2.ev e).int)) ∧ e (b + 1) = (((Day.B1 (a0.ev e).int (Day.L1.mk (a1.ev e) (a2.ev e).int))).x) ∧ (e (b + 2)).int = (((Day.B1 (a0.ev e).int (Day.L1.mk (a1.ev e) (a2.ev e).int))).n) ∧ (e (b + 3)).int = (Day.E0 (a0.ev e).int) := by
 have hp := Bn WZ h
 have ho := fun j a => Ba (a := a) WZ j h
 simp only [XF, gi, gb, gs, gv, ge, List.map_cons, List.map_nil, List.getD_cons_zero, List.getD_cons_succ, L.AB, A.Am] at hp ho
 exact ⟨hp, (ho 0 _ rfl :), (congrArg A.int (ho 1 _ rfl) :), (congrArg A.int (ho 2 _ rfl) :)⟩
theorem IQ {e : Nat → A} {b : Nat} {a0 a1 a2 a3 : L} (h : Def.holds T e ⟨b, .call 7, [a0, a1, a2, a3]⟩) :
  (e b).bool = (Day.L1.ok (Day.L1.mk (a0.ev e) (a1.ev e).int)) ∧ (e (b + 1)).int = (Day.JR (Day.L1.mk (a0.ev e) (a1.ev e).int) (Day.Fl.mk (a2.ev e).int (a3.ev e).int)) := by
 have hp := Bn Yo h
 have ho := fun j a => Ba (a := a) Yo j h
 simp only [Yz, gi, gb, gs, gv, ge, List.map_cons, List.map_nil, List.getD_cons_zero, List.getD_cons_succ, L.AB, A.Am] at hp ho
 exact ⟨hp, (congrArg A.int (ho 0 _ rfl) :)⟩
theorem Oi {e : Nat → A} {b : Nat} {a0 a1 a2 a3 : L} (h : Def.holds T e ⟨b, .call 18, [a0, a1, a2, a3]⟩) :
  (e b).bool = (Day.L1.ok (Day.L1.mk (a0.ev e) (a1.ev e).int) && Day.Fk (Day.L1.mk (a0.ev e) (a1.ev e).int)) ∧ (e (b + 1)).int = (Day.JR (Day.L1.mk (a0.ev e) (a1.ev e).int) (Day.Fl.mk (a2.ev e).int (a3.ev e).int)) := by
 have hp := Bn V1 h
 have ho := fun j a => Ba (a := a) V1 j h
 simp only [WW, gi, gb, gs, gv, ge, List.map_cons, List.map_nil, List.getD_cons_zero, List.getD_cons_succ, L.AB, A.Am] at hp ho
 exact ⟨hp, (congrArg A.int (ho 0 _ rfl) :)⟩
theorem HU {e : Nat → A} {b : Nat} {a0 a1 a2 a3 : L} (h : Def.holds T e ⟨b, .call 12, [a0, a1, a2, a3]⟩) :
  (e b).bool = (Day.L1.ok (Day.L1.mk (a0.ev e) (a1.ev e).int) && Day.L1.ok (Day.L1.mk (a2.ev e) (a3.ev e).int)) ∧ (e (b + 1)).bool = (Day.JS (Day.L1.mk (a0.ev e) (a1.ev e).int) (Day.L1.mk (a2.ev e) (a3.ev e).int)) := by
 have hp := Bn V2 h
 have ho := fun j a => Ba (a := a) V2 j h
 simp only [WX, gi, gb, gs, gv, ge, List.map_cons, List.map_nil, List.getD_cons_zero, List.getD_cons_succ, L.AB, A.Am] at hp ho
 exact ⟨hp, (congrArg A.bool (ho 0 _ rfl) :)⟩
theorem DQ {e : Nat → A} {b : Nat} (h : Def.holds T e ⟨b, .call 6, []⟩) :
  (e b).bool = (true) ∧ (e (b + 1)).bool = (true) := by
 have hp := Bn Yp h
 have ho := fun j a => Ba (a := a) Yp j h
 simp only [YA, gi, gb, gs, gv, ge, List.map_cons, List.map_nil, List.getD_cons_zero, List.getD_cons_succ, L.AB, A.Am] at hp ho
 exact ⟨hp, (congrArg A.bool (ho 0 _ rfl) :)⟩
theorem Ug {e : Nat → A} {b : Nat} {a0 a1 a2 : L} (h : Def.holds T e ⟨b, .call 1130, [a0, a1, a2]⟩) :
  (e b).bool = (Day.L1.at (Day.L1.mk (a2.ev e) (a0.ev e).int) (a1.ev e).int) ∧ (e (b + 1)).int = (Day.FY (Day.L1.mk (a2.ev e) (a0.ev e).int) (a1.ev e).int) ∧ (e (b + 2)).bool = (Day.AU (Day.L1.mk (a2.ev e) (a0.ev e).int) (a1.ev e).int) ∧ (e (b + 3)).bool = (Day.AQ (Day.L1.mk (a2.ev e) (a0.ev e).int) (a1.ev e).int) := by
 have hp := Bn Nr h
 have ho := fun j a => Ba (a := a) Nr j h
 simp only [HJ, gi, gb, gs, gv, ge, List.map_cons, List.map_nil, List.getD_cons_zero, List.getD_cons_succ, L.AB, A.Am] at hp ho
 exact ⟨hp, (congrArg A.int (ho 0 _ rfl) :), (congrArg A.bool (ho 1 _ rfl) :), (congrArg A.bool (ho 2 _ rfl) :)⟩
theorem Uh {e : Nat → A} {b : Nat} {a0 a1 a2 a3 : L} (h : Def.holds T e ⟨b, .call 1140, [a0, a1, a2, a3]⟩) :
  (e b).bool = (Day.L1.at (Day.L1.mk (a3.ev e) (a1.ev e).int) (a2.ev e).int) ∧ (e (b + 1)).bool = (Day.AU (Day.L1.mk (a3.ev e) (a1.ev e).int) (a2.ev e).int) ∧ (e (b + 2)).bool = (Day.AQ (Day.L1.mk (a3.ev e) (a1.ev e).int) (a2.ev e).int) := by
 have hp := Bn Ns h
 have ho := fun j a => Ba (a := a) Ns j h
 simp only [HK, gi, gb, gs, gv, ge, List.map_cons, List.map_nil, List.getD_cons_zero, List.getD_cons_succ, L.AB, A.Am] at hp ho
 exact ⟨hp, (congrArg A.bool (ho 0 _ rfl) :), (congrArg A.bool (ho 1 _ rfl) :)⟩
theorem Ui {e : Nat → A} {b : Nat} {a0 a1 a2 : L} (h : Def.holds T e ⟨b, .call 1150, [a0, a1, a2]⟩) :
  (e b).bool = (Day.L1.at (Day.L1.mk (a2.ev e) (a0.ev e).int) (a1.ev e).int) ∧ (e (b + 1)).bool = (Day.AU (Day.L1.mk (a2.ev e) (a0.ev e).int) (a1.ev e).int) ∧ (e (b + 2)).bool = (Day.AQ (Day.L1.mk (a2.ev e) (a0.ev e).int) (a1.ev e).int) := by
 have hp := Bn Nt h
 have ho := fun j a => Ba (a := a) Nt j h
 simp only [HL, gi, gb, gs, gv, ge, List.map_cons, List.map_nil, List.getD_cons_zero, List.getD_cons_succ, L.AB, A.Am] at hp ho
 exact ⟨hp, (congrArg A.bool (ho 0 _ rfl) :), (congrArg A.bool (ho 1 _ rfl) :)⟩
theorem Uj {e : Nat → A} {b : Nat} {a0 a1 a2 a3 a4 a5 a6 : L} (h : Def.holds T e ⟨b, .call 1160, [a0, a1, a2, a3, a4, a5, a6]⟩) :
  (e b).bool = (Day.CR (a4.ev e).int (a0.ev e).int && Day.He (a6.ev e) (a0.ev e).int) ∧ e (b + 1) = (Day.C8 (a6.ev e) ((a0.ev e).int - (a4.ev e).int).toNat (a4.ev e).int.toNat) := by
 have hp := Bn Nu h
 have ho := fun j a => Ba (a := a) Nu j h
 simp only [HM, gi, gb, gs, gv, ge, List.map_cons, List.map_nil, List.getD_cons_zero, List.getD_cons_succ, L.AB, A.Am] at hp ho
 exact ⟨hp, (ho 0 _ rfl :)⟩
theorem Uk {e : Nat → A} {b : Nat} {a0 a1 a2 a3 a4 a5 a6 : L} (h : Def.holds T e ⟨b, .call 1170, [a0, a1, a2, a3, a4, a5, a6]⟩) :
  (e b).bool = (Day.CR (a2.ev e).int (a0.ev e).int && (Day.He (a6.ev e) (a0.ev e).int && Day.L1.ok (Day.L1.mk (a5.ev e) (a1.ev e).int))) ∧ e (b + 1) = (Day.JU (Day.L1.mk (a5.ev e) (a1.ev e).int) (a6.ev e) (Day.Fm (a0.ev e).int (Day.L1.n (Day.L1.mk (a5.ev e) (a1.ev e).int)) - (a2.ev e).int).toNat (a2.ev e).int.toNat) := by
 have hp := Bn Nv h
 have ho := fun j a => Ba (a := a) Nv j h
 simp only [HN, gi, gb, gs, gv, ge, List.map_cons, List.map_nil, List.getD_cons_zero, List.getD_cons_succ, L.AB, A.Am] at hp ho
 exact ⟨hp, (ho 0 _ rfl :)⟩
theorem Ul {e : Nat → A} {b : Nat} {a0 a1 a2 a3 a4 a5 a6 : L} (h : Def.holds T e ⟨b, .call 1180, [a0, a1, a2, a3, a4, a5, a6]⟩) :
  (e b).bool = (Day.L1.at (Day.L1.mk (a5.ev e) (a0.ev e).int) (a4.ev e).int && Day.E1 (Day.L1.mk (a6.ev e) (a3.ev e).int) (a4.ev e).int) ∧ (e (b + 1)).int = (Day.JW (Day.L1.mk (a5.ev e) (a0.ev e).int) (Day.Fl.mk (a1.ev e).int (a2.ev e).int) (a4.ev e).int (Day.L1.mk (a6.ev e) (a3.ev e).int)) ∧ e (b + 2) = (Day.JV (Day.L1.mk (a5.ev e) (a0.ev e).int) (Day.Fl.mk (a1.ev e).int (a2.ev e).int) (a4.ev e).int (Day.L1.mk (a6.ev e) (a3.ev e).int)) := by
 have hp := Bn Nw h
 have ho := fun j a => Ba (a := a) Nw j h
 simp only [HO, gi, gb, gs, gv, ge, List.map_cons, List.map_nil, List.getD_cons_zero, List.getD_cons_succ, L.AB, A.Am] at hp ho
 exact ⟨hp, (congrArg A.int (ho 0 _ rfl) :), (ho 1 _ rfl :)⟩
theorem Um {e : Nat → A} {b : Nat} {a0 a1 a2 a3 a4 a5 a6 a7 a8 a9 a10 : L} (h : Def.holds T e ⟨b, .call 1190, [a0, a1, a2, a3, a4, a5, a6, a7, a8, a9, a10]⟩) :
  (e b).bool = (Day.L1.at (Day.L1.mk (a8.ev e) (a0.ev e).int) (a6.ev e).int && Day.V8 (a5.ev e).int (a6.ev e).int) ∧ (e (b + 1)).int = ((a5.ev e).int + Day.F0 (Day.L1.mk (a8.ev e) (a0.ev e).int) (Day.Fl.mk (a9.ev e).int (a10.ev e).int) (a4.ev e).int (a6.ev e).int) ∧ (e (b + 2)).int = (Day.L1.n (Day.L1.mk (a8.ev e) (a0.ev e).int)) ∧ (e (b + 3)).int = (Day.L1.n (Day.L1.mk (a8.ev e) (a0.ev e).int)) ∧ (e (b + 4)).bool = (Day.no (a4.ev e).int) := by
 have hp := Bn Nx h
 have ho := fun j a => Ba (a := a) Nx j h
 simp only [HP, gi, gb, gs, gv, ge, List.map_cons, List.map_nil, List.getD_cons_zero, List.getD_cons_succ, L.AB, A.Am] at hp ho
 exact ⟨hp, (congrArg A.int (ho 0 _ rfl) :), (congrArg A.int (ho 1 _ rfl) :), (congrArg A.int (ho 2 _ rfl) :), (congrArg A.bool (ho 3 _ rfl) :)⟩
theorem Un {e : Nat → A} {b : Nat} {a0 a1 a2 a3 a4 : L} (h : Def.holds T e ⟨b, .call 1191, [a0, a1, a2, a3, a4]⟩) :
  (e b).bool = (Day.L1.ok (Day.L1.mk (a4.ev e) (a0.ev e).int) && Day.Xa (a3.ev e).int) ∧ (e (b + 1)).int = (Day.Oh (Day.L1.mk (a4.ev e) (a0.ev e).int) (Day.Fl.mk (a1.ev e).int (a2.ev e).int) (a3.ev e).int) ∧ (e (b + 2)).bool = (Day.HI (Day.L1.mk (a4.ev e) (a0.ev e).int) (Day.Fl.mk (a1.ev e).int (a2.ev e).int) (a3.ev e).int) ∧ (e (b + 3)).bool = (Day.W9 (Day.L1.mk (a4.ev e) (a0.ev e).int) (Day.Fl.mk (a1.ev e).int (a2.ev e).int) (a3.ev e).int) := by
 have hp := Bn Ny h
 have ho := fun j a => Ba (a := a) Ny j h
 simp only [HQ, gi, gb, gs, gv, ge, List.map_cons, List.map_nil, List.getD_cons_zero, List.getD_cons_succ, L.AB, A.Am] at hp ho
 exact ⟨hp, (congrArg A.int (ho 0 _ rfl) :), (congrArg A.bool (ho 1 _ rfl) :), (congrArg A.bool (ho 2 _ rfl) :)⟩
theorem Uo {e : Nat → A} {b : Nat} {a0 a1 a2 a3 a4 a5 : L} (h : Def.holds T e ⟨b, .call 1200, [a0, a1, a2, a3, a4, a5]⟩) :
  (e b).bool = (Day.L1.at (Day.L1.mk (a4.ev e) (a0.ev e).int) (a2.ev e).int && (Day.L1.at (Day.L1.mk (a5.ev e) (a1.ev e).int) (a2.ev e).int && Day.XA (Day.L1.n (Day.L1.mk (a4.ev e) (a0.ev e).int)) (Day.L1.n (Day.L1.mk (a5.ev e) (a1.ev e).int)))) ∧ (e (b + 1)).bool = (Day.DH (Day.L1.mk (a4.ev e) (a0.ev e).int) (Day.L1.mk (a5.ev e) (a1.ev e).int) (a2.ev e).int) ∧ (e (b + 2)).bool = (Day.BG (Day.L1.mk (a4.ev e) (a0.ev e).int) (Day.L1.mk (a5.ev e) (a1.ev e).int) (a2.ev e).int) := by
 have hp := Bn Nz h
 have ho := fun j a => Ba (a := a) Nz j h
 simp only [HR, gi, gb, gs, gv, ge, List.map_cons, List.map_nil, List.getD_cons_zero, List.getD_cons_succ, L.AB, A.Am] at hp ho
 exact ⟨hp, (congrArg A.bool (ho 0 _ rfl) :), (congrArg A.bool (ho 1 _ rfl) :)⟩
end Rx.S
