import Derived.Test.YtngghkhjejkelaaVXc
import Derived.Test.YtngghkhjejkelaaVXd
set_option linter.unusedVariables false
set_option linter.unusedSimpArgs false
namespace Rx.S
open Go Rx
set_option maxRecDepth 100000
def YH (al : List A) : Bool × List A := (true, [.i (Day.AP (gi al 0) (gi al 1) (gi al 2))])
def YI (al : List A) : Bool × List A := (Day.sm (gi al 1), [.i (Day.EP (gi al 0) (gi al 1))])
def YJ (al : List A) : Bool × List A := (Day.sm (gi al 1), [.i (Day.EP (gi al 0) (gi al 1))])
def YK (al : List A) : Bool × List A := (Day.BR (gi al 0) && Day.i64 (gi al 1), [.i (Day.Ca (gi al 0) (gi al 1))])
def YL (al : List A) : Bool × List A := (Day.A2 (gi al 0) (gi al 1), [.i (Day.AF (gi al 0) (gi al 1))])
def YM (al : List A) : Bool × List A := (Day.BR (gi al 0) && Day.i64 (gi al 1), [.i (Day.Ca (gi al 0) (gi al 1))])
def YN (al : List A) : Bool × List A := (Day.A2 (gi al 0) (gi al 1), [.i (Day.AF (gi al 0) (gi al 1))])
def YO (al : List A) : Bool × List A := (Day.AT (gi al 0) (gi al 1) (gi al 2), [.i (Day.AU (gi al 0) (gi al 1) (gi al 2))])
def YP (al : List A) : Bool × List A := (true, [.b (Day.right (gi al 0))])
def YQ (al : List A) : Bool × List A := (true, [.b (Day.right (gi al 0))])
def YR (al : List A) : Bool × List A := (Day.Iw (gs al 0), [.i (Day.times (Day.NI (gs al 0)) (gi al 1))])
def YS (al : List A) : Bool × List A := (Day.u8 (gi al 1), [.i (Day.times (gi al 1) (gi al 0))])
def YT (al : List A) : Bool × List A := (true, [.i (Day.times 8 (gi al 0))])
def YU (al : List A) : Bool × List A := (true, [.i (Day.times 8 (gi al 0))])
def YV (al : List A) : Bool × List A := (Day.Iw (gs al 0), [.i (Day.Bs (Day.NI (gs al 0)) (gi al 1) (gi al 2)), .i (Day.Bu (gi al 1) (gi al 2))])
def YW (al : List A) : Bool × List A := (Day.u8 (gi al 2), [.i (Day.Bs (gi al 2) (gi al 0) (gi al 1)), .i (Day.Bu (gi al 0) (gi al 1))])
def YX (al : List A) : Bool × List A := (true, [.i (Day.Bs 4 (gi al 0) (gi al 1)), .i (Day.Bu (gi al 0) (gi al 1))])
def YY (al : List A) : Bool × List A := (true, [.i (Day.Bs 4 (gi al 0) (gi al 1)), .i (Day.Bu (gi al 0) (gi al 1))])
def YZ (al : List A) : Bool × List A := (true, [.i (Day.Bs 2 (gi al 0) (gi al 1)), .i (Day.Bu (gi al 0) (gi al 1))])
def Y0 (al : List A) : Bool × List A := (true, [.i (Day.Bs 2 (gi al 0) (gi al 1)), .i (Day.Bu (gi al 0) (gi al 1))])
def Y1 (al : List A) : Bool × List A := let r0 := Day.AV (gi al 0) (gi al 1); (true, [.i (((r0)).id), .i (((r0)).mode), .i (((r0)).count), .i (((r0)).pos), .i (Day.GC (gi al 0) (gi al 1))])
def Y2 (al : List A) : Bool × List A := (Day.ND.i64 (Day.ND.mk (gi al 1) (gi al 2) (gi al 3) (gi al 4)), [.b (Day.Ap (gi al 0) (Day.ND.mk (gi al 1) (gi al 2) (gi al 3) (gi al 4)))])
def Y3 (al : List A) : Bool × List A := (Day.ND.i64 (Day.ND.mk (gi al 1) (gi al 2) (gi al 3) (gi al 4)), [.b (Day.Ap (gi al 0) (Day.ND.mk (gi al 1) (gi al 2) (gi al 3) (gi al 4)))])
def Y4 (al : List A) : Bool × List A := (true, [.i (Day.Bk (gi al 0) (Day.ND.mk (gi al 1) (gi al 2) (gi al 3) (gi al 4)))])
def Y5 (al : List A) : Bool × List A := (Day.ND.i64 (Day.ND.mk (gi al 1) (gi al 2) (gi al 3) (gi al 4)), [.i (Day.Co (gi al 0) (Day.ND.mk (gi al 1) (gi al 2) (gi al 3) (gi al 4)))])
def Y6 (al : List A) : Bool × List A := (Day.ND.i64 (Day.ND.mk (gi al 1) (gi al 2) (gi al 3) (gi al 4)), [.i (((Day.EC (gi al 0) (Day.ND.mk (gi al 1) (gi al 2) (gi al 3) (gi al 4)))).kind), .i (((Day.EC (gi al 0) (Day.ND.mk (gi al 1) (gi al 2) (gi al 3) (gi al 4)))).id), .i (Day.GD (gi al 0) (Day.ND.mk (gi al 1) (gi al 2) (gi al 3) (gi al 4)))])
def Y7 (al : List A) : Bool × List A := (Day.ND.i64 (Day.ND.mk (gi al 1) (gi al 2) (gi al 3) (gi al 4)), [.i (((Day.EC (gi al 0) (Day.ND.mk (gi al 1) (gi al 2) (gi al 3) (gi al 4)))).kind), .i (((Day.EC (gi al 0) (Day.ND.mk (gi al 1) (gi al 2) (gi al 3) (gi al 4)))).id), .i (Day.GD (gi al 0) (Day.ND.mk (gi al 1) (gi al 2) (gi al 3) (gi al 4)))])
def Y8 (al : List A) : Bool × List A := (true, [.i (Day.CE (Day.Fr.mk (gi al 0) (gi al 1)) (Day.Fr.mk (gi al 2) (gi al 3))), .b (Day.Ce (Day.Fr.mk (gi al 0) (gi al 1)) (Day.Fr.mk (gi al 2) (gi al 3)))])
def Y9 (al : List A) : Bool × List A := (true, [.i (Day.BT (Day.Fr.mk (gi al 0) (gi al 1)) (Day.Fr.mk (gi al 2) (gi al 3)) (gi al 4)), .b (Day.Bl (Day.Fr.mk (gi al 0) (gi al 1)) (Day.Fr.mk (gi al 2) (gi al 3)) (gi al 4))])
def Za (al : List A) : Bool × List A := (true, [.b (Day.BU (Day.Fr.mk (gi al 0) (gi al 1)) (Day.Fr.mk (gi al 2) (gi al 3)) (gi al 4))])
def Zb (al : List A) : Bool × List A := (true, [.b (Day.Cc (Day.Fr.mk (gi al 0) (gi al 1)) (Day.Fr.mk (gi al 2) (gi al 3)) (gi al 4))])
def Zc (al : List A) : Bool × List A := (true, [.i (Day.CE (Day.Fr.mk (gi al 0) (gi al 1)) (Day.Fr.mk (gi al 2) (gi al 3))), .b (Day.Ce (Day.Fr.mk (gi al 0) (gi al 1)) (Day.Fr.mk (gi al 2) (gi al 3)))])
def Zd (al : List A) : Bool × List A := (true, [.i (Day.BT (Day.Fr.mk (gi al 0) (gi al 1)) (Day.Fr.mk (gi al 2) (gi al 3)) (gi al 4)), .b (Day.Bl (Day.Fr.mk (gi al 0) (gi al 1)) (Day.Fr.mk (gi al 2) (gi al 3)) (gi al 4))])
def Ze (al : List A) : Bool × List A := (true, [.b (Day.BU (Day.Fr.mk (gi al 0) (gi al 1)) (Day.Fr.mk (gi al 2) (gi al 3)) (gi al 4))])
def Zf (al : List A) : Bool × List A := (true, [.b (Day.Cc (Day.Fr.mk (gi al 0) (gi al 1)) (Day.Fr.mk (gi al 2) (gi al 3)) (gi al 4))])
def Zg (al : List A) : Bool × List A := let r0 := Day.C2 (gi al 0) (Day.ND.mk (gi al 1) (gi al 2) (gi al 3) (gi al 4)) (Day.Fr.mk (gi al 5) (gi al 6)) (Day.Fr.mk (gi al 7) (gi al 8)); (Day.Ap (gi al 0) (Day.ND.mk (gi al 1) (gi al 2) (gi al 3) (gi al 4)) && Day.AE (gi al 0) (Day.Fr.mk (gi al 5) (gi al 6)) (Day.Fr.mk (gi al 7) (gi al 8)), [.i (((r0)).id), .i (((r0)).mode), .i (((r0)).count), .i (((r0)).pos)])
def Zh (al : List A) : Bool × List A := let r0 := Day.AI (gi al 0) (Day.ND.mk (gi al 1) (gi al 2) (gi al 3) (gi al 4)) (Day.Fr.mk (gi al 5) (gi al 6)) (Day.Fr.mk (gi al 7) (gi al 8)); (Day.ND.i64 (Day.ND.mk (gi al 1) (gi al 2) (gi al 3) (gi al 4)) && Day.AE (gi al 0) (Day.Fr.mk (gi al 5) (gi al 6)) (Day.Fr.mk (gi al 7) (gi al 8)), [.i (((r0)).id), .i (((r0)).mode), .i (((r0)).count), .i (((r0)).pos), .i (Day.Bm (gi al 0) (Day.ND.mk (gi al 1) (gi al 2) (gi al 3) (gi al 4)))])
def Zi (al : List A) : Bool × List A := let r0 := Day.AI (gi al 0) (Day.ND.mk (gi al 1) (gi al 2) (gi al 3) (gi al 4)) (Day.Fr.mk (gi al 5) (gi al 6)) (Day.Fr.mk (gi al 7) (gi al 8)); (Day.ND.i64 (Day.ND.mk (gi al 1) (gi al 2) (gi al 3) (gi al 4)) && Day.AE (gi al 0) (Day.Fr.mk (gi al 5) (gi al 6)) (Day.Fr.mk (gi al 7) (gi al 8)), [.i (((r0)).id), .i (((r0)).mode), .i (((r0)).count), .i (((r0)).pos), .i (Day.Bm (gi al 0) (Day.ND.mk (gi al 1) (gi al 2) (gi al 3) (gi al 4)))])
def Zj (al : List A) : Bool × List A := let r0 := Day.CF (gi al 0) (Day.ND.mk (gi al 1) (gi al 2) (gi al 3) (gi al 4)) (gi al 5); (Day.ND.i64 (Day.ND.mk (gi al 1) (gi al 2) (gi al 3) (gi al 4)), [.i (((r0)).id), .i (((r0)).mode), .i (((r0)).count), .i (((r0)).pos), .i (Day.Cp (gi al 0) (Day.ND.mk (gi al 1) (gi al 2) (gi al 3) (gi al 4)) (gi al 5))])
def Zk (al : List A) : Bool × List A := let r0 := Day.CF (gi al 0) (Day.ND.mk (gi al 1) (gi al 2) (gi al 3) (gi al 4)) (gi al 5); (Day.ND.i64 (Day.ND.mk (gi al 1) (gi al 2) (gi al 3) (gi al 4)), [.i (((r0)).id), .i (((r0)).mode), .i (((r0)).count), .i (((r0)).pos), .i (Day.Cp (gi al 0) (Day.ND.mk (gi al 1) (gi al 2) (gi al 3) (gi al 4)) (gi al 5))])
def Zl (al : List A) : Bool × List A := (true, [.b (Day.AE (gi al 0) (Day.Fr.mk (gi al 1) (gi al 2)) (Day.Fr.mk (gi al 3) (gi al 4)))])
def Zm (al : List A) : Bool × List A := (true, [.b (true)])
def t_7 (al : List A) : Bool × List A := (Day.i64 (gi al 0) && (Day.ND.i64 (Day.ND.mk (gi al 1) (gi al 2) (gi al 3) (gi al 4)) && Day.i64 (gi al 9)), [.b (true)])
def t_5 (al : List A) : Bool × List A := (Day.u8 (gi al 0) && Day.ND.i64 (Day.ND.mk (gi al 1) (gi al 2) (gi al 3) (gi al 4)), [.b (true)])
def t_6 (al : List A) : Bool × List A := (Day.u8 (gi al 0) && (Day.ND.i64 (Day.ND.mk (gi al 1) (gi al 2) (gi al 3) (gi al 4)) && (Day.ND.i64 (Day.ND.mk (gi al 5) (gi al 6) (gi al 7) (gi al 8)) && Day.u8 (gi al 9))), [.b (true)])
def Ix (al : List A) : Bool × List A := let r0 := Day.DI (gi al 0) ((gi al 5) - (gi al 14)).toNat (Day.ND.mk (gi al 15) (gi al 16) (gi al 17) (gi al 18)); (Day.qI (gi al 0) (Day.ND.mk (gi al 15) (gi al 16) (gi al 17) (gi al 18)) && Day.qT (gi al 5) (gi al 14), [.i (((r0)).id), .i (((r0)).mode), .i (((r0)).count), .i (((r0)).pos)])
def Iy (al : List A) : Bool × List A := let r0 := Day.DI (gi al 0) ((gi al 5) - (gi al 7)).toNat (Day.ND.mk (gi al 15) (gi al 16) (gi al 17) (gi al 18)); (Day.qI (gi al 0) (Day.ND.mk (gi al 15) (gi al 16) (gi al 17) (gi al 18)) && Day.qT (gi al 5) (gi al 7), [.i (((r0)).id), .i (((r0)).mode), .i (((r0)).count), .i (((r0)).pos)])
def table : List (Nat × (List A → Bool × List A)) := [(58, YH), (86, YI), (66, YJ), (59, YK), (75, YL), (65, YM), (48, YN), (82, YO), (37, YP), (38, YQ), (89, YR), (79, YS), (76, YT), (63, YU), (90, YV), (91, YW), (78, YX), (80, YY), (77, YZ), (81, Y0), (57, Y1), (41, Y2), (29, Y3), (60, Y4), (64, Y5), (42, Y6), (44, Y7), (68, Y8), (69, Y9), (73, Za), (74, Zb), (45, Zc), (46, Zd), (61, Ze), (62, Zf), (43, Zg), (30, Zh), (28, Zi), (31, Zj), (32, Zk), (26, Zl), (27, Zm), (7, t_7), (5, t_5), (6, t_6), (1650, Ix), (1660, Iy)]
def T : Nat → List A → Bool × List A := tab table
theorem Xt : T 58 = YH := rfl
theorem Xu : T 86 = YI := rfl
theorem Xv : T 66 = YJ := rfl
theorem Xw : T 59 = YK := rfl
theorem Xx : T 75 = YL := rfl
theorem Xy : T 65 = YM := rfl
theorem Xz : T 48 = YN := rfl
theorem XA : T 82 = YO := rfl
theorem XB : T 37 = YP := rfl
theorem XC : T 38 = YQ := rfl
theorem XD : T 89 = YR := rfl
theorem XE : T 79 = YS := rfl
theorem XF : T 76 = YT := rfl
theorem XG : T 63 = YU := rfl
theorem XH : T 90 = YV := rfl
theorem XI : T 91 = YW := rfl
theorem XJ : T 78 = YX := rfl
theorem XK : T 80 = YY := rfl
theorem XM : T 77 = YZ := rfl
theorem XN : T 81 = Y0 := rfl
theorem XO : T 57 = Y1 := rfl
theorem XP : T 41 = Y2 := rfl
theorem XQ : T 29 = Y3 := rfl
theorem XR : T 60 = Y4 := rfl
theorem XS : T 64 = Y5 := rfl
theorem XT : T 42 = Y6 := rfl
theorem XU : T 44 = Y7 := rfl
theorem XV : T 68 = Y8 := rfl
theorem XW : T 69 = Y9 := rfl
theorem XX : T 73 = Za := rfl
theorem XY : T 74 = Zb := rfl
theorem XZ : T 45 = Zc := rfl
theorem X0 : T 46 = Zd := rfl
theorem X1 : T 61 = Ze := rfl
theorem X2 : T 62 = Zf := rfl
theorem X3 : T 43 = Zg := rfl
theorem X4 : T 30 = Zh := rfl
theorem X5 : T 28 = Zi := rfl
theorem X6 : T 31 = Zj := rfl
theorem X7 : T 32 = Zk := rfl
theorem X8 : T 26 = Zl := rfl
theorem X9 : T 27 = Zm := rfl
theorem T_7 : T 7 = t_7 := rfl
theorem T_5 : T 5 = t_5 := rfl
theorem T_6 : T 6 = t_6 := rfl
theorem PJ : T 1650 = Ix := rfl
theorem PK : T 1660 = Iy := rfl
def ws : List (Nat × Nat) := [(58, 2), (86, 2), (66, 2), (59, 2), (75, 2), (65, 2), (48, 2), (82, 2), (37, 2), (38, 2), (89, 2), (79, 2), (76, 2), (63, 2), (90, 3), (91, 3), (78, 3), (80, 3), (77, 3), (81, 3), (57, 6), (41, 2), (29, 2), (60, 2), (64, 2), (42, 4), (44, 4), (68, 3), (69, 3), (73, 2), (74, 2), (45, 3), (46, 3), (61, 2), (62, 2), (43, 5), (30, 6), (28, 6), (31, 6), (32, 6), (26, 2), (27, 2), (7, 2), (5, 2), (6, 2), (1650, 5), (1660, 5)]
theorem AH : FF T ws := fun f k h al => by
 have := K6 h
 simp only [ws, List.mem_cons, List.not_mem_nil, or_false, Prod.mk.injEq] at this
 rcases this with ⟨rfl, rfl⟩ | ⟨rfl, rfl⟩ | ⟨rfl, rfl⟩ | ⟨rfl, rfl⟩ | ⟨rfl, rfl⟩ | ⟨rfl, rfl⟩ | ⟨rfl, rfl⟩ | ⟨rfl, rfl⟩ | ⟨rfl, rfl⟩ | ⟨rfl, rfl⟩ | ⟨rfl, rfl⟩ | ⟨rfl, rfl⟩ | ⟨rfl, rfl⟩ | ⟨rfl, rfl⟩ | ⟨rfl, rfl⟩ | ⟨rfl, rfl⟩ | ⟨rfl, rfl⟩ | ⟨rfl, rfl⟩ | ⟨rfl, rfl⟩ | ⟨rfl, rfl⟩ | ⟨rfl, rfl⟩ | ⟨rfl, rfl⟩ | ⟨rfl, rfl⟩ | ⟨rfl, rfl⟩ | ⟨rfl, rfl⟩ | ⟨rfl, rfl⟩ | ⟨rfl, rfl⟩ | ⟨rfl, rfl⟩ | ⟨rfl, rfl⟩ | ⟨rfl, rfl⟩ | ⟨rfl, rfl⟩ | ⟨rfl, rfl⟩ | ⟨rfl, rfl⟩ | ⟨rfl, rfl⟩ | ⟨rfl, rfl⟩ | ⟨rfl, rfl⟩ | ⟨rfl, rfl⟩ | ⟨rfl, rfl⟩ | ⟨rfl, rfl⟩ | ⟨rfl, rfl⟩ | ⟨rfl, rfl⟩ | ⟨rfl, rfl⟩ | ⟨rfl, rfl⟩ | ⟨rfl, rfl⟩ | ⟨rfl, rfl⟩ | ⟨rfl, rfl⟩ | ⟨rfl, rfl⟩
 ·rw [Xt]; exact Nat.le_refl _
 ·rw [Xu]; exact Nat.le_refl _
 ·rw [Xv]; exact Nat.le_refl _
 ·rw [Xw]; exact Nat.le_refl _
 ·rw [Xx]; exact Nat.le_refl _
 ·rw [Xy]; exact Nat.le_refl _
 ·rw [Xz]; exact Nat.le_refl _
 ·rw [XA]; exact Nat.le_refl _
 ·rw [XB]; exact Nat.le_refl _
 ·rw [XC]; exact Nat.le_refl _
 ·rw [XD]; exact Nat.le_refl _
 ·rw [XE]; exact Nat.le_refl _
 ·rw [XF]; exact Nat.le_refl _
 ·rw [XG]; exact Nat.le_refl _
 ·rw [XH]; exact Nat.le_refl _
 ·rw [XI]; exact Nat.le_refl _
 ·rw [XJ]; exact Nat.le_refl _
 ·rw [XK]; exact Nat.le_refl _
 ·rw [XM]; exact Nat.le_refl _
 ·rw [XN]; exact Nat.le_refl _
 ·rw [XO]; exact Nat.le_refl _
 ·rw [XP]; exact Nat.le_refl _
 ·rw [XQ]; exact Nat.le_refl _
 ·rw [XR]; exact Nat.le_refl _
 ·rw [XS]; exact Nat.le_refl _
 ·rw [XT]; exact Nat.le_refl _
 ·rw [XU]; exact Nat.le_refl _
 ·rw [XV]; exact Nat.le_refl _
 ·rw [XW]; exact Nat.le_refl _
 ·rw [XX]; exact Nat.le_refl _
 ·rw [XY]; exact Nat.le_refl _
 ·rw [XZ]; exact Nat.le_refl _
 ·rw [X0]; exact Nat.le_refl _
 ·rw [X1]; exact Nat.le_refl _
 ·rw [X2]; exact Nat.le_refl _
 ·rw [X3]; exact Nat.le_refl _
 ·rw [X4]; exact Nat.le_refl _
 ·rw [X5]; exact Nat.le_refl _
 ·rw [X6]; exact Nat.le_refl _
 ·rw [X7]; exact Nat.le_refl _
 ·rw [X8]; exact Nat.le_refl _
 ·rw [X9]; exact Nat.le_refl _
 ·rw [T_7]; exact Nat.le_refl _
 ·rw [T_5]; exact Nat.le_refl _
 ·rw [T_6]; exact Nat.le_refl _
 ·rw [PJ]; exact Nat.le_refl _
 ·rw [PK]; exact Nat.le_refl _
theorem Nz {a b : Int} {l m : List A} (h : a = b) (k : l = m) : (A.i a :: l) = (A.i b :: m) := by subst h k; rfl
theorem NK {e : Nat → A} {b : Nat} {a0 a1 a2 : L} (h : Def.holds T e ⟨b, .call 58, [a0, a1, a2]⟩) :
  (e b).bool = (true) ∧ (e (b + 1)).int = (Day.AP (a0.ev e).int (a1.ev e).int (a2.ev e).int) := by
 have hp := A8 Xt h
 have ho := fun j a => A9 (a := a) Xt j h
 simp only [YH, gi, gb, gs, gv, ge, List.map_cons, List.map_nil, List.getD_cons_zero, List.getD_cons_succ, L.Ar, A.Ah] at hp ho
 exact ⟨hp, (congrArg A.int (ho 0 _ rfl) :)⟩
theorem He {e : Nat → A} {b : Nat} {a0 a1 : L} (h : Def.holds T e ⟨b, .call 86, [a0, a1]⟩) :
  (e b).bool = (Day.sm (a1.ev e).int) ∧ (e (b + 1)).int = (Day.EP (a0.ev e).int (a1.ev e).int) := by
 have hp := A8 Xu h
 have ho := fun j a => A9 (a := a) Xu j h
 simp only [YI, gi, gb, gs, gv, ge, List.map_cons, List.map_nil, List.getD_cons_zero, List.getD_cons_succ, L.Ar, A.Ah] at hp ho
 exact ⟨hp, (congrArg A.int (ho 0 _ rfl) :)⟩
theorem Lq {e : Nat → A} {b : Nat} {a0 a1 : L} (h : Def.holds T e ⟨b, .call 66, [a0, a1]⟩) :
  (e b).bool = (Day.sm (a1.ev e).int) ∧ (e (b + 1)).int = (Day.EP (a0.ev e).int (a1.ev e).int) := by
 have hp := A8 Xv h
 have ho := fun j a => A9 (a := a) Xv j h
 simp only [YJ, gi, gb, gs, gv, ge, List.map_cons, List.map_nil, List.getD_cons_zero, List.getD_cons_succ, L.Ar, A.Ah] at hp ho
 exact ⟨hp, (congrArg A.int (ho 0 _ rfl) :)⟩
theorem SM {e : Nat → A} {b : Nat} {a0 a1 : L} (h : Def.holds T e ⟨b, .call 59, [a0, a1]⟩) :
  (e b).bool = (Day.BR (a0.ev e).int && Day.i64 (a1.ev e).int) ∧ (e (b + 1)).int = (Day.Ca (a0.ev e).int (a1.ev e).int) := by
 have hp := A8 Xw h
 have ho := fun j a => A9 (a := a) Xw j h
 simp only [YK, gi, gb, gs, gv, ge, List.map_cons, List.map_nil, List.getD_cons_zero, List.getD_cons_succ, L.Ar, A.Ah] at hp ho
 exact ⟨hp, (congrArg A.int (ho 0 _ rfl) :)⟩
theorem F2 {e : Nat → A} {b : Nat} {a0 a1 : L} (h : Def.holds T e ⟨b, .call 75, [a0, a1]⟩) :
  (e b).bool = (Day.A2 (a0.ev e).int (a1.ev e).int) ∧ (e (b + 1)).int = (Day.AF (a0.ev e).int (a1.ev e).int) := by
 have hp := A8 Xx h
 have ho := fun j a => A9 (a := a) Xx j h
 simp only [YL, gi, gb, gs, gv, ge, List.map_cons, List.map_nil, List.getD_cons_zero, List.getD_cons_succ, L.Ar, A.Ah] at hp ho
 exact ⟨hp, (congrArg A.int (ho 0 _ rfl) :)⟩
theorem JX {e : Nat → A} {b : Nat} {a0 a1 : L} (h : Def.holds T e ⟨b, .call 65, [a0, a1]⟩) :
  (e b).bool = (Day.BR (a0.ev e).int && Day.i64 (a1.ev e).int) ∧ (e (b + 1)).int = (Day.Ca (a0.ev e).int (a1.ev e).int) := by
 have hp := A8 Xy h
 have ho := fun j a => A9 (a := a) Xy j h
 simp only [YM, gi, gb, gs, gv, ge, List.map_cons, List.map_nil, List.getD_cons_zero, List.getD_cons_succ, L.Ar, A.Ah] at hp ho
 exact ⟨hp, (congrArg A.int (ho 0 _ rfl) :)⟩
theorem E9 {e : Nat → A} {b : Nat} {a0 a1 : L} (h : Def.holds T e ⟨b, .call 48, [a0, a1]⟩) :
  (e b).bool = (Day.A2 (a0.ev e).int (a1.ev e).int) ∧ (e (b + 1)).int = (Day.AF (a0.ev e).int (a1.ev e).int) := by
 have hp := A8 Xz h
 have ho := fun j a => A9 (a := a) Xz j h
 simp only [YN, gi, gb, gs, gv, ge, List.map_cons, List.map_nil, List.getD_cons_zero, List.getD_cons_succ, L.Ar, A.Ah] at hp ho
 exact ⟨hp, (congrArg A.int (ho 0 _ rfl) :)⟩
theorem NL {e : Nat → A} {b : Nat} {a0 a1 a2 : L} (h : Def.holds T e ⟨b, .call 82, [a0, a1, a2]⟩) :
  (e b).bool = (Day.AT (a0.ev e).int (a1.ev e).int (a2.ev e).int) ∧ (e (b + 1)).int = (Day.AU (a0.ev e).int (a1.ev e).int (a2.ev e).int) := by
 have hp := A8 XA h
 have ho := fun j a => A9 (a := a) XA j h
 simp only [YO, gi, gb, gs, gv, ge, List.map_cons, List.map_nil, List.getD_cons_zero, List.getD_cons_succ, L.Ar, A.Ah] at hp ho
 exact ⟨hp, (congrArg A.int (ho 0 _ rfl) :)⟩
theorem Iz {e : Nat → A} {b : Nat} {a0 : L} (h : Def.holds T e ⟨b, .call 37, [a0]⟩) :
  (e b).bool = (true) ∧ (e (b + 1)).bool = (Day.right (a0.ev e).int) := by
 have hp := A8 XB h
 have ho := fun j a => A9 (a := a) XB j h
 simp only [YP, gi, gb, gs, gv, ge, List.map_cons, List.map_nil, List.getD_cons_zero, List.getD_cons_succ, L.Ar, A.Ah] at hp ho
 exact ⟨hp, (congrArg A.bool (ho 0 _ rfl) :)⟩
theorem Ek {e : Nat → A} {b : Nat} {a0 : L} (h : Def.holds T e ⟨b, .call 38, [a0]⟩) :
  (e b).bool = (true) ∧ (e (b + 1)).bool = (Day.right (a0.ev e).int) := by
 have hp := A8 XC h
 have ho := fun j a => A9 (a := a) XC j h
 simp only [YQ, gi, gb, gs, gv, ge, List.map_cons, List.map_nil, List.getD_cons_zero, List.getD_cons_succ, L.Ar, A.Ah] at hp ho
 exact ⟨hp, (congrArg A.bool (ho 0 _ rfl) :)⟩
theorem JY {e : Nat → A} {b : Nat} {a0 a1 : L} (h : Def.holds T e ⟨b, .call 89, [a0, a1]⟩) :
  (e b).bool = (Day.Iw (a0.ev e).str) ∧ (e (b + 1)).int = (Day.times (Day.NI (a0.ev e).str) (a1.ev e).int) := by
 have hp := A8 XD h
 have ho := fun j a => A9 (a := a) XD j h
 simp only [YR, gi, gb, gs, gv, ge, List.map_cons, List.map_nil, List.getD_cons_zero, List.getD_cons_succ, L.Ar, A.Ah] at hp ho
 exact ⟨hp, (congrArg A.int (ho 0 _ rfl) :)⟩
theorem NM {e : Nat → A} {b : Nat} {a0 a1 : L} (h : Def.holds T e ⟨b, .call 79, [a0, a1]⟩) :
  (e b).bool = (Day.u8 (a1.ev e).int) ∧ (e (b + 1)).int = (Day.times (a1.ev e).int (a0.ev e).int) := by
 have hp := A8 XE h
 have ho := fun j a => A9 (a := a) XE j h
 simp only [YS, gi, gb, gs, gv, ge, List.map_cons, List.map_nil, List.getD_cons_zero, List.getD_cons_succ, L.Ar, A.Ah] at hp ho
 exact ⟨hp, (congrArg A.int (ho 0 _ rfl) :)⟩
theorem PL {e : Nat → A} {b : Nat} {a0 : L} (h : Def.holds T e ⟨b, .call 76, [a0]⟩) :
  (e b).bool = (true) ∧ (e (b + 1)).int = (Day.times 8 (a0.ev e).int) := by
 have hp := A8 XF h
 have ho := fun j a => A9 (a := a) XF j h
 simp only [YT, gi, gb, gs, gv, ge, List.map_cons, List.map_nil, List.getD_cons_zero, List.getD_cons_succ, L.Ar, A.Ah] at hp ho
 exact ⟨hp, (congrArg A.int (ho 0 _ rfl) :)⟩
theorem NN {e : Nat → A} {b : Nat} {a0 : L} (h : Def.holds T e ⟨b, .call 63, [a0]⟩) :
  (e b).bool = (true) ∧ (e (b + 1)).int = (Day.times 8 (a0.ev e).int) := by
 have hp := A8 XG h
 have ho := fun j a => A9 (a := a) XG j h
 simp only [YU, gi, gb, gs, gv, ge, List.map_cons, List.map_nil, List.getD_cons_zero, List.getD_cons_succ, L.Ar, A.Ah] at hp ho
 exact ⟨hp, (congrArg A.int (ho 0 _ rfl) :)⟩
theorem Lr {e : Nat → A} {b : Nat} {a0 a1 a2 : L} (h : Def.holds T e ⟨b, .call 90, [a0, a1, a2]⟩) :
  (e b).bool = (Day.Iw (a0.ev e).str) ∧ (e (b + 1)).int = (Day.Bs (Day.NI (a0.ev e).str) (a1.ev e).int (a2.ev e).int) ∧ (e (b + 2)).int = (Day.Bu (a1.ev e).int (a2.ev e).int) := by
 have hp := A8 XH h
 have ho := fun j a => A9 (a := a) XH j h
 simp only [YV, gi, gb, gs, gv, ge, List.map_cons, List.map_nil, List.getD_cons_zero, List.getD_cons_succ, L.Ar, A.Ah] at hp ho
 exact ⟨hp, (congrArg A.int (ho 0 _ rfl) :), (congrArg A.int (ho 1 _ rfl) :)⟩
theorem Ls {e : Nat → A} {b : Nat} {a0 a1 a2 : L} (h : Def.holds T e ⟨b, .call 91, [a0, a1, a2]⟩) :
  (e b).bool = (Day.u8 (a2.ev e).int) ∧ (e (b + 1)).int = (Day.Bs (a2.ev e).int (a0.ev e).int (a1.ev e).int) ∧ (e (b + 2)).int = (Day.Bu (a0.ev e).int (a1.ev e).int) := by
 have hp := A8 XI h
 have ho := fun j a => A9 (a := a) XI j h
 simp only [YW, gi, gb, gs, gv, ge, List.map_cons, List.map_nil, List.getD_cons_zero, List.getD_cons_succ, L.Ar, A.Ah] at hp ho
 exact ⟨hp, (congrArg A.int (ho 0 _ rfl) :), (congrArg A.int (ho 1 _ rfl) :)⟩
theorem NO {e : Nat → A} {b : Nat} {a0 a1 : L} (h : Def.holds T e ⟨b, .call 78, [a0, a1]⟩) :
  (e b).bool = (true) ∧ (e (b + 1)).int = (Day.Bs 4 (a0.ev e).int (a1.ev e).int) ∧ (e (b + 2)).int = (Day.Bu (a0.ev e).int (a1.ev e).int) := by
 have hp := A8 XJ h
 have ho := fun j a => A9 (a := a) XJ j h
 simp only [YX, gi, gb, gs, gv, ge, List.map_cons, List.map_nil, List.getD_cons_zero, List.getD_cons_succ, L.Ar, A.Ah] at hp ho
 exact ⟨hp, (congrArg A.int (ho 0 _ rfl) :), (congrArg A.int (ho 1 _ rfl) :)⟩
theorem MD {e : Nat → A} {b : Nat} {a0 a1 : L} (h : Def.holds T e ⟨b, .call 80, [a0, a1]⟩) :
  (e b).bool = (true) ∧ (e (b + 1)).int = (Day.Bs 4 (a0.ev e).int (a1.ev e).int) ∧ (e (b + 2)).int = (Day.Bu (a0.ev e).int (a1.ev e).int) := by
 have hp := A8 XK h
 have ho := fun j a => A9 (a := a) XK j h
 simp only [YY, gi, gb, gs, gv, ge, List.map_cons, List.map_nil, List.getD_cons_zero, List.getD_cons_succ, L.Ar, A.Ah] at hp ho
 exact ⟨hp, (congrArg A.int (ho 0 _ rfl) :), (congrArg A.int (ho 1 _ rfl) :)⟩
theorem QM {e : Nat → A} {b : Nat} {a0 a1 : L} (h : Def.holds T e ⟨b, .call 77, [a0, a1]⟩) :
  (e b).bool = (true) ∧ (e (b + 1)).int = (Day.Bs 2 (a0.ev e).int (a1.ev e).int) ∧ (e (b + 2)).int = (Day.Bu (a0.ev e).int (a1.ev e).int) := by
 have hp := A8 XM h
 have ho := fun j a => A9 (a := a) XM j h
 simp only [YZ, gi, gb, gs, gv, ge, List.map_cons, List.map_nil, List.getD_cons_zero, List.getD_cons_succ, L.Ar, A.Ah] at hp ho
 exact ⟨hp, (congrArg A.int (ho 0 _ rfl) :), (congrArg A.int (ho 1 _ rfl) :)⟩
theorem PM {e : Nat → A} {b : Nat} {a0 a1 : L} (h : Def.holds T e ⟨b, .call 81, [a0, a1]⟩) :
  (e b).bool = (true) ∧ (e (b + 1)).int = (Day.Bs 2 (a0.ev e).int (a1.ev e).int) ∧ (e (b + 2)).int = (Day.Bu (a0.ev e).int (a1.ev e).int) := by
 have hp := A8 XN h
 have ho := fun j a => A9 (a := a) XN j h
 simp only [Y0, gi, gb, gs, gv, ge, List.map_cons, List.map_nil, List.getD_cons_zero, List.getD_cons_succ, L.Ar, A.Ah] at hp ho
 exact ⟨hp, (congrArg A.int (ho 0 _ rfl) :), (congrArg A.int (ho 1 _ rfl) :)⟩
theorem PN {e : Nat → A} {b : Nat} {a0 a1 : L} (h : Def.holds T e ⟨b, .call 57, [a0, a1]⟩) :
  ∀ r0, r0 = Day.AV (a0.ev e).int (a1.ev e).int → (e b).bool = (true) ∧ (e (b + 1)).int = (((r0)).id) ∧ (e (b + 2)).int = (((r0)).mode) ∧ (e (b + 3)).int = (((r0)).count) ∧ (e (b + 4)).int = (((r0)).pos) ∧ (e (b + 5)).int = (Day.GC (a0.ev e).int (a1.ev e).int) := by
 intro r0 hr0
 subst hr0
 have hp := A8 XO h
 have ho := fun j a => A9 (a := a) XO j h
 simp only [Y1, gi, gb, gs, gv, ge, List.map_cons, List.map_nil, List.getD_cons_zero, List.getD_cons_succ, L.Ar, A.Ah] at hp ho
 exact ⟨hp, (congrArg A.int (ho 0 _ rfl) :), (congrArg A.int (ho 1 _ rfl) :), (congrArg A.int (ho 2 _ rfl) :), (congrArg A.int (ho 3 _ rfl) :), (congrArg A.int (ho 4 _ rfl) :)⟩
theorem Dy {e : Nat → A} {b : Nat} {a0 a1 a2 a3 a4 : L} (h : Def.holds T e ⟨b, .call 41, [a0, a1, a2, a3, a4]⟩) :
  ∀ z0, z0 = (Day.ND.mk (a1.ev e).int (a2.ev e).int (a3.ev e).int (a4.ev e).int) → (e b).bool = (Day.ND.i64 z0) ∧ (e (b + 1)).bool = (Day.Ap (a0.ev e).int z0) := by
 intro z0 hz0
 subst hz0
 have hp := A8 XP h
 have ho := fun j a => A9 (a := a) XP j h
 simp only [Y2, gi, gb, gs, gv, ge, List.map_cons, List.map_nil, List.getD_cons_zero, List.getD_cons_succ, L.Ar, A.Ah] at hp ho
 exact ⟨hp, (congrArg A.bool (ho 0 _ rfl) :)⟩
theorem BC {e : Nat → A} {b : Nat} {a0 a1 a2 a3 a4 : L} (h : Def.holds T e ⟨b, .call 29, [a0, a1, a2, a3, a4]⟩) :
  ∀ z0, z0 = (Day.ND.mk (a1.ev e).int (a2.ev e).int (a3.ev e).int (a4.ev e).int) → (e b).bool = (Day.ND.i64 z0) ∧ (e (b + 1)).bool = (Day.Ap (a0.ev e).int z0) := by
 intro z0 hz0
 subst hz0
 have hp := A8 XQ h
 have ho := fun j a => A9 (a := a) XQ j h
 simp only [Y3, gi, gb, gs, gv, ge, List.map_cons, List.map_nil, List.getD_cons_zero, List.getD_cons_succ, L.Ar, A.Ah] at hp ho
 exact ⟨hp, (congrArg A.bool (ho 0 _ rfl) :)⟩
theorem SN {e : Nat → A} {b : Nat} {a0 a1 a2 a3 a4 : L} (h : Def.holds T e ⟨b, .call 60, [a0, a1, a2, a3, a4]⟩) :
  ∀ z0, z0 = (Day.ND.mk (a1.ev e).int (a2.ev e).int (a3.ev e).int (a4.ev e).int) → (e b).bool = (true) ∧ (e (b + 1)).int = (Day.Bk (a0.ev e).int z0) := by
 intro z0 hz0
 subst hz0
 have hp := A8 XR h
 have ho := fun j a => A9 (a := a) XR j h
 simp only [Y4, gi, gb, gs, gv, ge, List.map_cons, List.map_nil, List.getD_cons_zero, List.getD_cons_succ, L.Ar, A.Ah] at hp ho
 exact ⟨hp, (congrArg A.int (ho 0 _ rfl) :)⟩
theorem QN {e : Nat → A} {b : Nat} {a0 a1 a2 a3 a4 : L} (h : Def.holds T e ⟨b, .call 64, [a0, a1, a2, a3, a4]⟩) :
  ∀ z0, z0 = (Day.ND.mk (a1.ev e).int (a2.ev e).int (a3.ev e).int (a4.ev e).int) → (e b).bool = (Day.ND.i64 z0) ∧ (e (b + 1)).int = (Day.Co (a0.ev e).int z0) := by
 intro z0 hz0
 subst hz0
 have hp := A8 XS h
 have ho := fun j a => A9 (a := a) XS j h
 simp only [Y5, gi, gb, gs, gv, ge, List.map_cons, List.map_nil, List.getD_cons_zero, List.getD_cons_succ, L.Ar, A.Ah] at hp ho
 exact ⟨hp, (congrArg A.int (ho 0 _ rfl) :)⟩
theorem KB {e : Nat → A} {b : Nat} {a0 a1 a2 a3 a4 : L} (h : Def.holds T e ⟨b, .call 42, [a0, a1, a2, a3, a4]⟩) :
  ∀ z0, z0 = (Day.ND.mk (a1.ev e).int (a2.ev e).int (a3.ev e).int (a4.ev e).int) → (e b).bool = (Day.ND.i64 z0) ∧ (e (b + 1)).int = (((Day.EC (a0.ev e).int z0)).kind) ∧ (e (b + 2)).int = (((Day.EC (a0.ev e).int z0)).id) ∧ (e (b + 3)).int = (Day.GD (a0.ev e).int z0) := by
 intro z0 hz0
 subst hz0
 have hp := A8 XT h
 have ho := fun j a => A9 (a := a) XT j h
 simp only [Y6, gi, gb, gs, gv, ge, List.map_cons, List.map_nil, List.getD_cons_zero, List.getD_cons_succ, L.Ar, A.Ah] at hp ho
 exact ⟨hp, (congrArg A.int (ho 0 _ rfl) :), (congrArg A.int (ho 1 _ rfl) :), (congrArg A.int (ho 2 _ rfl) :)⟩
theorem SO {e : Nat → A} {b : Nat} {a0 a1 a2 a3 a4 : L} (h : Def.holds T e ⟨b, .call 44, [a0, a1, a2, a3, a4]⟩) :
  ∀ z0, z0 = (Day.ND.mk (a1.ev e).int (a2.ev e).int (a3.ev e).int (a4.ev e).int) → (e b).bool = (Day.ND.i64 z0) ∧ (e (b + 1)).int = (((Day.EC (a0.ev e).int z0)).kind) ∧ (e (b + 2)).int = (((Day.EC (a0.ev e).int z0)).id) ∧ (e (b + 3)).int = (Day.GD (a0.ev e).int z0) := by
 intro z0 hz0
 subst hz0
 have hp := A8 XU h
 have ho := fun j a => A9 (a := a) XU j h
 simp only [Y7, gi, gb, gs, gv, ge, List.map_cons, List.map_nil, List.getD_cons_zero, List.getD_cons_succ, L.Ar, A.Ah] at hp ho
 exact ⟨hp, (congrArg A.int (ho 0 _ rfl) :), (congrArg A.int (ho 1 _ rfl) :), (congrArg A.int (ho 2 _ rfl) :)⟩
theorem JZ {e : Nat → A} {b : Nat} {a0 a1 a2 a3 : L} (h : Def.holds T e ⟨b, .call 68, [a0, a1, a2, a3]⟩) :
  (e b).bool = (true) ∧ (e (b + 1)).int = (Day.CE (Day.Fr.mk (a0.ev e).int (a1.ev e).int) (Day.Fr.mk (a2.ev e).int (a3.ev e).int)) ∧ (e (b + 2)).bool = (Day.Ce (Day.Fr.mk (a0.ev e).int (a1.ev e).int) (Day.Fr.mk (a2.ev e).int (a3.ev e).int)) := by
 have hp := A8 XV h
 have ho := fun j a => A9 (a := a) XV j h
 simp only [Y8, gi, gb, gs, gv, ge, List.map_cons, List.map_nil, List.getD_cons_zero, List.getD_cons_succ, L.Ar, A.Ah] at hp ho
 exact ⟨hp, (congrArg A.int (ho 0 _ rfl) :), (congrArg A.bool (ho 1 _ rfl) :)⟩
theorem Fa {e : Nat → A} {b : Nat} {a0 a1 a2 a3 a4 : L} (h : Def.holds T e ⟨b, .call 69, [a0, a1, a2, a3, a4]⟩) :
  (e b).bool = (true) ∧ (e (b + 1)).int = (Day.BT (Day.Fr.mk (a0.ev e).int (a1.ev e).int) (Day.Fr.mk (a2.ev e).int (a3.ev e).int) (a4.ev e).int) ∧ (e (b + 2)).bool = (Day.Bl (Day.Fr.mk (a0.ev e).int (a1.ev e).int) (Day.Fr.mk (a2.ev e).int (a3.ev e).int) (a4.ev e).int) := by
 have hp := A8 XW h
 have ho := fun j a => A9 (a := a) XW j h
 simp only [Y9, gi, gb, gs, gv, ge, List.map_cons, List.map_nil, List.getD_cons_zero, List.getD_cons_succ, L.Ar, A.Ah] at hp ho
 exact ⟨hp, (congrArg A.int (ho 0 _ rfl) :), (congrArg A.bool (ho 1 _ rfl) :)⟩
theorem PO {e : Nat → A} {b : Nat} {a0 a1 a2 a3 a4 : L} (h : Def.holds T e ⟨b, .call 73, [a0, a1, a2, a3, a4]⟩) :
  (e b).bool = (true) ∧ (e (b + 1)).bool = (Day.BU (Day.Fr.mk (a0.ev e).int (a1.ev e).int) (Day.Fr.mk (a2.ev e).int (a3.ev e).int) (a4.ev e).int) := by
 have hp := A8 XX h
 have ho := fun j a => A9 (a := a) XX j h
 simp only [Za, gi, gb, gs, gv, ge, List.map_cons, List.map_nil, List.getD_cons_zero, List.getD_cons_succ, L.Ar, A.Ah] at hp ho
 exact ⟨hp, (congrArg A.bool (ho 0 _ rfl) :)⟩
theorem PQ {e : Nat → A} {b : Nat} {a0 a1 a2 a3 a4 : L} (h : Def.holds T e ⟨b, .call 74, [a0, a1, a2, a3, a4]⟩) :
  (e b).bool = (true) ∧ (e (b + 1)).bool = (Day.Cc (Day.Fr.mk (a0.ev e).int (a1.ev e).int) (Day.Fr.mk (a2.ev e).int (a3.ev e).int) (a4.ev e).int) := by
 have hp := A8 XY h
 have ho := fun j a => A9 (a := a) XY j h
 simp only [Zb, gi, gb, gs, gv, ge, List.map_cons, List.map_nil, List.getD_cons_zero, List.getD_cons_succ, L.Ar, A.Ah] at hp ho
 exact ⟨hp, (congrArg A.bool (ho 0 _ rfl) :)⟩
theorem PR {e : Nat → A} {b : Nat} {a0 a1 a2 a3 : L} (h : Def.holds T e ⟨b, .call 45, [a0, a1, a2, a3]⟩) :
  (e b).bool = (true) ∧ (e (b + 1)).int = (Day.CE (Day.Fr.mk (a0.ev e).int (a1.ev e).int) (Day.Fr.mk (a2.ev e).int (a3.ev e).int)) ∧ (e (b + 2)).bool = (Day.Ce (Day.Fr.mk (a0.ev e).int (a1.ev e).int) (Day.Fr.mk (a2.ev e).int (a3.ev e).int)) := by
 have hp := A8 XZ h
 have ho := fun j a => A9 (a := a) XZ j h
 simp only [Zc, gi, gb, gs, gv, ge, List.map_cons, List.map_nil, List.getD_cons_zero, List.getD_cons_succ, L.Ar, A.Ah] at hp ho
 exact ⟨hp, (congrArg A.int (ho 0 _ rfl) :), (congrArg A.bool (ho 1 _ rfl) :)⟩
theorem HF {e : Nat → A} {b : Nat} {a0 a1 a2 a3 a4 : L} (h : Def.holds T e ⟨b, .call 46, [a0, a1, a2, a3, a4]⟩) :
  (e b).bool = (true) ∧ (e (b + 1)).int = (Day.BT (Day.Fr.mk (a0.ev e).int (a1.ev e).int) (Day.Fr.mk (a2.ev e).int (a3.ev e).int) (a4.ev e).int) ∧ (e (b + 2)).bool = (Day.Bl (Day.Fr.mk (a0.ev e).int (a1.ev e).int) (Day.Fr.mk (a2.ev e).int (a3.ev e).int) (a4.ev e).int) := by
 have hp := A8 X0 h
 have ho := fun j a => A9 (a := a) X0 j h
 simp only [Zd, gi, gb, gs, gv, ge, List.map_cons, List.map_nil, List.getD_cons_zero, List.getD_cons_succ, L.Ar, A.Ah] at hp ho
 exact ⟨hp, (congrArg A.int (ho 0 _ rfl) :), (congrArg A.bool (ho 1 _ rfl) :)⟩
theorem NP {e : Nat → A} {b : Nat} {a0 a1 a2 a3 a4 : L} (h : Def.holds T e ⟨b, .call 61, [a0, a1, a2, a3, a4]⟩) :
  (e b).bool = (true) ∧ (e (b + 1)).bool = (Day.BU (Day.Fr.mk (a0.ev e).int (a1.ev e).int) (Day.Fr.mk (a2.ev e).int (a3.ev e).int) (a4.ev e).int) := by
 have hp := A8 X1 h
 have ho := fun j a => A9 (a := a) X1 j h
 simp only [Ze, gi, gb, gs, gv, ge, List.map_cons, List.map_nil, List.getD_cons_zero, List.getD_cons_succ, L.Ar, A.Ah] at hp ho
 exact ⟨hp, (congrArg A.bool (ho 0 _ rfl) :)⟩
theorem NQ {e : Nat → A} {b : Nat} {a0 a1 a2 a3 a4 : L} (h : Def.holds T e ⟨b, .call 62, [a0, a1, a2, a3, a4]⟩) :
  (e b).bool = (true) ∧ (e (b + 1)).bool = (Day.Cc (Day.Fr.mk (a0.ev e).int (a1.ev e).int) (Day.Fr.mk (a2.ev e).int (a3.ev e).int) (a4.ev e).int) := by
 have hp := A8 X2 h
 have ho := fun j a => A9 (a := a) X2 j h
 simp only [Zf, gi, gb, gs, gv, ge, List.map_cons, List.map_nil, List.getD_cons_zero, List.getD_cons_succ, L.Ar, A.Ah] at hp ho
 exact ⟨hp, (congrArg A.bool (ho 0 _ rfl) :)⟩
theorem ME {e : Nat → A} {b : Nat} {a0 a1 a2 a3 a4 a5 a6 a7 a8 : L} (h : Def.holds T e ⟨b, .call 43, [a0, a1, a2, a3, a4, a5, a6, a7, a8]⟩) :
  ∀ z0, z0 = (Day.ND.mk (a1.ev e).int (a2.ev e).int (a3.ev e).int (a4.ev e).int) → ∀ r1, r1 = Day.C2 (a0.ev e).int z0 (Day.Fr.mk (a5.ev e).int (a6.ev e).int) (Day.Fr.mk (a7.ev e).int (a8.ev e).int) → (e b).bool = (Day.Ap (a0.ev e).int z0 && Day.AE (a0.ev e).int (Day.Fr.mk (a5.ev e).int (a6.ev e).int) (Day.Fr.mk (a7.ev e).int (a8.ev e).int)) ∧ (e (b + 1)).int = (((r1)).id) ∧ (e (b + 2)).int = (((r1)).mode) ∧ (e (b + 3)).int = (((r1)).count) ∧ (e (b + 4)).int = (((r1)).pos) := by
 intro z0 hz0 r1 hr1
 subst hz0 hr1
 have hp := A8 X3 h
 have ho := fun j a => A9 (a := a) X3 j h
 simp only [Zg, gi, gb, gs, gv, ge, List.map_cons, List.map_nil, List.getD_cons_zero, List.getD_cons_succ, L.Ar, A.Ah] at hp ho
 exact ⟨hp, (congrArg A.int (ho 0 _ rfl) :), (congrArg A.int (ho 1 _ rfl) :), (congrArg A.int (ho 2 _ rfl) :), (congrArg A.int (ho 3 _ rfl) :)⟩
theorem Fb {e : Nat → A} {b : Nat} {a0 a1 a2 a3 a4 a5 a6 a7 a8 : L} (h : Def.holds T e ⟨b, .call 30, [a0, a1, a2, a3, a4, a5, a6, a7, a8]⟩) :
  ∀ z0, z0 = (Day.ND.mk (a1.ev e).int (a2.ev e).int (a3.ev e).int (a4.ev e).int) → ∀ r1, r1 = Day.AI (a0.ev e).int z0 (Day.Fr.mk (a5.ev e).int (a6.ev e).int) (Day.Fr.mk (a7.ev e).int (a8.ev e).int) → (e b).bool = (Day.ND.i64 z0 && Day.AE (a0.ev e).int (Day.Fr.mk (a5.ev e).int (a6.ev e).int) (Day.Fr.mk (a7.ev e).int (a8.ev e).int)) ∧ (e (b + 1)).int = (((r1)).id) ∧ (e (b + 2)).int = (((r1)).mode) ∧ (e (b + 3)).int = (((r1)).count) ∧ (e (b + 4)).int = (((r1)).pos) ∧ (e (b + 5)).int = (Day.Bm (a0.ev e).int z0) := by
 intro z0 hz0 r1 hr1
 subst hz0 hr1
 have hp := A8 X4 h
 have ho := fun j a => A9 (a := a) X4 j h
 simp only [Zh, gi, gb, gs, gv, ge, List.map_cons, List.map_nil, List.getD_cons_zero, List.getD_cons_succ, L.Ar, A.Ah] at hp ho
 exact ⟨hp, (congrArg A.int (ho 0 _ rfl) :), (congrArg A.int (ho 1 _ rfl) :), (congrArg A.int (ho 2 _ rfl) :), (congrArg A.int (ho 3 _ rfl) :), (congrArg A.int (ho 4 _ rfl) :)⟩
theorem Bv {e : Nat → A} {b : Nat} {a0 a1 a2 a3 a4 a5 a6 a7 a8 : L} (h : Def.holds T e ⟨b, .call 28, [a0, a1, a2, a3, a4, a5, a6, a7, a8]⟩) :
  ∀ z0, z0 = (Day.ND.mk (a1.ev e).int (a2.ev e).int (a3.ev e).int (a4.ev e).int) → ∀ r1, r1 = Day.AI (a0.ev e).int z0 (Day.Fr.mk (a5.ev e).int (a6.ev e).int) (Day.Fr.mk (a7.ev e).int (a8.ev e).int) → (e b).bool = (Day.ND.i64 z0 && Day.AE (a0.ev e).int (Day.Fr.mk (a5.ev e).int (a6.ev e).int) (Day.Fr.mk (a7.ev e).int (a8.ev e).int)) ∧ (e (b + 1)).int = (((r1)).id) ∧ (e (b + 2)).int = (((r1)).mode) ∧ (e (b + 3)).int = (((r1)).count) ∧ (e (b + 4)).int = (((r1)).pos) ∧ (e (b + 5)).int = (Day.Bm (a0.ev e).int z0) := by
 intro z0 hz0 r1 hr1
 subst hz0 hr1
 have hp := A8 X5 h
 have ho := fun j a => A9 (a := a) X5 j h
 simp only [Zi, gi, gb, gs, gv, ge, List.map_cons, List.map_nil, List.getD_cons_zero, List.getD_cons_succ, L.Ar, A.Ah] at hp ho
 exact ⟨hp, (congrArg A.int (ho 0 _ rfl) :), (congrArg A.int (ho 1 _ rfl) :), (congrArg A.int (ho 2 _ rfl) :), (congrArg A.int (ho 3 _ rfl) :), (congrArg A.int (ho 4 _ rfl) :)⟩
theorem QO {e : Nat → A} {b : Nat} {a0 a1 a2 a3 a4 a5 : L} (h : Def.holds T e ⟨b, .call 31, [a0, a1, a2, a3, a4, a5]⟩) :
  ∀ z0, z0 = (Day.ND.mk (a1.ev e).int (a2.ev e).int (a3.ev e).int (a4.ev e).int) → ∀ r1, r1 = Day.CF (a0.ev e).int z0 (a5.ev e).int → (e b).bool = (Day.ND.i64 z0) ∧ (e (b + 1)).int = (((r1)).id) ∧ (e (b + 2)).int = (((r1)).mode) ∧ (e (b + 3)).int = (((r1)).count) ∧ (e (b + 4)).int = (((r1)).pos) ∧ (e (b + 5)).int = (Day.Cp (a0.ev e).int z0 (a5.ev e).int) := by
 intro z0 hz0 r1 hr1
 subst hz0 hr1
 have hp := A8 X6 h
 have ho := fun j a => A9 (a := a) X6 j h
 simp only [Zj, gi, gb, gs, gv, ge, List.map_cons, List.map_nil, List.getD_cons_zero, List.getD_cons_succ, L.Ar, A.Ah] at hp ho
 exact ⟨hp, (congrArg A.int (ho 0 _ rfl) :), (congrArg A.int (ho 1 _ rfl) :), (congrArg A.int (ho 2 _ rfl) :), (congrArg A.int (ho 3 _ rfl) :), (congrArg A.int (ho 4 _ rfl) :)⟩
theorem NR {e : Nat → A} {b : Nat} {a0 a1 a2 a3 a4 a5 : L} (h : Def.holds T e ⟨b, .call 32, [a0, a1, a2, a3, a4, a5]⟩) :
  ∀ z0, z0 = (Day.ND.mk (a1.ev e).int (a2.ev e).int (a3.ev e).int (a4.ev e).int) → ∀ r1, r1 = Day.CF (a0.ev e).int z0 (a5.ev e).int → (e b).bool = (Day.ND.i64 z0) ∧ (e (b + 1)).int = (((r1)).id) ∧ (e (b + 2)).int = (((r1)).mode) ∧ (e (b + 3)).int = (((r1)).count) ∧ (e (b + 4)).int = (((r1)).pos) ∧ (e (b + 5)).int = (Day.Cp (a0.ev e).int z0 (a5.ev e).int) := by
 intro z0 hz0 r1 hr1
 subst hz0 hr1
 have hp := A8 X7 h
 have ho := fun j a => A9 (a := a) X7 j h
 simp only [Zk, gi, gb, gs, gv, ge, List.map_cons, List.map_nil, List.getD_cons_zero, List.getD_cons_succ, L.Ar, A.Ah] at hp ho
 exact ⟨hp, (congrArg A.int (ho 0 _ rfl) :), (congrArg A.int (ho 1 _ rfl) :), (congrArg A.int (ho 2 _ rfl) :), (congrArg A.int (ho 3 _ rfl) :), (congrArg A.int (ho 4 _ rfl) :)⟩
theorem HG {e : Nat → A} {b : Nat} {a0 a1 a2 a3 a4 : L} (h : Def.holds T e ⟨b, .call 26, [a0, a1, a2, a3, a4]⟩) :
  (e b).bool = (true) ∧ (e (b + 1)).bool = (Day.AE (a0.ev e).int (Day.Fr.mk (a1.ev e).int (a2.ev e).int) (Day.Fr.mk (a3.ev e).int (a4.ev e).int)) := by
 have hp := A8 X8 h
 have ho := fun j a => A9 (a := a) X8 j h
 simp only [Zl, gi, gb, gs, gv, ge, List.map_cons, List.map_nil, List.getD_cons_zero, List.getD_cons_succ, L.Ar, A.Ah] at hp ho
 exact ⟨hp, (congrArg A.bool (ho 0 _ rfl) :)⟩
theorem Bn {e : Nat → A} {b : Nat} (h : Def.holds T e ⟨b, .call 27, []⟩) :
  (e b).bool = (true) ∧ (e (b + 1)).bool = (true) := by
 have hp := A8 X9 h
 have ho := fun j a => A9 (a := a) X9 j h
 simp only [Zm, gi, gb, gs, gv, ge, List.map_cons, List.map_nil, List.getD_cons_zero, List.getD_cons_succ, L.Ar, A.Ah] at hp ho
 exact ⟨hp, (congrArg A.bool (ho 0 _ rfl) :)⟩
theorem V9 {e : Nat → A} {b : Nat} {a0 a1 a2 a3 a4 a5 a6 a7 a8 a9 a10 a11 a12 a13 a14 a15 a16 a17 a18 : L} (h : Def.holds T e ⟨b, .call 1650, [a0, a1, a2, a3, a4, a5, a6, a7, a8, a9, a10, a11, a12, a13, a14, a15, a16, a17, a18]⟩) :
  ∀ z0, z0 = (Day.ND.mk (a15.ev e).int (a16.ev e).int (a17.ev e).int (a18.ev e).int) → ∀ r1, r1 = Day.DI (a0.ev e).int ((a5.ev e).int - (a14.ev e).int).toNat z0 → (e b).bool = (Day.qI (a0.ev e).int z0 && Day.qT (a5.ev e).int (a14.ev e).int) ∧ (e (b + 1)).int = (((r1)).id) ∧ (e (b + 2)).int = (((r1)).mode) ∧ (e (b + 3)).int = (((r1)).count) ∧ (e (b + 4)).int = (((r1)).pos) := by
 intro z0 hz0 r1 hr1
 subst hz0 hr1
 have hp := A8 PJ h
 have ho := fun j a => A9 (a := a) PJ j h
 simp only [Ix, gi, gb, gs, gv, ge, List.map_cons, List.map_nil, List.getD_cons_zero, List.getD_cons_succ, L.Ar, A.Ah] at hp ho
 exact ⟨hp, (congrArg A.int (ho 0 _ rfl) :), (congrArg A.int (ho 1 _ rfl) :), (congrArg A.int (ho 2 _ rfl) :), (congrArg A.int (ho 3 _ rfl) :)⟩
theorem Wc {e : Nat → A} {b : Nat} {a0 a1 a2 a3 a4 a5 a6 a7 a8 a9 a10 a11 a12 a13 a14 a15 a16 a17 a18 : L} (h : Def.holds T e ⟨b, .call 1660, [a0, a1, a2, a3, a4, a5, a6, a7, a8, a9, a10, a11, a12, a13, a14, a15, a16, a17, a18]⟩) :
  ∀ z0, z0 = (Day.ND.mk (a15.ev e).int (a16.ev e).int (a17.ev e).int (a18.ev e).int) → ∀ r1, r1 = Day.DI (a0.ev e).int ((a5.ev e).int - (a7.ev e).int).toNat z0 → (e b).bool = (Day.qI (a0.ev e).int z0 && Day.qT (a5.ev e).int (a7.ev e).int) ∧ (e (b + 1)).int = (((r1)).id) ∧ (e (b + 2)).int = (((r1)).mode) ∧ (e (b + 3)).int = (((r1)).count) ∧ (e (b + 4)).int = (((r1)).pos) := by
 intro z0 hz0 r1 hr1
 subst hz0 hr1
 have hp := A8 PK h
 have ho := fun j a => A9 (a := a) PK j h
 simp only [Iy, gi, gb, gs, gv, ge, List.map_cons, List.map_nil, List.getD_cons_zero, List.getD_cons_succ, L.Ar, A.Ah] at hp ho
 exact ⟨hp, (congrArg A.int (ho 0 _ rfl) :), (congrArg A.int (ho 1 _ rfl) :), (congrArg A.int (ho 2 _ rfl) :), (congrArg A.int (ho 3 _ rfl) :)⟩
end Rx.S
