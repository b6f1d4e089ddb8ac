import Derived.Test.YtngghkhjejkelaaWXc
import Derived.Test.YtngghkhjejkelaaWXd
set_option linter.unusedVariables false
set_option linter.unusedSimpArgs false
namespace Rx.S
open Go Rx
set_option maxRecDepth 100000
def UD (al : List A) : Bool × List A := (true, [.i (Day.Bw (gi al 0) (gi al 1) (gi al 2))])
def UE (al : List A) : Bool × List A := (Day.sm (gi al 1), [.i (Day.Kp (gi al 0) (gi al 1))])
def UF (al : List A) : Bool × List A := (Day.Ef (gi al 0) && Day.i64 (gi al 1), [.i (Day.Fw (gi al 0) (gi al 1))])
def UG (al : List A) : Bool × List A := (Day.BN (gi al 0) (gi al 1), [.i (Day.A8 (gi al 0) (gi al 1))])
def UH (al : List A) : Bool × List A := (true, [.b (Day.right (gi al 0))])
def UI (al : List A) : Bool × List A := (Day.G1 (gs al 0), [.i (Day.times (Day.K8 (gs al 0)) (gi al 1))])
def UJ (al : List A) : Bool × List A := (true, [.i (Day.times 8 (gi al 0))])
def UK (al : List A) : Bool × List A := (Day.G1 (gs al 0), [.i (Day.C7 (Day.K8 (gs al 0)) (gi al 1) (gi al 2)), .i (Day.Dt (gi al 1) (gi al 2))])
def UL (al : List A) : Bool × List A := (true, [.i (Day.C7 4 (gi al 0) (gi al 1)), .i (Day.Dt (gi al 0) (gi al 1))])
def UM (al : List A) : Bool × List A := (true, [.i (Day.C7 2 (gi al 0) (gi al 1)), .i (Day.Dt (gi al 0) (gi al 1))])
def UN (al : List A) : Bool × List A := let r0 := Day.BK (gi al 0) (gi al 1); (true, [.i (((r0)).id), .i (((r0)).mode), .i (((r0)).count), .i (((r0)).pos), .i (Day.Nj (gi al 0) (gi al 1))])
def UO (al : List A) : Bool × List A := (Day.ND.i64 (Day.ND.mk (gi al 1) (gi al 2) (gi al 3) (gi al 4)), [.b (Day.AE (gi al 0) (Day.ND.mk (gi al 1) (gi al 2) (gi al 3) (gi al 4)))])
def UP (al : List A) : Bool × List A := (true, [.i (Day.CO (gi al 0) (Day.ND.mk (gi al 1) (gi al 2) (gi al 3) (gi al 4)))])
def UQ (al : List A) : Bool × List A := (Day.ND.i64 (Day.ND.mk (gi al 1) (gi al 2) (gi al 3) (gi al 4)), [.i (((Day.LH (gi al 0) (Day.ND.mk (gi al 1) (gi al 2) (gi al 3) (gi al 4)))).kind), .i (((Day.LH (gi al 0) (Day.ND.mk (gi al 1) (gi al 2) (gi al 3) (gi al 4)))).id), .i (Day.Pk (gi al 0) (Day.ND.mk (gi al 1) (gi al 2) (gi al 3) (gi al 4)))])
def UR (al : List A) : Bool × List A := (true, [.i (Day.Fx (Day.Fr.mk (gi al 0) (gi al 1)) (Day.Fr.mk (gi al 2) (gi al 3))), .b (Day.EH (Day.Fr.mk (gi al 0) (gi al 1)) (Day.Fr.mk (gi al 2) (gi al 3)))])
def US (al : List A) : Bool × List A := (true, [.i (Day.C8 (Day.Fr.mk (gi al 0) (gi al 1)) (Day.Fr.mk (gi al 2) (gi al 3)) (gi al 4)), .b (Day.BV (Day.Fr.mk (gi al 0) (gi al 1)) (Day.Fr.mk (gi al 2) (gi al 3)) (gi al 4))])
def UT (al : List A) : Bool × List A := (true, [.b (Day.E0 (Day.Fr.mk (gi al 0) (gi al 1)) (Day.Fr.mk (gi al 2) (gi al 3)) (gi al 4))])
def UU (al : List A) : Bool × List A := (true, [.b (Day.E1 (Day.Fr.mk (gi al 0) (gi al 1)) (Day.Fr.mk (gi al 2) (gi al 3)) (gi al 4))])
def UW (al : List A) : Bool × List A := let r0 := Day.AZ (gi al 0) (Day.ND.mk (gi al 1) (gi al 2) (gi al 3) (gi al 4)) (Day.Fr.mk (gi al 5) (gi al 6)) (Day.Fr.mk (gi al 7) (gi al 8)); (Day.ND.i64 (Day.ND.mk (gi al 1) (gi al 2) (gi al 3) (gi al 4)) && Day.A4 (gi al 0) (Day.Fr.mk (gi al 5) (gi al 6)) (Day.Fr.mk (gi al 7) (gi al 8)), [.i (((r0)).id), .i (((r0)).mode), .i (((r0)).count), .i (((r0)).pos), .i (Day.B7 (gi al 0) (Day.ND.mk (gi al 1) (gi al 2) (gi al 3) (gi al 4)))])
def UX (al : List A) : Bool × List A := let r0 := Day.B3 (gi al 0) (Day.ND.mk (gi al 1) (gi al 2) (gi al 3) (gi al 4)) (gi al 5); (Day.ND.i64 (Day.ND.mk (gi al 1) (gi al 2) (gi al 3) (gi al 4)), [.i (((r0)).id), .i (((r0)).mode), .i (((r0)).count), .i (((r0)).pos), .i (Day.Cr (gi al 0) (Day.ND.mk (gi al 1) (gi al 2) (gi al 3) (gi al 4)) (gi al 5))])
def UY (al : List A) : Bool × List A := (true, [.b (true)])
def Wd (al : List A) : Bool × List A := (Day.u8 (gi al 0) && (Day.u8 (gi al 1) && (Day.u8 (gi al 2) && Day.u16 (gi al 3))), [.b (true)])
def G2 (al : List A) : Bool × List A := let r0 := Day.Cq (gi al 0) ((gi al 5) - (gi al 14)).toNat (Day.ND.mk (gi al 15) (gi al 16) (gi al 17) (gi al 18)); (Day.qI (gi al 0) (Day.ND.mk (gi al 15) (gi al 16) (gi al 17) (gi al 18)) && Day.qT (gi al 5) (gi al 14), [.i (((r0)).id), .i (((r0)).mode), .i (((r0)).count), .i (((r0)).pos)])
def table : List (Nat × (List A → Bool × List A)) := [(58, UD), (86, UE), (59, UF), (75, UG), (37, UH), (89, UI), (76, UJ), (90, UK), (78, UL), (77, UM), (57, UN), (41, UO), (60, UP), (42, UQ), (68, UR), (69, US), (73, UT), (74, UU), (28, UW), (31, UX), (27, UY), (8, Wd), (1650, G2)]
def T : Nat → List A → Bool × List A := W8 table
theorem TN : T 58 = UD := rfl
theorem TO : T 86 = UE := rfl
theorem TP : T 59 = UF := rfl
theorem TQ : T 75 = UG := rfl
theorem TR : T 37 = UH := rfl
theorem TS : T 89 = UI := rfl
theorem TT : T 76 = UJ := rfl
theorem TU : T 90 = UK := rfl
theorem TV : T 78 = UL := rfl
theorem TW : T 77 = UM := rfl
theorem TX : T 57 = UN := rfl
theorem TY : T 41 = UO := rfl
theorem TZ : T 60 = UP := rfl
theorem T0 : T 42 = UQ := rfl
theorem T1 : T 68 = UR := rfl
theorem T2 : T 69 = US := rfl
theorem T3 : T 73 = UT := rfl
theorem T4 : T 74 = UU := rfl
theorem T5 : T 28 = UW := rfl
theorem T6 : T 31 = UX := rfl
theorem T7 : T 27 = UY := rfl
theorem We : T 8 = Wd := rfl
theorem MN : T 1650 = G2 := rfl
def ws : List (Nat × Nat) := [(58, 2), (86, 2), (59, 2), (75, 2), (37, 2), (89, 2), (76, 2), (90, 3), (78, 3), (77, 3), (57, 6), (41, 2), (60, 2), (42, 4), (68, 3), (69, 3), (73, 2), (74, 2), (28, 6), (31, 6), (27, 2), (8, 2), (1650, 5)]
theorem Bj : EE T ws := fun f k h al => by
 have := Jl h
 simp only [ws, List.mem_cons, List.not_mem_nil, or_false, Prod.mk.injEq] at this
 rcases this with ⟨rfl, rfl⟩ | ⟨rfl, rfl⟩ | ⟨rfl, rfl⟩ | ⟨rfl, rfl⟩ | ⟨rfl, rfl⟩ | ⟨rfl, rfl⟩ | ⟨rfl, rfl⟩ | ⟨rfl, rfl⟩ | ⟨rfl, rfl⟩ | ⟨rfl, rfl⟩ | ⟨rfl, rfl⟩ | ⟨rfl, rfl⟩ | ⟨rfl, rfl⟩ | ⟨rfl, rfl⟩ | ⟨rfl, rfl⟩ | ⟨rfl, rfl⟩ | ⟨rfl, rfl⟩ | ⟨rfl, rfl⟩ | ⟨rfl, rfl⟩ | ⟨rfl, rfl⟩ | ⟨rfl, rfl⟩ | ⟨rfl, rfl⟩ | ⟨rfl, rfl⟩
 ·rw [TN]; exact Nat.le_refl _
 ·rw [TO]; exact Nat.le_refl _
 ·rw [TP]; exact Nat.le_refl _
 ·rw [TQ]; exact Nat.le_refl _
 ·rw [TR]; exact Nat.le_refl _
 ·rw [TS]; exact Nat.le_refl _
 ·rw [TT]; exact Nat.le_refl _
 ·rw [TU]; exact Nat.le_refl _
 ·rw [TV]; exact Nat.le_refl _
 ·rw [TW]; exact Nat.le_refl _
 ·rw [TX]; exact Nat.le_refl _
 ·rw [TY]; exact Nat.le_refl _
 ·rw [TZ]; exact Nat.le_refl _
 ·rw [T0]; exact Nat.le_refl _
 ·rw [T1]; exact Nat.le_refl _
 ·rw [T2]; exact Nat.le_refl _
 ·rw [T3]; exact Nat.le_refl _
 ·rw [T4]; exact Nat.le_refl _
 ·rw [T5]; exact Nat.le_refl _
 ·rw [T6]; exact Nat.le_refl _
 ·rw [T7]; exact Nat.le_refl _
 ·rw [We]; exact Nat.le_refl _
 ·rw [MN]; exact Nat.le_refl _
theorem RU {a b : Int} {l m : List A} (h : a = b) (k : l = m) : (A.i a :: l) = (A.i b :: m) := by subst h k; rfl
theorem K9 {e : Nat → A} {b : Nat} {a0 a1 a2 : L} (h : Def.holds T e ⟨b, .call 58, [a0, a1, a2]⟩) :
  (e b).bool = (true) ∧ (e (b + 1)).int = (Day.Bw (a0.ev e).int (a1.ev e).int (a2.ev e).int) := by
 have hp := Cj TN h
 have ho := fun j a => Ck (a := a) TN j h
 simp only [UD, gi, gb, gs, gv, ge, List.map_cons, List.map_nil, List.getD_cons_zero, List.getD_cons_succ, L.AO, A.As] at hp ho
 exact ⟨hp, (congrArg A.int (ho 0 _ rfl) :)⟩
theorem F4 {e : Nat → A} {b : Nat} {a0 a1 : L} (h : Def.holds T e ⟨b, .call 86, [a0, a1]⟩) :
  (e b).bool = (Day.sm (a1.ev e).int) ∧ (e (b + 1)).int = (Day.Kp (a0.ev e).int (a1.ev e).int) := by
 have hp := Cj TO h
 have ho := fun j a => Ck (a := a) TO j h
 simp only [UE, gi, gb, gs, gv, ge, List.map_cons, List.map_nil, List.getD_cons_zero, List.getD_cons_succ, L.AO, A.As] at hp ho
 exact ⟨hp, (congrArg A.int (ho 0 _ rfl) :)⟩
theorem Po {e : Nat → A} {b : Nat} {a0 a1 : L} (h : Def.holds T e ⟨b, .call 59, [a0, a1]⟩) :
  (e b).bool = (Day.Ef (a0.ev e).int && Day.i64 (a1.ev e).int) ∧ (e (b + 1)).int = (Day.Fw (a0.ev e).int (a1.ev e).int) := by
 have hp := Cj TP h
 have ho := fun j a => Ck (a := a) TP j h
 simp only [UF, gi, gb, gs, gv, ge, List.map_cons, List.map_nil, List.getD_cons_zero, List.getD_cons_succ, L.AO, A.As] at hp ho
 exact ⟨hp, (congrArg A.int (ho 0 _ rfl) :)⟩
theorem E3 {e : Nat → A} {b : Nat} {a0 a1 : L} (h : Def.holds T e ⟨b, .call 75, [a0, a1]⟩) :
  (e b).bool = (Day.BN (a0.ev e).int (a1.ev e).int) ∧ (e (b + 1)).int = (Day.A8 (a0.ev e).int (a1.ev e).int) := by
 have hp := Cj TQ h
 have ho := fun j a => Ck (a := a) TQ j h
 simp only [UG, gi, gb, gs, gv, ge, List.map_cons, List.map_nil, List.getD_cons_zero, List.getD_cons_succ, L.AO, A.As] at hp ho
 exact ⟨hp, (congrArg A.int (ho 0 _ rfl) :)⟩
theorem G3 {e : Nat → A} {b : Nat} {a0 : L} (h : Def.holds T e ⟨b, .call 37, [a0]⟩) :
  (e b).bool = (true) ∧ (e (b + 1)).bool = (Day.right (a0.ev e).int) := by
 have hp := Cj TR h
 have ho := fun j a => Ck (a := a) TR j h
 simp only [UH, gi, gb, gs, gv, ge, List.map_cons, List.map_nil, List.getD_cons_zero, List.getD_cons_succ, L.AO, A.As] at hp ho
 exact ⟨hp, (congrArg A.bool (ho 0 _ rfl) :)⟩
theorem Ih {e : Nat → A} {b : Nat} {a0 a1 : L} (h : Def.holds T e ⟨b, .call 89, [a0, a1]⟩) :
  (e b).bool = (Day.G1 (a0.ev e).str) ∧ (e (b + 1)).int = (Day.times (Day.K8 (a0.ev e).str) (a1.ev e).int) := by
 have hp := Cj TS h
 have ho := fun j a => Ck (a := a) TS j h
 simp only [UI, gi, gb, gs, gv, ge, List.map_cons, List.map_nil, List.getD_cons_zero, List.getD_cons_succ, L.AO, A.As] at hp ho
 exact ⟨hp, (congrArg A.int (ho 0 _ rfl) :)⟩
theorem MO {e : Nat → A} {b : Nat} {a0 : L} (h : Def.holds T e ⟨b, .call 76, [a0]⟩) :
  (e b).bool = (true) ∧ (e (b + 1)).int = (Day.times 8 (a0.ev e).int) := by
 have hp := Cj TT h
 have ho := fun j a => Ck (a := a) TT j h
 simp only [UJ, gi, gb, gs, gv, ge, List.map_cons, List.map_nil, List.getD_cons_zero, List.getD_cons_succ, L.AO, A.As] at hp ho
 exact ⟨hp, (congrArg A.int (ho 0 _ rfl) :)⟩
theorem JG {e : Nat → A} {b : Nat} {a0 a1 a2 : L} (h : Def.holds T e ⟨b, .call 90, [a0, a1, a2]⟩) :
  (e b).bool = (Day.G1 (a0.ev e).str) ∧ (e (b + 1)).int = (Day.C7 (Day.K8 (a0.ev e).str) (a1.ev e).int (a2.ev e).int) ∧ (e (b + 2)).int = (Day.Dt (a1.ev e).int (a2.ev e).int) := by
 have hp := Cj TU h
 have ho := fun j a => Ck (a := a) TU j h
 simp only [UK, gi, gb, gs, gv, ge, List.map_cons, List.map_nil, List.getD_cons_zero, List.getD_cons_succ, L.AO, A.As] at hp ho
 exact ⟨hp, (congrArg A.int (ho 0 _ rfl) :), (congrArg A.int (ho 1 _ rfl) :)⟩
theorem La {e : Nat → A} {b : Nat} {a0 a1 : L} (h : Def.holds T e ⟨b, .call 78, [a0, a1]⟩) :
  (e b).bool = (true) ∧ (e (b + 1)).int = (Day.C7 4 (a0.ev e).int (a1.ev e).int) ∧ (e (b + 2)).int = (Day.Dt (a0.ev e).int (a1.ev e).int) := by
 have hp := Cj TV h
 have ho := fun j a => Ck (a := a) TV j h
 simp only [UL, gi, gb, gs, gv, ge, List.map_cons, List.map_nil, List.getD_cons_zero, List.getD_cons_succ, L.AO, A.As] at hp ho
 exact ⟨hp, (congrArg A.int (ho 0 _ rfl) :), (congrArg A.int (ho 1 _ rfl) :)⟩
theorem NC {e : Nat → A} {b : Nat} {a0 a1 : L} (h : Def.holds T e ⟨b, .call 77, [a0, a1]⟩) :
  (e b).bool = (true) ∧ (e (b + 1)).int = (Day.C7 2 (a0.ev e).int (a1.ev e).int) ∧ (e (b + 2)).int = (Day.Dt (a0.ev e).int (a1.ev e).int) := by
 have hp := Cj TW h
 have ho := fun j a => Ck (a := a) TW j h
 simp only [UM, gi, gb, gs, gv, ge, List.map_cons, List.map_nil, List.getD_cons_zero, List.getD_cons_succ, L.AO, A.As] at hp ho
 exact ⟨hp, (congrArg A.int (ho 0 _ rfl) :), (congrArg A.int (ho 1 _ rfl) :)⟩
theorem MP {e : Nat → A} {b : Nat} {a0 a1 : L} (h : Def.holds T e ⟨b, .call 57, [a0, a1]⟩) :
  ∀ r0, r0 = Day.BK (a0.ev e).int (a1.ev e).int → (e b).bool = (true) ∧ (e (b + 1)).int = (((r0)).id) ∧ (e (b + 2)).int = (((r0)).mode) ∧ (e (b + 3)).int = (((r0)).count) ∧ (e (b + 4)).int = (((r0)).pos) ∧ (e (b + 5)).int = (Day.Nj (a0.ev e).int (a1.ev e).int) := by
 intro r0 hr0
 subst hr0
 have hp := Cj TX h
 have ho := fun j a => Ck (a := a) TX j h
 simp only [UN, gi, gb, gs, gv, ge, List.map_cons, List.map_nil, List.getD_cons_zero, List.getD_cons_succ, L.AO, A.As] at hp ho
 exact ⟨hp, (congrArg A.int (ho 0 _ rfl) :), (congrArg A.int (ho 1 _ rfl) :), (congrArg A.int (ho 2 _ rfl) :), (congrArg A.int (ho 3 _ rfl) :), (congrArg A.int (ho 4 _ rfl) :)⟩
theorem CZ {e : Nat → A} {b : Nat} {a0 a1 a2 a3 a4 : L} (h : Def.holds T e ⟨b, .call 41, [a0, a1, a2, a3, a4]⟩) :
  ∀ z0, z0 = (Day.ND.mk (a1.ev e).int (a2.ev e).int (a3.ev e).int (a4.ev e).int) → (e b).bool = (Day.ND.i64 z0) ∧ (e (b + 1)).bool = (Day.AE (a0.ev e).int z0) := by
 intro z0 hz0
 subst hz0
 have hp := Cj TY h
 have ho := fun j a => Ck (a := a) TY j h
 simp only [UO, gi, gb, gs, gv, ge, List.map_cons, List.map_nil, List.getD_cons_zero, List.getD_cons_succ, L.AO, A.As] at hp ho
 exact ⟨hp, (congrArg A.bool (ho 0 _ rfl) :)⟩
theorem Pp {e : Nat → A} {b : Nat} {a0 a1 a2 a3 a4 : L} (h : Def.holds T e ⟨b, .call 60, [a0, a1, a2, a3, a4]⟩) :
  ∀ z0, z0 = (Day.ND.mk (a1.ev e).int (a2.ev e).int (a3.ev e).int (a4.ev e).int) → (e b).bool = (true) ∧ (e (b + 1)).int = (Day.CO (a0.ev e).int z0) := by
 intro z0 hz0
 subst hz0
 have hp := Cj TZ h
 have ho := fun j a => Ck (a := a) TZ j h
 simp only [UP, gi, gb, gs, gv, ge, List.map_cons, List.map_nil, List.getD_cons_zero, List.getD_cons_succ, L.AO, A.As] at hp ho
 exact ⟨hp, (congrArg A.int (ho 0 _ rfl) :)⟩
theorem IZ {e : Nat → A} {b : Nat} {a0 a1 a2 a3 a4 : L} (h : Def.holds T e ⟨b, .call 42, [a0, a1, a2, a3, a4]⟩) :
  ∀ z0, z0 = (Day.ND.mk (a1.ev e).int (a2.ev e).int (a3.ev e).int (a4.ev e).int) → (e b).bool = (Day.ND.i64 z0) ∧ (e (b + 1)).int = (((Day.LH (a0.ev e).int z0)).kind) ∧ (e (b + 2)).int = (((Day.LH (a0.ev e).int z0)).id) ∧ (e (b + 3)).int = (Day.Pk (a0.ev e).int z0) := by
 intro z0 hz0
 subst hz0
 have hp := Cj T0 h
 have ho := fun j a => Ck (a := a) T0 j h
 simp only [UQ, gi, gb, gs, gv, ge, List.map_cons, List.map_nil, List.getD_cons_zero, List.getD_cons_succ, L.AO, A.As] at hp ho
 exact ⟨hp, (congrArg A.int (ho 0 _ rfl) :), (congrArg A.int (ho 1 _ rfl) :), (congrArg A.int (ho 2 _ rfl) :)⟩
theorem Ii {e : Nat → A} {b : Nat} {a0 a1 a2 a3 : L} (h : Def.holds T e ⟨b, .call 68, [a0, a1, a2, a3]⟩) :
  (e b).bool = (true) ∧ (e (b + 1)).int = (Day.Fx (Day.Fr.mk (a0.ev e).int (a1.ev e).int) (Day.Fr.mk (a2.ev e).int (a3.ev e).int)) ∧ (e (b + 2)).bool = (Day.EH (Day.Fr.mk (a0.ev e).int (a1.ev e).int) (Day.Fr.mk (a2.ev e).int (a3.ev e).int)) := by
 have hp := Cj T1 h
 have ho := fun j a => Ck (a := a) T1 j h
 simp only [UR, gi, gb, gs, gv, ge, List.map_cons, List.map_nil, List.getD_cons_zero, List.getD_cons_succ, L.AO, A.As] at hp ho
 exact ⟨hp, (congrArg A.int (ho 0 _ rfl) :), (congrArg A.bool (ho 1 _ rfl) :)⟩
theorem Eg {e : Nat → A} {b : Nat} {a0 a1 a2 a3 a4 : L} (h : Def.holds T e ⟨b, .call 69, [a0, a1, a2, a3, a4]⟩) :
  (e b).bool = (true) ∧ (e (b + 1)).int = (Day.C8 (Day.Fr.mk (a0.ev e).int (a1.ev e).int) (Day.Fr.mk (a2.ev e).int (a3.ev e).int) (a4.ev e).int) ∧ (e (b + 2)).bool = (Day.BV (Day.Fr.mk (a0.ev e).int (a1.ev e).int) (Day.Fr.mk (a2.ev e).int (a3.ev e).int) (a4.ev e).int) := by
 have hp := Cj T2 h
 have ho := fun j a => Ck (a := a) T2 j h
 simp only [US, gi, gb, gs, gv, ge, List.map_cons, List.map_nil, List.getD_cons_zero, List.getD_cons_succ, L.AO, A.As] at hp ho
 exact ⟨hp, (congrArg A.int (ho 0 _ rfl) :), (congrArg A.bool (ho 1 _ rfl) :)⟩
theorem MQ {e : Nat → A} {b : Nat} {a0 a1 a2 a3 a4 : L} (h : Def.holds T e ⟨b, .call 73, [a0, a1, a2, a3, a4]⟩) :
  (e b).bool = (true) ∧ (e (b + 1)).bool = (Day.E0 (Day.Fr.mk (a0.ev e).int (a1.ev e).int) (Day.Fr.mk (a2.ev e).int (a3.ev e).int) (a4.ev e).int) := by
 have hp := Cj T3 h
 have ho := fun j a => Ck (a := a) T3 j h
 simp only [UT, gi, gb, gs, gv, ge, List.map_cons, List.map_nil, List.getD_cons_zero, List.getD_cons_succ, L.AO, A.As] at hp ho
 exact ⟨hp, (congrArg A.bool (ho 0 _ rfl) :)⟩
theorem MR {e : Nat → A} {b : Nat} {a0 a1 a2 a3 a4 : L} (h : Def.holds T e ⟨b, .call 74, [a0, a1, a2, a3, a4]⟩) :
  (e b).bool = (true) ∧ (e (b + 1)).bool = (Day.E1 (Day.Fr.mk (a0.ev e).int (a1.ev e).int) (Day.Fr.mk (a2.ev e).int (a3.ev e).int) (a4.ev e).int) := by
 have hp := Cj T4 h
 have ho := fun j a => Ck (a := a) T4 j h
 simp only [UU, gi, gb, gs, gv, ge, List.map_cons, List.map_nil, List.getD_cons_zero, List.getD_cons_succ, L.AO, A.As] at hp ho
 exact ⟨hp, (congrArg A.bool (ho 0 _ rfl) :)⟩
theorem DM {e : Nat → A} {b : Nat} {a0 a1 a2 a3 a4 a5 a6 a7 a8 : L} (h : Def.holds T e ⟨b, .call 28, [a0, a1, a2, a3, a4, a5, a6, a7, a8]⟩) :
  ∀ z0, z0 = (Day.ND.mk (a1.ev e).int (a2.ev e).int (a3.ev e).int (a4.ev e).int) → ∀ r1, r1 = Day.AZ (a0.ev e).int z0 (Day.Fr.mk (a5.ev e).int (a6.ev e).int) (Day.Fr.mk (a7.ev e).int (a8.ev e).int) → (e b).bool = (Day.ND.i64 z0 && Day.A4 (a0.ev e).int (Day.Fr.mk (a5.ev e).int (a6.ev e).int) (Day.Fr.mk (a7.ev e).int (a8.ev e).int)) ∧ (e (b + 1)).int = (((r1)).id) ∧ (e (b + 2)).int = (((r1)).mode) ∧ (e (b + 3)).int = (((r1)).count) ∧ (e (b + 4)).int = (((r1)).pos) ∧ (e (b + 5)).int = (Day.B7 (a0.ev e).int z0) := by
 intro z0 hz0 r1 hr1
 subst hz0 hr1
 have hp := Cj T5 h
 have ho := fun j a => Ck (a := a) T5 j h
 simp only [UW, gi, gb, gs, gv, ge, List.map_cons, List.map_nil, List.getD_cons_zero, List.getD_cons_succ, L.AO, A.As] at hp ho
 exact ⟨hp, (congrArg A.int (ho 0 _ rfl) :), (congrArg A.int (ho 1 _ rfl) :), (congrArg A.int (ho 2 _ rfl) :), (congrArg A.int (ho 3 _ rfl) :), (congrArg A.int (ho 4 _ rfl) :)⟩
theorem Ij {e : Nat → A} {b : Nat} {a0 a1 a2 a3 a4 a5 : L} (h : Def.holds T e ⟨b, .call 31, [a0, a1, a2, a3, a4, a5]⟩) :
  ∀ z0, z0 = (Day.ND.mk (a1.ev e).int (a2.ev e).int (a3.ev e).int (a4.ev e).int) → ∀ r1, r1 = Day.B3 (a0.ev e).int z0 (a5.ev e).int → (e b).bool = (Day.ND.i64 z0) ∧ (e (b + 1)).int = (((r1)).id) ∧ (e (b + 2)).int = (((r1)).mode) ∧ (e (b + 3)).int = (((r1)).count) ∧ (e (b + 4)).int = (((r1)).pos) ∧ (e (b + 5)).int = (Day.Cr (a0.ev e).int z0 (a5.ev e).int) := by
 intro z0 hz0 r1 hr1
 subst hz0 hr1
 have hp := Cj T6 h
 have ho := fun j a => Ck (a := a) T6 j h
 simp only [UX, gi, gb, gs, gv, ge, List.map_cons, List.map_nil, List.getD_cons_zero, List.getD_cons_succ, L.AO, A.As] at hp ho
 exact ⟨hp, (congrArg A.int (ho 0 _ rfl) :), (congrArg A.int (ho 1 _ rfl) :), (congrArg A.int (ho 2 _ rfl) :), (congrArg A.int (ho 3 _ rfl) :), (congrArg A.int (ho 4 _ rfl) :)⟩
theorem Gq {e : Nat → A} {b : Nat} (h : Def.holds T e ⟨b, .call 27, []⟩) :
  (e b).bool = (true) ∧ (e (b + 1)).bool = (true) := by
 have hp := Cj T7 h
 have ho := fun j a => Ck (a := a) T7 j h
 simp only [UY, gi, gb, gs, gv, ge, List.map_cons, List.map_nil, List.getD_cons_zero, List.getD_cons_succ, L.AO, A.As] at hp ho
 exact ⟨hp, (congrArg A.bool (ho 0 _ rfl) :)⟩
theorem Sy {e : Nat → A} {b : Nat} {a0 a1 a2 a3 a4 a5 a6 a7 a8 a9 a10 a11 a12 a13 a14 a15 a16 a17 a18 : L} (h : Def.holds T e ⟨b, .call 1650, [a0, a1, a2, a3, a4, a5, a6, a7, a8, a9, a10, a11, a12, a13, a14, a15, a16, a17, a18]⟩) :
  ∀ z0, z0 = (Day.ND.mk (a15.ev e).int (a16.ev e).int (a17.ev e).int (a18.ev e).int) → ∀ r1, r1 = Day.Cq (a0.ev e).int ((a5.ev e).int - (a14.ev e).int).toNat z0 → (e b).bool = (Day.qI (a0.ev e).int z0 && Day.qT (a5.ev e).int (a14.ev e).int) ∧ (e (b + 1)).int = (((r1)).id) ∧ (e (b + 2)).int = (((r1)).mode) ∧ (e (b + 3)).int = (((r1)).count) ∧ (e (b + 4)).int = (((r1)).pos) := by
 intro z0 hz0 r1 hr1
 subst hz0 hr1
 have hp := Cj MN h
 have ho := fun j a => Ck (a := a) MN j h
 simp only [G2, gi, gb, gs, gv, ge, List.map_cons, List.map_nil, List.getD_cons_zero, List.getD_cons_succ, L.AO, A.As] at hp ho
 exact ⟨hp, (congrArg A.int (ho 0 _ rfl) :), (congrArg A.int (ho 1 _ rfl) :), (congrArg A.int (ho 2 _ rfl) :), (congrArg A.int (ho 3 _ rfl) :)⟩
end Rx.S
