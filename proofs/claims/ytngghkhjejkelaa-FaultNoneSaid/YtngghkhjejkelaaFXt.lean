import Derived.Test.YtngghkhjejkelaaFXc
import Derived.Test.YtngghkhjejkelaaFXd
set_option linter.unusedVariables false
set_option linter.unusedSimpArgs false
namespace Rx.S
open Go Rx
set_option maxRecDepth 100000
def Wc (al : List A) : Bool × List A := (true, [.b (Day.right (gi al 0))])
def Wd (al : List A) : Bool × List A := (true, [.b (Day.right (gi al 0))])
def We (al : List A) : Bool × List A := (Day.u32 (gi al 0) && Day.u8 (gi al 1), [.i (Day.KJ (gi al 0) (gi al 1))])
def Wf (al : List A) : Bool × List A := (Day.u32 (gi al 0) && Day.u8 (gi al 1), [.i (Day.KJ (gi al 0) (gi al 1))])
def Wg (al : List A) : Bool × List A := (Day.B0 (gs al 0), [.i (Day.Je (gs al 0))])
def Wh (al : List A) : Bool × List A := (Day.B0 (gs al 0), [.i (Day.Je (gs al 0))])
def Wi (al : List A) : Bool × List A := (Day.u32 (gi al 0), [.v (.string (Day.JT (gi al 0)))])
def Wj (al : List A) : Bool × List A := (Day.u32 (gi al 0), [.v (.string (Day.JT (gi al 0)))])
def Wk (al : List A) : Bool × List A := (true, [.b (Day.BA (Day.Fr.mk (gi al 0) (gi al 1)))])
def Wl (al : List A) : Bool × List A := (true, [.b (Day.BA (Day.Fr.mk (gi al 0) (gi al 1)))])
def Wm (al : List A) : Bool × List A := (true, [.v (.string (Day.D1 (Day.Fr.mk (gi al 0) (gi al 1))))])
def Wn (al : List A) : Bool × List A := (true, [.v (.string (Day.D1 (Day.Fr.mk (gi al 0) (gi al 1))))])
def Wo (al : List A) : Bool × List A := (true, [.i (Day.many (gi al 0) (gi al 1))])
def Wp (al : List A) : Bool × List A := (true, [.b (Day.Bq (gi al 0) (Day.Fl.mk (gi al 1) (gi al 2)))])
def Wq (al : List A) : Bool × List A := (true, [.i (((Day.AY (gi al 0) (Day.Fl.mk (gi al 1) (gi al 2)))).cls), .i (((Day.AY (gi al 0) (Day.Fl.mk (gi al 1) (gi al 2)))).who), .i (Day.AZ (gi al 0))])
def Ws (al : List A) : Bool × List A := (true, [.b (Day.isNode (Day.Fl.mk (gi al 0) (gi al 1)) (gi al 2))])
def Wu (al : List A) : Bool × List A := (true, [.b (Day.Bt (Day.Fl.mk (gi al 0) (gi al 1)) (gi al 2))])
def Wv (al : List A) : Bool × List A := let z0 := (Day.Ch.mk (gs al 2) (gs al 3) (ge al 4) (gi al 5) (gi al 6)); (true, [.v (.string (Day.BS (Day.Fl.mk (gi al 0) (gi al 1)) z0 (gi al 7) (Day.Fr.mk (gi al 8) (gi al 9)))), .v (.string (Day.BT (Day.Fl.mk (gi al 0) (gi al 1)) z0 (gi al 7) (Day.Fr.mk (gi al 8) (gi al 9))))])
def Ww (al : List A) : Bool × List A := let z0 := (Day.Ch.mk (gs al 2) (gs al 3) (ge al 4) (gi al 5) (gi al 6)); (true, [.v (.string (Day.CI (Day.Fl.mk (gi al 0) (gi al 1)) z0 (gi al 7) (gi al 8) (Day.Fr.mk (gi al 9) (gi al 10))))])
def Wx (al : List A) : Bool × List A := let z0 := (Day.Ch.mk (gs al 2) (gs al 3) (ge al 4) (gi al 5) (gi al 6)); (true, [.b (Day.Cf (Day.Fl.mk (gi al 0) (gi al 1)) z0 0), .b (Day.Cf (Day.Fl.mk (gi al 0) (gi al 1)) z0 1)])
def Wy (al : List A) : Bool × List A := (true, [.b (Day.Bq (gi al 0) (Day.Fl.mk (gi al 1) (gi al 2)))])
def Wz (al : List A) : Bool × List A := (true, [.i (((Day.AY (gi al 0) (Day.Fl.mk (gi al 1) (gi al 2)))).cls), .i (((Day.AY (gi al 0) (Day.Fl.mk (gi al 1) (gi al 2)))).who), .i (Day.AZ (gi al 0))])
def WA (al : List A) : Bool × List A := (true, [.b (Day.isNode (Day.Fl.mk (gi al 0) (gi al 1)) (gi al 2))])
def WB (al : List A) : Bool × List A := (true, [.b (Day.Bt (Day.Fl.mk (gi al 0) (gi al 1)) (gi al 2))])
def WC (al : List A) : Bool × List A := let z0 := (Day.Ch.mk (gs al 2) (gs al 3) (ge al 4) (gi al 5) (gi al 6)); (true, [.v (.string (Day.BS (Day.Fl.mk (gi al 0) (gi al 1)) z0 (gi al 7) (Day.Fr.mk (gi al 8) (gi al 9)))), .v (.string (Day.BT (Day.Fl.mk (gi al 0) (gi al 1)) z0 (gi al 7) (Day.Fr.mk (gi al 8) (gi al 9))))])
def WD (al : List A) : Bool × List A := let z0 := (Day.Ch.mk (gs al 2) (gs al 3) (ge al 4) (gi al 5) (gi al 6)); (true, [.v (.string (Day.CI (Day.Fl.mk (gi al 0) (gi al 1)) z0 (gi al 7) (gi al 8) (Day.Fr.mk (gi al 9) (gi al 10))))])
def WE (al : List A) : Bool × List A := let z0 := (Day.Ch.mk (gs al 2) (gs al 3) (ge al 4) (gi al 5) (gi al 6)); (true, [.b (Day.Cf (Day.Fl.mk (gi al 0) (gi al 1)) z0 0), .b (Day.Cf (Day.Fl.mk (gi al 0) (gi al 1)) z0 1)])
def Yc (al : List A) : Bool × List A := let z0 := (Day.Ch.mk (gs al 0) (gs al 1) (ge al 2) (gi al 3) (gi al 4)); (true, [.b (Day.BE z0)])
def WG (al : List A) : Bool × List A := (true, [.b (true)])
def X5 (al : List A) : Bool × List A := let z0 := (Day.Ch.mk (gs al 3) (gs al 4) (ge al 5) (gi al 6) (gi al 7)); (true, [.b (true)])
def X6 (al : List A) : Bool × List A := let z0 := (Day.Ch.mk (gs al 3) (gs al 4) (ge al 5) (gi al 6) (gi al 7)); (true, [.b (true)])
def Hj (al : List A) : Bool × List A := (Day.u32 (gi al 0) && Day.upto (gi al 5) 8, [.i (Day.DG (8 - (gi al 5)).toNat (gi al 0))])
def Hk (al : List A) : Bool × List A := (Day.u32 (gi al 0) && Day.upto (gi al 2) 8, [.i (Day.DG (8 - (gi al 2)).toNat (gi al 0))])
def Hl (al : List A) : Bool × List A := (Day.u32 (gi al 1) && (Day.upto (gi al 3) (gi al 2) && (Day.Es (ge al 4) (gi al 2) && Day.Iy (gi al 2))), [.i (Day.BR ((ge al 4).GW.drop (gi al 3).toNat) (gi al 1))])
def Hm (al : List A) : Bool × List A := (Day.u32 (gi al 1) && (Day.upto (gi al 2) (Day.Er (gs al 0)) && Day.B0 (gs al 0)), [.i (Day.BR ((Day.Bp (gs al 0)).drop (gi al 2).toNat) (gi al 1))])
def table : List (Nat × (List A → Bool × List A)) := [(37, Wc), (38, Wd), (67, We), (50, Wf), (53, Wg), (35, Wh), (52, Wi), (34, Wj), (51, Wk), (33, Wl), (36, Wm), (11, Wn), (39, Wo), (19, Wp), (17, Wq), (13, Ws), (15, Wu), (14, Wv), (12, Ww), (16, Wx), (20, Wy), (18, Wz), (21, WA), (22, WB), (23, WC), (24, WD), (25, WE), (9, Yc), (10, WG), (4, X5), (3, X6), (1020, Hj), (1030, Hk), (1040, Hl), (1050, Hm)]
def T : Nat → List A → Bool × List A := YG table
theorem U8 : T 37 = Wc := rfl
theorem U9 : T 38 = Wd := rfl
theorem Va : T 67 = We := rfl
theorem Vb : T 50 = Wf := rfl
theorem Vc : T 53 = Wg := rfl
theorem Vd : T 35 = Wh := rfl
theorem Ve : T 52 = Wi := rfl
theorem Vf : T 34 = Wj := rfl
theorem Vg : T 51 = Wk := rfl
theorem Vh : T 33 = Wl := rfl
theorem Vi : T 36 = Wm := rfl
theorem Vj : T 11 = Wn := rfl
theorem Vk : T 39 = Wo := rfl
theorem Vl : T 19 = Wp := rfl
theorem Vm : T 17 = Wq := rfl
theorem Vn : T 13 = Ws := rfl
theorem Vo : T 15 = Wu := rfl
theorem Vp : T 14 = Wv := rfl
theorem Vq : T 12 = Ww := rfl
theorem Vr : T 16 = Wx := rfl
theorem Vs : T 20 = Wy := rfl
theorem Vt : T 18 = Wz := rfl
theorem Vu : T 21 = WA := rfl
theorem Vv : T 22 = WB := rfl
theorem Vw : T 23 = WC := rfl
theorem Vx : T 24 = WD := rfl
theorem Vy : T 25 = WE := rfl
theorem X7 : T 9 = Yc := rfl
theorem Vz : T 10 = WG := rfl
theorem X8 : T 4 = X5 := rfl
theorem X9 : T 3 = X6 := rfl
theorem Ns : T 1020 = Hj := rfl
theorem Nt : T 1030 = Hk := rfl
theorem Nu : T 1040 = Hl := rfl
theorem Nv : T 1050 = Hm := rfl
def ws : List (Nat × Nat) := [(37, 2), (38, 2), (67, 2), (50, 2), (53, 2), (35, 2), (52, 2), (34, 2), (51, 2), (33, 2), (36, 2), (11, 2), (39, 2), (19, 2), (17, 4), (13, 2), (15, 2), (14, 3), (12, 2), (16, 3), (20, 2), (18, 4), (21, 2), (22, 2), (23, 3), (24, 2), (25, 3), (9, 2), (10, 2), (4, 2), (3, 2), (1020, 2), (1030, 2), (1040, 2), (1050, 2)]
theorem AK : F7 T ws := fun f k h al => by
 have := Jy h
 simp only [ws, List.mem_cons, List.not_mem_nil, or_false, Prod.mk.injEq] at this
 rcases this with ⟨rfl, rfl⟩ | ⟨rfl, rfl⟩ | ⟨rfl, rfl⟩ | ⟨rfl, rfl⟩ | ⟨rfl, rfl⟩ | ⟨rfl, rfl⟩ | ⟨rfl, rfl⟩ | ⟨rfl, rfl⟩ | ⟨rfl, rfl⟩ | ⟨rfl, rfl⟩ | ⟨rfl, rfl⟩ | ⟨rfl, rfl⟩ | ⟨rfl, rfl⟩ | ⟨rfl, rfl⟩ | ⟨rfl, rfl⟩ | ⟨rfl, rfl⟩ | ⟨rfl, rfl⟩ | ⟨rfl, rfl⟩ | ⟨rfl, rfl⟩ | ⟨rfl, rfl⟩ | ⟨rfl, rfl⟩ | ⟨rfl, rfl⟩ | ⟨rfl, rfl⟩ | ⟨rfl, rfl⟩ | ⟨rfl, rfl⟩ | ⟨rfl, rfl⟩ | ⟨rfl, rfl⟩ | ⟨rfl, rfl⟩ | ⟨rfl, rfl⟩ | ⟨rfl, rfl⟩ | ⟨rfl, rfl⟩ | ⟨rfl, rfl⟩ | ⟨rfl, rfl⟩ | ⟨rfl, rfl⟩ | ⟨rfl, rfl⟩
 ·rw [U8]; exact Nat.le_refl _
 ·rw [U9]; exact Nat.le_refl _
 ·rw [Va]; exact Nat.le_refl _
 ·rw [Vb]; exact Nat.le_refl _
 ·rw [Vc]; exact Nat.le_refl _
 ·rw [Vd]; exact Nat.le_refl _
 ·rw [Ve]; exact Nat.le_refl _
 ·rw [Vf]; exact Nat.le_refl _
 ·rw [Vg]; exact Nat.le_refl _
 ·rw [Vh]; exact Nat.le_refl _
 ·rw [Vi]; exact Nat.le_refl _
 ·rw [Vj]; exact Nat.le_refl _
 ·rw [Vk]; exact Nat.le_refl _
 ·rw [Vl]; exact Nat.le_refl _
 ·rw [Vm]; exact Nat.le_refl _
 ·rw [Vn]; exact Nat.le_refl _
 ·rw [Vo]; exact Nat.le_refl _
 ·rw [Vp]; exact Nat.le_refl _
 ·rw [Vq]; exact Nat.le_refl _
 ·rw [Vr]; exact Nat.le_refl _
 ·rw [Vs]; exact Nat.le_refl _
 ·rw [Vt]; exact Nat.le_refl _
 ·rw [Vu]; exact Nat.le_refl _
 ·rw [Vv]; exact Nat.le_refl _
 ·rw [Vw]; exact Nat.le_refl _
 ·rw [Vx]; exact Nat.le_refl _
 ·rw [Vy]; exact Nat.le_refl _
 ·rw [X7]; exact Nat.le_refl _
 ·rw [Vz]; exact Nat.le_refl _
 ·rw [X8]; exact Nat.le_refl _
 ·rw [X9]; exact Nat.le_refl _
 ·rw [Ns]; exact Nat.le_refl _
 ·rw [Nt]; exact Nat.le_refl _
 ·rw [Nu]; exact Nat.le_refl _
 ·rw [Nv]; exact Nat.le_refl _
theorem Ta {a b : Int} {l m : List A} (h : a = b) (k : l = m) : (A.i a :: l) = (A.i b :: m) := by subst h k; rfl
theorem Hn {e : Nat → A} {b : Nat} {a0 : L} (h : Def.holds T e ⟨b, .call 37, [a0]⟩) :
  (e b).bool = (true) ∧ (e (b + 1)).bool = (Day.right (a0.ev e).int) := by
 have hp := Be U8 h
 have ho := fun j a => Bf (a := a) U8 j h
 simp only [Wc, gi, gb, gs, gv, ge, List.map_cons, List.map_nil, List.getD_cons_zero, List.getD_cons_succ, L.Az, A.Ak] at hp ho
 exact ⟨hp, (congrArg A.bool (ho 0 _ rfl) :)⟩
theorem Gt {e : Nat → A} {b : Nat} {a0 : L} (h : Def.holds T e ⟨b, .call 38, [a0]⟩) :
  (e b).bool = (true) ∧ (e (b + 1)).bool = (Day.right (a0.ev e).int) := by
 have hp := Be U9 h
 have ho := fun j a => Bf (a := a) U9 j h
 simp only [Wd, gi, gb, gs, gv, ge, List.map_cons, List.map_nil, List.getD_cons_zero, List.getD_cons_succ, L.Az, A.Ak] at hp ho
 exact ⟨hp, (congrArg A.bool (ho 0 _ rfl) :)⟩
theorem Rd {e : Nat → A} {b : Nat} {a0 a1 : L} (h : Def.holds T e ⟨b, .call 67, [a0, a1]⟩) :
  (e b).bool = (Day.u32 (a0.ev e).int && Day.u8 (a1.ev e).int) ∧ (e (b + 1)).int = (Day.KJ (a0.ev e).int (a1.ev e).int) := by
 have hp := Be Va h
 have ho := fun j a => Bf (a := a) Va j h
 simp only [We, gi, gb, gs, gv, ge, List.map_cons, List.map_nil, List.getD_cons_zero, List.getD_cons_succ, L.Az, A.Ak] at hp ho
 exact ⟨hp, (congrArg A.int (ho 0 _ rfl) :)⟩
theorem Of {e : Nat → A} {b : Nat} {a0 a1 : L} (h : Def.holds T e ⟨b, .call 50, [a0, a1]⟩) :
  (e b).bool = (Day.u32 (a0.ev e).int && Day.u8 (a1.ev e).int) ∧ (e (b + 1)).int = (Day.KJ (a0.ev e).int (a1.ev e).int) := by
 have hp := Be Vb h
 have ho := fun j a => Bf (a := a) Vb j h
 simp only [Wf, gi, gb, gs, gv, ge, List.map_cons, List.map_nil, List.getD_cons_zero, List.getD_cons_succ, L.Az, A.Ak] at hp ho
 exact ⟨hp, (congrArg A.int (ho 0 _ rfl) :)⟩
theorem Re {e : Nat → A} {b : Nat} {a0 : L} (h : Def.holds T e ⟨b, .call 53, [a0]⟩) :
  (e b).bool = (Day.B0 (a0.ev e).str) ∧ (e (b + 1)).int = (Day.Je (a0.ev e).str) := by
 have hp := Be Vc h
 have ho := fun j a => Bf (a := a) Vc j h
 simp only [Wg, gi, gb, gs, gv, ge, List.map_cons, List.map_nil, List.getD_cons_zero, List.getD_cons_succ, L.Az, A.Ak] at hp ho
 exact ⟨hp, (congrArg A.int (ho 0 _ rfl) :)⟩
theorem Og {e : Nat → A} {b : Nat} {a0 : L} (h : Def.holds T e ⟨b, .call 35, [a0]⟩) :
  (e b).bool = (Day.B0 (a0.ev e).str) ∧ (e (b + 1)).int = (Day.Je (a0.ev e).str) := by
 have hp := Be Vd h
 have ho := fun j a => Bf (a := a) Vd j h
 simp only [Wh, gi, gb, gs, gv, ge, List.map_cons, List.map_nil, List.getD_cons_zero, List.getD_cons_succ, L.Az, A.Ak] at hp ho
 exact ⟨hp, (congrArg A.int (ho 0 _ rfl) :)⟩
theorem Qe {e : Nat → A} {b : Nat} {a0 : L} (h : Def.holds T e ⟨b, .call 52, [a0]⟩) :
  (e b).bool = (Day.u32 (a0.ev e).int) ∧ (e (b + 1)).str = (Day.JT (a0.ev e).int) := by
 have hp := Be Ve h
 have ho := fun j a => Bf (a := a) Ve j h
 simp only [Wi, gi, gb, gs, gv, ge, List.map_cons, List.map_nil, List.getD_cons_zero, List.getD_cons_succ, L.Az, A.Ak] at hp ho
 exact ⟨hp, (congrArg A.str (ho 0 _ rfl) :)⟩
theorem Nw {e : Nat → A} {b : Nat} {a0 : L} (h : Def.holds T e ⟨b, .call 34, [a0]⟩) :
  (e b).bool = (Day.u32 (a0.ev e).int) ∧ (e (b + 1)).str = (Day.JT (a0.ev e).int) := by
 have hp := Be Vf h
 have ho := fun j a => Bf (a := a) Vf j h
 simp only [Wj, gi, gb, gs, gv, ge, List.map_cons, List.map_nil, List.getD_cons_zero, List.getD_cons_succ, L.Az, A.Ak] at hp ho
 exact ⟨hp, (congrArg A.str (ho 0 _ rfl) :)⟩
theorem Nx {e : Nat → A} {b : Nat} {a0 a1 : L} (h : Def.holds T e ⟨b, .call 51, [a0, a1]⟩) :
  (e b).bool = (true) ∧ (e (b + 1)).bool = (Day.BA (Day.Fr.mk (a0.ev e).int (a1.ev e).int)) := by
 have hp := Be Vg h
 have ho := fun j a => Bf (a := a) Vg j h
 simp only [Wk, gi, gb, gs, gv, ge, List.map_cons, List.map_nil, List.getD_cons_zero, List.getD_cons_succ, L.Az, A.Ak] at hp ho
 exact ⟨hp, (congrArg A.bool (ho 0 _ rfl) :)⟩
theorem LB {e : Nat → A} {b : Nat} {a0 a1 : L} (h : Def.holds T e ⟨b, .call 33, [a0, a1]⟩) :
  (e b).bool = (true) ∧ (e (b + 1)).bool = (Day.BA (Day.Fr.mk (a0.ev e).int (a1.ev e).int)) := by
 have hp := Be Vh h
 have ho := fun j a => Bf (a := a) Vh j h
 simp only [Wl, gi, gb, gs, gv, ge, List.map_cons, List.map_nil, List.getD_cons_zero, List.getD_cons_succ, L.Az, A.Ak] at hp ho
 exact ⟨hp, (congrArg A.bool (ho 0 _ rfl) :)⟩
theorem Ga {e : Nat → A} {b : Nat} {a0 a1 : L} (h : Def.holds T e ⟨b, .call 36, [a0, a1]⟩) :
  (e b).bool = (true) ∧ (e (b + 1)).str = (Day.D1 (Day.Fr.mk (a0.ev e).int (a1.ev e).int)) := by
 have hp := Be Vi h
 have ho := fun j a => Bf (a := a) Vi j h
 simp only [Wm, gi, gb, gs, gv, ge, List.map_cons, List.map_nil, List.getD_cons_zero, List.getD_cons_succ, L.Az, A.Ak] at hp ho
 exact ⟨hp, (congrArg A.str (ho 0 _ rfl) :)⟩
theorem Dp {e : Nat → A} {b : Nat} {a0 a1 : L} (h : Def.holds T e ⟨b, .call 11, [a0, a1]⟩) :
  (e b).bool = (true) ∧ (e (b + 1)).str = (Day.D1 (Day.Fr.mk (a0.ev e).int (a1.ev e).int)) := by
 have hp := Be Vj h
 have ho := fun j a => Bf (a := a) Vj j h
 simp only [Wn, gi, gb, gs, gv, ge, List.map_cons, List.map_nil, List.getD_cons_zero, List.getD_cons_succ, L.Az, A.Ak] at hp ho
 exact ⟨hp, (congrArg A.str (ho 0 _ rfl) :)⟩
theorem Ny {e : Nat → A} {b : Nat} {a0 a1 : L} (h : Def.holds T e ⟨b, .call 39, [a0, a1]⟩) :
  (e b).bool = (true) ∧ (e (b + 1)).int = (Day.many (a0.ev e).int (a1.ev e).int) := by
 have hp := Be Vk h
 have ho := fun j a => Bf (a := a) Vk j h
 simp only [Wo, gi, gb, gs, gv, ge, List.map_cons, List.map_nil, List.getD_cons_zero, List.getD_cons_succ, L.Az, A.Ak] at hp ho
 exact ⟨hp, (congrArg A.int (ho 0 _ rfl) :)⟩
theorem CD {e : Nat → A} {b : Nat} {a0 a1 a2 : L} (h : Def.holds T e ⟨b, .call 19, [a0, a1, a2]⟩) :
  (e b).bool = (true) ∧ (e (b + 1)).bool = (Day.Bq (a0.ev e).int (Day.Fl.mk (a1.ev e).int (a2.ev e).int)) := by
 have hp := Be Vl h
 have ho := fun j a => Bf (a := a) Vl j h
 simp only [Wp, gi, gb, gs, gv, ge, List.map_cons, List.map_nil, List.getD_cons_zero, List.getD_cons_succ, L.Az, A.Ak] at hp ho
 exact ⟨hp, (congrArg A.bool (ho 0 _ rfl) :)⟩
theorem LC {e : Nat → A} {b : Nat} {a0 a1 a2 : L} (h : Def.holds T e ⟨b, .call 17, [a0, a1, a2]⟩) :
  (e b).bool = (true) ∧ (e (b + 1)).int = (((Day.AY (a0.ev e).int (Day.Fl.mk (a1.ev e).int (a2.ev e).int))).cls) ∧ (e (b + 2)).int = (((Day.AY (a0.ev e).int (Day.Fl.mk (a1.ev e).int (a2.ev e).int))).who) ∧ (e (b + 3)).int = (Day.AZ (a0.ev e).int) := by
 have hp := Be Vm h
 have ho := fun j a => Bf (a := a) Vm j h
 simp only [Wq, gi, gb, gs, gv, ge, List.map_cons, List.map_nil, List.getD_cons_zero, List.getD_cons_succ, L.Az, A.Ak] at hp ho
 exact ⟨hp, (congrArg A.int (ho 0 _ rfl) :), (congrArg A.int (ho 1 _ rfl) :), (congrArg A.int (ho 2 _ rfl) :)⟩
theorem Et {e : Nat → A} {b : Nat} {a0 a1 a2 : L} (h : Def.holds T e ⟨b, .call 13, [a0, a1, a2]⟩) :
  (e b).bool = (true) ∧ (e (b + 1)).bool = (Day.isNode (Day.Fl.mk (a0.ev e).int (a1.ev e).int) (a2.ev e).int) := by
 have hp := Be Vn h
 have ho := fun j a => Bf (a := a) Vn j h
 simp only [Ws, gi, gb, gs, gv, ge, List.map_cons, List.map_nil, List.getD_cons_zero, List.getD_cons_succ, L.Az, A.Ak] at hp ho
 exact ⟨hp, (congrArg A.bool (ho 0 _ rfl) :)⟩
theorem Cx {e : Nat → A} {b : Nat} {a0 a1 a2 : L} (h : Def.holds T e ⟨b, .call 15, [a0, a1, a2]⟩) :
  (e b).bool = (true) ∧ (e (b + 1)).bool = (Day.Bt (Day.Fl.mk (a0.ev e).int (a1.ev e).int) (a2.ev e).int) := by
 have hp := Be Vo h
 have ho := fun j a => Bf (a := a) Vo j h
 simp only [Wu, gi, gb, gs, gv, ge, List.map_cons, List.map_nil, List.getD_cons_zero, List.getD_cons_succ, L.Az, A.Ak] at hp ho
 exact ⟨hp, (congrArg A.bool (ho 0 _ rfl) :)⟩
theorem Gu {e : Nat → A} {b : Nat} {a0 a1 a2 a3 a4 a5 a6 a7 a8 a9 : L} (h : Def.holds T e ⟨b, .call 14, [a0, a1, a2, a3, a4, a5, a6, a7, a8, a9]⟩) :
  ∀ z0, z0 = (Day.Ch.mk (a2.ev e).str (a3.ev e).str (a4.ev e) (a5.ev e).int (a6.ev e).int) → (e b).bool = (true) ∧ (e (b + 1)).str = (Day.BS (Day.Fl.mk (a0.ev e).int (a1.ev e).int) z0 (a7.ev e).int (Day.Fr.mk (a8.ev e).int (a9.ev e).int)) ∧ (e (b + 2)).str = (Day.BT (Day.Fl.mk (a0.ev e).int (a1.ev e).int) z0 (a7.ev e).int (Day.Fr.mk (a8.ev e).int (a9.ev e).int)) := by
 intro z0 hz0
 subst hz0
 have hp := Be Vp h
 have ho := fun j a => Bf (a := a) Vp j h
 simp only [Wv, gi, gb, gs, gv, ge, List.map_cons, List.map_nil, List.getD_cons_zero, List.getD_cons_succ, L.Az, A.Ak] at hp ho
 exact ⟨hp, (congrArg A.str (ho 0 _ rfl) :), (congrArg A.str (ho 1 _ rfl) :)⟩
theorem Dq {e : Nat → A} {b : Nat} {a0 a1 a2 a3 a4 a5 a6 a7 a8 a9 a10 : L} (h : Def.holds T e ⟨b, .call 12, [a0, a1, a2, a3, a4, a5, a6, a7, a8, a9, a10]⟩) :
  ∀ z0, z0 = (Day.Ch.mk (a2.ev e).str (a3.ev e).str (a4.ev e) (a5.ev e).int (a6.ev e).int) → (e b).bool = (true) ∧ (e (b + 1)).str = (Day.CI (Day.Fl.mk (a0.ev e).int (a1.ev e).int) z0 (a7.ev e).int (a8.ev e).int (Day.Fr.mk (a9.ev e).int (a10.ev e).int)) := by
 intro z0 hz0
 subst hz0
 have hp := Be Vq h
 have ho := fun j a => Bf (a := a) Vq j h
 simp only [Ww, gi, gb, gs, gv, ge, List.map_cons, List.map_nil, List.getD_cons_zero, List.getD_cons_succ, L.Az, A.Ak] at hp ho
 exact ⟨hp, (congrArg A.str (ho 0 _ rfl) :)⟩
theorem CJ {e : Nat → A} {b : Nat} {a0 a1 a2 a3 a4 a5 a6 : L} (h : Def.holds T e ⟨b, .call 16, [a0, a1, a2, a3, a4, a5, a6]⟩) :
  ∀ z0, z0 = (Day.Ch.mk (a2.ev e).str (a3.ev e).str (a4.ev e) (a5.ev e).int (a6.ev e).int) → (e b).bool = (true) ∧ (e (b + 1)).bool = (Day.Cf (Day.Fl.mk (a0.ev e).int (a1.ev e).int) z0 0) ∧ (e (b + 2)).bool = (Day.Cf (Day.Fl.mk (a0.ev e).int (a1.ev e).int) z0 1) := by
 intro z0 hz0
 subst hz0
 have hp := Be Vr h
 have ho := fun j a => Bf (a := a) Vr j h
 simp only [Wx, gi, gb, gs, gv, ge, List.map_cons, List.map_nil, List.getD_cons_zero, List.getD_cons_succ, L.Az, A.Ak] at hp ho
 exact ⟨hp, (congrArg A.bool (ho 0 _ rfl) :), (congrArg A.bool (ho 1 _ rfl) :)⟩
theorem Gv {e : Nat → A} {b : Nat} {a0 a1 a2 : L} (h : Def.holds T e ⟨b, .call 20, [a0, a1, a2]⟩) :
  (e b).bool = (true) ∧ (e (b + 1)).bool = (Day.Bq (a0.ev e).int (Day.Fl.mk (a1.ev e).int (a2.ev e).int)) := by
 have hp := Be Vs h
 have ho := fun j a => Bf (a := a) Vs j h
 simp only [Wy, gi, gb, gs, gv, ge, List.map_cons, List.map_nil, List.getD_cons_zero, List.getD_cons_succ, L.Az, A.Ak] at hp ho
 exact ⟨hp, (congrArg A.bool (ho 0 _ rfl) :)⟩
theorem LD {e : Nat → A} {b : Nat} {a0 a1 a2 : L} (h : Def.holds T e ⟨b, .call 18, [a0, a1, a2]⟩) :
  (e b).bool = (true) ∧ (e (b + 1)).int = (((Day.AY (a0.ev e).int (Day.Fl.mk (a1.ev e).int (a2.ev e).int))).cls) ∧ (e (b + 2)).int = (((Day.AY (a0.ev e).int (Day.Fl.mk (a1.ev e).int (a2.ev e).int))).who) ∧ (e (b + 3)).int = (Day.AZ (a0.ev e).int) := by
 have hp := Be Vt h
 have ho := fun j a => Bf (a := a) Vt j h
 simp only [Wz, gi, gb, gs, gv, ge, List.map_cons, List.map_nil, List.getD_cons_zero, List.getD_cons_succ, L.Az, A.Ak] at hp ho
 exact ⟨hp, (congrArg A.int (ho 0 _ rfl) :), (congrArg A.int (ho 1 _ rfl) :), (congrArg A.int (ho 2 _ rfl) :)⟩
theorem Ho {e : Nat → A} {b : Nat} {a0 a1 a2 : L} (h : Def.holds T e ⟨b, .call 21, [a0, a1, a2]⟩) :
  (e b).bool = (true) ∧ (e (b + 1)).bool = (Day.isNode (Day.Fl.mk (a0.ev e).int (a1.ev e).int) (a2.ev e).int) := by
 have hp := Be Vu h
 have ho := fun j a => Bf (a := a) Vu j h
 simp only [WA, gi, gb, gs, gv, ge, List.map_cons, List.map_nil, List.getD_cons_zero, List.getD_cons_succ, L.Az, A.Ak] at hp ho
 exact ⟨hp, (congrArg A.bool (ho 0 _ rfl) :)⟩
theorem Dr {e : Nat → A} {b : Nat} {a0 a1 a2 : L} (h : Def.holds T e ⟨b, .call 22, [a0, a1, a2]⟩) :
  (e b).bool = (true) ∧ (e (b + 1)).bool = (Day.Bt (Day.Fl.mk (a0.ev e).int (a1.ev e).int) (a2.ev e).int) := by
 have hp := Be Vv h
 have ho := fun j a => Bf (a := a) Vv j h
 simp only [WB, gi, gb, gs, gv, ge, List.map_cons, List.map_nil, List.getD_cons_zero, List.getD_cons_succ, L.Az, A.Ak] at hp ho
 exact ⟨hp, (congrArg A.bool (ho 0 _ rfl) :)⟩
theorem LF {e : Nat → A} {b : Nat} {a0 a1 a2 a3 a4 a5 a6 a7 a8 a9 : L} (h : Def.holds T e ⟨b, .call 23, [a0, a1, a2, a3, a4, a5, a6, a7, a8, a9]⟩) :
  ∀ z0, z0 = (Day.Ch.mk (a2.ev e).str (a3.ev e).str (a4.ev e) (a5.ev e).int (a6.ev e).int) → (e b).bool = (true) ∧ (e (b + 1)).str = (Day.BS (Day.Fl.mk (a0.ev e).int (a1.ev e).int) z0 (a7.ev e).int (Day.Fr.mk (a8.ev e).int (a9.ev e).int)) ∧ (e (b + 2)).str = (Day.BT (Day.Fl.mk (a0.ev e).int (a1.ev e).int) z0 (a7.ev e).int (Day.Fr.mk (a8.ev e).int (a9.ev e).int)) := by
 intro z0 hz0
 subst hz0
 have hp := Be Vw h
 have ho := fun j a => Bf (a := a) Vw j h
 simp only [WC, gi, gb, gs, gv, ge, List.map_cons, List.map_nil, List.getD_cons_zero, List.getD_cons_succ, L.Az, A.Ak] at hp ho
 exact ⟨hp, (congrArg A.str (ho 0 _ rfl) :), (congrArg A.str (ho 1 _ rfl) :)⟩
theorem Oh {e : Nat → A} {b : Nat} {a0 a1 a2 a3 a4 a5 a6 a7 a8 a9 a10 : L} (h : Def.holds T e ⟨b, .call 24, [a0, a1, a2, a3, a4, a5, a6, a7, a8, a9, a10]⟩) :
  ∀ z0, z0 = (Day.Ch.mk (a2.ev e).str (a3.ev e).str (a4.ev e) (a5.ev e).int (a6.ev e).int) → (e b).bool = (true) ∧ (e (b + 1)).str = (Day.CI (Day.Fl.mk (a0.ev e).int (a1.ev e).int) z0 (a7.ev e).int (a8.ev e).int (Day.Fr.mk (a9.ev e).int (a10.ev e).int)) := by
 intro z0 hz0
 subst hz0
 have hp := Be Vx h
 have ho := fun j a => Bf (a := a) Vx j h
 simp only [WD, gi, gb, gs, gv, ge, List.map_cons, List.map_nil, List.getD_cons_zero, List.getD_cons_succ, L.Az, A.Ak] at hp ho
 exact ⟨hp, (congrArg A.str (ho 0 _ rfl) :)⟩
theorem Jg {e : Nat → A} {b : Nat} {a0 a1 a2 a3 a4 a5 a6 : L} (h : Def.holds T e ⟨b, .call 25, [a0, a1, a2, a3, a4, a5, a6]⟩) :
  ∀ z0, z0 = (Day.Ch.mk (a2.ev e).str (a3.ev e).str (a4.ev e) (a5.ev e).int (a6.ev e).int) → (e b).bool = (true) ∧ (e (b + 1)).bool = (Day.Cf (Day.Fl.mk (a0.ev e).int (a1.ev e).int) z0 0) ∧ (e (b + 2)).bool = (Day.Cf (Day.Fl.mk (a0.ev e).int (a1.ev e).int) z0 1) := by
 intro z0 hz0
 subst hz0
 have hp := Be Vy h
 have ho := fun j a => Bf (a := a) Vy j h
 simp only [WE, gi, gb, gs, gv, ge, List.map_cons, List.map_nil, List.getD_cons_zero, List.getD_cons_succ, L.Az, A.Ak] at hp ho
 exact ⟨hp, (congrArg A.bool (ho 0 _ rfl) :), (congrArg A.bool (ho 1 _ rfl) :)⟩
theorem Gw {e : Nat → A} {b : Nat} {a0 a1 a2 a3 a4 : L} (h : Def.holds T e ⟨b, .call 9, [a0, a1, a2, a3, a4]⟩) :
  ∀ z0, z0 = (Day.Ch.mk (a0.ev e).str (a1.ev e).str (a2.ev e) (a3.ev e).int (a4.ev e).int) → (e b).bool = (true) ∧ (e (b + 1)).bool = (Day.BE z0) := by
 intro z0 hz0
 subst hz0
 have hp := Be X7 h
 have ho := fun j a => Bf (a := a) X7 j h
 simp only [Yc, gi, gb, gs, gv, ge, List.map_cons, List.map_nil, List.getD_cons_zero, List.getD_cons_succ, L.Az, A.Ak] at hp ho
 exact ⟨hp, (congrArg A.bool (ho 0 _ rfl) :)⟩
theorem CE {e : Nat → A} {b : Nat} (h : Def.holds T e ⟨b, .call 10, []⟩) :
  (e b).bool = (true) ∧ (e (b + 1)).bool = (true) := by
 have hp := Be Vz h
 have ho := fun j a => Bf (a := a) Vz j h
 simp only [WG, gi, gb, gs, gv, ge, List.map_cons, List.map_nil, List.getD_cons_zero, List.getD_cons_succ, L.Az, A.Ak] at hp ho
 exact ⟨hp, (congrArg A.bool (ho 0 _ rfl) :)⟩
theorem TN {e : Nat → A} {b : Nat} {a0 a1 a2 a3 a4 a5 : L} (h : Def.holds T e ⟨b, .call 1020, [a0, a1, a2, a3, a4, a5]⟩) :
  (e b).bool = (Day.u32 (a0.ev e).int && Day.upto (a5.ev e).int 8) ∧ (e (b + 1)).int = (Day.DG (8 - (a5.ev e).int).toNat (a0.ev e).int) := by
 have hp := Be Ns h
 have ho := fun j a => Bf (a := a) Ns j h
 simp only [Hj, gi, gb, gs, gv, ge, List.map_cons, List.map_nil, List.getD_cons_zero, List.getD_cons_succ, L.Az, A.Ak] at hp ho
 exact ⟨hp, (congrArg A.int (ho 0 _ rfl) :)⟩
theorem TO {e : Nat → A} {b : Nat} {a0 a1 a2 a3 a4 a5 : L} (h : Def.holds T e ⟨b, .call 1030, [a0, a1, a2, a3, a4, a5]⟩) :
  (e b).bool = (Day.u32 (a0.ev e).int && Day.upto (a2.ev e).int 8) ∧ (e (b + 1)).int = (Day.DG (8 - (a2.ev e).int).toNat (a0.ev e).int) := by
 have hp := Be Nt h
 have ho := fun j a => Bf (a := a) Nt j h
 simp only [Hk, gi, gb, gs, gv, ge, List.map_cons, List.map_nil, List.getD_cons_zero, List.getD_cons_succ, L.Az, A.Ak] at hp ho
 exact ⟨hp, (congrArg A.int (ho 0 _ rfl) :)⟩
theorem TP {e : Nat → A} {b : Nat} {a0 a1 a2 a3 a4 : L} (h : Def.holds T e ⟨b, .call 1040, [a0, a1, a2, a3, a4]⟩) :
  (e b).bool = (Day.u32 (a1.ev e).int && (Day.upto (a3.ev e).int (a2.ev e).int && (Day.Es (a4.ev e) (a2.ev e).int && Day.Iy (a2.ev e).int))) ∧ (e (b + 1)).int = (Day.BR ((a4.ev e).GW.drop (a3.ev e).int.toNat) (a1.ev e).int) := by
 have hp := Be Nu h
 have ho := fun j a => Bf (a := a) Nu j h
 simp only [Hl, gi, gb, gs, gv, ge, List.map_cons, List.map_nil, List.getD_cons_zero, List.getD_cons_succ, L.Az, A.Ak] at hp ho
 exact ⟨hp, (congrArg A.int (ho 0 _ rfl) :)⟩
theorem TQ {e : Nat → A} {b : Nat} {a0 a1 a2 : L} (h : Def.holds T e ⟨b, .call 1050, [a0, a1, a2]⟩) :
  (e b).bool = (Day.u32 (a1.ev e).int && (Day.upto (a2.ev e).int (Day.Er (a0.ev e).str) && Day.B0 (a0.ev e).str)) ∧ (e (b + 1)).int = (Day.BR ((Day.Bp (a0.ev e).str).drop (a2.ev e).int.toNat) (a1.ev e).int) := by
 have hp := Be Nv h
 have ho := fun j a => Bf (a := a) Nv j h
 simp only [Hm, gi, gb, gs, gv, ge, List.map_cons, List.map_nil, List.getD_cons_zero, List.getD_cons_succ, L.Az, A.Ak] at hp ho
 exact ⟨hp, (congrArg A.int (ho 0 _ rfl) :)⟩
end Rx.S
