import Derived.Test.YtikhhempbdimhaaSXc
import Derived.Test.YtikhhempbdimhaaSXd
set_option linter.unusedVariables false
set_option linter.unusedSimpArgs false
namespace Rx.S
open Go Rx
set_option maxRecDepth 100000
def Abg (al : List A) : Bool × List A := (Day.u32 (gi al 0) && Day.u8 (gi al 1), [.i (Day.M7 (gi al 0) (gi al 1))])
def Abh (al : List A) : Bool × List A := (Day.u32 (gi al 0) && Day.u8 (gi al 1), [.i (Day.M7 (gi al 0) (gi al 1))])
def Abi (al : List A) : Bool × List A := (Day.CH (gs al 0), [.i (Day.KX (gs al 0))])
def Abj (al : List A) : Bool × List A := (Day.CH (gs al 0), [.i (Day.KX (gs al 0))])
def Abk (al : List A) : Bool × List A := (Day.u32 (gi al 0), [.v (.string (Day.LH (gi al 0)))])
def Abl (al : List A) : Bool × List A := (Day.u32 (gi al 0), [.v (.string (Day.LH (gi al 0)))])
def Abm (al : List A) : Bool × List A := (true, [.b (Day.Fu (Day.Fr.mk (gi al 0) (gi al 1)))])
def Abn (al : List A) : Bool × List A := (true, [.b (Day.Fu (Day.Fr.mk (gi al 0) (gi al 1)))])
def Aau (al : List A) : Bool × List A := (true, [.v (.string (Day.J2 (Day.Fr.mk (gi al 0) (gi al 1))))])
def Abo (al : List A) : Bool × List A := (true, [.v (.string (Day.J2 (Day.Fr.mk (gi al 0) (gi al 1))))])
def Aav (al : List A) : Bool × List A := (Day.C1 (gi al 1), [.i (Day.Ci (gs al 0) (gi al 1))])
def Aaw (al : List A) : Bool × List A := (Day.IC (gi al 1) && Day.FC (gs al 0), [.v (.string (Day.HE (gs al 0) (gi al 1) (gi al 2))), .i (Day.DS (gs al 0) (gi al 1))])
def Acm (al : List A) : Bool × List A := let r0 := Day.Cu (gs al 0); (Day.FC (gs al 0), [.i (((r0)).n), ((r0)).px, .i (((r0)).pn), .i (((r0)).cls), .i (((r0)).who), .b (((r0)).ld), ((r0)).nx, .i (((r0)).nn), .i (((r0)).h0.a 0), .i (((r0)).h0.a 1), .i (((r0)).h0.a 2), .i (((r0)).h0.a 3), .i (((r0)).h0.a 4), .i (((r0)).h0.a 5), .i (((r0)).h0.a 6), .i (((r0)).h0.a 7), .i (((r0)).h0.port), .i (((r0)).h0.age), .i (((r0)).h0.hold), .i (((r0)).h0.pos), .i (((r0)).h1.a 0), .i (((r0)).h1.a 1), .i (((r0)).h1.a 2), .i (((r0)).h1.a 3), .i (((r0)).h1.a 4), .i (((r0)).h1.a 5), .i (((r0)).h1.a 6), .i (((r0)).h1.a 7), .i (((r0)).h1.port), .i (((r0)).h1.age), .i (((r0)).h1.hold), .i (((r0)).h1.pos), ((r0)).tx, .i (((r0)).tn)])
def Abp (al : List A) : Bool × List A := (Day.Yh (Day.L1.mk (ge al 0) (gi al 1)), [.b (Day.GJ (Day.L1.mk (ge al 0) (gi al 1)) (Day.L1.mk (ge al 2) (gi al 3)))])
def Abq (al : List A) : Bool × List A := (Day.Yh (Day.L1.mk (ge al 0) (gi al 1)), [.b (Day.D8 (Day.L1.mk (ge al 0) (gi al 1)) (Day.L1.mk (ge al 2) (gi al 3)))])
def Abr (al : List A) : Bool × List A := (Day.VP (Day.L1.mk (ge al 0) (gi al 1)), [.b (Day.Km (Day.L1.mk (ge al 0) (gi al 1)) (Day.L1.mk (ge al 2) (gi al 3)))])
def t_8 (al : List A) : Bool × List A := let z0 := (Day.Sc.mk (gi al 0) (ge al 1) (gi al 2) (gi al 3) (gi al 4) (gb al 5) (ge al 6) (gi al 7) (Day.HB.mk [(gi al 8), (gi al 9), (gi al 10), (gi al 11), (gi al 12), (gi al 13), (gi al 14), (gi al 15)] (gi al 16) (gi al 17) (gi al 18) (gi al 19)) (Day.HB.mk [(gi al 20), (gi al 21), (gi al 22), (gi al 23), (gi al 24), (gi al 25), (gi al 26), (gi al 27)] (gi al 28) (gi al 29) (gi al 30) (gi al 31)) (ge al 32) (gi al 33)); let z1 := (Day.Sc.mk (gi al 34) (ge al 35) (gi al 36) (gi al 37) (gi al 38) (gb al 39) (ge al 40) (gi al 41) (Day.HB.mk [(gi al 42), (gi al 43), (gi al 44), (gi al 45), (gi al 46), (gi al 47), (gi al 48), (gi al 49)] (gi al 50) (gi al 51) (gi al 52) (gi al 53)) (Day.HB.mk [(gi al 54), (gi al 55), (gi al 56), (gi al 57), (gi al 58), (gi al 59), (gi al 60), (gi al 61)] (gi al 62) (gi al 63) (gi al 64) (gi al 65)) (ge al 66) (gi al 67)); (Day.Yi z0, [.b (Day.Uk z0 z1)])
def t_9 (al : List A) : Bool × List A := let r0 := Day.Cu (gs al 0); (Day.FC (gs al 0), [.i (((r0)).n), ((r0)).px, .i (((r0)).pn), .i (((r0)).cls), .i (((r0)).who), .b (((r0)).ld), ((r0)).nx, .i (((r0)).nn), .i (((r0)).h0.a 0), .i (((r0)).h0.a 1), .i (((r0)).h0.a 2), .i (((r0)).h0.a 3), .i (((r0)).h0.a 4), .i (((r0)).h0.a 5), .i (((r0)).h0.a 6), .i (((r0)).h0.a 7), .i (((r0)).h0.port), .i (((r0)).h0.age), .i (((r0)).h0.hold), .i (((r0)).h0.pos), .i (((r0)).h1.a 0), .i (((r0)).h1.a 1), .i (((r0)).h1.a 2), .i (((r0)).h1.a 3), .i (((r0)).h1.a 4), .i (((r0)).h1.a 5), .i (((r0)).h1.a 6), .i (((r0)).h1.a 7), .i (((r0)).h1.port), .i (((r0)).h1.age), .i (((r0)).h1.hold), .i (((r0)).h1.pos), ((r0)).tx, .i (((r0)).tn)])
def t_7 (al : List A) : Bool × List A := (true, [.b (true)])
def t_3 (al : List A) : Bool × List A := (true, [.b (true)])
def t_4 (al : List A) : Bool × List A := (true, [.b (true)])
def IE (al : List A) : Bool × List A := (Day.u32 (gi al 0) && Day.CV (gi al 5) 8, [.i (Day.Eo (8 - (gi al 5)).toNat (gi al 0))])
def IF (al : List A) : Bool × List A := (Day.u32 (gi al 0) && Day.CV (gi al 2) 8, [.i (Day.Eo (8 - (gi al 2)).toNat (gi al 0))])
def IG (al : List A) : Bool × List A := (Day.u32 (gi al 1) && (Day.CV (gi al 3) (gi al 2) && (Day.Ft (ge al 4) (gi al 2) && Day.Kk (gi al 2))), [.i (Day.Cv ((ge al 4).AJ.drop (gi al 3).toNat) (gi al 1))])
def II (al : List A) : Bool × List A := (Day.u32 (gi al 1) && (Day.CV (gi al 2) (Day.Fs (gs al 0)) && Day.CH (gs al 0)), [.i (Day.Cv ((Day.BS (gs al 0)).drop (gi al 2).toNat) (gi al 1))])
def IJ (al : List A) : Bool × List A := (Day.cP (gs al 0) (gi al 1) (gi al 5) (gi al 6) (Day.L1.mk (ge al 13) (gi al 4)), [.i ((gi al 5)), Day.cX (gs al 0) (gi al 1) (gi al 5) (gi al 6) (Day.L1.mk (ge al 13) (gi al 4))])
def IK (al : List A) : Bool × List A := (Day.ndQ (gs al 0) (gi al 1) (gi al 2) (ge al 6) (Day.L1.mk (ge al 8) (gi al 7)), [.i (Day.ndI (gi al 1) (gi al 2) ((ge al 6)).int), .i ((gi al 2)), Day.Y1 (gs al 0) (gi al 1) (gi al 2) ((ge al 6)).int (Day.L1.mk (ge al 8) (gi al 7))])
def IL (al : List A) : Bool × List A := (Day.agP (gi al 1) (gi al 2) (gi al 6), [.i (Day.BT (gs al 0) (gi al 1) (gi al 2) (gi al 6) (gi al 8) 0), .i (Day.BT (gs al 0) (gi al 1) (gi al 2) (gi al 6) (gi al 9) 1), .i (Day.BT (gs al 0) (gi al 1) (gi al 2) (gi al 6) (gi al 10) 2), .i (Day.BT (gs al 0) (gi al 1) (gi al 2) (gi al 6) (gi al 11) 3), .i (Day.BT (gs al 0) (gi al 1) (gi al 2) (gi al 6) (gi al 12) 4), .i (Day.BT (gs al 0) (gi al 1) (gi al 2) (gi al 6) (gi al 13) 5), .i (Day.BT (gs al 0) (gi al 1) (gi al 2) (gi al 6) (gi al 14) 6), .i (Day.BT (gs al 0) (gi al 1) (gi al 2) (gi al 6) (gi al 15) 7)])
def IM (al : List A) : Bool × List A := (Day.agP (gi al 1) (gi al 2) (gi al 6), [.i (Day.BT (gs al 0) (gi al 1) (gi al 2) (gi al 6) (gi al 25) 0), .i (Day.BT (gs al 0) (gi al 1) (gi al 2) (gi al 6) (gi al 26) 1), .i (Day.BT (gs al 0) (gi al 1) (gi al 2) (gi al 6) (gi al 27) 2), .i (Day.BT (gs al 0) (gi al 1) (gi al 2) (gi al 6) (gi al 28) 3), .i (Day.BT (gs al 0) (gi al 1) (gi al 2) (gi al 6) (gi al 29) 4), .i (Day.BT (gs al 0) (gi al 1) (gi al 2) (gi al 6) (gi al 30) 5), .i (Day.BT (gs al 0) (gi al 1) (gi al 2) (gi al 6) (gi al 31) 6), .i (Day.BT (gs al 0) (gi al 1) (gi al 2) (gi al 6) (gi al 32) 7)])
def IN (al : List A) : Bool × List A := (Day.cP (gs al 0) 1 (gi al 2) (gi al 1) (Day.L1.mk (ge al 7) (gi al 6)), [.i ((gi al 2)), Day.cX (gs al 0) 1 (gi al 2) (gi al 1) (Day.L1.mk (ge al 7) (gi al 6))])
def IP (al : List A) : Bool × List A := (Day.cP (gs al 0) (gi al 1) (gi al 2) (gi al 33) (Day.L1.mk (ge al 40) (gi al 39)), [.i ((gi al 2)), .i ((gi al 2)), .b (false), .i ((gi al 2)), Day.Y2 (gs al 0) (gi al 1) (gi al 2) (gi al 33) (Day.L1.mk (ge al 40) (gi al 39))])
def IQ (al : List A) : Bool × List A := (Day.UZ (gi al 2) (gi al 3) (gi al 1) (gi al 4) (Day.L1.mk (ge al 44) (gi al 41)) && Day.FC (gs al 0), [.i (Day.Xx (gs al 0) (gi al 4) (gi al 5) ((gi al 2) - (gi al 3)).toNat (gi al 1)), .i ((gi al 2)), Day.Um (gs al 0) (gi al 2) (gi al 3) (gi al 1) (gi al 4) (gi al 5) (gi al 6) (Day.L1.mk (ge al 44) (gi al 41))])
def IS (al : List A) : Bool × List A := (Day.Y0 (Day.L1.mk (ge al 4) (gi al 0)) (Day.L1.mk (ge al 5) (gi al 1)) (gi al 2), [.b (Day.VO (Day.L1.mk (ge al 4) (gi al 0)) (Day.L1.mk (ge al 5) (gi al 1)) (gi al 2)), .b (Day.Nb (Day.L1.mk (ge al 4) (gi al 0)) (Day.L1.mk (ge al 5) (gi al 1)) (gi al 2))])
def IT (al : List A) : Bool × List A := (Day.Y0 (Day.L1.mk (ge al 4) (gi al 0)) (Day.L1.mk (ge al 5) (gi al 1)) (gi al 2), [.b (Day.PG (Day.L1.mk (ge al 4) (gi al 0)) (Day.L1.mk (ge al 5) (gi al 1)) (gi al 2)), .b (Day.GK (Day.L1.mk (ge al 4) (gi al 0)) (Day.L1.mk (ge al 5) (gi al 1)) (gi al 2))])
def IU (al : List A) : Bool × List A := (Day.chP (Day.L1.mk (ge al 4) (gi al 0)) (Day.L1.mk (ge al 5) (gi al 1)) (gi al 2), [.b (Day.PH (Day.L1.mk (ge al 4) (gi al 0)) (Day.L1.mk (ge al 5) (gi al 1)) (gi al 2)), .b (Day.GL (Day.L1.mk (ge al 4) (gi al 0)) (Day.L1.mk (ge al 5) (gi al 1)) (gi al 2))])
def IV (al : List A) : Bool × List A := (Day.VQ (ge al 1) && Day.Y3 (gi al 3) ((ge al 1)).int (gi al 0) (ge al 7), [.i (Day.Y5 (gi al 3) ((ge al 1)).int (gi al 0)), Day.Y4 (gs al 2) (gi al 3) ((ge al 1)).int (gi al 0) (ge al 7)])
def IW (al : List A) : Bool × List A := (Day.Kn (gi al 3) (gi al 1) (gi al 0) (ge al 8), [.i (Day.H2 (gi al 3) (gi al 1) (gi al 0)), Day.H0 (gs al 2) 0 (gi al 3) (gi al 1) (gi al 0) (ge al 8)])
def IX (al : List A) : Bool × List A := (Day.Kn (gi al 3) (gi al 1) (gi al 0) (ge al 21), [.i (Day.H2 (gi al 3) (gi al 1) (gi al 0)), Day.H0 (gs al 2) 0 (gi al 3) (gi al 1) (gi al 0) (ge al 21)])
def IY (al : List A) : Bool × List A := (Day.Kn (gi al 3) (gi al 1) (gi al 0) (ge al 7), [.i (Day.H2 (gi al 3) (gi al 1) (gi al 0)), Day.H0 (gs al 2) 0 (gi al 3) (gi al 1) (gi al 0) (ge al 7)])
def IZ (al : List A) : Bool × List A := (Day.Kn (gi al 3) (gi al 1) (gi al 0) (ge al 38), [.i ((gi al 0)), .b (false), .i (Day.H2 (gi al 3) (gi al 1) (gi al 0)), Day.H0 (gs al 2) 0 (gi al 3) (gi al 1) (gi al 0) (ge al 38)])
def I0 (al : List A) : Bool × List A := (Day.U0 (gi al 7) (gi al 8) (gi al 2) (ge al 44) (ge al 45), [.i ((gi al 7)), .i ((gi al 7)), .b (false), Day.Uo (gi al 8) (ge al 44) (ge al 45)])
def I1 (al : List A) : Bool × List A := (Day.Kn (gi al 3) (gi al 1) (gi al 0) (ge al 39), [.i ((gi al 0)), .b (false), .i (Day.H2 (gi al 3) (gi al 1) (gi al 0)), Day.H0 (gs al 2) 0 (gi al 3) (gi al 1) (gi al 0) (ge al 39)])
def I2 (al : List A) : Bool × List A := (Day.U0 (gi al 7) (gi al 8) (gi al 2) (ge al 45) (ge al 46), [.i ((gi al 7)), .i ((gi al 7)), .b (false), Day.Uo (gi al 8) (ge al 45) (ge al 46)])
def I3 (al : List A) : Bool × List A := (Day.Kn (gi al 3) (gi al 1) (gi al 0) (ge al 37), [.i ((gi al 0)), .b (false), .i (Day.H2 (gi al 3) (gi al 1) (gi al 0)), Day.H0 (gs al 2) 3 (gi al 3) (gi al 1) (gi al 0) (ge al 37)])
def I4 (al : List A) : Bool × List A := (Day.UZ (gi al 3) (gi al 13) (gi al 14) (gi al 6) (Day.L1.mk (ge al 45) (gi al 42)) && Day.FC (gs al 0), [.i (Day.Xx (gs al 0) (gi al 6) (gi al 7) ((gi al 3) - (gi al 13)).toNat (gi al 14)), .i ((gi al 3)), Day.Um (gs al 0) (gi al 3) (gi al 13) (gi al 14) (gi al 6) (gi al 7) (gi al 16) (Day.L1.mk (ge al 45) (gi al 42))])
def table : List (Nat × (List A → Bool × List A)) := [(61, Abg), (62, Abh), (57, Abi), (60, Abj), (56, Abk), (59, Abl), (55, Abm), (58, Abn), (50, Aau), (52, Abo), (26, Aav), (41, Aaw), (10, Acm), (15, Abp), (16, Abq), (17, Abr), (8, t_8), (9, t_9), (7, t_7), (3, t_3), (4, t_4), (1020, IE), (1030, IF), (1040, IG), (1050, II), (1170, IJ), (1180, IK), (1181, IL), (1182, IM), (1183, IN), (1186, IP), (1187, IQ), (1190, IS), (1200, IT), (1210, IU), (1230, IV), (1231, IW), (1232, IX), (1233, IY), (1244, IZ), (1245, I0), (1246, I1), (1247, I2), (1248, I3), (1249, I4)]
def T : Nat → List A → Bool × List A := tab table
theorem Aax : T 61 = Abg := rfl
theorem Aay : T 62 = Abh := rfl
theorem Aaz : T 57 = Abi := rfl
theorem AaA : T 60 = Abj := rfl
theorem AaB : T 56 = Abk := rfl
theorem AaC : T 59 = Abl := rfl
theorem AaD : T 55 = Abm := rfl
theorem AaE : T 58 = Abn := rfl
theorem Ym : T 50 = Aau := rfl
theorem AaF : T 52 = Abo := rfl
theorem Yn : T 26 = Aav := rfl
theorem Yo : T 41 = Aaw := rfl
theorem Abs : T 10 = Acm := rfl
theorem AaG : T 15 = Abp := rfl
theorem AaH : T 16 = Abq := rfl
theorem AaI : T 17 = Abr := rfl
theorem T_8 : T 8 = t_8 := rfl
theorem T_9 : T 9 = t_9 := rfl
theorem T_7 : T 7 = t_7 := rfl
theorem T_3 : T 3 = t_3 := rfl
theorem T_4 : T 4 = t_4 := rfl
theorem PL : T 1020 = IE := rfl
theorem PM : T 1030 = IF := rfl
theorem PN : T 1040 = IG := rfl
theorem PO : T 1050 = II := rfl
theorem PQ : T 1170 = IJ := rfl
theorem PR : T 1180 = IK := rfl
theorem PT : T 1181 = IL := rfl
theorem PU : T 1182 = IM := rfl
theorem PW : T 1183 = IN := rfl
theorem PX : T 1186 = IP := rfl
theorem PY : T 1187 = IQ := rfl
theorem PZ : T 1190 = IS := rfl
theorem P0 : T 1200 = IT := rfl
theorem P1 : T 1210 = IU := rfl
theorem P2 : T 1230 = IV := rfl
theorem P3 : T 1231 = IW := rfl
theorem P4 : T 1232 = IX := rfl
theorem P5 : T 1233 = IY := rfl
theorem P6 : T 1244 = IZ := rfl
theorem P7 : T 1245 = I0 := rfl
theorem P8 : T 1246 = I1 := rfl
theorem P9 : T 1247 = I2 := rfl
theorem Qa : T 1248 = I3 := rfl
theorem Qb : T 1249 = I4 := rfl
def ws : List (Nat × Nat) := [(61, 2), (62, 2), (57, 2), (60, 2), (56, 2), (59, 2), (55, 2), (58, 2), (50, 2), (52, 2), (26, 2), (41, 3), (10, 35), (15, 2), (16, 2), (17, 2), (8, 2), (9, 35), (7, 2), (3, 2), (4, 2), (1020, 2), (1030, 2), (1040, 2), (1050, 2), (1170, 3), (1180, 4), (1181, 9), (1182, 9), (1183, 3), (1186, 6), (1187, 4), (1190, 3), (1200, 3), (1210, 3), (1230, 3), (1231, 3), (1232, 3), (1233, 3), (1244, 5), (1245, 5), (1246, 5), (1247, 5), (1248, 5), (1249, 4)]
theorem AI : ET T ws := fun f k h al => by
 have := Lm h
 simp only [ws, List.mem_cons, List.not_mem_nil, or_false, Prod.mk.injEq] at this
 rcases this with ⟨rfl, rfl⟩ | ⟨rfl, rfl⟩ | ⟨rfl, rfl⟩ | ⟨rfl, rfl⟩ | ⟨rfl, rfl⟩ | ⟨rfl, rfl⟩ | ⟨rfl, rfl⟩ | ⟨rfl, rfl⟩ | ⟨rfl, rfl⟩ | ⟨rfl, rfl⟩ | ⟨rfl, rfl⟩ | ⟨rfl, rfl⟩ | ⟨rfl, rfl⟩ | ⟨rfl, rfl⟩ | ⟨rfl, rfl⟩ | ⟨rfl, rfl⟩ | ⟨rfl, rfl⟩ | ⟨rfl, rfl⟩ | ⟨rfl, rfl⟩ | ⟨rfl, rfl⟩ | ⟨rfl, rfl⟩ | ⟨rfl, rfl⟩ | ⟨rfl, rfl⟩ | ⟨rfl, rfl⟩ | ⟨rfl, rfl⟩ | ⟨rfl, rfl⟩ | ⟨rfl, rfl⟩ | ⟨rfl, rfl⟩ | ⟨rfl, rfl⟩ | ⟨rfl, rfl⟩ | ⟨rfl, rfl⟩ | ⟨rfl, rfl⟩ | ⟨rfl, rfl⟩ | ⟨rfl, rfl⟩ | ⟨rfl, rfl⟩ | ⟨rfl, rfl⟩ | ⟨rfl, rfl⟩ | ⟨rfl, rfl⟩ | ⟨rfl, rfl⟩ | ⟨rfl, rfl⟩ | ⟨rfl, rfl⟩ | ⟨rfl, rfl⟩ | ⟨rfl, rfl⟩ | ⟨rfl, rfl⟩ | ⟨rfl, rfl⟩
 ·rw [Aax]; exact Nat.le_refl _
 ·rw [Aay]; exact Nat.le_refl _
 ·rw [Aaz]; exact Nat.le_refl _
 ·rw [AaA]; exact Nat.le_refl _
 ·rw [AaB]; exact Nat.le_refl _
 ·rw [AaC]; exact Nat.le_refl _
 ·rw [AaD]; exact Nat.le_refl _
 ·rw [AaE]; exact Nat.le_refl _
 ·rw [Ym]; exact Nat.le_refl _
 ·rw [AaF]; exact Nat.le_refl _
 ·rw [Yn]; exact Nat.le_refl _
 ·rw [Yo]; exact Nat.le_refl _
 ·rw [Abs]; exact Nat.le_refl _
 ·rw [AaG]; exact Nat.le_refl _
 ·rw [AaH]; exact Nat.le_refl _
 ·rw [AaI]; exact Nat.le_refl _
 ·rw [T_8]; exact Nat.le_refl _
 ·rw [T_9]; exact Nat.le_refl _
 ·rw [T_7]; exact Nat.le_refl _
 ·rw [T_3]; exact Nat.le_refl _
 ·rw [T_4]; exact Nat.le_refl _
 ·rw [PL]; exact Nat.le_refl _
 ·rw [PM]; exact Nat.le_refl _
 ·rw [PN]; exact Nat.le_refl _
 ·rw [PO]; exact Nat.le_refl _
 ·rw [PQ]; exact Nat.le_refl _
 ·rw [PR]; exact Nat.le_refl _
 ·rw [PT]; exact Nat.le_refl _
 ·rw [PU]; exact Nat.le_refl _
 ·rw [PW]; exact Nat.le_refl _
 ·rw [PX]; exact Nat.le_refl _
 ·rw [PY]; exact Nat.le_refl _
 ·rw [PZ]; exact Nat.le_refl _
 ·rw [P0]; exact Nat.le_refl _
 ·rw [P1]; exact Nat.le_refl _
 ·rw [P2]; exact Nat.le_refl _
 ·rw [P3]; exact Nat.le_refl _
 ·rw [P4]; exact Nat.le_refl _
 ·rw [P5]; exact Nat.le_refl _
 ·rw [P6]; exact Nat.le_refl _
 ·rw [P7]; exact Nat.le_refl _
 ·rw [P8]; exact Nat.le_refl _
 ·rw [P9]; exact Nat.le_refl _
 ·rw [Qa]; exact Nat.le_refl _
 ·rw [Qb]; exact Nat.le_refl _
theorem AaJ {a : A} {x : Int} (h : a = .i x) : KW a := by subst h; rfl
theorem AaK {a : A} {x : ByteArray} (h : a = .v (.string x)) : Z4 a := by subst h; rfl
theorem A5 {a b : Int} {l m : List A} (h : a = b) (k : l = m) : (A.i a :: l) = (A.i b :: m) := by subst h k; rfl
theorem HF {a b : Bool} {l m : List A} (h : a = b) (k : l = m) : (A.b a :: l) = (A.b b :: m) := by subst h k; rfl
theorem Fw {a b : A} {l m : List A} (h : a = b) (k : l = m) : (a :: l) = (b :: m) := by subst h k; rfl
theorem Ur {e : Nat → A} {b : Nat} {a0 a1 : L} (h : Def.holds T e ⟨b, .call 61, [a0, a1]⟩) :
  (e b).bool = (Day.u32 (a0.ev e).int && Day.u8 (a1.ev e).int) ∧ (e (b + 1)).int = (Day.M7 (a0.ev e).int (a1.ev e).int) := by
 have hp := A7 Aax h
 have ho := fun j a => A1 (a := a) Aax j h
 simp only [Abg, gi, gb, gs, gv, ge, List.map_cons, List.map_nil, List.getD_cons_zero, List.getD_cons_succ, L.Aw, A.Ai] at hp ho
 exact ⟨hp, (congrArg A.int (ho 0 _ rfl) :)⟩
theorem QS {e : Nat → A} {b : Nat} {a0 a1 : L} (h : Def.holds T e ⟨b, .call 62, [a0, a1]⟩) :
  (e b).bool = (Day.u32 (a0.ev e).int && Day.u8 (a1.ev e).int) ∧ (e (b + 1)).int = (Day.M7 (a0.ev e).int (a1.ev e).int) := by
 have hp := A7 Aay h
 have ho := fun j a => A1 (a := a) Aay j h
 simp only [Abh, gi, gb, gs, gv, ge, List.map_cons, List.map_nil, List.getD_cons_zero, List.getD_cons_succ, L.Aw, A.Ai] at hp ho
 exact ⟨hp, (congrArg A.int (ho 0 _ rfl) :)⟩
theorem Us {e : Nat → A} {b : Nat} {a0 : L} (h : Def.holds T e ⟨b, .call 57, [a0]⟩) :
  (e b).bool = (Day.CH (a0.ev e).str) ∧ (e (b + 1)).int = (Day.KX (a0.ev e).str) := by
 have hp := A7 Aaz h
 have ho := fun j a => A1 (a := a) Aaz j h
 simp only [Abi, gi, gb, gs, gv, ge, List.map_cons, List.map_nil, List.getD_cons_zero, List.getD_cons_succ, L.Aw, A.Ai] at hp ho
 exact ⟨hp, (congrArg A.int (ho 0 _ rfl) :)⟩
theorem QT {e : Nat → A} {b : Nat} {a0 : L} (h : Def.holds T e ⟨b, .call 60, [a0]⟩) :
  (e b).bool = (Day.CH (a0.ev e).str) ∧ (e (b + 1)).int = (Day.KX (a0.ev e).str) := by
 have hp := A7 AaA h
 have ho := fun j a => A1 (a := a) AaA j h
 simp only [Abj, gi, gb, gs, gv, ge, List.map_cons, List.map_nil, List.getD_cons_zero, List.getD_cons_succ, L.Aw, A.Ai] at hp ho
 exact ⟨hp, (congrArg A.int (ho 0 _ rfl) :)⟩
theorem S3 {e : Nat → A} {b : Nat} {a0 : L} (h : Def.holds T e ⟨b, .call 56, [a0]⟩) :
  (e b).bool = (Day.u32 (a0.ev e).int) ∧ (e (b + 1)).str = (Day.LH (a0.ev e).int) := by
 have hp := A7 AaB h
 have ho := fun j a => A1 (a := a) AaB j h
 simp only [Abk, gi, gb, gs, gv, ge, List.map_cons, List.map_nil, List.getD_cons_zero, List.getD_cons_succ, L.Aw, A.Ai] at hp ho
 exact ⟨hp, (congrArg A.str (ho 0 _ rfl) :)⟩
theorem Qc {e : Nat → A} {b : Nat} {a0 : L} (h : Def.holds T e ⟨b, .call 59, [a0]⟩) :
  (e b).bool = (Day.u32 (a0.ev e).int) ∧ (e (b + 1)).str = (Day.LH (a0.ev e).int) := by
 have hp := A7 AaC h
 have ho := fun j a => A1 (a := a) AaC j h
 simp only [Abl, gi, gb, gs, gv, ge, List.map_cons, List.map_nil, List.getD_cons_zero, List.getD_cons_succ, L.Aw, A.Ai] at hp ho
 exact ⟨hp, (congrArg A.str (ho 0 _ rfl) :)⟩
theorem Qd {e : Nat → A} {b : Nat} {a0 a1 : L} (h : Def.holds T e ⟨b, .call 55, [a0, a1]⟩) :
  (e b).bool = (true) ∧ (e (b + 1)).bool = (Day.Fu (Day.Fr.mk (a0.ev e).int (a1.ev e).int)) := by
 have hp := A7 AaD h
 have ho := fun j a => A1 (a := a) AaD j h
 simp only [Abm, gi, gb, gs, gv, ge, List.map_cons, List.map_nil, List.getD_cons_zero, List.getD_cons_succ, L.Aw, A.Ai] at hp ho
 exact ⟨hp, (congrArg A.bool (ho 0 _ rfl) :)⟩
theorem NW {e : Nat → A} {b : Nat} {a0 a1 : L} (h : Def.holds T e ⟨b, .call 58, [a0, a1]⟩) :
  (e b).bool = (true) ∧ (e (b + 1)).bool = (Day.Fu (Day.Fr.mk (a0.ev e).int (a1.ev e).int)) := by
 have hp := A7 AaE h
 have ho := fun j a => A1 (a := a) AaE j h
 simp only [Abn, gi, gb, gs, gv, ge, List.map_cons, List.map_nil, List.getD_cons_zero, List.getD_cons_succ, L.Aw, A.Ai] at hp ho
 exact ⟨hp, (congrArg A.bool (ho 0 _ rfl) :)⟩
theorem LK {e : Nat → A} {b : Nat} {a0 a1 : L} (h : Def.holds T e ⟨b, .call 50, [a0, a1]⟩) :
  (e b).bool = (true) ∧ (e (b + 1)).str = (Day.J2 (Day.Fr.mk (a0.ev e).int (a1.ev e).int)) := by
 have hp := A7 Ym h
 have ho := fun j a => A1 (a := a) Ym j h
 simp only [Aau, gi, gb, gs, gv, ge, List.map_cons, List.map_nil, List.getD_cons_zero, List.getD_cons_succ, L.Aw, A.Ai] at hp ho
 exact ⟨hp, (congrArg A.str (ho 0 _ rfl) :)⟩
theorem Ko {e : Nat → A} {b : Nat} {a0 a1 : L} (h : Def.holds T e ⟨b, .call 50, [a0, a1]⟩) :
  Z4 (e (b + 1)) := by
 have ho := fun j a => A1 (a := a) Ym j h
 simp only [Aau, gi, gb, gs, gv, ge, List.map_cons, List.map_nil, List.getD_cons_zero, List.getD_cons_succ, L.Aw, A.Ai] at ho
 exact AaK (ho 0 _ rfl)
theorem QU {e : Nat → A} {b : Nat} {a0 a1 : L} (h : Def.holds T e ⟨b, .call 52, [a0, a1]⟩) :
  (e b).bool = (true) ∧ (e (b + 1)).str = (Day.J2 (Day.Fr.mk (a0.ev e).int (a1.ev e).int)) := by
 have hp := A7 AaF h
 have ho := fun j a => A1 (a := a) AaF j h
 simp only [Abo, gi, gb, gs, gv, ge, List.map_cons, List.map_nil, List.getD_cons_zero, List.getD_cons_succ, L.Aw, A.Ai] at hp ho
 exact ⟨hp, (congrArg A.str (ho 0 _ rfl) :)⟩
theorem Al {e : Nat → A} {b : Nat} {a0 a1 : L} (h : Def.holds T e ⟨b, .call 26, [a0, a1]⟩) :
  (e b).bool = (Day.C1 (a1.ev e).int) ∧ (e (b + 1)).int = (Day.Ci (a0.ev e).str (a1.ev e).int) := by
 have hp := A7 Yn h
 have ho := fun j a => A1 (a := a) Yn j h
 simp only [Aav, gi, gb, gs, gv, ge, List.map_cons, List.map_nil, List.getD_cons_zero, List.getD_cons_succ, L.Aw, A.Ai] at hp ho
 exact ⟨hp, (congrArg A.int (ho 0 _ rfl) :)⟩
theorem Gd {e : Nat → A} {b : Nat} {a0 a1 : L} (h : Def.holds T e ⟨b, .call 26, [a0, a1]⟩) :
  KW (e (b + 1)) := by
 have ho := fun j a => A1 (a := a) Yn j h
 simp only [Aav, gi, gb, gs, gv, ge, List.map_cons, List.map_nil, List.getD_cons_zero, List.getD_cons_succ, L.Aw, A.Ai] at ho
 exact AaJ (ho 0 _ rfl)
theorem FV {e : Nat → A} {b : Nat} {a0 a1 a2 : L} (h : Def.holds T e ⟨b, .call 41, [a0, a1, a2]⟩) :
  (e b).bool = (Day.IC (a1.ev e).int && Day.FC (a0.ev e).str) ∧ (e (b + 1)).str = (Day.HE (a0.ev e).str (a1.ev e).int (a2.ev e).int) ∧ (e (b + 2)).int = (Day.DS (a0.ev e).str (a1.ev e).int) := by
 have hp := A7 Yo h
 have ho := fun j a => A1 (a := a) Yo j h
 simp only [Aaw, gi, gb, gs, gv, ge, List.map_cons, List.map_nil, List.getD_cons_zero, List.getD_cons_succ, L.Aw, A.Ai] at hp ho
 exact ⟨hp, (congrArg A.str (ho 0 _ rfl) :), (congrArg A.int (ho 1 _ rfl) :)⟩
theorem Fx {e : Nat → A} {b : Nat} {a0 a1 a2 : L} (h : Def.holds T e ⟨b, .call 41, [a0, a1, a2]⟩) :
  Z4 (e (b + 1)) ∧ KW (e (b + 2)) := by
 have ho := fun j a => A1 (a := a) Yo j h
 simp only [Aaw, gi, gb, gs, gv, ge, List.map_cons, List.map_nil, List.getD_cons_zero, List.getD_cons_succ, L.Aw, A.Ai] at ho
 exact ⟨AaK (ho 0 _ rfl), AaJ (ho 1 _ rfl)⟩
theorem I5 {e : Nat → A} {b : Nat} {a0 : L} (h : Def.holds T e ⟨b, .call 10, [a0]⟩) :
  ∀ r0, r0 = Day.Cu (a0.ev e).str → (e b).bool = (Day.FC (a0.ev e).str) ∧ (e (b + 1)).int = (((r0)).n) ∧ e (b + 2) = (((r0)).px) ∧ (e (b + 3)).int = (((r0)).pn) ∧ (e (b + 4)).int = (((r0)).cls) ∧ (e (b + 5)).int = (((r0)).who) ∧ (e (b + 6)).bool = (((r0)).ld) ∧ e (b + 7) = (((r0)).nx) ∧ (e (b + 8)).int = (((r0)).nn) ∧ (e (b + 9)).int = (((r0)).h0.a 0) ∧ (e (b + 10)).int = (((r0)).h0.a 1) ∧ (e (b + 11)).int = (((r0)).h0.a 2) ∧ (e (b + 12)).int = (((r0)).h0.a 3) ∧ (e (b + 13)).int = (((r0)).h0.a 4) ∧ (e (b + 14)).int = (((r0)).h0.a 5) ∧ (e (b + 15)).int = (((r0)).h0.a 6) ∧ (e (b + 16)).int = (((r0)).h0.a 7) ∧ (e (b + 17)).int = (((r0)).h0.port) ∧ (e (b + 18)).int = (((r0)).h0.age) ∧ (e (b + 19)).int = (((r0)).h0.hold) ∧ (e (b + 20)).int = (((r0)).h0.pos) ∧ (e (b + 21)).int = (((r0)).h1.a 0) ∧ (e (b + 22)).int = (((r0)).h1.a 1) ∧ (e (b + 23)).int = (((r0)).h1.a 2) ∧ (e (b + 24)).int = (((r0)).h1.a 3) ∧ (e (b + 25)).int = (((r0)).h1.a 4) ∧ (e (b + 26)).int = (((r0)).h1.a 5) ∧ (e (b + 27)).int = (((r0)).h1.a 6) ∧ (e (b + 28)).int = (((r0)).h1.a 7) ∧ (e (b + 29)).int = (((r0)).h1.port) ∧ (e (b + 30)).int = (((r0)).h1.age) ∧ (e (b + 31)).int = (((r0)).h1.hold) ∧ (e (b + 32)).int = (((r0)).h1.pos) ∧ e (b + 33) = (((r0)).tx) ∧ (e (b + 34)).int = (((r0)).tn) := by
 intro r0 hr0
 subst hr0
 have hp := A7 Abs h
 have ho := fun j a => A1 (a := a) Abs j h
 simp only [Acm, gi, gb, gs, gv, ge, List.map_cons, List.map_nil, List.getD_cons_zero, List.getD_cons_succ, L.Aw, A.Ai] at hp ho
 exact ⟨hp, (congrArg A.int (ho 0 _ rfl) :), (ho 1 _ rfl :), (congrArg A.int (ho 2 _ rfl) :), (congrArg A.int (ho 3 _ rfl) :), (congrArg A.int (ho 4 _ rfl) :), (congrArg A.bool (ho 5 _ rfl) :), (ho 6 _ rfl :), (congrArg A.int (ho 7 _ rfl) :), (congrArg A.int (ho 8 _ rfl) :), (congrArg A.int (ho 9 _ rfl) :), (congrArg A.int (ho 10 _ rfl) :), (congrArg A.int (ho 11 _ rfl) :), (congrArg A.int (ho 12 _ rfl) :), (congrArg A.int (ho 13 _ rfl) :), (congrArg A.int (ho 14 _ rfl) :), (congrArg A.int (ho 15 _ rfl) :), (congrArg A.int (ho 16 _ rfl) :), (congrArg A.int (ho 17 _ rfl) :), (congrArg A.int (ho 18 _ rfl) :), (congrArg A.int (ho 19 _ rfl) :), (congrArg A.int (ho 20 _ rfl) :), (congrArg A.int (ho 21 _ rfl) :), (congrArg A.int (ho 22 _ rfl) :), (congrArg A.int (ho 23 _ rfl) :), (congrArg A.int (ho 24 _ rfl) :), (congrArg A.int (ho 25 _ rfl) :), (congrArg A.int (ho 26 _ rfl) :), (congrArg A.int (ho 27 _ rfl) :), (congrArg A.int (ho 28 _ rfl) :), (congrArg A.int (ho 29 _ rfl) :), (congrArg A.int (ho 30 _ rfl) :), (congrArg A.int (ho 31 _ rfl) :), (ho 32 _ rfl :), (congrArg A.int (ho 33 _ rfl) :)⟩
theorem Fy {e : Nat → A} {b : Nat} {a0 a1 a2 a3 : L} (h : Def.holds T e ⟨b, .call 15, [a0, a1, a2, a3]⟩) :
  (e b).bool = (Day.Yh (Day.L1.mk (a0.ev e) (a1.ev e).int)) ∧ (e (b + 1)).bool = (Day.GJ (Day.L1.mk (a0.ev e) (a1.ev e).int) (Day.L1.mk (a2.ev e) (a3.ev e).int)) := by
 have hp := A7 AaG h
 have ho := fun j a => A1 (a := a) AaG j h
 simp only [Abp, gi, gb, gs, gv, ge, List.map_cons, List.map_nil, List.getD_cons_zero, List.getD_cons_succ, L.Aw, A.Ai] at hp ho
 exact ⟨hp, (congrArg A.bool (ho 0 _ rfl) :)⟩
theorem NX {e : Nat → A} {b : Nat} {a0 a1 a2 a3 : L} (h : Def.holds T e ⟨b, .call 16, [a0, a1, a2, a3]⟩) :
  (e b).bool = (Day.Yh (Day.L1.mk (a0.ev e) (a1.ev e).int)) ∧ (e (b + 1)).bool = (Day.D8 (Day.L1.mk (a0.ev e) (a1.ev e).int) (Day.L1.mk (a2.ev e) (a3.ev e).int)) := by
 have hp := A7 AaH h
 have ho := fun j a => A1 (a := a) AaH j h
 simp only [Abq, gi, gb, gs, gv, ge, List.map_cons, List.map_nil, List.getD_cons_zero, List.getD_cons_succ, L.Aw, A.Ai] at hp ho
 exact ⟨hp, (congrArg A.bool (ho 0 _ rfl) :)⟩
theorem LL {e : Nat → A} {b : Nat} {a0 a1 a2 a3 : L} (h : Def.holds T e ⟨b, .call 17, [a0, a1, a2, a3]⟩) :
  (e b).bool = (Day.VP (Day.L1.mk (a0.ev e) (a1.ev e).int)) ∧ (e (b + 1)).bool = (Day.Km (Day.L1.mk (a0.ev e) (a1.ev e).int) (Day.L1.mk (a2.ev e) (a3.ev e).int)) := by
 have hp := A7 AaI h
 have ho := fun j a => A1 (a := a) AaI j h
 simp only [Abr, gi, gb, gs, gv, ge, List.map_cons, List.map_nil, List.getD_cons_zero, List.getD_cons_succ, L.Aw, A.Ai] at hp ho
 exact ⟨hp, (congrArg A.bool (ho 0 _ rfl) :)⟩
theorem I6 {e : Nat → A} {b : Nat} {a0 a1 a2 a3 a4 a5 a6 a7 a8 a9 a10 a11 a12 a13 a14 a15 a16 a17 a18 a19 a20 a21 a22 a23 a24 a25 a26 a27 a28 a29 a30 a31 a32 a33 a34 a35 a36 a37 a38 a39 a40 a41 a42 a43 a44 a45 a46 a47 a48 a49 a50 a51 a52 a53 a54 a55 a56 a57 a58 a59 a60 a61 a62 a63 a64 a65 a66 a67 : L} (h : Def.holds T e ⟨b, .call 8, [a0, a1, a2, a3, a4, a5, a6, a7, a8, a9, a10, a11, a12, a13, a14, a15, a16, a17, a18, a19, a20, a21, a22, a23, a24, a25, a26, a27, a28, a29, a30, a31, a32, a33, a34, a35, a36, a37, a38, a39, a40, a41, a42, a43, a44, a45, a46, a47, a48, a49, a50, a51, a52, a53, a54, a55, a56, a57, a58, a59, a60, a61, a62, a63, a64, a65, a66, a67]⟩) :
  ∀ z0, z0 = (Day.Sc.mk (a0.ev e).int (a1.ev e) (a2.ev e).int (a3.ev e).int (a4.ev e).int (a5.ev e).bool (a6.ev e) (a7.ev e).int (Day.HB.mk [(a8.ev e).int, (a9.ev e).int, (a10.ev e).int, (a11.ev e).int, (a12.ev e).int, (a13.ev e).int, (a14.ev e).int, (a15.ev e).int] (a16.ev e).int (a17.ev e).int (a18.ev e).int (a19.ev e).int) (Day.HB.mk [(a20.ev e).int, (a21.ev e).int, (a22.ev e).int, (a23.ev e).int, (a24.ev e).int, (a25.ev e).int, (a26.ev e).int, (a27.ev e).int] (a28.ev e).int (a29.ev e).int (a30.ev e).int (a31.ev e).int) (a32.ev e) (a33.ev e).int) → ∀ z1, z1 = (Day.Sc.mk (a34.ev e).int (a35.ev e) (a36.ev e).int (a37.ev e).int (a38.ev e).int (a39.ev e).bool (a40.ev e) (a41.ev e).int (Day.HB.mk [(a42.ev e).int, (a43.ev e).int, (a44.ev e).int, (a45.ev e).int, (a46.ev e).int, (a47.ev e).int, (a48.ev e).int, (a49.ev e).int] (a50.ev e).int (a51.ev e).int (a52.ev e).int (a53.ev e).int) (Day.HB.mk [(a54.ev e).int, (a55.ev e).int, (a56.ev e).int, (a57.ev e).int, (a58.ev e).int, (a59.ev e).int, (a60.ev e).int, (a61.ev e).int] (a62.ev e).int (a63.ev e).int (a64.ev e).int (a65.ev e).int) (a66.ev e) (a67.ev e).int) → (e b).bool = (Day.Yi z0) ∧ (e (b + 1)).bool = (Day.Uk z0 z1) := by
 intro z0 hz0 z1 hz1
 subst hz0 hz1
 have hp := A7 T_8 h
 have ho := fun j a => A1 (a := a) T_8 j h
 simp only [t_8, gi, gb, gs, gv, ge, List.map_cons, List.map_nil, List.getD_cons_zero, List.getD_cons_succ, L.Aw, A.Ai] at hp ho
 exact ⟨hp, (congrArg A.bool (ho 0 _ rfl) :)⟩
theorem Cw {e : Nat → A} {b : Nat} {a0 : L} (h : Def.holds T e ⟨b, .call 9, [a0]⟩) :
  ∀ r0, r0 = Day.Cu (a0.ev e).str → (e b).bool = (Day.FC (a0.ev e).str) ∧ (e (b + 1)).int = (((r0)).n) ∧ e (b + 2) = (((r0)).px) ∧ (e (b + 3)).int = (((r0)).pn) ∧ (e (b + 4)).int = (((r0)).cls) ∧ (e (b + 5)).int = (((r0)).who) ∧ (e (b + 6)).bool = (((r0)).ld) ∧ e (b + 7) = (((r0)).nx) ∧ (e (b + 8)).int = (((r0)).nn) ∧ (e (b + 9)).int = (((r0)).h0.a 0) ∧ (e (b + 10)).int = (((r0)).h0.a 1) ∧ (e (b + 11)).int = (((r0)).h0.a 2) ∧ (e (b + 12)).int = (((r0)).h0.a 3) ∧ (e (b + 13)).int = (((r0)).h0.a 4) ∧ (e (b + 14)).int = (((r0)).h0.a 5) ∧ (e (b + 15)).int = (((r0)).h0.a 6) ∧ (e (b + 16)).int = (((r0)).h0.a 7) ∧ (e (b + 17)).int = (((r0)).h0.port) ∧ (e (b + 18)).int = (((r0)).h0.age) ∧ (e (b + 19)).int = (((r0)).h0.hold) ∧ (e (b + 20)).int = (((r0)).h0.pos) ∧ (e (b + 21)).int = (((r0)).h1.a 0) ∧ (e (b + 22)).int = (((r0)).h1.a 1) ∧ (e (b + 23)).int = (((r0)).h1.a 2) ∧ (e (b + 24)).int = (((r0)).h1.a 3) ∧ (e (b + 25)).int = (((r0)).h1.a 4) ∧ (e (b + 26)).int = (((r0)).h1.a 5) ∧ (e (b + 27)).int = (((r0)).h1.a 6) ∧ (e (b + 28)).int = (((r0)).h1.a 7) ∧ (e (b + 29)).int = (((r0)).h1.port) ∧ (e (b + 30)).int = (((r0)).h1.age) ∧ (e (b + 31)).int = (((r0)).h1.hold) ∧ (e (b + 32)).int = (((r0)).h1.pos) ∧ e (b + 33) = (((r0)).tx) ∧ (e (b + 34)).int = (((r0)).tn) := by
 intro r0 hr0
 subst hr0
 have hp := A7 T_9 h
 have ho := fun j a => A1 (a := a) T_9 j h
 simp only [t_9, gi, gb, gs, gv, ge, List.map_cons, List.map_nil, List.getD_cons_zero, List.getD_cons_succ, L.Aw, A.Ai] at hp ho
 exact ⟨hp, (congrArg A.int (ho 0 _ rfl) :), (ho 1 _ rfl :), (congrArg A.int (ho 2 _ rfl) :), (congrArg A.int (ho 3 _ rfl) :), (congrArg A.int (ho 4 _ rfl) :), (congrArg A.bool (ho 5 _ rfl) :), (ho 6 _ rfl :), (congrArg A.int (ho 7 _ rfl) :), (congrArg A.int (ho 8 _ rfl) :), (congrArg A.int (ho 9 _ rfl) :), (congrArg A.int (ho 10 _ rfl) :), (congrArg A.int (ho 11 _ rfl) :), (congrArg A.int (ho 12 _ rfl) :), (congrArg A.int (ho 13 _ rfl) :), (congrArg A.int (ho 14 _ rfl) :), (congrArg A.int (ho 15 _ rfl) :), (congrArg A.int (ho 16 _ rfl) :), (congrArg A.int (ho 17 _ rfl) :), (congrArg A.int (ho 18 _ rfl) :), (congrArg A.int (ho 19 _ rfl) :), (congrArg A.int (ho 20 _ rfl) :), (congrArg A.int (ho 21 _ rfl) :), (congrArg A.int (ho 22 _ rfl) :), (congrArg A.int (ho 23 _ rfl) :), (congrArg A.int (ho 24 _ rfl) :), (congrArg A.int (ho 25 _ rfl) :), (congrArg A.int (ho 26 _ rfl) :), (congrArg A.int (ho 27 _ rfl) :), (congrArg A.int (ho 28 _ rfl) :), (congrArg A.int (ho 29 _ rfl) :), (congrArg A.int (ho 30 _ rfl) :), (congrArg A.int (ho 31 _ rfl) :), (ho 32 _ rfl :), (congrArg A.int (ho 33 _ rfl) :)⟩
theorem Dd {e : Nat → A} {b : Nat} (h : Def.holds T e ⟨b, .call 7, []⟩) :
  (e b).bool = (true) ∧ (e (b + 1)).bool = (true) := by
 have hp := A7 T_7 h
 have ho := fun j a => A1 (a := a) T_7 j h
 simp only [t_7, gi, gb, gs, gv, ge, List.map_cons, List.map_nil, List.getD_cons_zero, List.getD_cons_succ, L.Aw, A.Ai] at hp ho
 exact ⟨hp, (congrArg A.bool (ho 0 _ rfl) :)⟩
theorem Yp {e : Nat → A} {b : Nat} {a0 a1 a2 a3 a4 a5 : L} (h : Def.holds T e ⟨b, .call 1020, [a0, a1, a2, a3, a4, a5]⟩) :
  (e b).bool = (Day.u32 (a0.ev e).int && Day.CV (a5.ev e).int 8) ∧ (e (b + 1)).int = (Day.Eo (8 - (a5.ev e).int).toNat (a0.ev e).int) := by
 have hp := A7 PL h
 have ho := fun j a => A1 (a := a) PL j h
 simp only [IE, gi, gb, gs, gv, ge, List.map_cons, List.map_nil, List.getD_cons_zero, List.getD_cons_succ, L.Aw, A.Ai] at hp ho
 exact ⟨hp, (congrArg A.int (ho 0 _ rfl) :)⟩
theorem Yq {e : Nat → A} {b : Nat} {a0 a1 a2 a3 a4 a5 : L} (h : Def.holds T e ⟨b, .call 1030, [a0, a1, a2, a3, a4, a5]⟩) :
  (e b).bool = (Day.u32 (a0.ev e).int && Day.CV (a2.ev e).int 8) ∧ (e (b + 1)).int = (Day.Eo (8 - (a2.ev e).int).toNat (a0.ev e).int) := by
 have hp := A7 PM h
 have ho := fun j a => A1 (a := a) PM j h
 simp only [IF, gi, gb, gs, gv, ge, List.map_cons, List.map_nil, List.getD_cons_zero, List.getD_cons_succ, L.Aw, A.Ai] at hp ho
 exact ⟨hp, (congrArg A.int (ho 0 _ rfl) :)⟩
theorem Yr {e : Nat → A} {b : Nat} {a0 a1 a2 a3 a4 : L} (h : Def.holds T e ⟨b, .call 1040, [a0, a1, a2, a3, a4]⟩) :
  (e b).bool = (Day.u32 (a1.ev e).int && (Day.CV (a3.ev e).int (a2.ev e).int && (Day.Ft (a4.ev e) (a2.ev e).int && Day.Kk (a2.ev e).int))) ∧ (e (b + 1)).int = (Day.Cv ((a4.ev e).AJ.drop (a3.ev e).int.toNat) (a1.ev e).int) := by
 have hp := A7 PN h
 have ho := fun j a => A1 (a := a) PN j h
 simp only [IG, gi, gb, gs, gv, ge, List.map_cons, List.map_nil, List.getD_cons_zero, List.getD_cons_succ, L.Aw, A.Ai] at hp ho
 exact ⟨hp, (congrArg A.int (ho 0 _ rfl) :)⟩
theorem Ys {e : Nat → A} {b : Nat} {a0 a1 a2 : L} (h : Def.holds T e ⟨b, .call 1050, [a0, a1, a2]⟩) :
  (e b).bool = (Day.u32 (a1.ev e).int && (Day.CV (a2.ev e).int (Day.Fs (a0.ev e).str) && Day.CH (a0.ev e).str)) ∧ (e (b + 1)).int = (Day.Cv ((Day.BS (a0.ev e).str).drop (a2.ev e).int.toNat) (a1.ev e).int) := by
 have hp := A7 PO h
 have ho := fun j a => A1 (a := a) PO j h
 simp only [II, gi, gb, gs, gv, ge, List.map_cons, List.map_nil, List.getD_cons_zero, List.getD_cons_succ, L.Aw, A.Ai] at hp ho
 exact ⟨hp, (congrArg A.int (ho 0 _ rfl) :)⟩
theorem Yt {e : Nat → A} {b : Nat} {a0 a1 a2 a3 a4 a5 a6 a7 a8 a9 a10 a11 a12 a13 : L} (h : Def.holds T e ⟨b, .call 1170, [a0, a1, a2, a3, a4, a5, a6, a7, a8, a9, a10, a11, a12, a13]⟩) :
  (e b).bool = (Day.cP (a0.ev e).str (a1.ev e).int (a5.ev e).int (a6.ev e).int (Day.L1.mk (a13.ev e) (a4.ev e).int)) ∧ (e (b + 1)).int = ((a5.ev e).int) ∧ e (b + 2) = (Day.cX (a0.ev e).str (a1.ev e).int (a5.ev e).int (a6.ev e).int (Day.L1.mk (a13.ev e) (a4.ev e).int)) := by
 have hp := A7 PQ h
 have ho := fun j a => A1 (a := a) PQ j h
 simp only [IJ, gi, gb, gs, gv, ge, List.map_cons, List.map_nil, List.getD_cons_zero, List.getD_cons_succ, L.Aw, A.Ai] at hp ho
 exact ⟨hp, (congrArg A.int (ho 0 _ rfl) :), (ho 1 _ rfl :)⟩
theorem Yu {e : Nat → A} {b : Nat} {a0 a1 a2 a3 a4 a5 a6 a7 a8 : L} (h : Def.holds T e ⟨b, .call 1180, [a0, a1, a2, a3, a4, a5, a6, a7, a8]⟩) :
  (e b).bool = (Day.ndQ (a0.ev e).str (a1.ev e).int (a2.ev e).int (a6.ev e) (Day.L1.mk (a8.ev e) (a7.ev e).int)) ∧ (e (b + 1)).int = (Day.ndI (a1.ev e).int (a2.ev e).int ((a6.ev e)).int) ∧ (e (b + 2)).int = ((a2.ev e).int) ∧ e (b + 3) = (Day.Y1 (a0.ev e).str (a1.ev e).int (a2.ev e).int ((a6.ev e)).int (Day.L1.mk (a8.ev e) (a7.ev e).int)) := by
 have hp := A7 PR h
 have ho := fun j a => A1 (a := a) PR j h
 simp only [IK, gi, gb, gs, gv, ge, List.map_cons, List.map_nil, List.getD_cons_zero, List.getD_cons_succ, L.Aw, A.Ai] at hp ho
 exact ⟨hp, (congrArg A.int (ho 0 _ rfl) :), (congrArg A.int (ho 1 _ rfl) :), (ho 2 _ rfl :)⟩
theorem Yv {e : Nat → A} {b : Nat} {a0 a1 a2 a3 a4 a5 a6 a7 a8 a9 a10 a11 a12 a13 a14 a15 a16 : L} (h : Def.holds T e ⟨b, .call 1181, [a0, a1, a2, a3, a4, a5, a6, a7, a8, a9, a10, a11, a12, a13, a14, a15, a16]⟩) :
  (e b).bool = (Day.agP (a1.ev e).int (a2.ev e).int (a6.ev e).int) ∧ (e (b + 1)).int = (Day.BT (a0.ev e).str (a1.ev e).int (a2.ev e).int (a6.ev e).int (a8.ev e).int 0) ∧ (e (b + 2)).int = (Day.BT (a0.ev e).str (a1.ev e).int (a2.ev e).int (a6.ev e).int (a9.ev e).int 1) ∧ (e (b + 3)).int = (Day.BT (a0.ev e).str (a1.ev e).int (a2.ev e).int (a6.ev e).int (a10.ev e).int 2) ∧ (e (b + 4)).int = (Day.BT (a0.ev e).str (a1.ev e).int (a2.ev e).int (a6.ev e).int (a11.ev e).int 3) ∧ (e (b + 5)).int = (Day.BT (a0.ev e).str (a1.ev e).int (a2.ev e).int (a6.ev e).int (a12.ev e).int 4) ∧ (e (b + 6)).int = (Day.BT (a0.ev e).str (a1.ev e).int (a2.ev e).int (a6.ev e).int (a13.ev e).int 5) ∧ (e (b + 7)).int = (Day.BT (a0.ev e).str (a1.ev e).int (a2.ev e).int (a6.ev e).int (a14.ev e).int 6) ∧ (e (b + 8)).int = (Day.BT (a0.ev e).str (a1.ev e).int (a2.ev e).int (a6.ev e).int (a15.ev e).int 7) := by
 have hp := A7 PT h
 have ho := fun j a => A1 (a := a) PT j h
 simp only [IL, gi, gb, gs, gv, ge, List.map_cons, List.map_nil, List.getD_cons_zero, List.getD_cons_succ, L.Aw, A.Ai] at hp ho
 exact ⟨hp, (congrArg A.int (ho 0 _ rfl) :), (congrArg A.int (ho 1 _ rfl) :), (congrArg A.int (ho 2 _ rfl) :), (congrArg A.int (ho 3 _ rfl) :), (congrArg A.int (ho 4 _ rfl) :), (congrArg A.int (ho 5 _ rfl) :), (congrArg A.int (ho 6 _ rfl) :), (congrArg A.int (ho 7 _ rfl) :)⟩
theorem Yw {e : Nat → A} {b : Nat} {a0 a1 a2 a3 a4 a5 a6 a7 a8 a9 a10 a11 a12 a13 a14 a15 a16 a17 a18 a19 a20 a21 a22 a23 a24 a25 a26 a27 a28 a29 a30 a31 a32 a33 : L} (h : Def.holds T e ⟨b, .call 1182, [a0, a1, a2, a3, a4, a5, a6, a7, a8, a9, a10, a11, a12, a13, a14, a15, a16, a17, a18, a19, a20, a21, a22, a23, a24, a25, a26, a27, a28, a29, a30, a31, a32, a33]⟩) :
  (e b).bool = (Day.agP (a1.ev e).int (a2.ev e).int (a6.ev e).int) ∧ (e (b + 1)).int = (Day.BT (a0.ev e).str (a1.ev e).int (a2.ev e).int (a6.ev e).int (a25.ev e).int 0) ∧ (e (b + 2)).int = (Day.BT (a0.ev e).str (a1.ev e).int (a2.ev e).int (a6.ev e).int (a26.ev e).int 1) ∧ (e (b + 3)).int = (Day.BT (a0.ev e).str (a1.ev e).int (a2.ev e).int (a6.ev e).int (a27.ev e).int 2) ∧ (e (b + 4)).int = (Day.BT (a0.ev e).str (a1.ev e).int (a2.ev e).int (a6.ev e).int (a28.ev e).int 3) ∧ (e (b + 5)).int = (Day.BT (a0.ev e).str (a1.ev e).int (a2.ev e).int (a6.ev e).int (a29.ev e).int 4) ∧ (e (b + 6)).int = (Day.BT (a0.ev e).str (a1.ev e).int (a2.ev e).int (a6.ev e).int (a30.ev e).int 5) ∧ (e (b + 7)).int = (Day.BT (a0.ev e).str (a1.ev e).int (a2.ev e).int (a6.ev e).int (a31.ev e).int 6) ∧ (e (b + 8)).int = (Day.BT (a0.ev e).str (a1.ev e).int (a2.ev e).int (a6.ev e).int (a32.ev e).int 7) := by
 have hp := A7 PU h
 have ho := fun j a => A1 (a := a) PU j h
 simp only [IM, gi, gb, gs, gv, ge, List.map_cons, List.map_nil, List.getD_cons_zero, List.getD_cons_succ, L.Aw, A.Ai] at hp ho
 exact ⟨hp, (congrArg A.int (ho 0 _ rfl) :), (congrArg A.int (ho 1 _ rfl) :), (congrArg A.int (ho 2 _ rfl) :), (congrArg A.int (ho 3 _ rfl) :), (congrArg A.int (ho 4 _ rfl) :), (congrArg A.int (ho 5 _ rfl) :), (congrArg A.int (ho 6 _ rfl) :), (congrArg A.int (ho 7 _ rfl) :)⟩
theorem Yx {e : Nat → A} {b : Nat} {a0 a1 a2 a3 a4 a5 a6 a7 : L} (h : Def.holds T e ⟨b, .call 1183, [a0, a1, a2, a3, a4, a5, a6, a7]⟩) :
  (e b).bool = (Day.cP (a0.ev e).str 1 (a2.ev e).int (a1.ev e).int (Day.L1.mk (a7.ev e) (a6.ev e).int)) ∧ (e (b + 1)).int = ((a2.ev e).int) ∧ e (b + 2) = (Day.cX (a0.ev e).str 1 (a2.ev e).int (a1.ev e).int (Day.L1.mk (a7.ev e) (a6.ev e).int)) := by
 have hp := A7 PW h
 have ho := fun j a => A1 (a := a) PW j h
 simp only [IN, gi, gb, gs, gv, ge, List.map_cons, List.map_nil, List.getD_cons_zero, List.getD_cons_succ, L.Aw, A.Ai] at hp ho
 exact ⟨hp, (congrArg A.int (ho 0 _ rfl) :), (ho 1 _ rfl :)⟩
theorem Yy {e : Nat → A} {b : Nat} {a0 a1 a2 a3 a4 a5 a6 a7 a8 a9 a10 a11 a12 a13 a14 a15 a16 a17 a18 a19 a20 a21 a22 a23 a24 a25 a26 a27 a28 a29 a30 a31 a32 a33 a34 a35 a36 a37 a38 a39 a40 : L} (h : Def.holds T e ⟨b, .call 1186, [a0, a1, a2, a3, a4, a5, a6, a7, a8, a9, a10, a11, a12, a13, a14, a15, a16, a17, a18, a19, a20, a21, a22, a23, a24, a25, a26, a27, a28, a29, a30, a31, a32, a33, a34, a35, a36, a37, a38, a39, a40]⟩) :
  (e b).bool = (Day.cP (a0.ev e).str (a1.ev e).int (a2.ev e).int (a33.ev e).int (Day.L1.mk (a40.ev e) (a39.ev e).int)) ∧ (e (b + 1)).int = ((a2.ev e).int) ∧ (e (b + 2)).int = ((a2.ev e).int) ∧ (e (b + 3)).bool = (false) ∧ (e (b + 4)).int = ((a2.ev e).int) ∧ e (b + 5) = (Day.Y2 (a0.ev e).str (a1.ev e).int (a2.ev e).int (a33.ev e).int (Day.L1.mk (a40.ev e) (a39.ev e).int)) := by
 have hp := A7 PX h
 have ho := fun j a => A1 (a := a) PX j h
 simp only [IP, gi, gb, gs, gv, ge, List.map_cons, List.map_nil, List.getD_cons_zero, List.getD_cons_succ, L.Aw, A.Ai] at hp ho
 exact ⟨hp, (congrArg A.int (ho 0 _ rfl) :), (congrArg A.int (ho 1 _ rfl) :), (congrArg A.bool (ho 2 _ rfl) :), (congrArg A.int (ho 3 _ rfl) :), (ho 4 _ rfl :)⟩
theorem Yz {e : Nat → A} {b : Nat} {a0 a1 a2 a3 a4 a5 a6 a7 a8 a9 a10 a11 a12 a13 a14 a15 a16 a17 a18 a19 a20 a21 a22 a23 a24 a25 a26 a27 a28 a29 a30 a31 a32 a33 a34 a35 a36 a37 a38 a39 a40 a41 a42 a43 a44 : L} (h : Def.holds T e ⟨b, .call 1187, [a0, a1, a2, a3, a4, a5, a6, a7, a8, a9, a10, a11, a12, a13, a14, a15, a16, a17, a18, a19, a20, a21, a22, a23, a24, a25, a26, a27, a28, a29, a30, a31, a32, a33, a34, a35, a36, a37, a38, a39, a40, a41, a42, a43, a44]⟩) :
  (e b).bool = (Day.UZ (a2.ev e).int (a3.ev e).int (a1.ev e).int (a4.ev e).int (Day.L1.mk (a44.ev e) (a41.ev e).int) && Day.FC (a0.ev e).str) ∧ (e (b + 1)).int = (Day.Xx (a0.ev e).str (a4.ev e).int (a5.ev e).int ((a2.ev e).int - (a3.ev e).int).toNat (a1.ev e).int) ∧ (e (b + 2)).int = ((a2.ev e).int) ∧ e (b + 3) = (Day.Um (a0.ev e).str (a2.ev e).int (a3.ev e).int (a1.ev e).int (a4.ev e).int (a5.ev e).int (a6.ev e).int (Day.L1.mk (a44.ev e) (a41.ev e).int)) := by
 have hp := A7 PY h
 have ho := fun j a => A1 (a := a) PY j h
 simp only [IQ, gi, gb, gs, gv, ge, List.map_cons, List.map_nil, List.getD_cons_zero, List.getD_cons_succ, L.Aw, A.Ai] at hp ho
 exact ⟨hp, (congrArg A.int (ho 0 _ rfl) :), (congrArg A.int (ho 1 _ rfl) :), (ho 2 _ rfl :)⟩
theorem YA {e : Nat → A} {b : Nat} {a0 a1 a2 a3 a4 a5 : L} (h : Def.holds T e ⟨b, .call 1190, [a0, a1, a2, a3, a4, a5]⟩) :
  (e b).bool = (Day.Y0 (Day.L1.mk (a4.ev e) (a0.ev e).int) (Day.L1.mk (a5.ev e) (a1.ev e).int) (a2.ev e).int) ∧ (e (b + 1)).bool = (Day.VO (Day.L1.mk (a4.ev e) (a0.ev e).int) (Day.L1.mk (a5.ev e) (a1.ev e).int) (a2.ev e).int) ∧ (e (b + 2)).bool = (Day.Nb (Day.L1.mk (a4.ev e) (a0.ev e).int) (Day.L1.mk (a5.ev e) (a1.ev e).int) (a2.ev e).int) := by
 have hp := A7 PZ h
 have ho := fun j a => A1 (a := a) PZ j h
 simp only [IS, gi, gb, gs, gv, ge, List.map_cons, List.map_nil, List.getD_cons_zero, List.getD_cons_succ, L.Aw, A.Ai] at hp ho
 exact ⟨hp, (congrArg A.bool (ho 0 _ rfl) :), (congrArg A.bool (ho 1 _ rfl) :)⟩
theorem YB {e : Nat → A} {b : Nat} {a0 a1 a2 a3 a4 a5 : L} (h : Def.holds T e ⟨b, .call 1200, [a0, a1, a2, a3, a4, a5]⟩) :
  (e b).bool = (Day.Y0 (Day.L1.mk (a4.ev e) (a0.ev e).int) (Day.L1.mk (a5.ev e) (a1.ev e).int) (a2.ev e).int) ∧ (e (b + 1)).bool = (Day.PG (Day.L1.mk (a4.ev e) (a0.ev e).int) (Day.L1.mk (a5.ev e) (a1.ev e).int) (a2.ev e).int) ∧ (e (b + 2)).bool = (Day.GK (Day.L1.mk (a4.ev e) (a0.ev e).int) (Day.L1.mk (a5.ev e) (a1.ev e).int) (a2.ev e).int) := by
 have hp := A7 P0 h
 have ho := fun j a => A1 (a := a) P0 j h
 simp only [IT, gi, gb, gs, gv, ge, List.map_cons, List.map_nil, List.getD_cons_zero, List.getD_cons_succ, L.Aw, A.Ai] at hp ho
 exact ⟨hp, (congrArg A.bool (ho 0 _ rfl) :), (congrArg A.bool (ho 1 _ rfl) :)⟩
theorem YC {e : Nat → A} {b : Nat} {a0 a1 a2 a3 a4 a5 : L} (h : Def.holds T e ⟨b, .call 1210, [a0, a1, a2, a3, a4, a5]⟩) :
  (e b).bool = (Day.chP (Day.L1.mk (a4.ev e) (a0.ev e).int) (Day.L1.mk (a5.ev e) (a1.ev e).int) (a2.ev e).int) ∧ (e (b + 1)).bool = (Day.PH (Day.L1.mk (a4.ev e) (a0.ev e).int) (Day.L1.mk (a5.ev e) (a1.ev e).int) (a2.ev e).int) ∧ (e (b + 2)).bool = (Day.GL (Day.L1.mk (a4.ev e) (a0.ev e).int) (Day.L1.mk (a5.ev e) (a1.ev e).int) (a2.ev e).int) := by
 have hp := A7 P1 h
 have ho := fun j a => A1 (a := a) P1 j h
 simp only [IU, gi, gb, gs, gv, ge, List.map_cons, List.map_nil, List.getD_cons_zero, List.getD_cons_succ, L.Aw, A.Ai] at hp ho
 exact ⟨hp, (congrArg A.bool (ho 0 _ rfl) :), (congrArg A.bool (ho 1 _ rfl) :)⟩
theorem YD {e : Nat → A} {b : Nat} {a0 a1 a2 a3 a4 a5 a6 a7 : L} (h : Def.holds T e ⟨b, .call 1230, [a0, a1, a2, a3, a4, a5, a6, a7]⟩) :
  (e b).bool = (Day.VQ (a1.ev e) && Day.Y3 (a3.ev e).int ((a1.ev e)).int (a0.ev e).int (a7.ev e)) ∧ (e (b + 1)).int = (Day.Y5 (a3.ev e).int ((a1.ev e)).int (a0.ev e).int) ∧ e (b + 2) = (Day.Y4 (a2.ev e).str (a3.ev e).int ((a1.ev e)).int (a0.ev e).int (a7.ev e)) := by
 have hp := A7 P2 h
 have ho := fun j a => A1 (a := a) P2 j h
 simp only [IV, gi, gb, gs, gv, ge, List.map_cons, List.map_nil, List.getD_cons_zero, List.getD_cons_succ, L.Aw, A.Ai] at hp ho
 exact ⟨hp, (congrArg A.int (ho 0 _ rfl) :), (ho 1 _ rfl :)⟩
theorem YE {e : Nat → A} {b : Nat} {a0 a1 a2 a3 a4 a5 a6 a7 a8 : L} (h : Def.holds T e ⟨b, .call 1231, [a0, a1, a2, a3, a4, a5, a6, a7, a8]⟩) :
  (e b).bool = (Day.Kn (a3.ev e).int (a1.ev e).int (a0.ev e).int (a8.ev e)) ∧ (e (b + 1)).int = (Day.H2 (a3.ev e).int (a1.ev e).int (a0.ev e).int) ∧ e (b + 2) = (Day.H0 (a2.ev e).str 0 (a3.ev e).int (a1.ev e).int (a0.ev e).int (a8.ev e)) := by
 have hp := A7 P3 h
 have ho := fun j a => A1 (a := a) P3 j h
 simp only [IW, gi, gb, gs, gv, ge, List.map_cons, List.map_nil, List.getD_cons_zero, List.getD_cons_succ, L.Aw, A.Ai] at hp ho
 exact ⟨hp, (congrArg A.int (ho 0 _ rfl) :), (ho 1 _ rfl :)⟩
theorem YF {e : Nat → A} {b : Nat} {a0 a1 a2 a3 a4 a5 a6 a7 a8 a9 a10 a11 a12 a13 a14 a15 a16 a17 a18 a19 a20 a21 : L} (h : Def.holds T e ⟨b, .call 1232, [a0, a1, a2, a3, a4, a5, a6, a7, a8, a9, a10, a11, a12, a13, a14, a15, a16, a17, a18, a19, a20, a21]⟩) :
  (e b).bool = (Day.Kn (a3.ev e).int (a1.ev e).int (a0.ev e).int (a21.ev e)) ∧ (e (b + 1)).int = (Day.H2 (a3.ev e).int (a1.ev e).int (a0.ev e).int) ∧ e (b + 2) = (Day.H0 (a2.ev e).str 0 (a3.ev e).int (a1.ev e).int (a0.ev e).int (a21.ev e)) := by
 have hp := A7 P4 h
 have ho := fun j a => A1 (a := a) P4 j h
 simp only [IX, gi, gb, gs, gv, ge, List.map_cons, List.map_nil, List.getD_cons_zero, List.getD_cons_succ, L.Aw, A.Ai] at hp ho
 exact ⟨hp, (congrArg A.int (ho 0 _ rfl) :), (ho 1 _ rfl :)⟩
theorem YG {e : Nat → A} {b : Nat} {a0 a1 a2 a3 a4 a5 a6 a7 : L} (h : Def.holds T e ⟨b, .call 1233, [a0, a1, a2, a3, a4, a5, a6, a7]⟩) :
  (e b).bool = (Day.Kn (a3.ev e).int (a1.ev e).int (a0.ev e).int (a7.ev e)) ∧ (e (b + 1)).int = (Day.H2 (a3.ev e).int (a1.ev e).int (a0.ev e).int) ∧ e (b + 2) = (Day.H0 (a2.ev e).str 0 (a3.ev e).int (a1.ev e).int (a0.ev e).int (a7.ev e)) := by
 have hp := A7 P5 h
 have ho := fun j a => A1 (a := a) P5 j h
 simp only [IY, gi, gb, gs, gv, ge, List.map_cons, List.map_nil, List.getD_cons_zero, List.getD_cons_succ, L.Aw, A.Ai] at hp ho
 exact ⟨hp, (congrArg A.int (ho 0 _ rfl) :), (ho 1 _ rfl :)⟩
theorem YH {e : Nat → A} {b : Nat} {a0 a1 a2 a3 a4 a5 a6 a7 a8 a9 a10 a11 a12 a13 a14 a15 a16 a17 a18 a19 a20 a21 a22 a23 a24 a25 a26 a27 a28 a29 a30 a31 a32 a33 a34 a35 a36 a37 a38 : L} (h : Def.holds T e ⟨b, .call 1244, [a0, a1, a2, a3, a4, a5, a6, a7, a8, a9, a10, a11, a12, a13, a14, a15, a16, a17, a18, a19, a20, a21, a22, a23, a24, a25, a26, a27, a28, a29, a30, a31, a32, a33, a34, a35, a36, a37, a38]⟩) :
  (e b).bool = (Day.Kn (a3.ev e).int (a1.ev e).int (a0.ev e).int (a38.ev e)) ∧ (e (b + 1)).int = ((a0.ev e).int) ∧ (e (b + 2)).bool = (false) ∧ (e (b + 3)).int = (Day.H2 (a3.ev e).int (a1.ev e).int (a0.ev e).int) ∧ e (b + 4) = (Day.H0 (a2.ev e).str 0 (a3.ev e).int (a1.ev e).int (a0.ev e).int (a38.ev e)) := by
 have hp := A7 P6 h
 have ho := fun j a => A1 (a := a) P6 j h
 simp only [IZ, gi, gb, gs, gv, ge, List.map_cons, List.map_nil, List.getD_cons_zero, List.getD_cons_succ, L.Aw, A.Ai] at hp ho
 exact ⟨hp, (congrArg A.int (ho 0 _ rfl) :), (congrArg A.bool (ho 1 _ rfl) :), (congrArg A.int (ho 2 _ rfl) :), (ho 3 _ rfl :)⟩
theorem YI {e : Nat → A} {b : Nat} {a0 a1 a2 a3 a4 a5 a6 a7 a8 a9 a10 a11 a12 a13 a14 a15 a16 a17 a18 a19 a20 a21 a22 a23 a24 a25 a26 a27 a28 a29 a30 a31 a32 a33 a34 a35 a36 a37 a38 a39 a40 a41 a42 a43 a44 a45 : L} (h : Def.holds T e ⟨b, .call 1245, [a0, a1, a2, a3, a4, a5, a6, a7, a8, a9, a10, a11, a12, a13, a14, a15, a16, a17, a18, a19, a20, a21, a22, a23, a24, a25, a26, a27, a28, a29, a30, a31, a32, a33, a34, a35, a36, a37, a38, a39, a40, a41, a42, a43, a44, a45]⟩) :
  (e b).bool = (Day.U0 (a7.ev e).int (a8.ev e).int (a2.ev e).int (a44.ev e) (a45.ev e)) ∧ (e (b + 1)).int = ((a7.ev e).int) ∧ (e (b + 2)).int = ((a7.ev e).int) ∧ (e (b + 3)).bool = (false) ∧ e (b + 4) = (Day.Uo (a8.ev e).int (a44.ev e) (a45.ev e)) := by
 have hp := A7 P7 h
 have ho := fun j a => A1 (a := a) P7 j h
 simp only [I0, gi, gb, gs, gv, ge, List.map_cons, List.map_nil, List.getD_cons_zero, List.getD_cons_succ, L.Aw, A.Ai] at hp ho
 exact ⟨hp, (congrArg A.int (ho 0 _ rfl) :), (congrArg A.int (ho 1 _ rfl) :), (congrArg A.bool (ho 2 _ rfl) :), (ho 3 _ rfl :)⟩
theorem YJ {e : Nat → A} {b : Nat} {a0 a1 a2 a3 a4 a5 a6 a7 a8 a9 a10 a11 a12 a13 a14 a15 a16 a17 a18 a19 a20 a21 a22 a23 a24 a25 a26 a27 a28 a29 a30 a31 a32 a33 a34 a35 a36 a37 a38 a39 : L} (h : Def.holds T e ⟨b, .call 1246, [a0, a1, a2, a3, a4, a5, a6, a7, a8, a9, a10, a11, a12, a13, a14, a15, a16, a17, a18, a19, a20, a21, a22, a23, a24, a25, a26, a27, a28, a29, a30, a31, a32, a33, a34, a35, a36, a37, a38, a39]⟩) :
  (e b).bool = (Day.Kn (a3.ev e).int (a1.ev e).int (a0.ev e).int (a39.ev e)) ∧ (e (b + 1)).int = ((a0.ev e).int) ∧ (e (b + 2)).bool = (false) ∧ (e (b + 3)).int = (Day.H2 (a3.ev e).int (a1.ev e).int (a0.ev e).int) ∧ e (b + 4) = (Day.H0 (a2.ev e).str 0 (a3.ev e).int (a1.ev e).int (a0.ev e).int (a39.ev e)) := by
 have hp := A7 P8 h
 have ho := fun j a => A1 (a := a) P8 j h
 simp only [I1, gi, gb, gs, gv, ge, List.map_cons, List.map_nil, List.getD_cons_zero, List.getD_cons_succ, L.Aw, A.Ai] at hp ho
 exact ⟨hp, (congrArg A.int (ho 0 _ rfl) :), (congrArg A.bool (ho 1 _ rfl) :), (congrArg A.int (ho 2 _ rfl) :), (ho 3 _ rfl :)⟩
theorem YK {e : Nat → A} {b : Nat} {a0 a1 a2 a3 a4 a5 a6 a7 a8 a9 a10 a11 a12 a13 a14 a15 a16 a17 a18 a19 a20 a21 a22 a23 a24 a25 a26 a27 a28 a29 a30 a31 a32 a33 a34 a35 a36 a37 a38 a39 a40 a41 a42 a43 a44 a45 a46 : L} (h : Def.holds T e ⟨b, .call 1247, [a0, a1, a2, a3, a4, a5, a6, a7, a8, a9, a10, a11, a12, a13, a14, a15, a16, a17, a18, a19, a20, a21, a22, a23, a24, a25, a26, a27, a28, a29, a30, a31, a32, a33, a34, a35, a36, a37, a38, a39, a40, a41, a42, a43, a44, a45, a46]⟩) :
  (e b).bool = (Day.U0 (a7.ev e).int (a8.ev e).int (a2.ev e).int (a45.ev e) (a46.ev e)) ∧ (e (b + 1)).int = ((a7.ev e).int) ∧ (e (b + 2)).int = ((a7.ev e).int) ∧ (e (b + 3)).bool = (false) ∧ e (b + 4) = (Day.Uo (a8.ev e).int (a45.ev e) (a46.ev e)) := by
 have hp := A7 P9 h
 have ho := fun j a => A1 (a := a) P9 j h
 simp only [I2, gi, gb, gs, gv, ge, List.map_cons, List.map_nil, List.getD_cons_zero, List.getD_cons_succ, L.Aw, A.Ai] at hp ho
 exact ⟨hp, (congrArg A.int (ho 0 _ rfl) :), (congrArg A.int (ho 1 _ rfl) :), (congrArg A.bool (ho 2 _ rfl) :), (ho 3 _ rfl :)⟩
theorem YL {e : Nat → A} {b : Nat} {a0 a1 a2 a3 a4 a5 a6 a7 a8 a9 a10 a11 a12 a13 a14 a15 a16 a17 a18 a19 a20 a21 a22 a23 a24 a25 a26 a27 a28 a29 a30 a31 a32 a33 a34 a35 a36 a37 : L} (h : Def.holds T e ⟨b, .call 1248, [a0, a1, a2, a3, a4, a5, a6, a7, a8, a9, a10, a11, a12, a13, a14, a15, a16, a17, a18, a19, a20, a21, a22, a23, a24, a25, a26, a27, a28, a29, a30, a31, a32, a33, a34, a35, a36, a37]⟩) :
  (e b).bool = (Day.Kn (a3.ev e).int (a1.ev e).int (a0.ev e).int (a37.ev e)) ∧ (e (b + 1)).int = ((a0.ev e).int) ∧ (e (b + 2)).bool = (false) ∧ (e (b + 3)).int = (Day.H2 (a3.ev e).int (a1.ev e).int (a0.ev e).int) ∧ e (b + 4) = (Day.H0 (a2.ev e).str 3 (a3.ev e).int (a1.ev e).int (a0.ev e).int (a37.ev e)) := by
 have hp := A7 Qa h
 have ho := fun j a => A1 (a := a) Qa j h
 simp only [I3, gi, gb, gs, gv, ge, List.map_cons, List.map_nil, List.getD_cons_zero, List.getD_cons_succ, L.Aw, A.Ai] at hp ho
 exact ⟨hp, (congrArg A.int (ho 0 _ rfl) :), (congrArg A.bool (ho 1 _ rfl) :), (congrArg A.int (ho 2 _ rfl) :), (ho 3 _ rfl :)⟩
theorem YM {e : Nat → A} {b : Nat} {a0 a1 a2 a3 a4 a5 a6 a7 a8 a9 a10 a11 a12 a13 a14 a15 a16 a17 a18 a19 a20 a21 a22 a23 a24 a25 a26 a27 a28 a29 a30 a31 a32 a33 a34 a35 a36 a37 a38 a39 a40 a41 a42 a43 a44 a45 : L} (h : Def.holds T e ⟨b, .call 1249, [a0, a1, a2, a3, a4, a5, a6, a7, a8, a9, a10, a11, a12, a13, a14, a15, a16, a17, a18, a19, a20, a21, a22, a23, a24, a25, a26, a27, a28, a29, a30, a31, a32, a33, a34, a35, a36, a37, a38, a39, a40, a41, a42, a43, a44, a45]⟩) :
  (e b).bool = (Day.UZ (a3.ev e).int (a13.ev e).int (a14.ev e).int (a6.ev e).int (Day.L1.mk (a45.ev e) (a42.ev e).int) && Day.FC (a0.ev e).str) ∧ (e (b + 1)).int = (Day.Xx (a0.ev e).str (a6.ev e).int (a7.ev e).int ((a3.ev e).int - (a13.ev e).int).toNat (a14.ev e).int) ∧ (e (b + 2)).int = ((a3.ev e).int) ∧ e (b + 3) = (Day.Um (a0.ev e).str (a3.ev e).int (a13.ev e).int (a14.ev e).int (a6.ev e).int (a7.ev e).int (a16.ev e).int (Day.L1.mk (a45.ev e) (a42.ev e).int)) := by
 have hp := A7 Qb h
 have ho := fun j a => A1 (a := a) Qb j h
 simp only [I4, gi, gb, gs, gv, ge, List.map_cons, List.map_nil, List.getD_cons_zero, List.getD_cons_succ, L.Aw, A.Ai] at hp ho
 exact ⟨hp, (congrArg A.int (ho 0 _ rfl) :), (congrArg A.int (ho 1 _ rfl) :), (ho 2 _ rfl :)⟩
end Rx.S
