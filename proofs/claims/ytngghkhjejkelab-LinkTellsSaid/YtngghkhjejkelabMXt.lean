import Derived.Test.YtngghkhjejkelabMXc
import Derived.Test.YtngghkhjejkelabMXd
set_option linter.unusedVariables false
set_option linter.unusedSimpArgs false
namespace Rx.S
open Go Rx
set_option maxRecDepth 100000
def Ae3 (al : List A) : Bool × List A := (true, [.i (Day.A7 (gi al 0) (gi al 1) (gi al 2))])
def Ae4 (al : List A) : Bool × List A := (Day.sm (gi al 1), [.i (Day.HH (gi al 0) (gi al 1))])
def Ae5 (al : List A) : Bool × List A := (Day.i64 (gi al 0), [.i (Day.B5 (gi al 0))])
def Ae6 (al : List A) : Bool × List A := (true, [.i (Day.A7 (gi al 0) (gi al 1) (gi al 2))])
def Ae7 (al : List A) : Bool × List A := (Day.sm (gi al 1), [.i (Day.HH (gi al 0) (gi al 1))])
def Ae8 (al : List A) : Bool × List A := (Day.i64 (gi al 0), [.i (Day.B5 (gi al 0))])
def Ae9 (al : List A) : Bool × List A := (Day.BF (gi al 0) && Day.i64 (gi al 1), [.i (Day.BO (gi al 0) (gi al 1))])
def Afa (al : List A) : Bool × List A := (Day.AX (gi al 0) (gi al 1), [.i (Day.AZ (gi al 0) (gi al 1))])
def Afb (al : List A) : Bool × List A := (Day.Kn (gi al 0) (gi al 1) (gi al 2), [.i (Day.atR (gi al 0) (gi al 1) (gi al 2))])
def Afc (al : List A) : Bool × List A := (Day.BF (gi al 0) && Day.i64 (gi al 1), [.i (Day.BO (gi al 0) (gi al 1))])
def Afd (al : List A) : Bool × List A := (Day.AX (gi al 0) (gi al 1), [.i (Day.AZ (gi al 0) (gi al 1))])
def Afe (al : List A) : Bool × List A := (Day.Kn (gi al 0) (gi al 1) (gi al 2), [.i (Day.atR (gi al 0) (gi al 1) (gi al 2))])
def Aff (al : List A) : Bool × List A := (true, [.b (Day.right (gi al 0))])
def Afg (al : List A) : Bool × List A := (true, [.b (Day.right (gi al 0))])
def Afh (al : List A) : Bool × List A := (Day.Abb (gs al 0), [.i (Day.times (Day.Ug (gs al 0)) (gi al 1))])
def Afi (al : List A) : Bool × List A := (Day.u8 (gi al 1), [.i (Day.times (gi al 1) (gi al 0))])
def Afj (al : List A) : Bool × List A := (true, [.i (Day.times 2 (gi al 0))])
def Afk (al : List A) : Bool × List A := (true, [.i (Day.times 2 (gi al 0))])
def Afl (al : List A) : Bool × List A := let z0 := (Day.HB.mk [(gi al 1), (gi al 2), (gi al 3), (gi al 4), (gi al 5), (gi al 6), (gi al 7), (gi al 8)] (gi al 9) (gi al 10) (gi al 11) (gi al 12)); let r1 := Day.AB (gi al 0) z0; (Day.HB.i64 z0, [.i (((r1)).a 0), .i (((r1)).a 1), .i (((r1)).a 2), .i (((r1)).a 3), .i (((r1)).a 4), .i (((r1)).a 5), .i (((r1)).a 6), .i (((r1)).a 7), .i (((r1)).port), .i (((r1)).age), .i (((r1)).hold), .i (((r1)).pos), .i (Day.BV (gi al 0))])
def Afm (al : List A) : Bool × List A := let z0 := (Day.HB.mk [(gi al 1), (gi al 2), (gi al 3), (gi al 4), (gi al 5), (gi al 6), (gi al 7), (gi al 8)] (gi al 9) (gi al 10) (gi al 11) (gi al 12)); (Day.HB.i64 z0, [.b (Day.Ak (gi al 0) z0)])
def Afn (al : List A) : Bool × List A := let z0 := (Day.HB.mk [(gi al 1), (gi al 2), (gi al 3), (gi al 4), (gi al 5), (gi al 6), (gi al 7), (gi al 8)] (gi al 9) (gi al 10) (gi al 11) (gi al 12)); let r1 := Day.Bq (gi al 0) z0; (Day.HB.i64 z0, [.i (((r1)).a 0), .i (((r1)).a 1), .i (((r1)).a 2), .i (((r1)).a 3), .i (((r1)).a 4), .i (((r1)).a 5), .i (((r1)).a 6), .i (((r1)).a 7), .i (((r1)).port), .i (((r1)).age), .i (((r1)).hold), .i (((r1)).pos), .i (Day.BZ (gi al 0) z0)])
def Afo (al : List A) : Bool × List A := (true, [.b (Day.Be (gi al 0) (gi al 1))])
def t_8 (al : List A) : Bool × List A := let z0 := (Day.HB.mk [(gi al 1), (gi al 2), (gi al 3), (gi al 4), (gi al 5), (gi al 6), (gi al 7), (gi al 8)] (gi al 9) (gi al 10) (gi al 11) (gi al 12)); (true, [.b (Day.Ak (gi al 0) z0)])
def Afp (al : List A) : Bool × List A := let z0 := (Day.HB.mk [(gi al 1), (gi al 2), (gi al 3), (gi al 4), (gi al 5), (gi al 6), (gi al 7), (gi al 8)] (gi al 9) (gi al 10) (gi al 11) (gi al 12)); let r1 := Day.AB (gi al 0) z0; (Day.HB.i64 z0, [.i (((r1)).a 0), .i (((r1)).a 1), .i (((r1)).a 2), .i (((r1)).a 3), .i (((r1)).a 4), .i (((r1)).a 5), .i (((r1)).a 6), .i (((r1)).a 7), .i (((r1)).port), .i (((r1)).age), .i (((r1)).hold), .i (((r1)).pos), .i (Day.BV (gi al 0))])
def Afq (al : List A) : Bool × List A := let r0 := Day.Al (gi al 0); (true, [.i (((r0)).a 0), .i (((r0)).a 1), .i (((r0)).a 2), .i (((r0)).a 3), .i (((r0)).a 4), .i (((r0)).a 5), .i (((r0)).a 6), .i (((r0)).a 7), .i (((r0)).port), .i (((r0)).age), .i (((r0)).hold), .i (((r0)).pos), .i (Day.BV (gi al 0))])
def Afr (al : List A) : Bool × List A := let z0 := (Day.HB.mk [(gi al 1), (gi al 2), (gi al 3), (gi al 4), (gi al 5), (gi al 6), (gi al 7), (gi al 8)] (gi al 9) (gi al 10) (gi al 11) (gi al 12)); let r1 := Day.Bq (gi al 0) z0; (Day.HB.i64 z0, [.i (((r1)).a 0), .i (((r1)).a 1), .i (((r1)).a 2), .i (((r1)).a 3), .i (((r1)).a 4), .i (((r1)).a 5), .i (((r1)).a 6), .i (((r1)).a 7), .i (((r1)).port), .i (((r1)).age), .i (((r1)).hold), .i (((r1)).pos), .i (Day.BZ (gi al 0) z0)])
def Afs (al : List A) : Bool × List A := let z0 := (Day.HB.mk [(gi al 1), (gi al 2), (gi al 3), (gi al 4), (gi al 5), (gi al 6), (gi al 7), (gi al 8)] (gi al 9) (gi al 10) (gi al 11) (gi al 12)); (Day.Ak (gi al 0) z0 && Day.ltR (gi al 13) (gi al 0), [.b (Day.Gp (gi al 0) z0 ((gi al 13)).toNat (gi al 14))])
def Aft (al : List A) : Bool × List A := let z0 := (Day.HB.mk [(gi al 1), (gi al 2), (gi al 3), (gi al 4), (gi al 5), (gi al 6), (gi al 7), (gi al 8)] (gi al 9) (gi al 10) (gi al 11) (gi al 12)); (true, [.i (Day.Cu (gi al 0) z0 (gi al 13))])
def Afu (al : List A) : Bool × List A := let z0 := (Day.HB.mk [(gi al 1), (gi al 2), (gi al 3), (gi al 4), (gi al 5), (gi al 6), (gi al 7), (gi al 8)] (gi al 9) (gi al 10) (gi al 11) (gi al 12)); (true, [.i (Day.Eb (gi al 0) z0), .i (Day.Ec (gi al 0) z0)])
def Agy (al : List A) : Bool × List A := let z0 := (Day.HB.mk [(gi al 1), (gi al 2), (gi al 3), (gi al 4), (gi al 5), (gi al 6), (gi al 7), (gi al 8)] (gi al 9) (gi al 10) (gi al 11) (gi al 12)); (Day.Ak (gi al 0) z0, [Day.Co ((Day.Hh (gi al 0) z0)), .i ((((Day.Hh (gi al 0) z0)).length : Int))])
def Afv (al : List A) : Bool × List A := let z0 := (Day.HB.mk [(gi al 1), (gi al 2), (gi al 3), (gi al 4), (gi al 5), (gi al 6), (gi al 7), (gi al 8)] (gi al 9) (gi al 10) (gi al 11) (gi al 12)); (Day.HB.i64 z0, [.i (Day.Cu (gi al 0) z0 (gi al 13))])
def Afw (al : List A) : Bool × List A := let z0 := (Day.HB.mk [(gi al 1), (gi al 2), (gi al 3), (gi al 4), (gi al 5), (gi al 6), (gi al 7), (gi al 8)] (gi al 9) (gi al 10) (gi al 11) (gi al 12)); (Day.HB.i64 z0, [.i (Day.Eb (gi al 0) z0), .i (Day.Ec (gi al 0) z0)])
def Afx (al : List A) : Bool × List A := let z0 := (Day.HB.mk [(gi al 1), (gi al 2), (gi al 3), (gi al 4), (gi al 5), (gi al 6), (gi al 7), (gi al 8)] (gi al 9) (gi al 10) (gi al 11) (gi al 12)); let r1 := Day.BE (gi al 0) z0; (Day.HB.i64 z0, [.i (((r1)).a 0), .i (((r1)).a 1), .i (((r1)).a 2), .i (((r1)).a 3), .i (((r1)).a 4), .i (((r1)).a 5), .i (((r1)).a 6), .i (((r1)).a 7), .i (((r1)).port), .i (((r1)).age), .i (((r1)).hold), .i (((r1)).pos), .i (Day.BZ (gi al 0) z0)])
def Afy (al : List A) : Bool × List A := let z0 := (Day.HB.mk [(gi al 1), (gi al 2), (gi al 3), (gi al 4), (gi al 5), (gi al 6), (gi al 7), (gi al 8)] (gi al 9) (gi al 10) (gi al 11) (gi al 12)); let r1 := Day.BE (gi al 0) z0; (Day.HB.i64 z0, [.i (((r1)).a 0), .i (((r1)).a 1), .i (((r1)).a 2), .i (((r1)).a 3), .i (((r1)).a 4), .i (((r1)).a 5), .i (((r1)).a 6), .i (((r1)).a 7), .i (((r1)).port), .i (((r1)).age), .i (((r1)).hold), .i (((r1)).pos), .i (Day.BZ (gi al 0) z0)])
def Afz (al : List A) : Bool × List A := (Day.Ls.ok (Day.Ls.mk (ge al 1) (gi al 2)), [.b (Day.Cg (gi al 0) (Day.Ls.mk (ge al 1) (gi al 2)))])
def AfA (al : List A) : Bool × List A := (Day.Ls.ok (Day.Ls.mk (ge al 1) (gi al 2)), [.b (Day.Cg (gi al 0) (Day.Ls.mk (ge al 1) (gi al 2)))])
def AfB (al : List A) : Bool × List A := let z0 := (Day.HB.mk [(gi al 1), (gi al 2), (gi al 3), (gi al 4), (gi al 5), (gi al 6), (gi al 7), (gi al 8)] (gi al 9) (gi al 10) (gi al 11) (gi al 12)); (Day.HB.i64 z0 && Day.Ls.ok (Day.Ls.mk (ge al 13) (gi al 14)), [.i (Day.Bh (gi al 0) z0 (Day.Ls.mk (ge al 13) (gi al 14)))])
def AfC (al : List A) : Bool × List A := let z0 := (Day.HB.mk [(gi al 1), (gi al 2), (gi al 3), (gi al 4), (gi al 5), (gi al 6), (gi al 7), (gi al 8)] (gi al 9) (gi al 10) (gi al 11) (gi al 12)); (Day.Ls.ok (Day.Ls.mk (ge al 13) (gi al 14)), [.i (Day.Bh (gi al 0) z0 (Day.Ls.mk (ge al 13) (gi al 14)))])
def AfD (al : List A) : Bool × List A := let z0 := (Day.HB.mk [(gi al 1), (gi al 2), (gi al 3), (gi al 4), (gi al 5), (gi al 6), (gi al 7), (gi al 8)] (gi al 9) (gi al 10) (gi al 11) (gi al 12)); let r1 := Day.Ee (gi al 0) z0 (Day.Ls.mk (ge al 13) (gi al 14)); (Day.HB.i64 z0 && Day.Ls.ok (Day.Ls.mk (ge al 13) (gi al 14)), [.i (((r1)).a 0), .i (((r1)).a 1), .i (((r1)).a 2), .i (((r1)).a 3), .i (((r1)).a 4), .i (((r1)).a 5), .i (((r1)).a 6), .i (((r1)).a 7), .i (((r1)).port), .i (((r1)).age), .i (((r1)).hold), .i (((r1)).pos), .i (Day.Bh (gi al 0) z0 (Day.Ls.mk (ge al 13) (gi al 14)))])
def AfE (al : List A) : Bool × List A := let z0 := (Day.HB.mk [(gi al 1), (gi al 2), (gi al 3), (gi al 4), (gi al 5), (gi al 6), (gi al 7), (gi al 8)] (gi al 9) (gi al 10) (gi al 11) (gi al 12)); let r1 := Day.Ee (gi al 0) z0 (Day.Ls.mk (ge al 13) (gi al 14)); (Day.HB.i64 z0 && Day.Ls.ok (Day.Ls.mk (ge al 13) (gi al 14)), [.i (((r1)).a 0), .i (((r1)).a 1), .i (((r1)).a 2), .i (((r1)).a 3), .i (((r1)).a 4), .i (((r1)).a 5), .i (((r1)).a 6), .i (((r1)).a 7), .i (((r1)).port), .i (((r1)).age), .i (((r1)).hold), .i (((r1)).pos), .i (Day.Bh (gi al 0) z0 (Day.Ls.mk (ge al 13) (gi al 14)))])
def AfF (al : List A) : Bool × List A := let z0 := (Day.HB.mk [(gi al 1), (gi al 2), (gi al 3), (gi al 4), (gi al 5), (gi al 6), (gi al 7), (gi al 8)] (gi al 9) (gi al 10) (gi al 11) (gi al 12)); let r1 := Day.Ks (gi al 0) z0 (Day.Ls.mk (ge al 13) (gi al 14)); (Day.Ak (gi al 0) z0 && Day.Cg (gi al 0) (Day.Ls.mk (ge al 13) (gi al 14)), [.i (((r1)).a 0), .i (((r1)).a 1), .i (((r1)).a 2), .i (((r1)).a 3), .i (((r1)).a 4), .i (((r1)).a 5), .i (((r1)).a 6), .i (((r1)).a 7), .i (((r1)).port), .i (((r1)).age), .i (((r1)).hold), .i (((r1)).pos), .i (((Day.Gq z0 (Day.Ls.mk (ge al 13) (gi al 14)))).kind), .i (((Day.Gq z0 (Day.Ls.mk (ge al 13) (gi al 14)))).id)])
def AfG (al : List A) : Bool × List A := let z0 := (Day.HB.mk [(gi al 1), (gi al 2), (gi al 3), (gi al 4), (gi al 5), (gi al 6), (gi al 7), (gi al 8)] (gi al 9) (gi al 10) (gi al 11) (gi al 12)); let r1 := Day.IN (gi al 0) z0 (Day.Ls.mk (ge al 13) (gi al 14)); (Day.Ak (gi al 0) z0 && Day.Cg (gi al 0) (Day.Ls.mk (ge al 13) (gi al 14)), [.i (((r1)).a 0), .i (((r1)).a 1), .i (((r1)).a 2), .i (((r1)).a 3), .i (((r1)).a 4), .i (((r1)).a 5), .i (((r1)).a 6), .i (((r1)).a 7), .i (((r1)).port), .i (((r1)).age), .i (((r1)).hold), .i (((r1)).pos), .i (((Day.DU (gi al 0) z0 (Day.Ls.mk (ge al 13) (gi al 14)))).kind), .i (((Day.DU (gi al 0) z0 (Day.Ls.mk (ge al 13) (gi al 14)))).id)])
def AfH (al : List A) : Bool × List A := let z0 := (Day.HB.mk [(gi al 1), (gi al 2), (gi al 3), (gi al 4), (gi al 5), (gi al 6), (gi al 7), (gi al 8)] (gi al 9) (gi al 10) (gi al 11) (gi al 12)); let r1 := Day.D1 (gi al 0) z0 (Day.Ls.mk (ge al 13) (gi al 14)); (Day.HB.i64 z0 && Day.Ls.ok (Day.Ls.mk (ge al 13) (gi al 14)), [.i (((r1)).a 0), .i (((r1)).a 1), .i (((r1)).a 2), .i (((r1)).a 3), .i (((r1)).a 4), .i (((r1)).a 5), .i (((r1)).a 6), .i (((r1)).a 7), .i (((r1)).port), .i (((r1)).age), .i (((r1)).hold), .i (((r1)).pos), .i (((Day.CH (gi al 0) z0 (Day.Ls.mk (ge al 13) (gi al 14)))).kind), .i (((Day.CH (gi al 0) z0 (Day.Ls.mk (ge al 13) (gi al 14)))).id), .i (Day.Bh (gi al 0) z0 (Day.Ls.mk (ge al 13) (gi al 14)))])
def AfI (al : List A) : Bool × List A := let z0 := (Day.HB.mk [(gi al 1), (gi al 2), (gi al 3), (gi al 4), (gi al 5), (gi al 6), (gi al 7), (gi al 8)] (gi al 9) (gi al 10) (gi al 11) (gi al 12)); let r1 := Day.D1 (gi al 0) z0 (Day.Ls.mk (ge al 13) (gi al 14)); (Day.HB.i64 z0 && Day.Ls.ok (Day.Ls.mk (ge al 13) (gi al 14)), [.i (((r1)).a 0), .i (((r1)).a 1), .i (((r1)).a 2), .i (((r1)).a 3), .i (((r1)).a 4), .i (((r1)).a 5), .i (((r1)).a 6), .i (((r1)).a 7), .i (((r1)).port), .i (((r1)).age), .i (((r1)).hold), .i (((r1)).pos), .i (((Day.CH (gi al 0) z0 (Day.Ls.mk (ge al 13) (gi al 14)))).kind), .i (((Day.CH (gi al 0) z0 (Day.Ls.mk (ge al 13) (gi al 14)))).id), .i (Day.Bh (gi al 0) z0 (Day.Ls.mk (ge al 13) (gi al 14)))])
def AfJ (al : List A) : Bool × List A := let z0 := (Day.HB.mk [(gi al 1), (gi al 2), (gi al 3), (gi al 4), (gi al 5), (gi al 6), (gi al 7), (gi al 8)] (gi al 9) (gi al 10) (gi al 11) (gi al 12)); let r1 := Day.Nz (gi al 0) z0 (Day.Ls.mk (ge al 13) (gi al 14)); (Day.HB.i64 z0 && Day.Ls.ok (Day.Ls.mk (ge al 13) (gi al 14)), [.i (((r1)).a 0), .i (((r1)).a 1), .i (((r1)).a 2), .i (((r1)).a 3), .i (((r1)).a 4), .i (((r1)).a 5), .i (((r1)).a 6), .i (((r1)).a 7), .i (((r1)).port), .i (((r1)).age), .i (((r1)).hold), .i (((r1)).pos), .i (((Day.H6 (gi al 0) z0 (Day.Ls.mk (ge al 13) (gi al 14)))).kind), .i (((Day.H6 (gi al 0) z0 (Day.Ls.mk (ge al 13) (gi al 14)))).id), .i (Day.Bh (gi al 0) z0 (Day.Ls.mk (ge al 13) (gi al 14)))])
def AfK (al : List A) : Bool × List A := let z0 := (Day.HB.mk [(gi al 1), (gi al 2), (gi al 3), (gi al 4), (gi al 5), (gi al 6), (gi al 7), (gi al 8)] (gi al 9) (gi al 10) (gi al 11) (gi al 12)); let r1 := Day.Nz (gi al 0) z0 (Day.Ls.mk (ge al 13) (gi al 14)); (Day.HB.i64 z0 && Day.Ls.ok (Day.Ls.mk (ge al 13) (gi al 14)), [.i (((r1)).a 0), .i (((r1)).a 1), .i (((r1)).a 2), .i (((r1)).a 3), .i (((r1)).a 4), .i (((r1)).a 5), .i (((r1)).a 6), .i (((r1)).a 7), .i (((r1)).port), .i (((r1)).age), .i (((r1)).hold), .i (((r1)).pos), .i (((Day.H6 (gi al 0) z0 (Day.Ls.mk (ge al 13) (gi al 14)))).kind), .i (((Day.H6 (gi al 0) z0 (Day.Ls.mk (ge al 13) (gi al 14)))).id), .i (Day.Bh (gi al 0) z0 (Day.Ls.mk (ge al 13) (gi al 14)))])
def Agz (al : List A) : Bool × List A := (Day.Ls.FL (Day.Ls.mk (ge al 0) (gi al 1)) && (Day.Be ((Day.Ls.mk (ge al 0) (gi al 1))).n 1000000 && Day.P4 1 ((Day.Ls.mk (ge al 0) (gi al 1))).n), [(((A.l ((Day.Ls.mk (ge al 0) (gi al 1))).x.A5, ((Day.Ls.mk (ge al 0) (gi al 1))).n))).1, .i ((((A.l ((Day.Ls.mk (ge al 0) (gi al 1))).x.A5, ((Day.Ls.mk (ge al 0) (gi al 1))).n))).2)])
def AgA (al : List A) : Bool × List A := (Day.Ls.FL (Day.Ls.mk (ge al 0) (gi al 1)) && (Day.Ls.FL (Day.Ls.mk (ge al 2) (gi al 3)) && (Day.Be ((Day.Ls.mk (ge al 0) (gi al 1))).n 1000000 && (Day.P4 1 ((Day.Ls.mk (ge al 0) (gi al 1))).n && Day.P4 1 ((Day.Ls.mk (ge al 2) (gi al 3))).n))), [((Day.Es (Day.Ls.mk (ge al 0) (gi al 1)) (Day.Ls.mk (ge al 2) (gi al 3)))).1, .i (((Day.Es (Day.Ls.mk (ge al 0) (gi al 1)) (Day.Ls.mk (ge al 2) (gi al 3)))).2), .i (Day.Mc (Day.Ls.mk (ge al 0) (gi al 1)) (Day.Ls.mk (ge al 2) (gi al 3)))])
def AgB (al : List A) : Bool × List A := (Day.Ls.FL (Day.Ls.mk (ge al 0) (gi al 1)) && (Day.Ls.FL (Day.Ls.mk (ge al 2) (gi al 3)) && (Day.Be ((Day.Ls.mk (ge al 0) (gi al 1))).n 1000000 && (Day.P4 1 ((Day.Ls.mk (ge al 0) (gi al 1))).n && Day.P4 1 ((Day.Ls.mk (ge al 2) (gi al 3))).n))), [((Day.Es (Day.Ls.mk (ge al 0) (gi al 1)) (Day.Ls.mk (ge al 2) (gi al 3)))).1, .i (((Day.Es (Day.Ls.mk (ge al 0) (gi al 1)) (Day.Ls.mk (ge al 2) (gi al 3)))).2), .i (Day.Mc (Day.Ls.mk (ge al 0) (gi al 1)) (Day.Ls.mk (ge al 2) (gi al 3)))])
def AgC (al : List A) : Bool × List A := let z0 := (Day.HB.mk [(gi al 0), (gi al 1), (gi al 2), (gi al 3), (gi al 4), (gi al 5), (gi al 6), (gi al 7)] (gi al 8) (gi al 9) (gi al 10) (gi al 11)); let z1 := (Day.HB.mk [(gi al 12), (gi al 13), (gi al 14), (gi al 15), (gi al 16), (gi al 17), (gi al 18), (gi al 19)] (gi al 20) (gi al 21) (gi al 22) (gi al 23)); let r2 := Day.Me (gb al 28) z0 z1; (Day.Ls.FL (Day.Ls.mk (ge al 24) (gi al 25)) && (Day.Ls.FL (Day.Ls.mk (ge al 26) (gi al 27)) && (Day.Be ((Day.Ls.mk (ge al 24) (gi al 25))).n 1000000 && (Day.P4 1 ((Day.Ls.mk (ge al 24) (gi al 25))).n && Day.Ms ((Day.Ls.mk (ge al 24) (gi al 25))).n ((Day.Ls.mk (ge al 26) (gi al 27))).n))), [.i (((z0)).a 0), .i (((z0)).a 1), .i (((z0)).a 2), .i (((z0)).a 3), .i (((z0)).a 4), .i (((z0)).a 5), .i (((z0)).a 6), .i (((z0)).a 7), .i (((z0)).port), .i (((z0)).age), .i (((z0)).hold), .i (((z0)).pos), ((Day.Fe (gb al 29) (Day.Ls.mk (ge al 24) (gi al 25)) (Day.Ls.mk (ge al 26) (gi al 27)) (Day.Ls.mk (ge al 24) (gi al 25)))).1, .i (((Day.Fe (gb al 29) (Day.Ls.mk (ge al 24) (gi al 25)) (Day.Ls.mk (ge al 26) (gi al 27)) (Day.Ls.mk (ge al 24) (gi al 25)))).2), .i (((r2)).a 0), .i (((r2)).a 1), .i (((r2)).a 2), .i (((r2)).a 3), .i (((r2)).a 4), .i (((r2)).a 5), .i (((r2)).a 6), .i (((r2)).a 7), .i (((r2)).port), .i (((r2)).age), .i (((r2)).hold), .i (((r2)).pos), ((Day.Fe (gb al 28) (Day.Ls.mk (ge al 24) (gi al 25)) (Day.Ls.mk (ge al 26) (gi al 27)) (Day.Ls.mk (ge al 26) (gi al 27)))).1, .i (((Day.Fe (gb al 28) (Day.Ls.mk (ge al 24) (gi al 25)) (Day.Ls.mk (ge al 26) (gi al 27)) (Day.Ls.mk (ge al 26) (gi al 27)))).2)])
def AfL (al : List A) : Bool × List A := let z0 := (Day.HB.mk [(gi al 1), (gi al 2), (gi al 3), (gi al 4), (gi al 5), (gi al 6), (gi al 7), (gi al 8)] (gi al 9) (gi al 10) (gi al 11) (gi al 12)); let z1 := (Day.HB.mk [(gi al 13), (gi al 14), (gi al 15), (gi al 16), (gi al 17), (gi al 18), (gi al 19), (gi al 20)] (gi al 21) (gi al 22) (gi al 23) (gi al 24)); let r2 := Day.DI (gi al 0) z0 z1 (Day.Ls.mk (ge al 25) (gi al 26)) (Day.Ls.mk (ge al 27) (gi al 28)) (gb al 29) (gb al 30); let r3 := Day.DJ (gi al 0) z0 z1 (Day.Ls.mk (ge al 25) (gi al 26)) (Day.Ls.mk (ge al 27) (gi al 28)) (gb al 29) (gb al 30); (Day.HB.i64 z0 && (Day.HB.i64 z1 && (Day.Ls.FL (Day.Ls.mk (ge al 25) (gi al 26)) && Day.Ls.FL (Day.Ls.mk (ge al 27) (gi al 28)))), [.i (((r2)).a 0), .i (((r2)).a 1), .i (((r2)).a 2), .i (((r2)).a 3), .i (((r2)).a 4), .i (((r2)).a 5), .i (((r2)).a 6), .i (((r2)).a 7), .i (((r2)).port), .i (((r2)).age), .i (((r2)).hold), .i (((r2)).pos), .i (((r3)).a 0), .i (((r3)).a 1), .i (((r3)).a 2), .i (((r3)).a 3), .i (((r3)).a 4), .i (((r3)).a 5), .i (((r3)).a 6), .i (((r3)).a 7), .i (((r3)).port), .i (((r3)).age), .i (((r3)).hold), .i (((r3)).pos), .i (((Day.Cv (gi al 0) z0 z1 (Day.Ls.mk (ge al 25) (gi al 26)) (Day.Ls.mk (ge al 27) (gi al 28)) (gb al 29) (gb al 30))).kind), .i (((Day.Cv (gi al 0) z0 z1 (Day.Ls.mk (ge al 25) (gi al 26)) (Day.Ls.mk (ge al 27) (gi al 28)) (gb al 29) (gb al 30))).id), .i (((Day.Cw (gi al 0) z0 z1 (Day.Ls.mk (ge al 25) (gi al 26)) (Day.Ls.mk (ge al 27) (gi al 28)) (gb al 29) (gb al 30))).kind), .i (((Day.Cw (gi al 0) z0 z1 (Day.Ls.mk (ge al 25) (gi al 26)) (Day.Ls.mk (ge al 27) (gi al 28)) (gb al 29) (gb al 30))).id), .i (Day.CL (gi al 0) z0 z1 (Day.Ls.mk (ge al 25) (gi al 26)) (Day.Ls.mk (ge al 27) (gi al 28)))])
def AfM (al : List A) : Bool × List A := let z0 := (Day.HB.mk [(gi al 1), (gi al 2), (gi al 3), (gi al 4), (gi al 5), (gi al 6), (gi al 7), (gi al 8)] (gi al 9) (gi al 10) (gi al 11) (gi al 12)); let z1 := (Day.HB.mk [(gi al 13), (gi al 14), (gi al 15), (gi al 16), (gi al 17), (gi al 18), (gi al 19), (gi al 20)] (gi al 21) (gi al 22) (gi al 23) (gi al 24)); let r2 := Day.DI (gi al 0) z0 z1 (Day.Ls.mk (ge al 25) (gi al 26)) (Day.Ls.mk (ge al 27) (gi al 28)) (gb al 29) (gb al 30); let r3 := Day.DJ (gi al 0) z0 z1 (Day.Ls.mk (ge al 25) (gi al 26)) (Day.Ls.mk (ge al 27) (gi al 28)) (gb al 29) (gb al 30); (Day.HB.i64 z0 && (Day.HB.i64 z1 && (Day.Ls.FL (Day.Ls.mk (ge al 25) (gi al 26)) && Day.Ls.FL (Day.Ls.mk (ge al 27) (gi al 28)))), [.i (((r2)).a 0), .i (((r2)).a 1), .i (((r2)).a 2), .i (((r2)).a 3), .i (((r2)).a 4), .i (((r2)).a 5), .i (((r2)).a 6), .i (((r2)).a 7), .i (((r2)).port), .i (((r2)).age), .i (((r2)).hold), .i (((r2)).pos), .i (((r3)).a 0), .i (((r3)).a 1), .i (((r3)).a 2), .i (((r3)).a 3), .i (((r3)).a 4), .i (((r3)).a 5), .i (((r3)).a 6), .i (((r3)).a 7), .i (((r3)).port), .i (((r3)).age), .i (((r3)).hold), .i (((r3)).pos), .i (((Day.Cv (gi al 0) z0 z1 (Day.Ls.mk (ge al 25) (gi al 26)) (Day.Ls.mk (ge al 27) (gi al 28)) (gb al 29) (gb al 30))).kind), .i (((Day.Cv (gi al 0) z0 z1 (Day.Ls.mk (ge al 25) (gi al 26)) (Day.Ls.mk (ge al 27) (gi al 28)) (gb al 29) (gb al 30))).id), .i (((Day.Cw (gi al 0) z0 z1 (Day.Ls.mk (ge al 25) (gi al 26)) (Day.Ls.mk (ge al 27) (gi al 28)) (gb al 29) (gb al 30))).kind), .i (((Day.Cw (gi al 0) z0 z1 (Day.Ls.mk (ge al 25) (gi al 26)) (Day.Ls.mk (ge al 27) (gi al 28)) (gb al 29) (gb al 30))).id), .i (Day.CL (gi al 0) z0 z1 (Day.Ls.mk (ge al 25) (gi al 26)) (Day.Ls.mk (ge al 27) (gi al 28)))])
def AfN (al : List A) : Bool × List A := let z0 := (Day.HB.mk [(gi al 1), (gi al 2), (gi al 3), (gi al 4), (gi al 5), (gi al 6), (gi al 7), (gi al 8)] (gi al 9) (gi al 10) (gi al 11) (gi al 12)); let z1 := (Day.HB.mk [(gi al 13), (gi al 14), (gi al 15), (gi al 16), (gi al 17), (gi al 18), (gi al 19), (gi al 20)] (gi al 21) (gi al 22) (gi al 23) (gi al 24)); let r2 := Day.AB (gi al 0) z0; let r3 := Day.AB (gi al 0) z1; (Day.HB.i64 z0 && Day.HB.i64 z1, [.i (((r2)).a 0), .i (((r2)).a 1), .i (((r2)).a 2), .i (((r2)).a 3), .i (((r2)).a 4), .i (((r2)).a 5), .i (((r2)).a 6), .i (((r2)).a 7), .i (((r2)).port), .i (((r2)).age), .i (((r2)).hold), .i (((r2)).pos), .i (((r3)).a 0), .i (((r3)).a 1), .i (((r3)).a 2), .i (((r3)).a 3), .i (((r3)).a 4), .i (((r3)).a 5), .i (((r3)).a 6), .i (((r3)).a 7), .i (((r3)).port), .i (((r3)).age), .i (((r3)).hold), .i (((r3)).pos), .i (Day.BV (gi al 0))])
def AfO (al : List A) : Bool × List A := let z0 := (Day.HB.mk [(gi al 1), (gi al 2), (gi al 3), (gi al 4), (gi al 5), (gi al 6), (gi al 7), (gi al 8)] (gi al 9) (gi al 10) (gi al 11) (gi al 12)); let z1 := (Day.HB.mk [(gi al 13), (gi al 14), (gi al 15), (gi al 16), (gi al 17), (gi al 18), (gi al 19), (gi al 20)] (gi al 21) (gi al 22) (gi al 23) (gi al 24)); let r2 := Day.AB (gi al 0) z0; let r3 := Day.AB (gi al 0) z1; (Day.HB.i64 z0 && Day.HB.i64 z1, [.i (((r2)).a 0), .i (((r2)).a 1), .i (((r2)).a 2), .i (((r2)).a 3), .i (((r2)).a 4), .i (((r2)).a 5), .i (((r2)).a 6), .i (((r2)).a 7), .i (((r2)).port), .i (((r2)).age), .i (((r2)).hold), .i (((r2)).pos), .i (((r3)).a 0), .i (((r3)).a 1), .i (((r3)).a 2), .i (((r3)).a 3), .i (((r3)).a 4), .i (((r3)).a 5), .i (((r3)).a 6), .i (((r3)).a 7), .i (((r3)).port), .i (((r3)).age), .i (((r3)).hold), .i (((r3)).pos), .i (Day.BV (gi al 0))])
def AfP (al : List A) : Bool × List A := (true, [.b (true)])
def t_6 (al : List A) : Bool × List A := let z0 := (Day.HB.mk [(gi al 1), (gi al 2), (gi al 3), (gi al 4), (gi al 5), (gi al 6), (gi al 7), (gi al 8)] (gi al 9) (gi al 10) (gi al 11) (gi al 12)); let z1 := (Day.HB.mk [(gi al 13), (gi al 14), (gi al 15), (gi al 16), (gi al 17), (gi al 18), (gi al 19), (gi al 20)] (gi al 21) (gi al 22) (gi al 23) (gi al 24)); (Day.i64 (gi al 0) && (Day.HB.i64 z0 && (Day.HB.i64 z1 && (Day.Ls.FL (Day.Ls.mk (ge al 25) (gi al 26)) && Day.Ls.FL (Day.Ls.mk (ge al 27) (gi al 28))))), [.b (true)])
def Kt (al : List A) : Bool × List A := let z0 := (Day.HB.mk [(gi al 1), (gi al 2), (gi al 3), (gi al 4), (gi al 5), (gi al 6), (gi al 7), (gi al 8)] (gi al 9) (gi al 10) (gi al 11) (gi al 12)); (Day.right (gi al 0) && Day.Be (gi al 13) 8, [.b ((!Day.okF (gi al 0) z0 (gi al 13))), .b (Day.okF (gi al 0) z0 (gi al 13))])
def Ku (al : List A) : Bool × List A := (Day.Yr (gi al 0) (gi al 1), [.i (Day.AD (gi al 0) (gi al 1) 0 (gi al 6)), .i (Day.AD (gi al 0) (gi al 1) 1 (gi al 7)), .i (Day.AD (gi al 0) (gi al 1) 2 (gi al 8)), .i (Day.AD (gi al 0) (gi al 1) 3 (gi al 9)), .i (Day.AD (gi al 0) (gi al 1) 4 (gi al 10)), .i (Day.AD (gi al 0) (gi al 1) 5 (gi al 11)), .i (Day.AD (gi al 0) (gi al 1) 6 (gi al 12)), .i (Day.AD (gi al 0) (gi al 1) 7 (gi al 13))])
def Kv (al : List A) : Bool × List A := (Day.Yr (gi al 0) (gi al 13), [.i (Day.Hi (gi al 0) (gi al 13) 0 (gi al 16)), .i (Day.Hi (gi al 0) (gi al 13) 1 (gi al 17)), .i (Day.Hi (gi al 0) (gi al 13) 2 (gi al 18)), .i (Day.Hi (gi al 0) (gi al 13) 3 (gi al 19)), .i (Day.Hi (gi al 0) (gi al 13) 4 (gi al 20)), .i (Day.Hi (gi al 0) (gi al 13) 5 (gi al 21)), .i (Day.Hi (gi al 0) (gi al 13) 6 (gi al 22)), .i (Day.Hi (gi al 0) (gi al 13) 7 (gi al 23))])
def Kw (al : List A) : Bool × List A := let z0 := (Day.HB.mk [(gi al 1), (gi al 2), (gi al 3), (gi al 4), (gi al 5), (gi al 6), (gi al 7), (gi al 8)] (gi al 9) (gi al 10) (gi al 11) (gi al 12)); (Day.IM (gi al 0) z0 (gi al 15) (gi al 14), [.i (Day.Hj (gi al 0) z0 (gi al 13) (gi al 15) (gi al 14))])
def Kx (al : List A) : Bool × List A := let z0 := (Day.HB.mk [(gi al 1), (gi al 2), (gi al 3), (gi al 4), (gi al 5), (gi al 6), (gi al 7), (gi al 8)] (gi al 9) (gi al 10) (gi al 11) (gi al 12)); (Day.Nv (gi al 0) z0 (gi al 14), [.i (Day.Nu (gi al 0) z0 (gi al 14) (gi al 13))])
def Ky (al : List A) : Bool × List A := let z0 := (Day.HB.mk [(gi al 1), (gi al 2), (gi al 3), (gi al 4), (gi al 5), (gi al 6), (gi al 7), (gi al 8)] (gi al 9) (gi al 10) (gi al 11) (gi al 12)); (Day.DB (gi al 0) z0 (gi al 13) (ge al 14), [Day.Co (Day.Kp (gi al 0) z0 (gi al 13) (ge al 14))])
def Kz (al : List A) : Bool × List A := (Day.DG (gi al 0) (gi al 2) (ge al 17), [.i (Day.Qg (gi al 1) (gi al 2) (ge al 17))])
def KA (al : List A) : Bool × List A := (Day.DG (gi al 0) (gi al 2) (ge al 15), [.i (Day.UB (gi al 1) (gi al 2) (ge al 15)), .b (Day.Kq (gi al 1) (gi al 2) (ge al 15)), .b ((!Day.Kq (gi al 1) (gi al 2) (ge al 15)))])
def KB (al : List A) : Bool × List A := (Day.Ls.ok (Day.Ls.mk (ge al 6) (gi al 1)) && Day.Be (gi al 5) ((Day.Ls.mk (ge al 6) (gi al 1))).n, [.b ((!Day.D0 (Day.DC (Day.Ls.mk (ge al 6) (gi al 1))) (gi al 5) ((Day.Ls.mk (ge al 6) (gi al 1))).n)), .b (Day.D0 (Day.DC (Day.Ls.mk (ge al 6) (gi al 1))) (gi al 5) ((Day.Ls.mk (ge al 6) (gi al 1))).n)])
def KC (al : List A) : Bool × List A := (Day.Ls.ok (Day.Ls.mk (ge al 3) (gi al 1)) && Day.Be (gi al 2) ((Day.Ls.mk (ge al 3) (gi al 1))).n, [.b ((!Day.D0 (Day.DC (Day.Ls.mk (ge al 3) (gi al 1))) (gi al 2) ((Day.Ls.mk (ge al 3) (gi al 1))).n)), .b (Day.D0 (Day.DC (Day.Ls.mk (ge al 3) (gi al 1))) (gi al 2) ((Day.Ls.mk (ge al 3) (gi al 1))).n)])
def KD (al : List A) : Bool × List A := (Day.Be (gi al 16) ((Day.Ls.mk (ge al 17) (gi al 13))).n && Day.Be ((Day.Ls.mk (ge al 17) (gi al 13))).n 8, [.i (Day.Az ((Day.Ls.mk (ge al 17) (gi al 13))).n (Day.Ls.mk (ge al 17) (gi al 13)) (gi al 16) 0 (gi al 18)), .i (Day.Az ((Day.Ls.mk (ge al 17) (gi al 13))).n (Day.Ls.mk (ge al 17) (gi al 13)) (gi al 16) 1 (gi al 19)), .i (Day.Az ((Day.Ls.mk (ge al 17) (gi al 13))).n (Day.Ls.mk (ge al 17) (gi al 13)) (gi al 16) 2 (gi al 20)), .i (Day.Az ((Day.Ls.mk (ge al 17) (gi al 13))).n (Day.Ls.mk (ge al 17) (gi al 13)) (gi al 16) 3 (gi al 21)), .i (Day.Az ((Day.Ls.mk (ge al 17) (gi al 13))).n (Day.Ls.mk (ge al 17) (gi al 13)) (gi al 16) 4 (gi al 22)), .i (Day.Az ((Day.Ls.mk (ge al 17) (gi al 13))).n (Day.Ls.mk (ge al 17) (gi al 13)) (gi al 16) 5 (gi al 23)), .i (Day.Az ((Day.Ls.mk (ge al 17) (gi al 13))).n (Day.Ls.mk (ge al 17) (gi al 13)) (gi al 16) 6 (gi al 24)), .i (Day.Az ((Day.Ls.mk (ge al 17) (gi al 13))).n (Day.Ls.mk (ge al 17) (gi al 13)) (gi al 16) 7 (gi al 25))])
def KE (al : List A) : Bool × List A := (Day.Be (gi al 15) (gi al 0) && Day.Be (gi al 0) 8 && ((Day.Ls.mk (ge al 17) (gi al 13))).n == (gi al 0), [.i (Day.Az ((Day.Ls.mk (ge al 17) (gi al 13))).n (Day.Ls.mk (ge al 17) (gi al 13)) (gi al 15) 0 (gi al 18)), .i (Day.Az ((Day.Ls.mk (ge al 17) (gi al 13))).n (Day.Ls.mk (ge al 17) (gi al 13)) (gi al 15) 1 (gi al 19)), .i (Day.Az ((Day.Ls.mk (ge al 17) (gi al 13))).n (Day.Ls.mk (ge al 17) (gi al 13)) (gi al 15) 2 (gi al 20)), .i (Day.Az ((Day.Ls.mk (ge al 17) (gi al 13))).n (Day.Ls.mk (ge al 17) (gi al 13)) (gi al 15) 3 (gi al 21)), .i (Day.Az ((Day.Ls.mk (ge al 17) (gi al 13))).n (Day.Ls.mk (ge al 17) (gi al 13)) (gi al 15) 4 (gi al 22)), .i (Day.Az ((Day.Ls.mk (ge al 17) (gi al 13))).n (Day.Ls.mk (ge al 17) (gi al 13)) (gi al 15) 5 (gi al 23)), .i (Day.Az ((Day.Ls.mk (ge al 17) (gi al 13))).n (Day.Ls.mk (ge al 17) (gi al 13)) (gi al 15) 6 (gi al 24)), .i (Day.Az ((Day.Ls.mk (ge al 17) (gi al 13))).n (Day.Ls.mk (ge al 17) (gi al 13)) (gi al 15) 7 (gi al 25))])
def KF (al : List A) : Bool × List A := (Day.Ls.ok (Day.Ls.mk (ge al 2) (gi al 0)) && Day.Be (gi al 1) ((Day.Ls.mk (ge al 2) (gi al 0))).n, [.i (Day.AW (Day.BH (Day.Ls.mk (ge al 2) (gi al 0))) (gi al 1) ((Day.Ls.mk (ge al 2) (gi al 0))).n), .b (Day.FJ (Day.BH (Day.Ls.mk (ge al 2) (gi al 0))) (gi al 1) ((Day.Ls.mk (ge al 2) (gi al 0))).n), .b ((!Day.FJ (Day.BH (Day.Ls.mk (ge al 2) (gi al 0))) (gi al 1) ((Day.Ls.mk (ge al 2) (gi al 0))).n))])
def KG (al : List A) : Bool × List A := (Day.Yr (gi al 0) (gi al 17), [.i (Day.AD (gi al 0) (gi al 17) 0 (gi al 19)), .i (Day.AD (gi al 0) (gi al 17) 1 (gi al 20)), .i (Day.AD (gi al 0) (gi al 17) 2 (gi al 21)), .i (Day.AD (gi al 0) (gi al 17) 3 (gi al 22)), .i (Day.AD (gi al 0) (gi al 17) 4 (gi al 23)), .i (Day.AD (gi al 0) (gi al 17) 5 (gi al 24)), .i (Day.AD (gi al 0) (gi al 17) 6 (gi al 25)), .i (Day.AD (gi al 0) (gi al 17) 7 (gi al 26))])
def KH (al : List A) : Bool × List A := (Day.right (gi al 0) && ((Day.Ls.mk (ge al 18) (gi al 13))).n == (gi al 0) && Day.Be (gi al 15) (gi al 0), [.i ((Day.Al (gi al 0)).a 0), .i ((Day.Al (gi al 0)).a 1), .i ((Day.Al (gi al 0)).a 2), .i ((Day.Al (gi al 0)).a 3), .i ((Day.Al (gi al 0)).a 4), .i ((Day.Al (gi al 0)).a 5), .i ((Day.Al (gi al 0)).a 6), .i ((Day.Al (gi al 0)).a 7), .i ((Day.AW (Day.BH (Day.Ls.mk (ge al 18) (gi al 13))) (gi al 15) (gi al 0))), .i ((Day.Al (gi al 0)).a 0), .i ((Day.Al (gi al 0)).a 1), .i ((Day.Al (gi al 0)).a 2), .i ((Day.Al (gi al 0)).a 3), .i ((Day.Al (gi al 0)).a 4), .i ((Day.Al (gi al 0)).a 5), .i ((Day.Al (gi al 0)).a 6), .i ((Day.Al (gi al 0)).a 7), .i ((Day.AW (Day.BH (Day.Ls.mk (ge al 18) (gi al 13))) (gi al 15) (gi al 0))), .i (((Day.Ls.mk (ge al 18) (gi al 13))).k (Day.AW (Day.BH (Day.Ls.mk (ge al 18) (gi al 13))) (gi al 15) (gi al 0))), .i (((Day.Ls.mk (ge al 18) (gi al 13))).d (Day.AW (Day.BH (Day.Ls.mk (ge al 18) (gi al 13))) (gi al 15) (gi al 0))), .b ((Day.Fw (gi al 0) (Day.Ls.mk (ge al 18) (gi al 13)) (gi al 15) (gi al 10))), .b ((!(Day.Fw (gi al 0) (Day.Ls.mk (ge al 18) (gi al 13)) (gi al 15) (gi al 10))))])
def KI (al : List A) : Bool × List A := (Day.Ls.FL (Day.Ls.mk (ge al 5) (gi al 0)) && (Day.Be (gi al 4) ((Day.Ls.mk (ge al 5) (gi al 0))).n && (Day.GV (ge al 7) ((Day.Ls.mk (ge al 5) (gi al 0))).n && (Day.Zb (ge al 7) && Day.Ms (gi al 2) ((Day.Ls.mk (ge al 5) (gi al 0))).n))), [Day.EF (Day.Ls.mk (ge al 5) (gi al 0)) (gi al 4) (ge al 7)])
def KJ (al : List A) : Bool × List A := (Day.Ls.FL (Day.Ls.mk (ge al 5) (gi al 0)) && (Day.Be (gi al 3) ((Day.Ls.mk (ge al 5) (gi al 0))).n && (Day.GV (ge al 7) ((Day.Ls.mk (ge al 5) (gi al 0))).n && (Day.Zb (ge al 7) && (Day.Ms (gi al 2) ((Day.Ls.mk (ge al 5) (gi al 0))).n && Day.Ms ((Day.Ls.mk (ge al 6) (gi al 1))).n ((Day.Ls.mk (ge al 5) (gi al 0))).n)))), [Day.Fc (Day.Ls.mk (ge al 5) (gi al 0)) (Day.Ls.mk (ge al 6) (gi al 1)) (gi al 3) (ge al 7)])
def table : List (Nat × (List A → Bool × List A)) := [(49, Ae3), (35, Ae4), (33, Ae5), (51, Ae6), (60, Ae7), (61, Ae8), (50, Ae9), (36, Afa), (66, Afb), (52, Afc), (62, Afd), (69, Afe), (43, Aff), (18, Afg), (56, Afh), (32, Afi), (40, Afj), (20, Afk), (30, Afl), (25, Afm), (21, Afn), (19, Afo), (8, t_8), (31, Afp), (14, Afq), (45, Afr), (68, Afs), (65, Aft), (64, Afu), (53, Agy), (38, Afv), (39, Afw), (23, Afx), (47, Afy), (26, Afz), (10, AfA), (37, AfB), (63, AfC), (22, AfD), (46, AfE), (42, AfF), (41, AfG), (24, AfH), (48, AfI), (11, AfJ), (29, AfK), (59, Agz), (44, AgA), (28, AgB), (27, AgC), (13, AfL), (15, AfM), (16, AfN), (17, AfO), (12, AfP), (6, t_6), (1470, Kt), (1490, Ku), (1500, Kv), (1520, Kw), (1530, Kx), (1540, Ky), (1560, Kz), (1561, KA), (1630, KB), (1640, KC), (1670, KD), (1680, KE), (1700, KF), (1701, KG), (1720, KH), (1890, KI), (1900, KJ)]
def T : Nat → List A → Bool × List A := tab table
theorem AdK : T 49 = Ae3 := rfl
theorem AdL : T 35 = Ae4 := rfl
theorem AdM : T 33 = Ae5 := rfl
theorem AdN : T 51 = Ae6 := rfl
theorem AdO : T 60 = Ae7 := rfl
theorem AdP : T 61 = Ae8 := rfl
theorem AdQ : T 50 = Ae9 := rfl
theorem AdR : T 36 = Afa := rfl
theorem AdS : T 66 = Afb := rfl
theorem AdT : T 52 = Afc := rfl
theorem AdU : T 62 = Afd := rfl
theorem AdV : T 69 = Afe := rfl
theorem AdW : T 43 = Aff := rfl
theorem AdX : T 18 = Afg := rfl
theorem AdY : T 56 = Afh := rfl
theorem AdZ : T 32 = Afi := rfl
theorem Ad0 : T 40 = Afj := rfl
theorem Ad1 : T 20 = Afk := rfl
theorem Ad2 : T 30 = Afl := rfl
theorem Ad3 : T 25 = Afm := rfl
theorem Ad4 : T 21 = Afn := rfl
theorem Ad5 : T 19 = Afo := rfl
theorem T_8 : T 8 = t_8 := rfl
theorem Ad6 : T 31 = Afp := rfl
theorem Ad7 : T 14 = Afq := rfl
theorem Ad8 : T 45 = Afr := rfl
theorem Ad9 : T 68 = Afs := rfl
theorem Aea : T 65 = Aft := rfl
theorem Aeb : T 64 = Afu := rfl
theorem AfQ : T 53 = Agy := rfl
theorem Aec : T 38 = Afv := rfl
theorem Aed : T 39 = Afw := rfl
theorem Aee : T 23 = Afx := rfl
theorem Aef : T 47 = Afy := rfl
theorem Aeg : T 26 = Afz := rfl
theorem Aeh : T 10 = AfA := rfl
theorem Aei : T 37 = AfB := rfl
theorem Aej : T 63 = AfC := rfl
theorem Aek : T 22 = AfD := rfl
theorem Ael : T 46 = AfE := rfl
theorem Aem : T 42 = AfF := rfl
theorem Aen : T 41 = AfG := rfl
theorem Aeo : T 24 = AfH := rfl
theorem Aep : T 48 = AfI := rfl
theorem Aeq : T 11 = AfJ := rfl
theorem Aer : T 29 = AfK := rfl
theorem AfR : T 59 = Agz := rfl
theorem AfS : T 44 = AgA := rfl
theorem AfT : T 28 = AgB := rfl
theorem AfU : T 27 = AgC := rfl
theorem Aes : T 13 = AfL := rfl
theorem Aet : T 15 = AfM := rfl
theorem Aeu : T 16 = AfN := rfl
theorem Aev : T 17 = AfO := rfl
theorem Aew : T 12 = AfP := rfl
theorem T_6 : T 6 = t_6 := rfl
theorem SO : T 1470 = Kt := rfl
theorem SP : T 1490 = Ku := rfl
theorem SQ : T 1500 = Kv := rfl
theorem SR : T 1520 = Kw := rfl
theorem SS : T 1530 = Kx := rfl
theorem SU : T 1540 = Ky := rfl
theorem SW : T 1560 = Kz := rfl
theorem SX : T 1561 = KA := rfl
theorem SY : T 1630 = KB := rfl
theorem SZ : T 1640 = KC := rfl
theorem S0 : T 1670 = KD := rfl
theorem S1 : T 1680 = KE := rfl
theorem S2 : T 1700 = KF := rfl
theorem S3 : T 1701 = KG := rfl
theorem S4 : T 1720 = KH := rfl
theorem S5 : T 1890 = KI := rfl
theorem S6 : T 1900 = KJ := rfl
def ws : List (Nat × Nat) := [(49, 2), (35, 2), (33, 2), (51, 2), (60, 2), (61, 2), (50, 2), (36, 2), (66, 2), (52, 2), (62, 2), (69, 2), (43, 2), (18, 2), (56, 2), (32, 2), (40, 2), (20, 2), (30, 14), (25, 2), (21, 14), (19, 2), (8, 2), (31, 14), (14, 14), (45, 14), (68, 2), (65, 2), (64, 3), (53, 3), (38, 2), (39, 3), (23, 14), (47, 14), (26, 2), (10, 2), (37, 2), (63, 2), (22, 14), (46, 14), (42, 15), (41, 15), (24, 16), (48, 16), (11, 16), (29, 16), (59, 3), (44, 4), (28, 4), (27, 29), (13, 30), (15, 30), (16, 26), (17, 26), (12, 2), (6, 2), (1470, 3), (1490, 9), (1500, 9), (1520, 2), (1530, 2), (1540, 2), (1560, 2), (1561, 4), (1630, 3), (1640, 3), (1670, 9), (1680, 9), (1700, 4), (1701, 9), (1720, 23), (1890, 2), (1900, 2)]
theorem Aw : FH T ws := fun f k h al => by
 have := Na h
 simp only [ws, List.mem_cons, List.not_mem_nil, or_false, Prod.mk.injEq] at this
 rcases this with ⟨rfl, rfl⟩ | ⟨rfl, rfl⟩ | ⟨rfl, rfl⟩ | ⟨rfl, rfl⟩ | ⟨rfl, rfl⟩ | ⟨rfl, rfl⟩ | ⟨rfl, rfl⟩ | ⟨rfl, rfl⟩ | ⟨rfl, rfl⟩ | ⟨rfl, rfl⟩ | ⟨rfl, rfl⟩ | ⟨rfl, rfl⟩ | ⟨rfl, rfl⟩ | ⟨rfl, rfl⟩ | ⟨rfl, rfl⟩ | ⟨rfl, rfl⟩ | ⟨rfl, rfl⟩ | ⟨rfl, rfl⟩ | ⟨rfl, rfl⟩ | ⟨rfl, rfl⟩ | ⟨rfl, rfl⟩ | ⟨rfl, rfl⟩ | ⟨rfl, rfl⟩ | ⟨rfl, rfl⟩ | ⟨rfl, rfl⟩ | ⟨rfl, rfl⟩ | ⟨rfl, rfl⟩ | ⟨rfl, rfl⟩ | ⟨rfl, rfl⟩ | ⟨rfl, rfl⟩ | ⟨rfl, rfl⟩ | ⟨rfl, rfl⟩ | ⟨rfl, rfl⟩ | ⟨rfl, rfl⟩ | ⟨rfl, rfl⟩ | ⟨rfl, rfl⟩ | ⟨rfl, rfl⟩ | ⟨rfl, rfl⟩ | ⟨rfl, rfl⟩ | ⟨rfl, rfl⟩ | ⟨rfl, rfl⟩ | ⟨rfl, rfl⟩ | ⟨rfl, rfl⟩ | ⟨rfl, rfl⟩ | ⟨rfl, rfl⟩ | ⟨rfl, rfl⟩ | ⟨rfl, rfl⟩ | ⟨rfl, rfl⟩ | ⟨rfl, rfl⟩ | ⟨rfl, rfl⟩ | ⟨rfl, rfl⟩ | ⟨rfl, rfl⟩ | ⟨rfl, rfl⟩ | ⟨rfl, rfl⟩ | ⟨rfl, rfl⟩ | ⟨rfl, rfl⟩ | ⟨rfl, rfl⟩ | ⟨rfl, rfl⟩ | ⟨rfl, rfl⟩ | ⟨rfl, rfl⟩ | ⟨rfl, rfl⟩ | ⟨rfl, rfl⟩ | ⟨rfl, rfl⟩ | ⟨rfl, rfl⟩ | ⟨rfl, rfl⟩ | ⟨rfl, rfl⟩ | ⟨rfl, rfl⟩ | ⟨rfl, rfl⟩ | ⟨rfl, rfl⟩ | ⟨rfl, rfl⟩ | ⟨rfl, rfl⟩ | ⟨rfl, rfl⟩ | ⟨rfl, rfl⟩
 ·rw [AdK]; exact Nat.le_refl _
 ·rw [AdL]; exact Nat.le_refl _
 ·rw [AdM]; exact Nat.le_refl _
 ·rw [AdN]; exact Nat.le_refl _
 ·rw [AdO]; exact Nat.le_refl _
 ·rw [AdP]; exact Nat.le_refl _
 ·rw [AdQ]; exact Nat.le_refl _
 ·rw [AdR]; exact Nat.le_refl _
 ·rw [AdS]; exact Nat.le_refl _
 ·rw [AdT]; exact Nat.le_refl _
 ·rw [AdU]; exact Nat.le_refl _
 ·rw [AdV]; exact Nat.le_refl _
 ·rw [AdW]; exact Nat.le_refl _
 ·rw [AdX]; exact Nat.le_refl _
 ·rw [AdY]; exact Nat.le_refl _
 ·rw [AdZ]; exact Nat.le_refl _
 ·rw [Ad0]; exact Nat.le_refl _
 ·rw [Ad1]; exact Nat.le_refl _
 ·rw [Ad2]; exact Nat.le_refl _
 ·rw [Ad3]; exact Nat.le_refl _
 ·rw [Ad4]; exact Nat.le_refl _
 ·rw [Ad5]; exact Nat.le_refl _
 ·rw [T_8]; exact Nat.le_refl _
 ·rw [Ad6]; exact Nat.le_refl _
 ·rw [Ad7]; exact Nat.le_refl _
 ·rw [Ad8]; exact Nat.le_refl _
 ·rw [Ad9]; exact Nat.le_refl _
 ·rw [Aea]; exact Nat.le_refl _
 ·rw [Aeb]; exact Nat.le_refl _
 ·rw [AfQ]; exact Nat.le_refl _
 ·rw [Aec]; exact Nat.le_refl _
 ·rw [Aed]; exact Nat.le_refl _
 ·rw [Aee]; exact Nat.le_refl _
 ·rw [Aef]; exact Nat.le_refl _
 ·rw [Aeg]; exact Nat.le_refl _
 ·rw [Aeh]; exact Nat.le_refl _
 ·rw [Aei]; exact Nat.le_refl _
 ·rw [Aej]; exact Nat.le_refl _
 ·rw [Aek]; exact Nat.le_refl _
 ·rw [Ael]; exact Nat.le_refl _
 ·rw [Aem]; exact Nat.le_refl _
 ·rw [Aen]; exact Nat.le_refl _
 ·rw [Aeo]; exact Nat.le_refl _
 ·rw [Aep]; exact Nat.le_refl _
 ·rw [Aeq]; exact Nat.le_refl _
 ·rw [Aer]; exact Nat.le_refl _
 ·rw [AfR]; exact Nat.le_refl _
 ·rw [AfS]; exact Nat.le_refl _
 ·rw [AfT]; exact Nat.le_refl _
 ·rw [AfU]; exact Nat.le_refl _
 ·rw [Aes]; exact Nat.le_refl _
 ·rw [Aet]; exact Nat.le_refl _
 ·rw [Aeu]; exact Nat.le_refl _
 ·rw [Aev]; exact Nat.le_refl _
 ·rw [Aew]; exact Nat.le_refl _
 ·rw [T_6]; exact Nat.le_refl _
 ·rw [SO]; exact Nat.le_refl _
 ·rw [SP]; exact Nat.le_refl _
 ·rw [SQ]; exact Nat.le_refl _
 ·rw [SR]; exact Nat.le_refl _
 ·rw [SS]; exact Nat.le_refl _
 ·rw [SU]; exact Nat.le_refl _
 ·rw [SW]; exact Nat.le_refl _
 ·rw [SX]; exact Nat.le_refl _
 ·rw [SY]; exact Nat.le_refl _
 ·rw [SZ]; exact Nat.le_refl _
 ·rw [S0]; exact Nat.le_refl _
 ·rw [S1]; exact Nat.le_refl _
 ·rw [S2]; exact Nat.le_refl _
 ·rw [S3]; exact Nat.le_refl _
 ·rw [S4]; exact Nat.le_refl _
 ·rw [S5]; exact Nat.le_refl _
 ·rw [S6]; exact Nat.le_refl _
theorem AU {a b : Int} {l m : List A} (h : a = b) (k : l = m) : (A.i a :: l) = (A.i b :: m) := by subst h k; rfl
theorem JB {a b : Bool} {l m : List A} (h : a = b) (k : l = m) : (A.b a :: l) = (A.b b :: m) := by subst h k; rfl
theorem Aex {a b : A} {l m : List A} (h : a = b) (k : l = m) : (a :: l) = (b :: m) := by subst h k; rfl
theorem Bi {e : Nat → A} {b : Nat} {a0 a1 a2 : L} (h : Def.holds T e ⟨b, .call 49, [a0, a1, a2]⟩) :
  (e b).bool = (true) ∧ (e (b + 1)).int = (Day.A7 (a0.ev e).int (a1.ev e).int (a2.ev e).int) := by
 have hp := AN AdK h
 have ho := fun j a => AO (a := a) AdK j h
 simp only [Ae3, gi, gb, gs, gv, ge, List.map_cons, List.map_nil, List.getD_cons_zero, List.getD_cons_succ, L.Aq, A.Ad] at hp ho
 exact ⟨hp, (congrArg A.int (ho 0 _ rfl) :)⟩
theorem BW {e : Nat → A} {b : Nat} {a0 a1 : L} (h : Def.holds T e ⟨b, .call 35, [a0, a1]⟩) :
  (e b).bool = (Day.sm (a1.ev e).int) ∧ (e (b + 1)).int = (Day.HH (a0.ev e).int (a1.ev e).int) := by
 have hp := AN AdL h
 have ho := fun j a => AO (a := a) AdL j h
 simp only [Ae4, gi, gb, gs, gv, ge, List.map_cons, List.map_nil, List.getD_cons_zero, List.getD_cons_succ, L.Aq, A.Ad] at hp ho
 exact ⟨hp, (congrArg A.int (ho 0 _ rfl) :)⟩
theorem S7 {e : Nat → A} {b : Nat} {a0 : L} (h : Def.holds T e ⟨b, .call 33, [a0]⟩) :
  (e b).bool = (Day.i64 (a0.ev e).int) ∧ (e (b + 1)).int = (Day.B5 (a0.ev e).int) := by
 have hp := AN AdM h
 have ho := fun j a => AO (a := a) AdM j h
 simp only [Ae5, gi, gb, gs, gv, ge, List.map_cons, List.map_nil, List.getD_cons_zero, List.getD_cons_succ, L.Aq, A.Ad] at hp ho
 exact ⟨hp, (congrArg A.int (ho 0 _ rfl) :)⟩
theorem Bj {e : Nat → A} {b : Nat} {a0 a1 a2 : L} (h : Def.holds T e ⟨b, .call 51, [a0, a1, a2]⟩) :
  (e b).bool = (true) ∧ (e (b + 1)).int = (Day.A7 (a0.ev e).int (a1.ev e).int (a2.ev e).int) := by
 have hp := AN AdN h
 have ho := fun j a => AO (a := a) AdN j h
 simp only [Ae6, gi, gb, gs, gv, ge, List.map_cons, List.map_nil, List.getD_cons_zero, List.getD_cons_succ, L.Aq, A.Ad] at hp ho
 exact ⟨hp, (congrArg A.int (ho 0 _ rfl) :)⟩
theorem NB {e : Nat → A} {b : Nat} {a0 a1 : L} (h : Def.holds T e ⟨b, .call 60, [a0, a1]⟩) :
  (e b).bool = (Day.sm (a1.ev e).int) ∧ (e (b + 1)).int = (Day.HH (a0.ev e).int (a1.ev e).int) := by
 have hp := AN AdO h
 have ho := fun j a => AO (a := a) AdO j h
 simp only [Ae7, gi, gb, gs, gv, ge, List.map_cons, List.map_nil, List.getD_cons_zero, List.getD_cons_succ, L.Aq, A.Ad] at hp ho
 exact ⟨hp, (congrArg A.int (ho 0 _ rfl) :)⟩
theorem S8 {e : Nat → A} {b : Nat} {a0 : L} (h : Def.holds T e ⟨b, .call 61, [a0]⟩) :
  (e b).bool = (Day.i64 (a0.ev e).int) ∧ (e (b + 1)).int = (Day.B5 (a0.ev e).int) := by
 have hp := AN AdP h
 have ho := fun j a => AO (a := a) AdP j h
 simp only [Ae8, gi, gb, gs, gv, ge, List.map_cons, List.map_nil, List.getD_cons_zero, List.getD_cons_succ, L.Aq, A.Ad] at hp ho
 exact ⟨hp, (congrArg A.int (ho 0 _ rfl) :)⟩
theorem NC {e : Nat → A} {b : Nat} {a0 a1 : L} (h : Def.holds T e ⟨b, .call 50, [a0, a1]⟩) :
  (e b).bool = (Day.BF (a0.ev e).int && Day.i64 (a1.ev e).int) ∧ (e (b + 1)).int = (Day.BO (a0.ev e).int (a1.ev e).int) := by
 have hp := AN AdQ h
 have ho := fun j a => AO (a := a) AdQ j h
 simp only [Ae9, gi, gb, gs, gv, ge, List.map_cons, List.map_nil, List.getD_cons_zero, List.getD_cons_succ, L.Aq, A.Ad] at hp ho
 exact ⟨hp, (congrArg A.int (ho 0 _ rfl) :)⟩
theorem UD {e : Nat → A} {b : Nat} {a0 a1 : L} (h : Def.holds T e ⟨b, .call 36, [a0, a1]⟩) :
  (e b).bool = (Day.AX (a0.ev e).int (a1.ev e).int) ∧ (e (b + 1)).int = (Day.AZ (a0.ev e).int (a1.ev e).int) := by
 have hp := AN AdR h
 have ho := fun j a => AO (a := a) AdR j h
 simp only [Afa, gi, gb, gs, gv, ge, List.map_cons, List.map_nil, List.getD_cons_zero, List.getD_cons_succ, L.Aq, A.Ad] at hp ho
 exact ⟨hp, (congrArg A.int (ho 0 _ rfl) :)⟩
theorem P5 {e : Nat → A} {b : Nat} {a0 a1 a2 : L} (h : Def.holds T e ⟨b, .call 66, [a0, a1, a2]⟩) :
  (e b).bool = (Day.Kn (a0.ev e).int (a1.ev e).int (a2.ev e).int) ∧ (e (b + 1)).int = (Day.atR (a0.ev e).int (a1.ev e).int (a2.ev e).int) := by
 have hp := AN AdS h
 have ho := fun j a => AO (a := a) AdS j h
 simp only [Afb, gi, gb, gs, gv, ge, List.map_cons, List.map_nil, List.getD_cons_zero, List.getD_cons_succ, L.Aq, A.Ad] at hp ho
 exact ⟨hp, (congrArg A.int (ho 0 _ rfl) :)⟩
theorem EP {e : Nat → A} {b : Nat} {a0 a1 : L} (h : Def.holds T e ⟨b, .call 52, [a0, a1]⟩) :
  (e b).bool = (Day.BF (a0.ev e).int && Day.i64 (a1.ev e).int) ∧ (e (b + 1)).int = (Day.BO (a0.ev e).int (a1.ev e).int) := by
 have hp := AN AdT h
 have ho := fun j a => AO (a := a) AdT j h
 simp only [Afc, gi, gb, gs, gv, ge, List.map_cons, List.map_nil, List.getD_cons_zero, List.getD_cons_succ, L.Aq, A.Ad] at hp ho
 exact ⟨hp, (congrArg A.int (ho 0 _ rfl) :)⟩
theorem S9 {e : Nat → A} {b : Nat} {a0 a1 : L} (h : Def.holds T e ⟨b, .call 62, [a0, a1]⟩) :
  (e b).bool = (Day.AX (a0.ev e).int (a1.ev e).int) ∧ (e (b + 1)).int = (Day.AZ (a0.ev e).int (a1.ev e).int) := by
 have hp := AN AdU h
 have ho := fun j a => AO (a := a) AdU j h
 simp only [Afd, gi, gb, gs, gv, ge, List.map_cons, List.map_nil, List.getD_cons_zero, List.getD_cons_succ, L.Aq, A.Ad] at hp ho
 exact ⟨hp, (congrArg A.int (ho 0 _ rfl) :)⟩
theorem NF {e : Nat → A} {b : Nat} {a0 a1 a2 : L} (h : Def.holds T e ⟨b, .call 69, [a0, a1, a2]⟩) :
  (e b).bool = (Day.Kn (a0.ev e).int (a1.ev e).int (a2.ev e).int) ∧ (e (b + 1)).int = (Day.atR (a0.ev e).int (a1.ev e).int (a2.ev e).int) := by
 have hp := AN AdV h
 have ho := fun j a => AO (a := a) AdV j h
 simp only [Afe, gi, gb, gs, gv, ge, List.map_cons, List.map_nil, List.getD_cons_zero, List.getD_cons_succ, L.Aq, A.Ad] at hp ho
 exact ⟨hp, (congrArg A.int (ho 0 _ rfl) :)⟩
theorem KK {e : Nat → A} {b : Nat} {a0 : L} (h : Def.holds T e ⟨b, .call 43, [a0]⟩) :
  (e b).bool = (true) ∧ (e (b + 1)).bool = (Day.right (a0.ev e).int) := by
 have hp := AN AdW h
 have ho := fun j a => AO (a := a) AdW j h
 simp only [Aff, gi, gb, gs, gv, ge, List.map_cons, List.map_nil, List.getD_cons_zero, List.getD_cons_succ, L.Aq, A.Ad] at hp ho
 exact ⟨hp, (congrArg A.bool (ho 0 _ rfl) :)⟩
theorem C5 {e : Nat → A} {b : Nat} {a0 : L} (h : Def.holds T e ⟨b, .call 18, [a0]⟩) :
  (e b).bool = (true) ∧ (e (b + 1)).bool = (Day.right (a0.ev e).int) := by
 have hp := AN AdX h
 have ho := fun j a => AO (a := a) AdX j h
 simp only [Afg, gi, gb, gs, gv, ge, List.map_cons, List.map_nil, List.getD_cons_zero, List.getD_cons_succ, L.Aq, A.Ad] at hp ho
 exact ⟨hp, (congrArg A.bool (ho 0 _ rfl) :)⟩
theorem UE {e : Nat → A} {b : Nat} {a0 a1 : L} (h : Def.holds T e ⟨b, .call 56, [a0, a1]⟩) :
  (e b).bool = (Day.Abb (a0.ev e).str) ∧ (e (b + 1)).int = (Day.times (Day.Ug (a0.ev e).str) (a1.ev e).int) := by
 have hp := AN AdY h
 have ho := fun j a => AO (a := a) AdY j h
 simp only [Afh, gi, gb, gs, gv, ge, List.map_cons, List.map_nil, List.getD_cons_zero, List.getD_cons_succ, L.Aq, A.Ad] at hp ho
 exact ⟨hp, (congrArg A.int (ho 0 _ rfl) :)⟩
theorem Qi {e : Nat → A} {b : Nat} {a0 a1 : L} (h : Def.holds T e ⟨b, .call 32, [a0, a1]⟩) :
  (e b).bool = (Day.u8 (a1.ev e).int) ∧ (e (b + 1)).int = (Day.times (a1.ev e).int (a0.ev e).int) := by
 have hp := AN AdZ h
 have ho := fun j a => AO (a := a) AdZ j h
 simp only [Afi, gi, gb, gs, gv, ge, List.map_cons, List.map_nil, List.getD_cons_zero, List.getD_cons_succ, L.Aq, A.Ad] at hp ho
 exact ⟨hp, (congrArg A.int (ho 0 _ rfl) :)⟩
theorem B0 {e : Nat → A} {b : Nat} {a0 : L} (h : Def.holds T e ⟨b, .call 40, [a0]⟩) :
  (e b).bool = (true) ∧ (e (b + 1)).int = (Day.times 2 (a0.ev e).int) := by
 have hp := AN Ad0 h
 have ho := fun j a => AO (a := a) Ad0 j h
 simp only [Afj, gi, gb, gs, gv, ge, List.map_cons, List.map_nil, List.getD_cons_zero, List.getD_cons_succ, L.Aq, A.Ad] at hp ho
 exact ⟨hp, (congrArg A.int (ho 0 _ rfl) :)⟩
theorem Bk {e : Nat → A} {b : Nat} {a0 : L} (h : Def.holds T e ⟨b, .call 20, [a0]⟩) :
  (e b).bool = (true) ∧ (e (b + 1)).int = (Day.times 2 (a0.ev e).int) := by
 have hp := AN Ad1 h
 have ho := fun j a => AO (a := a) Ad1 j h
 simp only [Afk, gi, gb, gs, gv, ge, List.map_cons, List.map_nil, List.getD_cons_zero, List.getD_cons_succ, L.Aq, A.Ad] at hp ho
 exact ⟨hp, (congrArg A.int (ho 0 _ rfl) :)⟩
theorem Gr {e : Nat → A} {b : Nat} {a0 a1 a2 a3 a4 a5 a6 a7 a8 a9 a10 a11 a12 : L} (h : Def.holds T e ⟨b, .call 30, [a0, a1, a2, a3, a4, a5, a6, a7, a8, a9, a10, a11, a12]⟩) :
  ∀ z0, z0 = (Day.HB.mk [(a1.ev e).int, (a2.ev e).int, (a3.ev e).int, (a4.ev e).int, (a5.ev e).int, (a6.ev e).int, (a7.ev e).int, (a8.ev e).int] (a9.ev e).int (a10.ev e).int (a11.ev e).int (a12.ev e).int) → ∀ r1, r1 = Day.AB (a0.ev e).int z0 → (e b).bool = (Day.HB.i64 z0) ∧ (e (b + 1)).int = (((r1)).a 0) ∧ (e (b + 2)).int = (((r1)).a 1) ∧ (e (b + 3)).int = (((r1)).a 2) ∧ (e (b + 4)).int = (((r1)).a 3) ∧ (e (b + 5)).int = (((r1)).a 4) ∧ (e (b + 6)).int = (((r1)).a 5) ∧ (e (b + 7)).int = (((r1)).a 6) ∧ (e (b + 8)).int = (((r1)).a 7) ∧ (e (b + 9)).int = (((r1)).port) ∧ (e (b + 10)).int = (((r1)).age) ∧ (e (b + 11)).int = (((r1)).hold) ∧ (e (b + 12)).int = (((r1)).pos) ∧ (e (b + 13)).int = (Day.BV (a0.ev e).int) := by
 intro z0 hz0 r1 hr1
 subst hz0 hr1
 have hp := AN Ad2 h
 have ho := fun j a => AO (a := a) Ad2 j h
 simp only [Afl, gi, gb, gs, gv, ge, List.map_cons, List.map_nil, List.getD_cons_zero, List.getD_cons_succ, L.Aq, A.Ad] at hp ho
 exact ⟨hp, (congrArg A.int (ho 0 _ rfl) :), (congrArg A.int (ho 1 _ rfl) :), (congrArg A.int (ho 2 _ rfl) :), (congrArg A.int (ho 3 _ rfl) :), (congrArg A.int (ho 4 _ rfl) :), (congrArg A.int (ho 5 _ rfl) :), (congrArg A.int (ho 6 _ rfl) :), (congrArg A.int (ho 7 _ rfl) :), (congrArg A.int (ho 8 _ rfl) :), (congrArg A.int (ho 9 _ rfl) :), (congrArg A.int (ho 10 _ rfl) :), (congrArg A.int (ho 11 _ rfl) :), (congrArg A.int (ho 12 _ rfl) :)⟩
theorem Cp {e : Nat → A} {b : Nat} {a0 a1 a2 a3 a4 a5 a6 a7 a8 a9 a10 a11 a12 : L} (h : Def.holds T e ⟨b, .call 25, [a0, a1, a2, a3, a4, a5, a6, a7, a8, a9, a10, a11, a12]⟩) :
  ∀ z0, z0 = (Day.HB.mk [(a1.ev e).int, (a2.ev e).int, (a3.ev e).int, (a4.ev e).int, (a5.ev e).int, (a6.ev e).int, (a7.ev e).int, (a8.ev e).int] (a9.ev e).int (a10.ev e).int (a11.ev e).int (a12.ev e).int) → (e b).bool = (Day.HB.i64 z0) ∧ (e (b + 1)).bool = (Day.Ak (a0.ev e).int z0) := by
 intro z0 hz0
 subst hz0
 have hp := AN Ad3 h
 have ho := fun j a => AO (a := a) Ad3 j h
 simp only [Afm, gi, gb, gs, gv, ge, List.map_cons, List.map_nil, List.getD_cons_zero, List.getD_cons_succ, L.Aq, A.Ad] at hp ho
 exact ⟨hp, (congrArg A.bool (ho 0 _ rfl) :)⟩
theorem UF {e : Nat → A} {b : Nat} {a0 a1 a2 a3 a4 a5 a6 a7 a8 a9 a10 a11 a12 : L} (h : Def.holds T e ⟨b, .call 21, [a0, a1, a2, a3, a4, a5, a6, a7, a8, a9, a10, a11, a12]⟩) :
  ∀ z0, z0 = (Day.HB.mk [(a1.ev e).int, (a2.ev e).int, (a3.ev e).int, (a4.ev e).int, (a5.ev e).int, (a6.ev e).int, (a7.ev e).int, (a8.ev e).int] (a9.ev e).int (a10.ev e).int (a11.ev e).int (a12.ev e).int) → ∀ r1, r1 = Day.Bq (a0.ev e).int z0 → (e b).bool = (Day.HB.i64 z0) ∧ (e (b + 1)).int = (((r1)).a 0) ∧ (e (b + 2)).int = (((r1)).a 1) ∧ (e (b + 3)).int = (((r1)).a 2) ∧ (e (b + 4)).int = (((r1)).a 3) ∧ (e (b + 5)).int = (((r1)).a 4) ∧ (e (b + 6)).int = (((r1)).a 5) ∧ (e (b + 7)).int = (((r1)).a 6) ∧ (e (b + 8)).int = (((r1)).a 7) ∧ (e (b + 9)).int = (((r1)).port) ∧ (e (b + 10)).int = (((r1)).age) ∧ (e (b + 11)).int = (((r1)).hold) ∧ (e (b + 12)).int = (((r1)).pos) ∧ (e (b + 13)).int = (Day.BZ (a0.ev e).int z0) := by
 intro z0 hz0 r1 hr1
 subst hz0 hr1
 have hp := AN Ad4 h
 have ho := fun j a => AO (a := a) Ad4 j h
 simp only [Afn, gi, gb, gs, gv, ge, List.map_cons, List.map_nil, List.getD_cons_zero, List.getD_cons_succ, L.Aq, A.Ad] at hp ho
 exact ⟨hp, (congrArg A.int (ho 0 _ rfl) :), (congrArg A.int (ho 1 _ rfl) :), (congrArg A.int (ho 2 _ rfl) :), (congrArg A.int (ho 3 _ rfl) :), (congrArg A.int (ho 4 _ rfl) :), (congrArg A.int (ho 5 _ rfl) :), (congrArg A.int (ho 6 _ rfl) :), (congrArg A.int (ho 7 _ rfl) :), (congrArg A.int (ho 8 _ rfl) :), (congrArg A.int (ho 9 _ rfl) :), (congrArg A.int (ho 10 _ rfl) :), (congrArg A.int (ho 11 _ rfl) :), (congrArg A.int (ho 12 _ rfl) :)⟩
theorem Eu {e : Nat → A} {b : Nat} {a0 a1 : L} (h : Def.holds T e ⟨b, .call 19, [a0, a1]⟩) :
  (e b).bool = (true) ∧ (e (b + 1)).bool = (Day.Be (a0.ev e).int (a1.ev e).int) := by
 have hp := AN Ad5 h
 have ho := fun j a => AO (a := a) Ad5 j h
 simp only [Afo, gi, gb, gs, gv, ge, List.map_cons, List.map_nil, List.getD_cons_zero, List.getD_cons_succ, L.Aq, A.Ad] at hp ho
 exact ⟨hp, (congrArg A.bool (ho 0 _ rfl) :)⟩
theorem By {e : Nat → A} {b : Nat} {a0 a1 a2 a3 a4 a5 a6 a7 a8 a9 a10 a11 a12 : L} (h : Def.holds T e ⟨b, .call 8, [a0, a1, a2, a3, a4, a5, a6, a7, a8, a9, a10, a11, a12]⟩) :
  ∀ z0, z0 = (Day.HB.mk [(a1.ev e).int, (a2.ev e).int, (a3.ev e).int, (a4.ev e).int, (a5.ev e).int, (a6.ev e).int, (a7.ev e).int, (a8.ev e).int] (a9.ev e).int (a10.ev e).int (a11.ev e).int (a12.ev e).int) → (e b).bool = (true) ∧ (e (b + 1)).bool = (Day.Ak (a0.ev e).int z0) := by
 intro z0 hz0
 subst hz0
 have hp := AN T_8 h
 have ho := fun j a => AO (a := a) T_8 j h
 simp only [t_8, gi, gb, gs, gv, ge, List.map_cons, List.map_nil, List.getD_cons_zero, List.getD_cons_succ, L.Aq, A.Ad] at hp ho
 exact ⟨hp, (congrArg A.bool (ho 0 _ rfl) :)⟩
theorem JC {e : Nat → A} {b : Nat} {a0 a1 a2 a3 a4 a5 a6 a7 a8 a9 a10 a11 a12 : L} (h : Def.holds T e ⟨b, .call 31, [a0, a1, a2, a3, a4, a5, a6, a7, a8, a9, a10, a11, a12]⟩) :
  ∀ z0, z0 = (Day.HB.mk [(a1.ev e).int, (a2.ev e).int, (a3.ev e).int, (a4.ev e).int, (a5.ev e).int, (a6.ev e).int, (a7.ev e).int, (a8.ev e).int] (a9.ev e).int (a10.ev e).int (a11.ev e).int (a12.ev e).int) → ∀ r1, r1 = Day.AB (a0.ev e).int z0 → (e b).bool = (Day.HB.i64 z0) ∧ (e (b + 1)).int = (((r1)).a 0) ∧ (e (b + 2)).int = (((r1)).a 1) ∧ (e (b + 3)).int = (((r1)).a 2) ∧ (e (b + 4)).int = (((r1)).a 3) ∧ (e (b + 5)).int = (((r1)).a 4) ∧ (e (b + 6)).int = (((r1)).a 5) ∧ (e (b + 7)).int = (((r1)).a 6) ∧ (e (b + 8)).int = (((r1)).a 7) ∧ (e (b + 9)).int = (((r1)).port) ∧ (e (b + 10)).int = (((r1)).age) ∧ (e (b + 11)).int = (((r1)).hold) ∧ (e (b + 12)).int = (((r1)).pos) ∧ (e (b + 13)).int = (Day.BV (a0.ev e).int) := by
 intro z0 hz0 r1 hr1
 subst hz0 hr1
 have hp := AN Ad6 h
 have ho := fun j a => AO (a := a) Ad6 j h
 simp only [Afp, gi, gb, gs, gv, ge, List.map_cons, List.map_nil, List.getD_cons_zero, List.getD_cons_succ, L.Aq, A.Ad] at hp ho
 exact ⟨hp, (congrArg A.int (ho 0 _ rfl) :), (congrArg A.int (ho 1 _ rfl) :), (congrArg A.int (ho 2 _ rfl) :), (congrArg A.int (ho 3 _ rfl) :), (congrArg A.int (ho 4 _ rfl) :), (congrArg A.int (ho 5 _ rfl) :), (congrArg A.int (ho 6 _ rfl) :), (congrArg A.int (ho 7 _ rfl) :), (congrArg A.int (ho 8 _ rfl) :), (congrArg A.int (ho 9 _ rfl) :), (congrArg A.int (ho 10 _ rfl) :), (congrArg A.int (ho 11 _ rfl) :), (congrArg A.int (ho 12 _ rfl) :)⟩
theorem JD {e : Nat → A} {b : Nat} {a0 : L} (h : Def.holds T e ⟨b, .call 14, [a0]⟩) :
  ∀ r0, r0 = Day.Al (a0.ev e).int → (e b).bool = (true) ∧ (e (b + 1)).int = (((r0)).a 0) ∧ (e (b + 2)).int = (((r0)).a 1) ∧ (e (b + 3)).int = (((r0)).a 2) ∧ (e (b + 4)).int = (((r0)).a 3) ∧ (e (b + 5)).int = (((r0)).a 4) ∧ (e (b + 6)).int = (((r0)).a 5) ∧ (e (b + 7)).int = (((r0)).a 6) ∧ (e (b + 8)).int = (((r0)).a 7) ∧ (e (b + 9)).int = (((r0)).port) ∧ (e (b + 10)).int = (((r0)).age) ∧ (e (b + 11)).int = (((r0)).hold) ∧ (e (b + 12)).int = (((r0)).pos) ∧ (e (b + 13)).int = (Day.BV (a0.ev e).int) := by
 intro r0 hr0
 subst hr0
 have hp := AN Ad7 h
 have ho := fun j a => AO (a := a) Ad7 j h
 simp only [Afq, gi, gb, gs, gv, ge, List.map_cons, List.map_nil, List.getD_cons_zero, List.getD_cons_succ, L.Aq, A.Ad] at hp ho
 exact ⟨hp, (congrArg A.int (ho 0 _ rfl) :), (congrArg A.int (ho 1 _ rfl) :), (congrArg A.int (ho 2 _ rfl) :), (congrArg A.int (ho 3 _ rfl) :), (congrArg A.int (ho 4 _ rfl) :), (congrArg A.int (ho 5 _ rfl) :), (congrArg A.int (ho 6 _ rfl) :), (congrArg A.int (ho 7 _ rfl) :), (congrArg A.int (ho 8 _ rfl) :), (congrArg A.int (ho 9 _ rfl) :), (congrArg A.int (ho 10 _ rfl) :), (congrArg A.int (ho 11 _ rfl) :), (congrArg A.int (ho 12 _ rfl) :)⟩
theorem Ta {e : Nat → A} {b : Nat} {a0 a1 a2 a3 a4 a5 a6 a7 a8 a9 a10 a11 a12 : L} (h : Def.holds T e ⟨b, .call 45, [a0, a1, a2, a3, a4, a5, a6, a7, a8, a9, a10, a11, a12]⟩) :
  ∀ z0, z0 = (Day.HB.mk [(a1.ev e).int, (a2.ev e).int, (a3.ev e).int, (a4.ev e).int, (a5.ev e).int, (a6.ev e).int, (a7.ev e).int, (a8.ev e).int] (a9.ev e).int (a10.ev e).int (a11.ev e).int (a12.ev e).int) → ∀ r1, r1 = Day.Bq (a0.ev e).int z0 → (e b).bool = (Day.HB.i64 z0) ∧ (e (b + 1)).int = (((r1)).a 0) ∧ (e (b + 2)).int = (((r1)).a 1) ∧ (e (b + 3)).int = (((r1)).a 2) ∧ (e (b + 4)).int = (((r1)).a 3) ∧ (e (b + 5)).int = (((r1)).a 4) ∧ (e (b + 6)).int = (((r1)).a 5) ∧ (e (b + 7)).int = (((r1)).a 6) ∧ (e (b + 8)).int = (((r1)).a 7) ∧ (e (b + 9)).int = (((r1)).port) ∧ (e (b + 10)).int = (((r1)).age) ∧ (e (b + 11)).int = (((r1)).hold) ∧ (e (b + 12)).int = (((r1)).pos) ∧ (e (b + 13)).int = (Day.BZ (a0.ev e).int z0) := by
 intro z0 hz0 r1 hr1
 subst hz0 hr1
 have hp := AN Ad8 h
 have ho := fun j a => AO (a := a) Ad8 j h
 simp only [Afr, gi, gb, gs, gv, ge, List.map_cons, List.map_nil, List.getD_cons_zero, List.getD_cons_succ, L.Aq, A.Ad] at hp ho
 exact ⟨hp, (congrArg A.int (ho 0 _ rfl) :), (congrArg A.int (ho 1 _ rfl) :), (congrArg A.int (ho 2 _ rfl) :), (congrArg A.int (ho 3 _ rfl) :), (congrArg A.int (ho 4 _ rfl) :), (congrArg A.int (ho 5 _ rfl) :), (congrArg A.int (ho 6 _ rfl) :), (congrArg A.int (ho 7 _ rfl) :), (congrArg A.int (ho 8 _ rfl) :), (congrArg A.int (ho 9 _ rfl) :), (congrArg A.int (ho 10 _ rfl) :), (congrArg A.int (ho 11 _ rfl) :), (congrArg A.int (ho 12 _ rfl) :)⟩
theorem Qj {e : Nat → A} {b : Nat} {a0 a1 a2 a3 a4 a5 a6 a7 a8 a9 a10 a11 a12 a13 a14 : L} (h : Def.holds T e ⟨b, .call 68, [a0, a1, a2, a3, a4, a5, a6, a7, a8, a9, a10, a11, a12, a13, a14]⟩) :
  ∀ z0, z0 = (Day.HB.mk [(a1.ev e).int, (a2.ev e).int, (a3.ev e).int, (a4.ev e).int, (a5.ev e).int, (a6.ev e).int, (a7.ev e).int, (a8.ev e).int] (a9.ev e).int (a10.ev e).int (a11.ev e).int (a12.ev e).int) → (e b).bool = (Day.Ak (a0.ev e).int z0 && Day.ltR (a13.ev e).int (a0.ev e).int) ∧ (e (b + 1)).bool = (Day.Gp (a0.ev e).int z0 ((a13.ev e).int).toNat (a14.ev e).int) := by
 intro z0 hz0
 subst hz0
 have hp := AN Ad9 h
 have ho := fun j a => AO (a := a) Ad9 j h
 simp only [Afs, gi, gb, gs, gv, ge, List.map_cons, List.map_nil, List.getD_cons_zero, List.getD_cons_succ, L.Aq, A.Ad] at hp ho
 exact ⟨hp, (congrArg A.bool (ho 0 _ rfl) :)⟩
theorem DV {e : Nat → A} {b : Nat} {a0 a1 a2 a3 a4 a5 a6 a7 a8 a9 a10 a11 a12 a13 : L} (h : Def.holds T e ⟨b, .call 65, [a0, a1, a2, a3, a4, a5, a6, a7, a8, a9, a10, a11, a12, a13]⟩) :
  ∀ z0, z0 = (Day.HB.mk [(a1.ev e).int, (a2.ev e).int, (a3.ev e).int, (a4.ev e).int, (a5.ev e).int, (a6.ev e).int, (a7.ev e).int, (a8.ev e).int] (a9.ev e).int (a10.ev e).int (a11.ev e).int (a12.ev e).int) → (e b).bool = (true) ∧ (e (b + 1)).int = (Day.Cu (a0.ev e).int z0 (a13.ev e).int) := by
 intro z0 hz0
 subst hz0
 have hp := AN Aea h
 have ho := fun j a => AO (a := a) Aea j h
 simp only [Aft, gi, gb, gs, gv, ge, List.map_cons, List.map_nil, List.getD_cons_zero, List.getD_cons_succ, L.Aq, A.Ad] at hp ho
 exact ⟨hp, (congrArg A.int (ho 0 _ rfl) :)⟩
theorem Tb {e : Nat → A} {b : Nat} {a0 a1 a2 a3 a4 a5 a6 a7 a8 a9 a10 a11 a12 : L} (h : Def.holds T e ⟨b, .call 64, [a0, a1, a2, a3, a4, a5, a6, a7, a8, a9, a10, a11, a12]⟩) :
  ∀ z0, z0 = (Day.HB.mk [(a1.ev e).int, (a2.ev e).int, (a3.ev e).int, (a4.ev e).int, (a5.ev e).int, (a6.ev e).int, (a7.ev e).int, (a8.ev e).int] (a9.ev e).int (a10.ev e).int (a11.ev e).int (a12.ev e).int) → (e b).bool = (true) ∧ (e (b + 1)).int = (Day.Eb (a0.ev e).int z0) ∧ (e (b + 2)).int = (Day.Ec (a0.ev e).int z0) := by
 intro z0 hz0
 subst hz0
 have hp := AN Aeb h
 have ho := fun j a => AO (a := a) Aeb j h
 simp only [Afu, gi, gb, gs, gv, ge, List.map_cons, List.map_nil, List.getD_cons_zero, List.getD_cons_succ, L.Aq, A.Ad] at hp ho
 exact ⟨hp, (congrArg A.int (ho 0 _ rfl) :), (congrArg A.int (ho 1 _ rfl) :)⟩
theorem JE {e : Nat → A} {b : Nat} {a0 a1 a2 a3 a4 a5 a6 a7 a8 a9 a10 a11 a12 : L} (h : Def.holds T e ⟨b, .call 53, [a0, a1, a2, a3, a4, a5, a6, a7, a8, a9, a10, a11, a12]⟩) :
  ∀ z0, z0 = (Day.HB.mk [(a1.ev e).int, (a2.ev e).int, (a3.ev e).int, (a4.ev e).int, (a5.ev e).int, (a6.ev e).int, (a7.ev e).int, (a8.ev e).int] (a9.ev e).int (a10.ev e).int (a11.ev e).int (a12.ev e).int) → (e b).bool = (Day.Ak (a0.ev e).int z0) ∧ e (b + 1) = (Day.Co ((Day.Hh (a0.ev e).int z0))) ∧ (e (b + 2)).int = ((((Day.Hh (a0.ev e).int z0)).length : Int)) := by
 intro z0 hz0
 subst hz0
 have hp := AN AfQ h
 have ho := fun j a => AO (a := a) AfQ j h
 simp only [Agy, gi, gb, gs, gv, ge, List.map_cons, List.map_nil, List.getD_cons_zero, List.getD_cons_succ, L.Aq, A.Ad] at hp ho
 exact ⟨hp, (ho 0 _ rfl :), (congrArg A.int (ho 1 _ rfl) :)⟩
theorem Tc {e : Nat → A} {b : Nat} {a0 a1 a2 a3 a4 a5 a6 a7 a8 a9 a10 a11 a12 a13 : L} (h : Def.holds T e ⟨b, .call 38, [a0, a1, a2, a3, a4, a5, a6, a7, a8, a9, a10, a11, a12, a13]⟩) :
  ∀ z0, z0 = (Day.HB.mk [(a1.ev e).int, (a2.ev e).int, (a3.ev e).int, (a4.ev e).int, (a5.ev e).int, (a6.ev e).int, (a7.ev e).int, (a8.ev e).int] (a9.ev e).int (a10.ev e).int (a11.ev e).int (a12.ev e).int) → (e b).bool = (Day.HB.i64 z0) ∧ (e (b + 1)).int = (Day.Cu (a0.ev e).int z0 (a13.ev e).int) := by
 intro z0 hz0
 subst hz0
 have hp := AN Aec h
 have ho := fun j a => AO (a := a) Aec j h
 simp only [Afv, gi, gb, gs, gv, ge, List.map_cons, List.map_nil, List.getD_cons_zero, List.getD_cons_succ, L.Aq, A.Ad] at hp ho
 exact ⟨hp, (congrArg A.int (ho 0 _ rfl) :)⟩
theorem UG {e : Nat → A} {b : Nat} {a0 a1 a2 a3 a4 a5 a6 a7 a8 a9 a10 a11 a12 : L} (h : Def.holds T e ⟨b, .call 39, [a0, a1, a2, a3, a4, a5, a6, a7, a8, a9, a10, a11, a12]⟩) :
  ∀ z0, z0 = (Day.HB.mk [(a1.ev e).int, (a2.ev e).int, (a3.ev e).int, (a4.ev e).int, (a5.ev e).int, (a6.ev e).int, (a7.ev e).int, (a8.ev e).int] (a9.ev e).int (a10.ev e).int (a11.ev e).int (a12.ev e).int) → (e b).bool = (Day.HB.i64 z0) ∧ (e (b + 1)).int = (Day.Eb (a0.ev e).int z0) ∧ (e (b + 2)).int = (Day.Ec (a0.ev e).int z0) := by
 intro z0 hz0
 subst hz0
 have hp := AN Aed h
 have ho := fun j a => AO (a := a) Aed j h
 simp only [Afw, gi, gb, gs, gv, ge, List.map_cons, List.map_nil, List.getD_cons_zero, List.getD_cons_succ, L.Aq, A.Ad] at hp ho
 exact ⟨hp, (congrArg A.int (ho 0 _ rfl) :), (congrArg A.int (ho 1 _ rfl) :)⟩
theorem Qk {e : Nat → A} {b : Nat} {a0 a1 a2 a3 a4 a5 a6 a7 a8 a9 a10 a11 a12 : L} (h : Def.holds T e ⟨b, .call 23, [a0, a1, a2, a3, a4, a5, a6, a7, a8, a9, a10, a11, a12]⟩) :
  ∀ z0, z0 = (Day.HB.mk [(a1.ev e).int, (a2.ev e).int, (a3.ev e).int, (a4.ev e).int, (a5.ev e).int, (a6.ev e).int, (a7.ev e).int, (a8.ev e).int] (a9.ev e).int (a10.ev e).int (a11.ev e).int (a12.ev e).int) → ∀ r1, r1 = Day.BE (a0.ev e).int z0 → (e b).bool = (Day.HB.i64 z0) ∧ (e (b + 1)).int = (((r1)).a 0) ∧ (e (b + 2)).int = (((r1)).a 1) ∧ (e (b + 3)).int = (((r1)).a 2) ∧ (e (b + 4)).int = (((r1)).a 3) ∧ (e (b + 5)).int = (((r1)).a 4) ∧ (e (b + 6)).int = (((r1)).a 5) ∧ (e (b + 7)).int = (((r1)).a 6) ∧ (e (b + 8)).int = (((r1)).a 7) ∧ (e (b + 9)).int = (((r1)).port) ∧ (e (b + 10)).int = (((r1)).age) ∧ (e (b + 11)).int = (((r1)).hold) ∧ (e (b + 12)).int = (((r1)).pos) ∧ (e (b + 13)).int = (Day.BZ (a0.ev e).int z0) := by
 intro z0 hz0 r1 hr1
 subst hz0 hr1
 have hp := AN Aee h
 have ho := fun j a => AO (a := a) Aee j h
 simp only [Afx, gi, gb, gs, gv, ge, List.map_cons, List.map_nil, List.getD_cons_zero, List.getD_cons_succ, L.Aq, A.Ad] at hp ho
 exact ⟨hp, (congrArg A.int (ho 0 _ rfl) :), (congrArg A.int (ho 1 _ rfl) :), (congrArg A.int (ho 2 _ rfl) :), (congrArg A.int (ho 3 _ rfl) :), (congrArg A.int (ho 4 _ rfl) :), (congrArg A.int (ho 5 _ rfl) :), (congrArg A.int (ho 6 _ rfl) :), (congrArg A.int (ho 7 _ rfl) :), (congrArg A.int (ho 8 _ rfl) :), (congrArg A.int (ho 9 _ rfl) :), (congrArg A.int (ho 10 _ rfl) :), (congrArg A.int (ho 11 _ rfl) :), (congrArg A.int (ho 12 _ rfl) :)⟩
theorem OZ {e : Nat → A} {b : Nat} {a0 a1 a2 a3 a4 a5 a6 a7 a8 a9 a10 a11 a12 : L} (h : Def.holds T e ⟨b, .call 47, [a0, a1, a2, a3, a4, a5, a6, a7, a8, a9, a10, a11, a12]⟩) :
  ∀ z0, z0 = (Day.HB.mk [(a1.ev e).int, (a2.ev e).int, (a3.ev e).int, (a4.ev e).int, (a5.ev e).int, (a6.ev e).int, (a7.ev e).int, (a8.ev e).int] (a9.ev e).int (a10.ev e).int (a11.ev e).int (a12.ev e).int) → ∀ r1, r1 = Day.BE (a0.ev e).int z0 → (e b).bool = (Day.HB.i64 z0) ∧ (e (b + 1)).int = (((r1)).a 0) ∧ (e (b + 2)).int = (((r1)).a 1) ∧ (e (b + 3)).int = (((r1)).a 2) ∧ (e (b + 4)).int = (((r1)).a 3) ∧ (e (b + 5)).int = (((r1)).a 4) ∧ (e (b + 6)).int = (((r1)).a 5) ∧ (e (b + 7)).int = (((r1)).a 6) ∧ (e (b + 8)).int = (((r1)).a 7) ∧ (e (b + 9)).int = (((r1)).port) ∧ (e (b + 10)).int = (((r1)).age) ∧ (e (b + 11)).int = (((r1)).hold) ∧ (e (b + 12)).int = (((r1)).pos) ∧ (e (b + 13)).int = (Day.BZ (a0.ev e).int z0) := by
 intro z0 hz0 r1 hr1
 subst hz0 hr1
 have hp := AN Aef h
 have ho := fun j a => AO (a := a) Aef j h
 simp only [Afy, gi, gb, gs, gv, ge, List.map_cons, List.map_nil, List.getD_cons_zero, List.getD_cons_succ, L.Aq, A.Ad] at hp ho
 exact ⟨hp, (congrArg A.int (ho 0 _ rfl) :), (congrArg A.int (ho 1 _ rfl) :), (congrArg A.int (ho 2 _ rfl) :), (congrArg A.int (ho 3 _ rfl) :), (congrArg A.int (ho 4 _ rfl) :), (congrArg A.int (ho 5 _ rfl) :), (congrArg A.int (ho 6 _ rfl) :), (congrArg A.int (ho 7 _ rfl) :), (congrArg A.int (ho 8 _ rfl) :), (congrArg A.int (ho 9 _ rfl) :), (congrArg A.int (ho 10 _ rfl) :), (congrArg A.int (ho 11 _ rfl) :), (congrArg A.int (ho 12 _ rfl) :)⟩
theorem Hl {e : Nat → A} {b : Nat} {a0 a1 a2 : L} (h : Def.holds T e ⟨b, .call 26, [a0, a1, a2]⟩) :
  (e b).bool = (Day.Ls.ok (Day.Ls.mk (a1.ev e) (a2.ev e).int)) ∧ (e (b + 1)).bool = (Day.Cg (a0.ev e).int (Day.Ls.mk (a1.ev e) (a2.ev e).int)) := by
 have hp := AN Aeg h
 have ho := fun j a => AO (a := a) Aeg j h
 simp only [Afz, gi, gb, gs, gv, ge, List.map_cons, List.map_nil, List.getD_cons_zero, List.getD_cons_succ, L.Aq, A.Ad] at hp ho
 exact ⟨hp, (congrArg A.bool (ho 0 _ rfl) :)⟩
theorem Ev {e : Nat → A} {b : Nat} {a0 a1 a2 : L} (h : Def.holds T e ⟨b, .call 10, [a0, a1, a2]⟩) :
  (e b).bool = (Day.Ls.ok (Day.Ls.mk (a1.ev e) (a2.ev e).int)) ∧ (e (b + 1)).bool = (Day.Cg (a0.ev e).int (Day.Ls.mk (a1.ev e) (a2.ev e).int)) := by
 have hp := AN Aeh h
 have ho := fun j a => AO (a := a) Aeh j h
 simp only [AfA, gi, gb, gs, gv, ge, List.map_cons, List.map_nil, List.getD_cons_zero, List.getD_cons_succ, L.Aq, A.Ad] at hp ho
 exact ⟨hp, (congrArg A.bool (ho 0 _ rfl) :)⟩
theorem KL {e : Nat → A} {b : Nat} {a0 a1 a2 a3 a4 a5 a6 a7 a8 a9 a10 a11 a12 a13 a14 : L} (h : Def.holds T e ⟨b, .call 37, [a0, a1, a2, a3, a4, a5, a6, a7, a8, a9, a10, a11, a12, a13, a14]⟩) :
  ∀ z0, z0 = (Day.HB.mk [(a1.ev e).int, (a2.ev e).int, (a3.ev e).int, (a4.ev e).int, (a5.ev e).int, (a6.ev e).int, (a7.ev e).int, (a8.ev e).int] (a9.ev e).int (a10.ev e).int (a11.ev e).int (a12.ev e).int) → (e b).bool = (Day.HB.i64 z0 && Day.Ls.ok (Day.Ls.mk (a13.ev e) (a14.ev e).int)) ∧ (e (b + 1)).int = (Day.Bh (a0.ev e).int z0 (Day.Ls.mk (a13.ev e) (a14.ev e).int)) := by
 intro z0 hz0
 subst hz0
 have hp := AN Aei h
 have ho := fun j a => AO (a := a) Aei j h
 simp only [AfB, gi, gb, gs, gv, ge, List.map_cons, List.map_nil, List.getD_cons_zero, List.getD_cons_succ, L.Aq, A.Ad] at hp ho
 exact ⟨hp, (congrArg A.int (ho 0 _ rfl) :)⟩
theorem JF {e : Nat → A} {b : Nat} {a0 a1 a2 a3 a4 a5 a6 a7 a8 a9 a10 a11 a12 a13 a14 : L} (h : Def.holds T e ⟨b, .call 63, [a0, a1, a2, a3, a4, a5, a6, a7, a8, a9, a10, a11, a12, a13, a14]⟩) :
  ∀ z0, z0 = (Day.HB.mk [(a1.ev e).int, (a2.ev e).int, (a3.ev e).int, (a4.ev e).int, (a5.ev e).int, (a6.ev e).int, (a7.ev e).int, (a8.ev e).int] (a9.ev e).int (a10.ev e).int (a11.ev e).int (a12.ev e).int) → (e b).bool = (Day.Ls.ok (Day.Ls.mk (a13.ev e) (a14.ev e).int)) ∧ (e (b + 1)).int = (Day.Bh (a0.ev e).int z0 (Day.Ls.mk (a13.ev e) (a14.ev e).int)) := by
 intro z0 hz0
 subst hz0
 have hp := AN Aej h
 have ho := fun j a => AO (a := a) Aej j h
 simp only [AfC, gi, gb, gs, gv, ge, List.map_cons, List.map_nil, List.getD_cons_zero, List.getD_cons_succ, L.Aq, A.Ad] at hp ho
 exact ⟨hp, (congrArg A.int (ho 0 _ rfl) :)⟩
theorem UH {e : Nat → A} {b : Nat} {a0 a1 a2 a3 a4 a5 a6 a7 a8 a9 a10 a11 a12 a13 a14 : L} (h : Def.holds T e ⟨b, .call 22, [a0, a1, a2, a3, a4, a5, a6, a7, a8, a9, a10, a11, a12, a13, a14]⟩) :
  ∀ z0, z0 = (Day.HB.mk [(a1.ev e).int, (a2.ev e).int, (a3.ev e).int, (a4.ev e).int, (a5.ev e).int, (a6.ev e).int, (a7.ev e).int, (a8.ev e).int] (a9.ev e).int (a10.ev e).int (a11.ev e).int (a12.ev e).int) → ∀ r1, r1 = Day.Ee (a0.ev e).int z0 (Day.Ls.mk (a13.ev e) (a14.ev e).int) → (e b).bool = (Day.HB.i64 z0 && Day.Ls.ok (Day.Ls.mk (a13.ev e) (a14.ev e).int)) ∧ (e (b + 1)).int = (((r1)).a 0) ∧ (e (b + 2)).int = (((r1)).a 1) ∧ (e (b + 3)).int = (((r1)).a 2) ∧ (e (b + 4)).int = (((r1)).a 3) ∧ (e (b + 5)).int = (((r1)).a 4) ∧ (e (b + 6)).int = (((r1)).a 5) ∧ (e (b + 7)).int = (((r1)).a 6) ∧ (e (b + 8)).int = (((r1)).a 7) ∧ (e (b + 9)).int = (((r1)).port) ∧ (e (b + 10)).int = (((r1)).age) ∧ (e (b + 11)).int = (((r1)).hold) ∧ (e (b + 12)).int = (((r1)).pos) ∧ (e (b + 13)).int = (Day.Bh (a0.ev e).int z0 (Day.Ls.mk (a13.ev e) (a14.ev e).int)) := by
 intro z0 hz0 r1 hr1
 subst hz0 hr1
 have hp := AN Aek h
 have ho := fun j a => AO (a := a) Aek j h
 simp only [AfD, gi, gb, gs, gv, ge, List.map_cons, List.map_nil, List.getD_cons_zero, List.getD_cons_succ, L.Aq, A.Ad] at hp ho
 exact ⟨hp, (congrArg A.int (ho 0 _ rfl) :), (congrArg A.int (ho 1 _ rfl) :), (congrArg A.int (ho 2 _ rfl) :), (congrArg A.int (ho 3 _ rfl) :), (congrArg A.int (ho 4 _ rfl) :), (congrArg A.int (ho 5 _ rfl) :), (congrArg A.int (ho 6 _ rfl) :), (congrArg A.int (ho 7 _ rfl) :), (congrArg A.int (ho 8 _ rfl) :), (congrArg A.int (ho 9 _ rfl) :), (congrArg A.int (ho 10 _ rfl) :), (congrArg A.int (ho 11 _ rfl) :), (congrArg A.int (ho 12 _ rfl) :)⟩
theorem Td {e : Nat → A} {b : Nat} {a0 a1 a2 a3 a4 a5 a6 a7 a8 a9 a10 a11 a12 a13 a14 : L} (h : Def.holds T e ⟨b, .call 46, [a0, a1, a2, a3, a4, a5, a6, a7, a8, a9, a10, a11, a12, a13, a14]⟩) :
  ∀ z0, z0 = (Day.HB.mk [(a1.ev e).int, (a2.ev e).int, (a3.ev e).int, (a4.ev e).int, (a5.ev e).int, (a6.ev e).int, (a7.ev e).int, (a8.ev e).int] (a9.ev e).int (a10.ev e).int (a11.ev e).int (a12.ev e).int) → ∀ r1, r1 = Day.Ee (a0.ev e).int z0 (Day.Ls.mk (a13.ev e) (a14.ev e).int) → (e b).bool = (Day.HB.i64 z0 && Day.Ls.ok (Day.Ls.mk (a13.ev e) (a14.ev e).int)) ∧ (e (b + 1)).int = (((r1)).a 0) ∧ (e (b + 2)).int = (((r1)).a 1) ∧ (e (b + 3)).int = (((r1)).a 2) ∧ (e (b + 4)).int = (((r1)).a 3) ∧ (e (b + 5)).int = (((r1)).a 4) ∧ (e (b + 6)).int = (((r1)).a 5) ∧ (e (b + 7)).int = (((r1)).a 6) ∧ (e (b + 8)).int = (((r1)).a 7) ∧ (e (b + 9)).int = (((r1)).port) ∧ (e (b + 10)).int = (((r1)).age) ∧ (e (b + 11)).int = (((r1)).hold) ∧ (e (b + 12)).int = (((r1)).pos) ∧ (e (b + 13)).int = (Day.Bh (a0.ev e).int z0 (Day.Ls.mk (a13.ev e) (a14.ev e).int)) := by
 intro z0 hz0 r1 hr1
 subst hz0 hr1
 have hp := AN Ael h
 have ho := fun j a => AO (a := a) Ael j h
 simp only [AfE, gi, gb, gs, gv, ge, List.map_cons, List.map_nil, List.getD_cons_zero, List.getD_cons_succ, L.Aq, A.Ad] at hp ho
 exact ⟨hp, (congrArg A.int (ho 0 _ rfl) :), (congrArg A.int (ho 1 _ rfl) :), (congrArg A.int (ho 2 _ rfl) :), (congrArg A.int (ho 3 _ rfl) :), (congrArg A.int (ho 4 _ rfl) :), (congrArg A.int (ho 5 _ rfl) :), (congrArg A.int (ho 6 _ rfl) :), (congrArg A.int (ho 7 _ rfl) :), (congrArg A.int (ho 8 _ rfl) :), (congrArg A.int (ho 9 _ rfl) :), (congrArg A.int (ho 10 _ rfl) :), (congrArg A.int (ho 11 _ rfl) :), (congrArg A.int (ho 12 _ rfl) :)⟩
theorem Te {e : Nat → A} {b : Nat} {a0 a1 a2 a3 a4 a5 a6 a7 a8 a9 a10 a11 a12 a13 a14 : L} (h : Def.holds T e ⟨b, .call 42, [a0, a1, a2, a3, a4, a5, a6, a7, a8, a9, a10, a11, a12, a13, a14]⟩) :
  ∀ z0, z0 = (Day.HB.mk [(a1.ev e).int, (a2.ev e).int, (a3.ev e).int, (a4.ev e).int, (a5.ev e).int, (a6.ev e).int, (a7.ev e).int, (a8.ev e).int] (a9.ev e).int (a10.ev e).int (a11.ev e).int (a12.ev e).int) → ∀ r1, r1 = Day.Ks (a0.ev e).int z0 (Day.Ls.mk (a13.ev e) (a14.ev e).int) → (e b).bool = (Day.Ak (a0.ev e).int z0 && Day.Cg (a0.ev e).int (Day.Ls.mk (a13.ev e) (a14.ev e).int)) ∧ (e (b + 1)).int = (((r1)).a 0) ∧ (e (b + 2)).int = (((r1)).a 1) ∧ (e (b + 3)).int = (((r1)).a 2) ∧ (e (b + 4)).int = (((r1)).a 3) ∧ (e (b + 5)).int = (((r1)).a 4) ∧ (e (b + 6)).int = (((r1)).a 5) ∧ (e (b + 7)).int = (((r1)).a 6) ∧ (e (b + 8)).int = (((r1)).a 7) ∧ (e (b + 9)).int = (((r1)).port) ∧ (e (b + 10)).int = (((r1)).age) ∧ (e (b + 11)).int = (((r1)).hold) ∧ (e (b + 12)).int = (((r1)).pos) ∧ (e (b + 13)).int = (((Day.Gq z0 (Day.Ls.mk (a13.ev e) (a14.ev e).int))).kind) ∧ (e (b + 14)).int = (((Day.Gq z0 (Day.Ls.mk (a13.ev e) (a14.ev e).int))).id) := by
 intro z0 hz0 r1 hr1
 subst hz0 hr1
 have hp := AN Aem h
 have ho := fun j a => AO (a := a) Aem j h
 simp only [AfF, gi, gb, gs, gv, ge, List.map_cons, List.map_nil, List.getD_cons_zero, List.getD_cons_succ, L.Aq, A.Ad] at hp ho
 exact ⟨hp, (congrArg A.int (ho 0 _ rfl) :), (congrArg A.int (ho 1 _ rfl) :), (congrArg A.int (ho 2 _ rfl) :), (congrArg A.int (ho 3 _ rfl) :), (congrArg A.int (ho 4 _ rfl) :), (congrArg A.int (ho 5 _ rfl) :), (congrArg A.int (ho 6 _ rfl) :), (congrArg A.int (ho 7 _ rfl) :), (congrArg A.int (ho 8 _ rfl) :), (congrArg A.int (ho 9 _ rfl) :), (congrArg A.int (ho 10 _ rfl) :), (congrArg A.int (ho 11 _ rfl) :), (congrArg A.int (ho 12 _ rfl) :), (congrArg A.int (ho 13 _ rfl) :)⟩
theorem Tf {e : Nat → A} {b : Nat} {a0 a1 a2 a3 a4 a5 a6 a7 a8 a9 a10 a11 a12 a13 a14 : L} (h : Def.holds T e ⟨b, .call 41, [a0, a1, a2, a3, a4, a5, a6, a7, a8, a9, a10, a11, a12, a13, a14]⟩) :
  ∀ z0, z0 = (Day.HB.mk [(a1.ev e).int, (a2.ev e).int, (a3.ev e).int, (a4.ev e).int, (a5.ev e).int, (a6.ev e).int, (a7.ev e).int, (a8.ev e).int] (a9.ev e).int (a10.ev e).int (a11.ev e).int (a12.ev e).int) → ∀ r1, r1 = Day.IN (a0.ev e).int z0 (Day.Ls.mk (a13.ev e) (a14.ev e).int) → (e b).bool = (Day.Ak (a0.ev e).int z0 && Day.Cg (a0.ev e).int (Day.Ls.mk (a13.ev e) (a14.ev e).int)) ∧ (e (b + 1)).int = (((r1)).a 0) ∧ (e (b + 2)).int = (((r1)).a 1) ∧ (e (b + 3)).int = (((r1)).a 2) ∧ (e (b + 4)).int = (((r1)).a 3) ∧ (e (b + 5)).int = (((r1)).a 4) ∧ (e (b + 6)).int = (((r1)).a 5) ∧ (e (b + 7)).int = (((r1)).a 6) ∧ (e (b + 8)).int = (((r1)).a 7) ∧ (e (b + 9)).int = (((r1)).port) ∧ (e (b + 10)).int = (((r1)).age) ∧ (e (b + 11)).int = (((r1)).hold) ∧ (e (b + 12)).int = (((r1)).pos) ∧ (e (b + 13)).int = (((Day.DU (a0.ev e).int z0 (Day.Ls.mk (a13.ev e) (a14.ev e).int))).kind) ∧ (e (b + 14)).int = (((Day.DU (a0.ev e).int z0 (Day.Ls.mk (a13.ev e) (a14.ev e).int))).id) := by
 intro z0 hz0 r1 hr1
 subst hz0 hr1
 have hp := AN Aen h
 have ho := fun j a => AO (a := a) Aen j h
 simp only [AfG, gi, gb, gs, gv, ge, List.map_cons, List.map_nil, List.getD_cons_zero, List.getD_cons_succ, L.Aq, A.Ad] at hp ho
 exact ⟨hp, (congrArg A.int (ho 0 _ rfl) :), (congrArg A.int (ho 1 _ rfl) :), (congrArg A.int (ho 2 _ rfl) :), (congrArg A.int (ho 3 _ rfl) :), (congrArg A.int (ho 4 _ rfl) :), (congrArg A.int (ho 5 _ rfl) :), (congrArg A.int (ho 6 _ rfl) :), (congrArg A.int (ho 7 _ rfl) :), (congrArg A.int (ho 8 _ rfl) :), (congrArg A.int (ho 9 _ rfl) :), (congrArg A.int (ho 10 _ rfl) :), (congrArg A.int (ho 11 _ rfl) :), (congrArg A.int (ho 12 _ rfl) :), (congrArg A.int (ho 13 _ rfl) :)⟩
theorem Tg {e : Nat → A} {b : Nat} {a0 a1 a2 a3 a4 a5 a6 a7 a8 a9 a10 a11 a12 a13 a14 : L} (h : Def.holds T e ⟨b, .call 24, [a0, a1, a2, a3, a4, a5, a6, a7, a8, a9, a10, a11, a12, a13, a14]⟩) :
  ∀ z0, z0 = (Day.HB.mk [(a1.ev e).int, (a2.ev e).int, (a3.ev e).int, (a4.ev e).int, (a5.ev e).int, (a6.ev e).int, (a7.ev e).int, (a8.ev e).int] (a9.ev e).int (a10.ev e).int (a11.ev e).int (a12.ev e).int) → ∀ r1, r1 = Day.D1 (a0.ev e).int z0 (Day.Ls.mk (a13.ev e) (a14.ev e).int) → (e b).bool = (Day.HB.i64 z0 && Day.Ls.ok (Day.Ls.mk (a13.ev e) (a14.ev e).int)) ∧ (e (b + 1)).int = (((r1)).a 0) ∧ (e (b + 2)).int = (((r1)).a 1) ∧ (e (b + 3)).int = (((r1)).a 2) ∧ (e (b + 4)).int = (((r1)).a 3) ∧ (e (b + 5)).int = (((r1)).a 4) ∧ (e (b + 6)).int = (((r1)).a 5) ∧ (e (b + 7)).int = (((r1)).a 6) ∧ (e (b + 8)).int = (((r1)).a 7) ∧ (e (b + 9)).int = (((r1)).port) ∧ (e (b + 10)).int = (((r1)).age) ∧ (e (b + 11)).int = (((r1)).hold) ∧ (e (b + 12)).int = (((r1)).pos) ∧ (e (b + 13)).int = (((Day.CH (a0.ev e).int z0 (Day.Ls.mk (a13.ev e) (a14.ev e).int))).kind) ∧ (e (b + 14)).int = (((Day.CH (a0.ev e).int z0 (Day.Ls.mk (a13.ev e) (a14.ev e).int))).id) ∧ (e (b + 15)).int = (Day.Bh (a0.ev e).int z0 (Day.Ls.mk (a13.ev e) (a14.ev e).int)) := by
 intro z0 hz0 r1 hr1
 subst hz0 hr1
 have hp := AN Aeo h
 have ho := fun j a => AO (a := a) Aeo j h
 simp only [AfH, gi, gb, gs, gv, ge, List.map_cons, List.map_nil, List.getD_cons_zero, List.getD_cons_succ, L.Aq, A.Ad] at hp ho
 exact ⟨hp, (congrArg A.int (ho 0 _ rfl) :), (congrArg A.int (ho 1 _ rfl) :), (congrArg A.int (ho 2 _ rfl) :), (congrArg A.int (ho 3 _ rfl) :), (congrArg A.int (ho 4 _ rfl) :), (congrArg A.int (ho 5 _ rfl) :), (congrArg A.int (ho 6 _ rfl) :), (congrArg A.int (ho 7 _ rfl) :), (congrArg A.int (ho 8 _ rfl) :), (congrArg A.int (ho 9 _ rfl) :), (congrArg A.int (ho 10 _ rfl) :), (congrArg A.int (ho 11 _ rfl) :), (congrArg A.int (ho 12 _ rfl) :), (congrArg A.int (ho 13 _ rfl) :), (congrArg A.int (ho 14 _ rfl) :)⟩
theorem Ql {e : Nat → A} {b : Nat} {a0 a1 a2 a3 a4 a5 a6 a7 a8 a9 a10 a11 a12 a13 a14 : L} (h : Def.holds T e ⟨b, .call 48, [a0, a1, a2, a3, a4, a5, a6, a7, a8, a9, a10, a11, a12, a13, a14]⟩) :
  ∀ z0, z0 = (Day.HB.mk [(a1.ev e).int, (a2.ev e).int, (a3.ev e).int, (a4.ev e).int, (a5.ev e).int, (a6.ev e).int, (a7.ev e).int, (a8.ev e).int] (a9.ev e).int (a10.ev e).int (a11.ev e).int (a12.ev e).int) → ∀ r1, r1 = Day.D1 (a0.ev e).int z0 (Day.Ls.mk (a13.ev e) (a14.ev e).int) → (e b).bool = (Day.HB.i64 z0 && Day.Ls.ok (Day.Ls.mk (a13.ev e) (a14.ev e).int)) ∧ (e (b + 1)).int = (((r1)).a 0) ∧ (e (b + 2)).int = (((r1)).a 1) ∧ (e (b + 3)).int = (((r1)).a 2) ∧ (e (b + 4)).int = (((r1)).a 3) ∧ (e (b + 5)).int = (((r1)).a 4) ∧ (e (b + 6)).int = (((r1)).a 5) ∧ (e (b + 7)).int = (((r1)).a 6) ∧ (e (b + 8)).int = (((r1)).a 7) ∧ (e (b + 9)).int = (((r1)).port) ∧ (e (b + 10)).int = (((r1)).age) ∧ (e (b + 11)).int = (((r1)).hold) ∧ (e (b + 12)).int = (((r1)).pos) ∧ (e (b + 13)).int = (((Day.CH (a0.ev e).int z0 (Day.Ls.mk (a13.ev e) (a14.ev e).int))).kind) ∧ (e (b + 14)).int = (((Day.CH (a0.ev e).int z0 (Day.Ls.mk (a13.ev e) (a14.ev e).int))).id) ∧ (e (b + 15)).int = (Day.Bh (a0.ev e).int z0 (Day.Ls.mk (a13.ev e) (a14.ev e).int)) := by
 intro z0 hz0 r1 hr1
 subst hz0 hr1
 have hp := AN Aep h
 have ho := fun j a => AO (a := a) Aep j h
 simp only [AfI, gi, gb, gs, gv, ge, List.map_cons, List.map_nil, List.getD_cons_zero, List.getD_cons_succ, L.Aq, A.Ad] at hp ho
 exact ⟨hp, (congrArg A.int (ho 0 _ rfl) :), (congrArg A.int (ho 1 _ rfl) :), (congrArg A.int (ho 2 _ rfl) :), (congrArg A.int (ho 3 _ rfl) :), (congrArg A.int (ho 4 _ rfl) :), (congrArg A.int (ho 5 _ rfl) :), (congrArg A.int (ho 6 _ rfl) :), (congrArg A.int (ho 7 _ rfl) :), (congrArg A.int (ho 8 _ rfl) :), (congrArg A.int (ho 9 _ rfl) :), (congrArg A.int (ho 10 _ rfl) :), (congrArg A.int (ho 11 _ rfl) :), (congrArg A.int (ho 12 _ rfl) :), (congrArg A.int (ho 13 _ rfl) :), (congrArg A.int (ho 14 _ rfl) :)⟩
theorem NG {e : Nat → A} {b : Nat} {a0 a1 a2 a3 a4 a5 a6 a7 a8 a9 a10 a11 a12 a13 a14 : L} (h : Def.holds T e ⟨b, .call 11, [a0, a1, a2, a3, a4, a5, a6, a7, a8, a9, a10, a11, a12, a13, a14]⟩) :
  ∀ z0, z0 = (Day.HB.mk [(a1.ev e).int, (a2.ev e).int, (a3.ev e).int, (a4.ev e).int, (a5.ev e).int, (a6.ev e).int, (a7.ev e).int, (a8.ev e).int] (a9.ev e).int (a10.ev e).int (a11.ev e).int (a12.ev e).int) → ∀ r1, r1 = Day.Nz (a0.ev e).int z0 (Day.Ls.mk (a13.ev e) (a14.ev e).int) → (e b).bool = (Day.HB.i64 z0 && Day.Ls.ok (Day.Ls.mk (a13.ev e) (a14.ev e).int)) ∧ (e (b + 1)).int = (((r1)).a 0) ∧ (e (b + 2)).int = (((r1)).a 1) ∧ (e (b + 3)).int = (((r1)).a 2) ∧ (e (b + 4)).int = (((r1)).a 3) ∧ (e (b + 5)).int = (((r1)).a 4) ∧ (e (b + 6)).int = (((r1)).a 5) ∧ (e (b + 7)).int = (((r1)).a 6) ∧ (e (b + 8)).int = (((r1)).a 7) ∧ (e (b + 9)).int = (((r1)).port) ∧ (e (b + 10)).int = (((r1)).age) ∧ (e (b + 11)).int = (((r1)).hold) ∧ (e (b + 12)).int = (((r1)).pos) ∧ (e (b + 13)).int = (((Day.H6 (a0.ev e).int z0 (Day.Ls.mk (a13.ev e) (a14.ev e).int))).kind) ∧ (e (b + 14)).int = (((Day.H6 (a0.ev e).int z0 (Day.Ls.mk (a13.ev e) (a14.ev e).int))).id) ∧ (e (b + 15)).int = (Day.Bh (a0.ev e).int z0 (Day.Ls.mk (a13.ev e) (a14.ev e).int)) := by
 intro z0 hz0 r1 hr1
 subst hz0 hr1
 have hp := AN Aeq h
 have ho := fun j a => AO (a := a) Aeq j h
 simp only [AfJ, gi, gb, gs, gv, ge, List.map_cons, List.map_nil, List.getD_cons_zero, List.getD_cons_succ, L.Aq, A.Ad] at hp ho
 exact ⟨hp, (congrArg A.int (ho 0 _ rfl) :), (congrArg A.int (ho 1 _ rfl) :), (congrArg A.int (ho 2 _ rfl) :), (congrArg A.int (ho 3 _ rfl) :), (congrArg A.int (ho 4 _ rfl) :), (congrArg A.int (ho 5 _ rfl) :), (congrArg A.int (ho 6 _ rfl) :), (congrArg A.int (ho 7 _ rfl) :), (congrArg A.int (ho 8 _ rfl) :), (congrArg A.int (ho 9 _ rfl) :), (congrArg A.int (ho 10 _ rfl) :), (congrArg A.int (ho 11 _ rfl) :), (congrArg A.int (ho 12 _ rfl) :), (congrArg A.int (ho 13 _ rfl) :), (congrArg A.int (ho 14 _ rfl) :)⟩
theorem KM {e : Nat → A} {b : Nat} {a0 a1 a2 a3 a4 a5 a6 a7 a8 a9 a10 a11 a12 a13 a14 : L} (h : Def.holds T e ⟨b, .call 29, [a0, a1, a2, a3, a4, a5, a6, a7, a8, a9, a10, a11, a12, a13, a14]⟩) :
  ∀ z0, z0 = (Day.HB.mk [(a1.ev e).int, (a2.ev e).int, (a3.ev e).int, (a4.ev e).int, (a5.ev e).int, (a6.ev e).int, (a7.ev e).int, (a8.ev e).int] (a9.ev e).int (a10.ev e).int (a11.ev e).int (a12.ev e).int) → ∀ r1, r1 = Day.Nz (a0.ev e).int z0 (Day.Ls.mk (a13.ev e) (a14.ev e).int) → (e b).bool = (Day.HB.i64 z0 && Day.Ls.ok (Day.Ls.mk (a13.ev e) (a14.ev e).int)) ∧ (e (b + 1)).int = (((r1)).a 0) ∧ (e (b + 2)).int = (((r1)).a 1) ∧ (e (b + 3)).int = (((r1)).a 2) ∧ (e (b + 4)).int = (((r1)).a 3) ∧ (e (b + 5)).int = (((r1)).a 4) ∧ (e (b + 6)).int = (((r1)).a 5) ∧ (e (b + 7)).int = (((r1)).a 6) ∧ (e (b + 8)).int = (((r1)).a 7) ∧ (e (b + 9)).int = (((r1)).port) ∧ (e (b + 10)).int = (((r1)).age) ∧ (e (b + 11)).int = (((r1)).hold) ∧ (e (b + 12)).int = (((r1)).pos) ∧ (e (b + 13)).int = (((Day.H6 (a0.ev e).int z0 (Day.Ls.mk (a13.ev e) (a14.ev e).int))).kind) ∧ (e (b + 14)).int = (((Day.H6 (a0.ev e).int z0 (Day.Ls.mk (a13.ev e) (a14.ev e).int))).id) ∧ (e (b + 15)).int = (Day.Bh (a0.ev e).int z0 (Day.Ls.mk (a13.ev e) (a14.ev e).int)) := by
 intro z0 hz0 r1 hr1
 subst hz0 hr1
 have hp := AN Aer h
 have ho := fun j a => AO (a := a) Aer j h
 simp only [AfK, gi, gb, gs, gv, ge, List.map_cons, List.map_nil, List.getD_cons_zero, List.getD_cons_succ, L.Aq, A.Ad] at hp ho
 exact ⟨hp, (congrArg A.int (ho 0 _ rfl) :), (congrArg A.int (ho 1 _ rfl) :), (congrArg A.int (ho 2 _ rfl) :), (congrArg A.int (ho 3 _ rfl) :), (congrArg A.int (ho 4 _ rfl) :), (congrArg A.int (ho 5 _ rfl) :), (congrArg A.int (ho 6 _ rfl) :), (congrArg A.int (ho 7 _ rfl) :), (congrArg A.int (ho 8 _ rfl) :), (congrArg A.int (ho 9 _ rfl) :), (congrArg A.int (ho 10 _ rfl) :), (congrArg A.int (ho 11 _ rfl) :), (congrArg A.int (ho 12 _ rfl) :), (congrArg A.int (ho 13 _ rfl) :), (congrArg A.int (ho 14 _ rfl) :)⟩
theorem AbZ {e : Nat → A} {b : Nat} {a0 a1 : L} (h : Def.holds T e ⟨b, .call 59, [a0, a1]⟩) :
  (e b).bool = (Day.Ls.FL (Day.Ls.mk (a0.ev e) (a1.ev e).int) && (Day.Be ((Day.Ls.mk (a0.ev e) (a1.ev e).int)).n 1000000 && Day.P4 1 ((Day.Ls.mk (a0.ev e) (a1.ev e).int)).n)) ∧ e (b + 1) = ((((A.l ((Day.Ls.mk (a0.ev e) (a1.ev e).int)).x.A5, ((Day.Ls.mk (a0.ev e) (a1.ev e).int)).n))).1) ∧ (e (b + 2)).int = ((((A.l ((Day.Ls.mk (a0.ev e) (a1.ev e).int)).x.A5, ((Day.Ls.mk (a0.ev e) (a1.ev e).int)).n))).2) := by
 have hp := AN AfR h
 have ho := fun j a => AO (a := a) AfR j h
 simp only [Agz, gi, gb, gs, gv, ge, List.map_cons, List.map_nil, List.getD_cons_zero, List.getD_cons_succ, L.Aq, A.Ad] at hp ho
 exact ⟨hp, (ho 0 _ rfl :), (congrArg A.int (ho 1 _ rfl) :)⟩
theorem UI {e : Nat → A} {b : Nat} {a0 a1 a2 a3 : L} (h : Def.holds T e ⟨b, .call 44, [a0, a1, a2, a3]⟩) :
  (e b).bool = (Day.Ls.FL (Day.Ls.mk (a0.ev e) (a1.ev e).int) && (Day.Ls.FL (Day.Ls.mk (a2.ev e) (a3.ev e).int) && (Day.Be ((Day.Ls.mk (a0.ev e) (a1.ev e).int)).n 1000000 && (Day.P4 1 ((Day.Ls.mk (a0.ev e) (a1.ev e).int)).n && Day.P4 1 ((Day.Ls.mk (a2.ev e) (a3.ev e).int)).n)))) ∧ e (b + 1) = (((Day.Es (Day.Ls.mk (a0.ev e) (a1.ev e).int) (Day.Ls.mk (a2.ev e) (a3.ev e).int))).1) ∧ (e (b + 2)).int = (((Day.Es (Day.Ls.mk (a0.ev e) (a1.ev e).int) (Day.Ls.mk (a2.ev e) (a3.ev e).int))).2) ∧ (e (b + 3)).int = (Day.Mc (Day.Ls.mk (a0.ev e) (a1.ev e).int) (Day.Ls.mk (a2.ev e) (a3.ev e).int)) := by
 have hp := AN AfS h
 have ho := fun j a => AO (a := a) AfS j h
 simp only [AgA, gi, gb, gs, gv, ge, List.map_cons, List.map_nil, List.getD_cons_zero, List.getD_cons_succ, L.Aq, A.Ad] at hp ho
 exact ⟨hp, (ho 0 _ rfl :), (congrArg A.int (ho 1 _ rfl) :), (congrArg A.int (ho 2 _ rfl) :)⟩
theorem Th {e : Nat → A} {b : Nat} {a0 a1 a2 a3 : L} (h : Def.holds T e ⟨b, .call 28, [a0, a1, a2, a3]⟩) :
  (e b).bool = (Day.Ls.FL (Day.Ls.mk (a0.ev e) (a1.ev e).int) && (Day.Ls.FL (Day.Ls.mk (a2.ev e) (a3.ev e).int) && (Day.Be ((Day.Ls.mk (a0.ev e) (a1.ev e).int)).n 1000000 && (Day.P4 1 ((Day.Ls.mk (a0.ev e) (a1.ev e).int)).n && Day.P4 1 ((Day.Ls.mk (a2.ev e) (a3.ev e).int)).n)))) ∧ e (b + 1) = (((Day.Es (Day.Ls.mk (a0.ev e) (a1.ev e).int) (Day.Ls.mk (a2.ev e) (a3.ev e).int))).1) ∧ (e (b + 2)).int = (((Day.Es (Day.Ls.mk (a0.ev e) (a1.ev e).int) (Day.Ls.mk (a2.ev e) (a3.ev e).int))).2) ∧ (e (b + 3)).int = (Day.Mc (Day.Ls.mk (a0.ev e) (a1.ev e).int) (Day.Ls.mk (a2.ev e) (a3.ev e).int)) := by
 have hp := AN AfT h
 have ho := fun j a => AO (a := a) AfT j h
 simp only [AgB, gi, gb, gs, gv, ge, List.map_cons, List.map_nil, List.getD_cons_zero, List.getD_cons_succ, L.Aq, A.Ad] at hp ho
 exact ⟨hp, (ho 0 _ rfl :), (congrArg A.int (ho 1 _ rfl) :), (congrArg A.int (ho 2 _ rfl) :)⟩
theorem Ti {e : Nat → A} {b : Nat} {a0 a1 a2 a3 a4 a5 a6 a7 a8 a9 a10 a11 a12 a13 a14 a15 a16 a17 a18 a19 a20 a21 a22 a23 a24 a25 a26 a27 a28 a29 : L} (h : Def.holds T e ⟨b, .call 27, [a0, a1, a2, a3, a4, a5, a6, a7, a8, a9, a10, a11, a12, a13, a14, a15, a16, a17, a18, a19, a20, a21, a22, a23, a24, a25, a26, a27, a28, a29]⟩) :
  ∀ z0, z0 = (Day.HB.mk [(a0.ev e).int, (a1.ev e).int, (a2.ev e).int, (a3.ev e).int, (a4.ev e).int, (a5.ev e).int, (a6.ev e).int, (a7.ev e).int] (a8.ev e).int (a9.ev e).int (a10.ev e).int (a11.ev e).int) → ∀ z1, z1 = (Day.HB.mk [(a12.ev e).int, (a13.ev e).int, (a14.ev e).int, (a15.ev e).int, (a16.ev e).int, (a17.ev e).int, (a18.ev e).int, (a19.ev e).int] (a20.ev e).int (a21.ev e).int (a22.ev e).int (a23.ev e).int) → ∀ r2, r2 = Day.Me (a28.ev e).bool z0 z1 → (e b).bool = (Day.Ls.FL (Day.Ls.mk (a24.ev e) (a25.ev e).int) && (Day.Ls.FL (Day.Ls.mk (a26.ev e) (a27.ev e).int) && (Day.Be ((Day.Ls.mk (a24.ev e) (a25.ev e).int)).n 1000000 && (Day.P4 1 ((Day.Ls.mk (a24.ev e) (a25.ev e).int)).n && Day.Ms ((Day.Ls.mk (a24.ev e) (a25.ev e).int)).n ((Day.Ls.mk (a26.ev e) (a27.ev e).int)).n)))) ∧ (e (b + 1)).int = (((z0)).a 0) ∧ (e (b + 2)).int = (((z0)).a 1) ∧ (e (b + 3)).int = (((z0)).a 2) ∧ (e (b + 4)).int = (((z0)).a 3) ∧ (e (b + 5)).int = (((z0)).a 4) ∧ (e (b + 6)).int = (((z0)).a 5) ∧ (e (b + 7)).int = (((z0)).a 6) ∧ (e (b + 8)).int = (((z0)).a 7) ∧ (e (b + 9)).int = (((z0)).port) ∧ (e (b + 10)).int = (((z0)).age) ∧ (e (b + 11)).int = (((z0)).hold) ∧ (e (b + 12)).int = (((z0)).pos) ∧ e (b + 13) = (((Day.Fe (a29.ev e).bool (Day.Ls.mk (a24.ev e) (a25.ev e).int) (Day.Ls.mk (a26.ev e) (a27.ev e).int) (Day.Ls.mk (a24.ev e) (a25.ev e).int))).1) ∧ (e (b + 14)).int = (((Day.Fe (a29.ev e).bool (Day.Ls.mk (a24.ev e) (a25.ev e).int) (Day.Ls.mk (a26.ev e) (a27.ev e).int) (Day.Ls.mk (a24.ev e) (a25.ev e).int))).2) ∧ (e (b + 15)).int = (((r2)).a 0) ∧ (e (b + 16)).int = (((r2)).a 1) ∧ (e (b + 17)).int = (((r2)).a 2) ∧ (e (b + 18)).int = (((r2)).a 3) ∧ (e (b + 19)).int = (((r2)).a 4) ∧ (e (b + 20)).int = (((r2)).a 5) ∧ (e (b + 21)).int = (((r2)).a 6) ∧ (e (b + 22)).int = (((r2)).a 7) ∧ (e (b + 23)).int = (((r2)).port) ∧ (e (b + 24)).int = (((r2)).age) ∧ (e (b + 25)).int = (((r2)).hold) ∧ (e (b + 26)).int = (((r2)).pos) ∧ e (b + 27) = (((Day.Fe (a28.ev e).bool (Day.Ls.mk (a24.ev e) (a25.ev e).int) (Day.Ls.mk (a26.ev e) (a27.ev e).int) (Day.Ls.mk (a26.ev e) (a27.ev e).int))).1) ∧ (e (b + 28)).int = (((Day.Fe (a28.ev e).bool (Day.Ls.mk (a24.ev e) (a25.ev e).int) (Day.Ls.mk (a26.ev e) (a27.ev e).int) (Day.Ls.mk (a26.ev e) (a27.ev e).int))).2) := by
 intro z0 hz0 z1 hz1 r2 hr2
 subst hz0 hz1 hr2
 have hp := AN AfU h
 have ho := fun j a => AO (a := a) AfU j h
 simp only [AgC, gi, gb, gs, gv, ge, List.map_cons, List.map_nil, List.getD_cons_zero, List.getD_cons_succ, L.Aq, A.Ad] at hp ho
 exact ⟨hp, (congrArg A.int (ho 0 _ rfl) :), (congrArg A.int (ho 1 _ rfl) :), (congrArg A.int (ho 2 _ rfl) :), (congrArg A.int (ho 3 _ rfl) :), (congrArg A.int (ho 4 _ rfl) :), (congrArg A.int (ho 5 _ rfl) :), (congrArg A.int (ho 6 _ rfl) :), (congrArg A.int (ho 7 _ rfl) :), (congrArg A.int (ho 8 _ rfl) :), (congrArg A.int (ho 9 _ rfl) :), (congrArg A.int (ho 10 _ rfl) :), (congrArg A.int (ho 11 _ rfl) :), (ho 12 _ rfl :), (congrArg A.int (ho 13 _ rfl) :), (congrArg A.int (ho 14 _ rfl) :), (congrArg A.int (ho 15 _ rfl) :), (congrArg A.int (ho 16 _ rfl) :), (congrArg A.int (ho 17 _ rfl) :), (congrArg A.int (ho 18 _ rfl) :), (congrArg A.int (ho 19 _ rfl) :), (congrArg A.int (ho 20 _ rfl) :), (congrArg A.int (ho 21 _ rfl) :), (congrArg A.int (ho 22 _ rfl) :), (congrArg A.int (ho 23 _ rfl) :), (congrArg A.int (ho 24 _ rfl) :), (congrArg A.int (ho 25 _ rfl) :), (ho 26 _ rfl :), (congrArg A.int (ho 27 _ rfl) :)⟩
theorem Mf {e : Nat → A} {b : Nat} {a0 a1 a2 a3 a4 a5 a6 a7 a8 a9 a10 a11 a12 a13 a14 a15 a16 a17 a18 a19 a20 a21 a22 a23 a24 a25 a26 a27 a28 a29 a30 : L} (h : Def.holds T e ⟨b, .call 13, [a0, a1, a2, a3, a4, a5, a6, a7, a8, a9, a10, a11, a12, a13, a14, a15, a16, a17, a18, a19, a20, a21, a22, a23, a24, a25, a26, a27, a28, a29, a30]⟩) :
  ∀ z0, z0 = (Day.HB.mk [(a1.ev e).int, (a2.ev e).int, (a3.ev e).int, (a4.ev e).int, (a5.ev e).int, (a6.ev e).int, (a7.ev e).int, (a8.ev e).int] (a9.ev e).int (a10.ev e).int (a11.ev e).int (a12.ev e).int) → ∀ z1, z1 = (Day.HB.mk [(a13.ev e).int, (a14.ev e).int, (a15.ev e).int, (a16.ev e).int, (a17.ev e).int, (a18.ev e).int, (a19.ev e).int, (a20.ev e).int] (a21.ev e).int (a22.ev e).int (a23.ev e).int (a24.ev e).int) → ∀ r2, r2 = Day.DI (a0.ev e).int z0 z1 (Day.Ls.mk (a25.ev e) (a26.ev e).int) (Day.Ls.mk (a27.ev e) (a28.ev e).int) (a29.ev e).bool (a30.ev e).bool → ∀ r3, r3 = Day.DJ (a0.ev e).int z0 z1 (Day.Ls.mk (a25.ev e) (a26.ev e).int) (Day.Ls.mk (a27.ev e) (a28.ev e).int) (a29.ev e).bool (a30.ev e).bool → (e b).bool = (Day.HB.i64 z0 && (Day.HB.i64 z1 && (Day.Ls.FL (Day.Ls.mk (a25.ev e) (a26.ev e).int) && Day.Ls.FL (Day.Ls.mk (a27.ev e) (a28.ev e).int)))) ∧ (e (b + 1)).int = (((r2)).a 0) ∧ (e (b + 2)).int = (((r2)).a 1) ∧ (e (b + 3)).int = (((r2)).a 2) ∧ (e (b + 4)).int = (((r2)).a 3) ∧ (e (b + 5)).int = (((r2)).a 4) ∧ (e (b + 6)).int = (((r2)).a 5) ∧ (e (b + 7)).int = (((r2)).a 6) ∧ (e (b + 8)).int = (((r2)).a 7) ∧ (e (b + 9)).int = (((r2)).port) ∧ (e (b + 10)).int = (((r2)).age) ∧ (e (b + 11)).int = (((r2)).hold) ∧ (e (b + 12)).int = (((r2)).pos) ∧ (e (b + 13)).int = (((r3)).a 0) ∧ (e (b + 14)).int = (((r3)).a 1) ∧ (e (b + 15)).int = (((r3)).a 2) ∧ (e (b + 16)).int = (((r3)).a 3) ∧ (e (b + 17)).int = (((r3)).a 4) ∧ (e (b + 18)).int = (((r3)).a 5) ∧ (e (b + 19)).int = (((r3)).a 6) ∧ (e (b + 20)).int = (((r3)).a 7) ∧ (e (b + 21)).int = (((r3)).port) ∧ (e (b + 22)).int = (((r3)).age) ∧ (e (b + 23)).int = (((r3)).hold) ∧ (e (b + 24)).int = (((r3)).pos) ∧ (e (b + 25)).int = (((Day.Cv (a0.ev e).int z0 z1 (Day.Ls.mk (a25.ev e) (a26.ev e).int) (Day.Ls.mk (a27.ev e) (a28.ev e).int) (a29.ev e).bool (a30.ev e).bool)).kind) ∧ (e (b + 26)).int = (((Day.Cv (a0.ev e).int z0 z1 (Day.Ls.mk (a25.ev e) (a26.ev e).int) (Day.Ls.mk (a27.ev e) (a28.ev e).int) (a29.ev e).bool (a30.ev e).bool)).id) ∧ (e (b + 27)).int = (((Day.Cw (a0.ev e).int z0 z1 (Day.Ls.mk (a25.ev e) (a26.ev e).int) (Day.Ls.mk (a27.ev e) (a28.ev e).int) (a29.ev e).bool (a30.ev e).bool)).kind) ∧ (e (b + 28)).int = (((Day.Cw (a0.ev e).int z0 z1 (Day.Ls.mk (a25.ev e) (a26.ev e).int) (Day.Ls.mk (a27.ev e) (a28.ev e).int) (a29.ev e).bool (a30.ev e).bool)).id) ∧ (e (b + 29)).int = (Day.CL (a0.ev e).int z0 z1 (Day.Ls.mk (a25.ev e) (a26.ev e).int) (Day.Ls.mk (a27.ev e) (a28.ev e).int)) := by
 intro z0 hz0 z1 hz1 r2 hr2 r3 hr3
 subst hz0 hz1 hr2 hr3
 have hp := AN Aes h
 have ho := fun j a => AO (a := a) Aes j h
 simp only [AfL, gi, gb, gs, gv, ge, List.map_cons, List.map_nil, List.getD_cons_zero, List.getD_cons_succ, L.Aq, A.Ad] at hp ho
 exact ⟨hp, (congrArg A.int (ho 0 _ rfl) :), (congrArg A.int (ho 1 _ rfl) :), (congrArg A.int (ho 2 _ rfl) :), (congrArg A.int (ho 3 _ rfl) :), (congrArg A.int (ho 4 _ rfl) :), (congrArg A.int (ho 5 _ rfl) :), (congrArg A.int (ho 6 _ rfl) :), (congrArg A.int (ho 7 _ rfl) :), (congrArg A.int (ho 8 _ rfl) :), (congrArg A.int (ho 9 _ rfl) :), (congrArg A.int (ho 10 _ rfl) :), (congrArg A.int (ho 11 _ rfl) :), (congrArg A.int (ho 12 _ rfl) :), (congrArg A.int (ho 13 _ rfl) :), (congrArg A.int (ho 14 _ rfl) :), (congrArg A.int (ho 15 _ rfl) :), (congrArg A.int (ho 16 _ rfl) :), (congrArg A.int (ho 17 _ rfl) :), (congrArg A.int (ho 18 _ rfl) :), (congrArg A.int (ho 19 _ rfl) :), (congrArg A.int (ho 20 _ rfl) :), (congrArg A.int (ho 21 _ rfl) :), (congrArg A.int (ho 22 _ rfl) :), (congrArg A.int (ho 23 _ rfl) :), (congrArg A.int (ho 24 _ rfl) :), (congrArg A.int (ho 25 _ rfl) :), (congrArg A.int (ho 26 _ rfl) :), (congrArg A.int (ho 27 _ rfl) :), (congrArg A.int (ho 28 _ rfl) :)⟩
theorem Tj {e : Nat → A} {b : Nat} {a0 a1 a2 a3 a4 a5 a6 a7 a8 a9 a10 a11 a12 a13 a14 a15 a16 a17 a18 a19 a20 a21 a22 a23 a24 a25 a26 a27 a28 a29 a30 : L} (h : Def.holds T e ⟨b, .call 15, [a0, a1, a2, a3, a4, a5, a6, a7, a8, a9, a10, a11, a12, a13, a14, a15, a16, a17, a18, a19, a20, a21, a22, a23, a24, a25, a26, a27, a28, a29, a30]⟩) :
  ∀ z0, z0 = (Day.HB.mk [(a1.ev e).int, (a2.ev e).int, (a3.ev e).int, (a4.ev e).int, (a5.ev e).int, (a6.ev e).int, (a7.ev e).int, (a8.ev e).int] (a9.ev e).int (a10.ev e).int (a11.ev e).int (a12.ev e).int) → ∀ z1, z1 = (Day.HB.mk [(a13.ev e).int, (a14.ev e).int, (a15.ev e).int, (a16.ev e).int, (a17.ev e).int, (a18.ev e).int, (a19.ev e).int, (a20.ev e).int] (a21.ev e).int (a22.ev e).int (a23.ev e).int (a24.ev e).int) → ∀ r2, r2 = Day.DI (a0.ev e).int z0 z1 (Day.Ls.mk (a25.ev e) (a26.ev e).int) (Day.Ls.mk (a27.ev e) (a28.ev e).int) (a29.ev e).bool (a30.ev e).bool → ∀ r3, r3 = Day.DJ (a0.ev e).int z0 z1 (Day.Ls.mk (a25.ev e) (a26.ev e).int) (Day.Ls.mk (a27.ev e) (a28.ev e).int) (a29.ev e).bool (a30.ev e).bool → (e b).bool = (Day.HB.i64 z0 && (Day.HB.i64 z1 && (Day.Ls.FL (Day.Ls.mk (a25.ev e) (a26.ev e).int) && Day.Ls.FL (Day.Ls.mk (a27.ev e) (a28.ev e).int)))) ∧ (e (b + 1)).int = (((r2)).a 0) ∧ (e (b + 2)).int = (((r2)).a 1) ∧ (e (b + 3)).int = (((r2)).a 2) ∧ (e (b + 4)).int = (((r2)).a 3) ∧ (e (b + 5)).int = (((r2)).a 4) ∧ (e (b + 6)).int = (((r2)).a 5) ∧ (e (b + 7)).int = (((r2)).a 6) ∧ (e (b + 8)).int = (((r2)).a 7) ∧ (e (b + 9)).int = (((r2)).port) ∧ (e (b + 10)).int = (((r2)).age) ∧ (e (b + 11)).int = (((r2)).hold) ∧ (e (b + 12)).int = (((r2)).pos) ∧ (e (b + 13)).int = (((r3)).a 0) ∧ (e (b + 14)).int = (((r3)).a 1) ∧ (e (b + 15)).int = (((r3)).a 2) ∧ (e (b + 16)).int = (((r3)).a 3) ∧ (e (b + 17)).int = (((r3)).a 4) ∧ (e (b + 18)).int = (((r3)).a 5) ∧ (e (b + 19)).int = (((r3)).a 6) ∧ (e (b + 20)).int = (((r3)).a 7) ∧ (e (b + 21)).int = (((r3)).port) ∧ (e (b + 22)).int = (((r3)).age) ∧ (e (b + 23)).int = (((r3)).hold) ∧ (e (b + 24)).int = (((r3)).pos) ∧ (e (b + 25)).int = (((Day.Cv (a0.ev e).int z0 z1 (Day.Ls.mk (a25.ev e) (a26.ev e).int) (Day.Ls.mk (a27.ev e) (a28.ev e).int) (a29.ev e).bool (a30.ev e).bool)).kind) ∧ (e (b + 26)).int = (((Day.Cv (a0.ev e).int z0 z1 (Day.Ls.mk (a25.ev e) (a26.ev e).int) (Day.Ls.mk (a27.ev e) (a28.ev e).int) (a29.ev e).bool (a30.ev e).bool)).id) ∧ (e (b + 27)).int = (((Day.Cw (a0.ev e).int z0 z1 (Day.Ls.mk (a25.ev e) (a26.ev e).int) (Day.Ls.mk (a27.ev e) (a28.ev e).int) (a29.ev e).bool (a30.ev e).bool)).kind) ∧ (e (b + 28)).int = (((Day.Cw (a0.ev e).int z0 z1 (Day.Ls.mk (a25.ev e) (a26.ev e).int) (Day.Ls.mk (a27.ev e) (a28.ev e).int) (a29.ev e).bool (a30.ev e).bool)).id) ∧ (e (b + 29)).int = (Day.CL (a0.ev e).int z0 z1 (Day.Ls.mk (a25.ev e) (a26.ev e).int) (Day.Ls.mk (a27.ev e) (a28.ev e).int)) := by
 intro z0 hz0 z1 hz1 r2 hr2 r3 hr3
 subst hz0 hz1 hr2 hr3
 have hp := AN Aet h
 have ho := fun j a => AO (a := a) Aet j h
 simp only [AfM, gi, gb, gs, gv, ge, List.map_cons, List.map_nil, List.getD_cons_zero, List.getD_cons_succ, L.Aq, A.Ad] at hp ho
 exact ⟨hp, (congrArg A.int (ho 0 _ rfl) :), (congrArg A.int (ho 1 _ rfl) :), (congrArg A.int (ho 2 _ rfl) :), (congrArg A.int (ho 3 _ rfl) :), (congrArg A.int (ho 4 _ rfl) :), (congrArg A.int (ho 5 _ rfl) :), (congrArg A.int (ho 6 _ rfl) :), (congrArg A.int (ho 7 _ rfl) :), (congrArg A.int (ho 8 _ rfl) :), (congrArg A.int (ho 9 _ rfl) :), (congrArg A.int (ho 10 _ rfl) :), (congrArg A.int (ho 11 _ rfl) :), (congrArg A.int (ho 12 _ rfl) :), (congrArg A.int (ho 13 _ rfl) :), (congrArg A.int (ho 14 _ rfl) :), (congrArg A.int (ho 15 _ rfl) :), (congrArg A.int (ho 16 _ rfl) :), (congrArg A.int (ho 17 _ rfl) :), (congrArg A.int (ho 18 _ rfl) :), (congrArg A.int (ho 19 _ rfl) :), (congrArg A.int (ho 20 _ rfl) :), (congrArg A.int (ho 21 _ rfl) :), (congrArg A.int (ho 22 _ rfl) :), (congrArg A.int (ho 23 _ rfl) :), (congrArg A.int (ho 24 _ rfl) :), (congrArg A.int (ho 25 _ rfl) :), (congrArg A.int (ho 26 _ rfl) :), (congrArg A.int (ho 27 _ rfl) :), (congrArg A.int (ho 28 _ rfl) :)⟩
theorem Tk {e : Nat → A} {b : Nat} {a0 a1 a2 a3 a4 a5 a6 a7 a8 a9 a10 a11 a12 a13 a14 a15 a16 a17 a18 a19 a20 a21 a22 a23 a24 : L} (h : Def.holds T e ⟨b, .call 16, [a0, a1, a2, a3, a4, a5, a6, a7, a8, a9, a10, a11, a12, a13, a14, a15, a16, a17, a18, a19, a20, a21, a22, a23, a24]⟩) :
  ∀ z0, z0 = (Day.HB.mk [(a1.ev e).int, (a2.ev e).int, (a3.ev e).int, (a4.ev e).int, (a5.ev e).int, (a6.ev e).int, (a7.ev e).int, (a8.ev e).int] (a9.ev e).int (a10.ev e).int (a11.ev e).int (a12.ev e).int) → ∀ z1, z1 = (Day.HB.mk [(a13.ev e).int, (a14.ev e).int, (a15.ev e).int, (a16.ev e).int, (a17.ev e).int, (a18.ev e).int, (a19.ev e).int, (a20.ev e).int] (a21.ev e).int (a22.ev e).int (a23.ev e).int (a24.ev e).int) → ∀ r2, r2 = Day.AB (a0.ev e).int z0 → ∀ r3, r3 = Day.AB (a0.ev e).int z1 → (e b).bool = (Day.HB.i64 z0 && Day.HB.i64 z1) ∧ (e (b + 1)).int = (((r2)).a 0) ∧ (e (b + 2)).int = (((r2)).a 1) ∧ (e (b + 3)).int = (((r2)).a 2) ∧ (e (b + 4)).int = (((r2)).a 3) ∧ (e (b + 5)).int = (((r2)).a 4) ∧ (e (b + 6)).int = (((r2)).a 5) ∧ (e (b + 7)).int = (((r2)).a 6) ∧ (e (b + 8)).int = (((r2)).a 7) ∧ (e (b + 9)).int = (((r2)).port) ∧ (e (b + 10)).int = (((r2)).age) ∧ (e (b + 11)).int = (((r2)).hold) ∧ (e (b + 12)).int = (((r2)).pos) ∧ (e (b + 13)).int = (((r3)).a 0) ∧ (e (b + 14)).int = (((r3)).a 1) ∧ (e (b + 15)).int = (((r3)).a 2) ∧ (e (b + 16)).int = (((r3)).a 3) ∧ (e (b + 17)).int = (((r3)).a 4) ∧ (e (b + 18)).int = (((r3)).a 5) ∧ (e (b + 19)).int = (((r3)).a 6) ∧ (e (b + 20)).int = (((r3)).a 7) ∧ (e (b + 21)).int = (((r3)).port) ∧ (e (b + 22)).int = (((r3)).age) ∧ (e (b + 23)).int = (((r3)).hold) ∧ (e (b + 24)).int = (((r3)).pos) ∧ (e (b + 25)).int = (Day.BV (a0.ev e).int) := by
 intro z0 hz0 z1 hz1 r2 hr2 r3 hr3
 subst hz0 hz1 hr2 hr3
 have hp := AN Aeu h
 have ho := fun j a => AO (a := a) Aeu j h
 simp only [AfN, gi, gb, gs, gv, ge, List.map_cons, List.map_nil, List.getD_cons_zero, List.getD_cons_succ, L.Aq, A.Ad] at hp ho
 exact ⟨hp, (congrArg A.int (ho 0 _ rfl) :), (congrArg A.int (ho 1 _ rfl) :), (congrArg A.int (ho 2 _ rfl) :), (congrArg A.int (ho 3 _ rfl) :), (congrArg A.int (ho 4 _ rfl) :), (congrArg A.int (ho 5 _ rfl) :), (congrArg A.int (ho 6 _ rfl) :), (congrArg A.int (ho 7 _ rfl) :), (congrArg A.int (ho 8 _ rfl) :), (congrArg A.int (ho 9 _ rfl) :), (congrArg A.int (ho 10 _ rfl) :), (congrArg A.int (ho 11 _ rfl) :), (congrArg A.int (ho 12 _ rfl) :), (congrArg A.int (ho 13 _ rfl) :), (congrArg A.int (ho 14 _ rfl) :), (congrArg A.int (ho 15 _ rfl) :), (congrArg A.int (ho 16 _ rfl) :), (congrArg A.int (ho 17 _ rfl) :), (congrArg A.int (ho 18 _ rfl) :), (congrArg A.int (ho 19 _ rfl) :), (congrArg A.int (ho 20 _ rfl) :), (congrArg A.int (ho 21 _ rfl) :), (congrArg A.int (ho 22 _ rfl) :), (congrArg A.int (ho 23 _ rfl) :), (congrArg A.int (ho 24 _ rfl) :)⟩
theorem Qm {e : Nat → A} {b : Nat} {a0 a1 a2 a3 a4 a5 a6 a7 a8 a9 a10 a11 a12 a13 a14 a15 a16 a17 a18 a19 a20 a21 a22 a23 a24 : L} (h : Def.holds T e ⟨b, .call 17, [a0, a1, a2, a3, a4, a5, a6, a7, a8, a9, a10, a11, a12, a13, a14, a15, a16, a17, a18, a19, a20, a21, a22, a23, a24]⟩) :
  ∀ z0, z0 = (Day.HB.mk [(a1.ev e).int, (a2.ev e).int, (a3.ev e).int, (a4.ev e).int, (a5.ev e).int, (a6.ev e).int, (a7.ev e).int, (a8.ev e).int] (a9.ev e).int (a10.ev e).int (a11.ev e).int (a12.ev e).int) → ∀ z1, z1 = (Day.HB.mk [(a13.ev e).int, (a14.ev e).int, (a15.ev e).int, (a16.ev e).int, (a17.ev e).int, (a18.ev e).int, (a19.ev e).int, (a20.ev e).int] (a21.ev e).int (a22.ev e).int (a23.ev e).int (a24.ev e).int) → ∀ r2, r2 = Day.AB (a0.ev e).int z0 → ∀ r3, r3 = Day.AB (a0.ev e).int z1 → (e b).bool = (Day.HB.i64 z0 && Day.HB.i64 z1) ∧ (e (b + 1)).int = (((r2)).a 0) ∧ (e (b + 2)).int = (((r2)).a 1) ∧ (e (b + 3)).int = (((r2)).a 2) ∧ (e (b + 4)).int = (((r2)).a 3) ∧ (e (b + 5)).int = (((r2)).a 4) ∧ (e (b + 6)).int = (((r2)).a 5) ∧ (e (b + 7)).int = (((r2)).a 6) ∧ (e (b + 8)).int = (((r2)).a 7) ∧ (e (b + 9)).int = (((r2)).port) ∧ (e (b + 10)).int = (((r2)).age) ∧ (e (b + 11)).int = (((r2)).hold) ∧ (e (b + 12)).int = (((r2)).pos) ∧ (e (b + 13)).int = (((r3)).a 0) ∧ (e (b + 14)).int = (((r3)).a 1) ∧ (e (b + 15)).int = (((r3)).a 2) ∧ (e (b + 16)).int = (((r3)).a 3) ∧ (e (b + 17)).int = (((r3)).a 4) ∧ (e (b + 18)).int = (((r3)).a 5) ∧ (e (b + 19)).int = (((r3)).a 6) ∧ (e (b + 20)).int = (((r3)).a 7) ∧ (e (b + 21)).int = (((r3)).port) ∧ (e (b + 22)).int = (((r3)).age) ∧ (e (b + 23)).int = (((r3)).hold) ∧ (e (b + 24)).int = (((r3)).pos) ∧ (e (b + 25)).int = (Day.BV (a0.ev e).int) := by
 intro z0 hz0 z1 hz1 r2 hr2 r3 hr3
 subst hz0 hz1 hr2 hr3
 have hp := AN Aev h
 have ho := fun j a => AO (a := a) Aev j h
 simp only [AfO, gi, gb, gs, gv, ge, List.map_cons, List.map_nil, List.getD_cons_zero, List.getD_cons_succ, L.Aq, A.Ad] at hp ho
 exact ⟨hp, (congrArg A.int (ho 0 _ rfl) :), (congrArg A.int (ho 1 _ rfl) :), (congrArg A.int (ho 2 _ rfl) :), (congrArg A.int (ho 3 _ rfl) :), (congrArg A.int (ho 4 _ rfl) :), (congrArg A.int (ho 5 _ rfl) :), (congrArg A.int (ho 6 _ rfl) :), (congrArg A.int (ho 7 _ rfl) :), (congrArg A.int (ho 8 _ rfl) :), (congrArg A.int (ho 9 _ rfl) :), (congrArg A.int (ho 10 _ rfl) :), (congrArg A.int (ho 11 _ rfl) :), (congrArg A.int (ho 12 _ rfl) :), (congrArg A.int (ho 13 _ rfl) :), (congrArg A.int (ho 14 _ rfl) :), (congrArg A.int (ho 15 _ rfl) :), (congrArg A.int (ho 16 _ rfl) :), (congrArg A.int (ho 17 _ rfl) :), (congrArg A.int (ho 18 _ rfl) :), (congrArg A.int (ho 19 _ rfl) :), (congrArg A.int (ho 20 _ rfl) :), (congrArg A.int (ho 21 _ rfl) :), (congrArg A.int (ho 22 _ rfl) :), (congrArg A.int (ho 23 _ rfl) :), (congrArg A.int (ho 24 _ rfl) :)⟩
theorem JG {e : Nat → A} {b : Nat} (h : Def.holds T e ⟨b, .call 12, []⟩) :
  (e b).bool = (true) ∧ (e (b + 1)).bool = (true) := by
 have hp := AN Aew h
 have ho := fun j a => AO (a := a) Aew j h
 simp only [AfP, gi, gb, gs, gv, ge, List.map_cons, List.map_nil, List.getD_cons_zero, List.getD_cons_succ, L.Aq, A.Ad] at hp ho
 exact ⟨hp, (congrArg A.bool (ho 0 _ rfl) :)⟩
theorem Ab0 {e : Nat → A} {b : Nat} {a0 a1 a2 a3 a4 a5 a6 a7 a8 a9 a10 a11 a12 a13 a14 a15 : L} (h : Def.holds T e ⟨b, .call 1470, [a0, a1, a2, a3, a4, a5, a6, a7, a8, a9, a10, a11, a12, a13, a14, a15]⟩) :
  ∀ z0, z0 = (Day.HB.mk [(a1.ev e).int, (a2.ev e).int, (a3.ev e).int, (a4.ev e).int, (a5.ev e).int, (a6.ev e).int, (a7.ev e).int, (a8.ev e).int] (a9.ev e).int (a10.ev e).int (a11.ev e).int (a12.ev e).int) → (e b).bool = (Day.right (a0.ev e).int && Day.Be (a13.ev e).int 8) ∧ (e (b + 1)).bool = ((!Day.okF (a0.ev e).int z0 (a13.ev e).int)) ∧ (e (b + 2)).bool = (Day.okF (a0.ev e).int z0 (a13.ev e).int) := by
 intro z0 hz0
 subst hz0
 have hp := AN SO h
 have ho := fun j a => AO (a := a) SO j h
 simp only [Kt, gi, gb, gs, gv, ge, List.map_cons, List.map_nil, List.getD_cons_zero, List.getD_cons_succ, L.Aq, A.Ad] at hp ho
 exact ⟨hp, (congrArg A.bool (ho 0 _ rfl) :), (congrArg A.bool (ho 1 _ rfl) :)⟩
theorem Ab1 {e : Nat → A} {b : Nat} {a0 a1 a2 a3 a4 a5 a6 a7 a8 a9 a10 a11 a12 a13 : L} (h : Def.holds T e ⟨b, .call 1490, [a0, a1, a2, a3, a4, a5, a6, a7, a8, a9, a10, a11, a12, a13]⟩) :
  (e b).bool = (Day.Yr (a0.ev e).int (a1.ev e).int) ∧ (e (b + 1)).int = (Day.AD (a0.ev e).int (a1.ev e).int 0 (a6.ev e).int) ∧ (e (b + 2)).int = (Day.AD (a0.ev e).int (a1.ev e).int 1 (a7.ev e).int) ∧ (e (b + 3)).int = (Day.AD (a0.ev e).int (a1.ev e).int 2 (a8.ev e).int) ∧ (e (b + 4)).int = (Day.AD (a0.ev e).int (a1.ev e).int 3 (a9.ev e).int) ∧ (e (b + 5)).int = (Day.AD (a0.ev e).int (a1.ev e).int 4 (a10.ev e).int) ∧ (e (b + 6)).int = (Day.AD (a0.ev e).int (a1.ev e).int 5 (a11.ev e).int) ∧ (e (b + 7)).int = (Day.AD (a0.ev e).int (a1.ev e).int 6 (a12.ev e).int) ∧ (e (b + 8)).int = (Day.AD (a0.ev e).int (a1.ev e).int 7 (a13.ev e).int) := by
 have hp := AN SP h
 have ho := fun j a => AO (a := a) SP j h
 simp only [Ku, gi, gb, gs, gv, ge, List.map_cons, List.map_nil, List.getD_cons_zero, List.getD_cons_succ, L.Aq, A.Ad] at hp ho
 exact ⟨hp, (congrArg A.int (ho 0 _ rfl) :), (congrArg A.int (ho 1 _ rfl) :), (congrArg A.int (ho 2 _ rfl) :), (congrArg A.int (ho 3 _ rfl) :), (congrArg A.int (ho 4 _ rfl) :), (congrArg A.int (ho 5 _ rfl) :), (congrArg A.int (ho 6 _ rfl) :), (congrArg A.int (ho 7 _ rfl) :)⟩
theorem Ab2 {e : Nat → A} {b : Nat} {a0 a1 a2 a3 a4 a5 a6 a7 a8 a9 a10 a11 a12 a13 a14 a15 a16 a17 a18 a19 a20 a21 a22 a23 : L} (h : Def.holds T e ⟨b, .call 1500, [a0, a1, a2, a3, a4, a5, a6, a7, a8, a9, a10, a11, a12, a13, a14, a15, a16, a17, a18, a19, a20, a21, a22, a23]⟩) :
  (e b).bool = (Day.Yr (a0.ev e).int (a13.ev e).int) ∧ (e (b + 1)).int = (Day.Hi (a0.ev e).int (a13.ev e).int 0 (a16.ev e).int) ∧ (e (b + 2)).int = (Day.Hi (a0.ev e).int (a13.ev e).int 1 (a17.ev e).int) ∧ (e (b + 3)).int = (Day.Hi (a0.ev e).int (a13.ev e).int 2 (a18.ev e).int) ∧ (e (b + 4)).int = (Day.Hi (a0.ev e).int (a13.ev e).int 3 (a19.ev e).int) ∧ (e (b + 5)).int = (Day.Hi (a0.ev e).int (a13.ev e).int 4 (a20.ev e).int) ∧ (e (b + 6)).int = (Day.Hi (a0.ev e).int (a13.ev e).int 5 (a21.ev e).int) ∧ (e (b + 7)).int = (Day.Hi (a0.ev e).int (a13.ev e).int 6 (a22.ev e).int) ∧ (e (b + 8)).int = (Day.Hi (a0.ev e).int (a13.ev e).int 7 (a23.ev e).int) := by
 have hp := AN SQ h
 have ho := fun j a => AO (a := a) SQ j h
 simp only [Kv, gi, gb, gs, gv, ge, List.map_cons, List.map_nil, List.getD_cons_zero, List.getD_cons_succ, L.Aq, A.Ad] at hp ho
 exact ⟨hp, (congrArg A.int (ho 0 _ rfl) :), (congrArg A.int (ho 1 _ rfl) :), (congrArg A.int (ho 2 _ rfl) :), (congrArg A.int (ho 3 _ rfl) :), (congrArg A.int (ho 4 _ rfl) :), (congrArg A.int (ho 5 _ rfl) :), (congrArg A.int (ho 6 _ rfl) :), (congrArg A.int (ho 7 _ rfl) :)⟩
theorem Ab3 {e : Nat → A} {b : Nat} {a0 a1 a2 a3 a4 a5 a6 a7 a8 a9 a10 a11 a12 a13 a14 a15 : L} (h : Def.holds T e ⟨b, .call 1520, [a0, a1, a2, a3, a4, a5, a6, a7, a8, a9, a10, a11, a12, a13, a14, a15]⟩) :
  ∀ z0, z0 = (Day.HB.mk [(a1.ev e).int, (a2.ev e).int, (a3.ev e).int, (a4.ev e).int, (a5.ev e).int, (a6.ev e).int, (a7.ev e).int, (a8.ev e).int] (a9.ev e).int (a10.ev e).int (a11.ev e).int (a12.ev e).int) → (e b).bool = (Day.IM (a0.ev e).int z0 (a15.ev e).int (a14.ev e).int) ∧ (e (b + 1)).int = (Day.Hj (a0.ev e).int z0 (a13.ev e).int (a15.ev e).int (a14.ev e).int) := by
 intro z0 hz0
 subst hz0
 have hp := AN SR h
 have ho := fun j a => AO (a := a) SR j h
 simp only [Kw, gi, gb, gs, gv, ge, List.map_cons, List.map_nil, List.getD_cons_zero, List.getD_cons_succ, L.Aq, A.Ad] at hp ho
 exact ⟨hp, (congrArg A.int (ho 0 _ rfl) :)⟩
theorem Ab4 {e : Nat → A} {b : Nat} {a0 a1 a2 a3 a4 a5 a6 a7 a8 a9 a10 a11 a12 a13 a14 : L} (h : Def.holds T e ⟨b, .call 1530, [a0, a1, a2, a3, a4, a5, a6, a7, a8, a9, a10, a11, a12, a13, a14]⟩) :
  ∀ z0, z0 = (Day.HB.mk [(a1.ev e).int, (a2.ev e).int, (a3.ev e).int, (a4.ev e).int, (a5.ev e).int, (a6.ev e).int, (a7.ev e).int, (a8.ev e).int] (a9.ev e).int (a10.ev e).int (a11.ev e).int (a12.ev e).int) → (e b).bool = (Day.Nv (a0.ev e).int z0 (a14.ev e).int) ∧ (e (b + 1)).int = (Day.Nu (a0.ev e).int z0 (a14.ev e).int (a13.ev e).int) := by
 intro z0 hz0
 subst hz0
 have hp := AN SS h
 have ho := fun j a => AO (a := a) SS j h
 simp only [Kx, gi, gb, gs, gv, ge, List.map_cons, List.map_nil, List.getD_cons_zero, List.getD_cons_succ, L.Aq, A.Ad] at hp ho
 exact ⟨hp, (congrArg A.int (ho 0 _ rfl) :)⟩
theorem Ab5 {e : Nat → A} {b : Nat} {a0 a1 a2 a3 a4 a5 a6 a7 a8 a9 a10 a11 a12 a13 a14 : L} (h : Def.holds T e ⟨b, .call 1540, [a0, a1, a2, a3, a4, a5, a6, a7, a8, a9, a10, a11, a12, a13, a14]⟩) :
  ∀ z0, z0 = (Day.HB.mk [(a1.ev e).int, (a2.ev e).int, (a3.ev e).int, (a4.ev e).int, (a5.ev e).int, (a6.ev e).int, (a7.ev e).int, (a8.ev e).int] (a9.ev e).int (a10.ev e).int (a11.ev e).int (a12.ev e).int) → (e b).bool = (Day.DB (a0.ev e).int z0 (a13.ev e).int (a14.ev e)) ∧ e (b + 1) = (Day.Co (Day.Kp (a0.ev e).int z0 (a13.ev e).int (a14.ev e))) := by
 intro z0 hz0
 subst hz0
 have hp := AN SU h
 have ho := fun j a => AO (a := a) SU j h
 simp only [Ky, gi, gb, gs, gv, ge, List.map_cons, List.map_nil, List.getD_cons_zero, List.getD_cons_succ, L.Aq, A.Ad] at hp ho
 exact ⟨hp, (ho 0 _ rfl :)⟩
theorem Ab6 {e : Nat → A} {b : Nat} {a0 a1 a2 a3 a4 a5 a6 a7 a8 a9 a10 a11 a12 a13 a14 a15 a16 a17 : L} (h : Def.holds T e ⟨b, .call 1560, [a0, a1, a2, a3, a4, a5, a6, a7, a8, a9, a10, a11, a12, a13, a14, a15, a16, a17]⟩) :
  (e b).bool = (Day.DG (a0.ev e).int (a2.ev e).int (a17.ev e)) ∧ (e (b + 1)).int = (Day.Qg (a1.ev e).int (a2.ev e).int (a17.ev e)) := by
 have hp := AN SW h
 have ho := fun j a => AO (a := a) SW j h
 simp only [Kz, gi, gb, gs, gv, ge, List.map_cons, List.map_nil, List.getD_cons_zero, List.getD_cons_succ, L.Aq, A.Ad] at hp ho
 exact ⟨hp, (congrArg A.int (ho 0 _ rfl) :)⟩
theorem Ab7 {e : Nat → A} {b : Nat} {a0 a1 a2 a3 a4 a5 a6 a7 a8 a9 a10 a11 a12 a13 a14 a15 : L} (h : Def.holds T e ⟨b, .call 1561, [a0, a1, a2, a3, a4, a5, a6, a7, a8, a9, a10, a11, a12, a13, a14, a15]⟩) :
  (e b).bool = (Day.DG (a0.ev e).int (a2.ev e).int (a15.ev e)) ∧ (e (b + 1)).int = (Day.UB (a1.ev e).int (a2.ev e).int (a15.ev e)) ∧ (e (b + 2)).bool = (Day.Kq (a1.ev e).int (a2.ev e).int (a15.ev e)) ∧ (e (b + 3)).bool = ((!Day.Kq (a1.ev e).int (a2.ev e).int (a15.ev e))) := by
 have hp := AN SX h
 have ho := fun j a => AO (a := a) SX j h
 simp only [KA, gi, gb, gs, gv, ge, List.map_cons, List.map_nil, List.getD_cons_zero, List.getD_cons_succ, L.Aq, A.Ad] at hp ho
 exact ⟨hp, (congrArg A.int (ho 0 _ rfl) :), (congrArg A.bool (ho 1 _ rfl) :), (congrArg A.bool (ho 2 _ rfl) :)⟩
theorem Ab8 {e : Nat → A} {b : Nat} {a0 a1 a2 a3 a4 a5 a6 : L} (h : Def.holds T e ⟨b, .call 1630, [a0, a1, a2, a3, a4, a5, a6]⟩) :
  (e b).bool = (Day.Ls.ok (Day.Ls.mk (a6.ev e) (a1.ev e).int) && Day.Be (a5.ev e).int ((Day.Ls.mk (a6.ev e) (a1.ev e).int)).n) ∧ (e (b + 1)).bool = ((!Day.D0 (Day.DC (Day.Ls.mk (a6.ev e) (a1.ev e).int)) (a5.ev e).int ((Day.Ls.mk (a6.ev e) (a1.ev e).int)).n)) ∧ (e (b + 2)).bool = (Day.D0 (Day.DC (Day.Ls.mk (a6.ev e) (a1.ev e).int)) (a5.ev e).int ((Day.Ls.mk (a6.ev e) (a1.ev e).int)).n) := by
 have hp := AN SY h
 have ho := fun j a => AO (a := a) SY j h
 simp only [KB, gi, gb, gs, gv, ge, List.map_cons, List.map_nil, List.getD_cons_zero, List.getD_cons_succ, L.Aq, A.Ad] at hp ho
 exact ⟨hp, (congrArg A.bool (ho 0 _ rfl) :), (congrArg A.bool (ho 1 _ rfl) :)⟩
theorem Ab9 {e : Nat → A} {b : Nat} {a0 a1 a2 a3 : L} (h : Def.holds T e ⟨b, .call 1640, [a0, a1, a2, a3]⟩) :
  (e b).bool = (Day.Ls.ok (Day.Ls.mk (a3.ev e) (a1.ev e).int) && Day.Be (a2.ev e).int ((Day.Ls.mk (a3.ev e) (a1.ev e).int)).n) ∧ (e (b + 1)).bool = ((!Day.D0 (Day.DC (Day.Ls.mk (a3.ev e) (a1.ev e).int)) (a2.ev e).int ((Day.Ls.mk (a3.ev e) (a1.ev e).int)).n)) ∧ (e (b + 2)).bool = (Day.D0 (Day.DC (Day.Ls.mk (a3.ev e) (a1.ev e).int)) (a2.ev e).int ((Day.Ls.mk (a3.ev e) (a1.ev e).int)).n) := by
 have hp := AN SZ h
 have ho := fun j a => AO (a := a) SZ j h
 simp only [KC, gi, gb, gs, gv, ge, List.map_cons, List.map_nil, List.getD_cons_zero, List.getD_cons_succ, L.Aq, A.Ad] at hp ho
 exact ⟨hp, (congrArg A.bool (ho 0 _ rfl) :), (congrArg A.bool (ho 1 _ rfl) :)⟩
theorem Aca {e : Nat → A} {b : Nat} {a0 a1 a2 a3 a4 a5 a6 a7 a8 a9 a10 a11 a12 a13 a14 a15 a16 a17 a18 a19 a20 a21 a22 a23 a24 a25 : L} (h : Def.holds T e ⟨b, .call 1670, [a0, a1, a2, a3, a4, a5, a6, a7, a8, a9, a10, a11, a12, a13, a14, a15, a16, a17, a18, a19, a20, a21, a22, a23, a24, a25]⟩) :
  (e b).bool = (Day.Be (a16.ev e).int ((Day.Ls.mk (a17.ev e) (a13.ev e).int)).n && Day.Be ((Day.Ls.mk (a17.ev e) (a13.ev e).int)).n 8) ∧ (e (b + 1)).int = (Day.Az ((Day.Ls.mk (a17.ev e) (a13.ev e).int)).n (Day.Ls.mk (a17.ev e) (a13.ev e).int) (a16.ev e).int 0 (a18.ev e).int) ∧ (e (b + 2)).int = (Day.Az ((Day.Ls.mk (a17.ev e) (a13.ev e).int)).n (Day.Ls.mk (a17.ev e) (a13.ev e).int) (a16.ev e).int 1 (a19.ev e).int) ∧ (e (b + 3)).int = (Day.Az ((Day.Ls.mk (a17.ev e) (a13.ev e).int)).n (Day.Ls.mk (a17.ev e) (a13.ev e).int) (a16.ev e).int 2 (a20.ev e).int) ∧ (e (b + 4)).int = (Day.Az ((Day.Ls.mk (a17.ev e) (a13.ev e).int)).n (Day.Ls.mk (a17.ev e) (a13.ev e).int) (a16.ev e).int 3 (a21.ev e).int) ∧ (e (b + 5)).int = (Day.Az ((Day.Ls.mk (a17.ev e) (a13.ev e).int)).n (Day.Ls.mk (a17.ev e) (a13.ev e).int) (a16.ev e).int 4 (a22.ev e).int) ∧ (e (b + 6)).int = (Day.Az ((Day.Ls.mk (a17.ev e) (a13.ev e).int)).n (Day.Ls.mk (a17.ev e) (a13.ev e).int) (a16.ev e).int 5 (a23.ev e).int) ∧ (e (b + 7)).int = (Day.Az ((Day.Ls.mk (a17.ev e) (a13.ev e).int)).n (Day.Ls.mk (a17.ev e) (a13.ev e).int) (a16.ev e).int 6 (a24.ev e).int) ∧ (e (b + 8)).int = (Day.Az ((Day.Ls.mk (a17.ev e) (a13.ev e).int)).n (Day.Ls.mk (a17.ev e) (a13.ev e).int) (a16.ev e).int 7 (a25.ev e).int) := by
 have hp := AN S0 h
 have ho := fun j a => AO (a := a) S0 j h
 simp only [KD, gi, gb, gs, gv, ge, List.map_cons, List.map_nil, List.getD_cons_zero, List.getD_cons_succ, L.Aq, A.Ad] at hp ho
 exact ⟨hp, (congrArg A.int (ho 0 _ rfl) :), (congrArg A.int (ho 1 _ rfl) :), (congrArg A.int (ho 2 _ rfl) :), (congrArg A.int (ho 3 _ rfl) :), (congrArg A.int (ho 4 _ rfl) :), (congrArg A.int (ho 5 _ rfl) :), (congrArg A.int (ho 6 _ rfl) :), (congrArg A.int (ho 7 _ rfl) :)⟩
theorem Acb {e : Nat → A} {b : Nat} {a0 a1 a2 a3 a4 a5 a6 a7 a8 a9 a10 a11 a12 a13 a14 a15 a16 a17 a18 a19 a20 a21 a22 a23 a24 a25 : L} (h : Def.holds T e ⟨b, .call 1680, [a0, a1, a2, a3, a4, a5, a6, a7, a8, a9, a10, a11, a12, a13, a14, a15, a16, a17, a18, a19, a20, a21, a22, a23, a24, a25]⟩) :
  (e b).bool = (Day.Be (a15.ev e).int (a0.ev e).int && Day.Be (a0.ev e).int 8 && ((Day.Ls.mk (a17.ev e) (a13.ev e).int)).n == (a0.ev e).int) ∧ (e (b + 1)).int = (Day.Az ((Day.Ls.mk (a17.ev e) (a13.ev e).int)).n (Day.Ls.mk (a17.ev e) (a13.ev e).int) (a15.ev e).int 0 (a18.ev e).int) ∧ (e (b + 2)).int = (Day.Az ((Day.Ls.mk (a17.ev e) (a13.ev e).int)).n (Day.Ls.mk (a17.ev e) (a13.ev e).int) (a15.ev e).int 1 (a19.ev e).int) ∧ (e (b + 3)).int = (Day.Az ((Day.Ls.mk (a17.ev e) (a13.ev e).int)).n (Day.Ls.mk (a17.ev e) (a13.ev e).int) (a15.ev e).int 2 (a20.ev e).int) ∧ (e (b + 4)).int = (Day.Az ((Day.Ls.mk (a17.ev e) (a13.ev e).int)).n (Day.Ls.mk (a17.ev e) (a13.ev e).int) (a15.ev e).int 3 (a21.ev e).int) ∧ (e (b + 5)).int = (Day.Az ((Day.Ls.mk (a17.ev e) (a13.ev e).int)).n (Day.Ls.mk (a17.ev e) (a13.ev e).int) (a15.ev e).int 4 (a22.ev e).int) ∧ (e (b + 6)).int = (Day.Az ((Day.Ls.mk (a17.ev e) (a13.ev e).int)).n (Day.Ls.mk (a17.ev e) (a13.ev e).int) (a15.ev e).int 5 (a23.ev e).int) ∧ (e (b + 7)).int = (Day.Az ((Day.Ls.mk (a17.ev e) (a13.ev e).int)).n (Day.Ls.mk (a17.ev e) (a13.ev e).int) (a15.ev e).int 6 (a24.ev e).int) ∧ (e (b + 8)).int = (Day.Az ((Day.Ls.mk (a17.ev e) (a13.ev e).int)).n (Day.Ls.mk (a17.ev e) (a13.ev e).int) (a15.ev e).int 7 (a25.ev e).int) := by
 have hp := AN S1 h
 have ho := fun j a => AO (a := a) S1 j h
 simp only [KE, gi, gb, gs, gv, ge, List.map_cons, List.map_nil, List.getD_cons_zero, List.getD_cons_succ, L.Aq, A.Ad] at hp ho
 exact ⟨hp, (congrArg A.int (ho 0 _ rfl) :), (congrArg A.int (ho 1 _ rfl) :), (congrArg A.int (ho 2 _ rfl) :), (congrArg A.int (ho 3 _ rfl) :), (congrArg A.int (ho 4 _ rfl) :), (congrArg A.int (ho 5 _ rfl) :), (congrArg A.int (ho 6 _ rfl) :), (congrArg A.int (ho 7 _ rfl) :)⟩
theorem Acd {e : Nat → A} {b : Nat} {a0 a1 a2 a3 a4 a5 a6 a7 a8 a9 a10 a11 a12 a13 a14 : L} (h : Def.holds T e ⟨b, .call 1700, [a0, a1, a2, a3, a4, a5, a6, a7, a8, a9, a10, a11, a12, a13, a14]⟩) :
  (e b).bool = (Day.Ls.ok (Day.Ls.mk (a2.ev e) (a0.ev e).int) && Day.Be (a1.ev e).int ((Day.Ls.mk (a2.ev e) (a0.ev e).int)).n) ∧ (e (b + 1)).int = (Day.AW (Day.BH (Day.Ls.mk (a2.ev e) (a0.ev e).int)) (a1.ev e).int ((Day.Ls.mk (a2.ev e) (a0.ev e).int)).n) ∧ (e (b + 2)).bool = (Day.FJ (Day.BH (Day.Ls.mk (a2.ev e) (a0.ev e).int)) (a1.ev e).int ((Day.Ls.mk (a2.ev e) (a0.ev e).int)).n) ∧ (e (b + 3)).bool = ((!Day.FJ (Day.BH (Day.Ls.mk (a2.ev e) (a0.ev e).int)) (a1.ev e).int ((Day.Ls.mk (a2.ev e) (a0.ev e).int)).n)) := by
 have hp := AN S2 h
 have ho := fun j a => AO (a := a) S2 j h
 simp only [KF, gi, gb, gs, gv, ge, List.map_cons, List.map_nil, List.getD_cons_zero, List.getD_cons_succ, L.Aq, A.Ad] at hp ho
 exact ⟨hp, (congrArg A.int (ho 0 _ rfl) :), (congrArg A.bool (ho 1 _ rfl) :), (congrArg A.bool (ho 2 _ rfl) :)⟩
theorem Ace {e : Nat → A} {b : Nat} {a0 a1 a2 a3 a4 a5 a6 a7 a8 a9 a10 a11 a12 a13 a14 a15 a16 a17 a18 a19 a20 a21 a22 a23 a24 a25 a26 : L} (h : Def.holds T e ⟨b, .call 1701, [a0, a1, a2, a3, a4, a5, a6, a7, a8, a9, a10, a11, a12, a13, a14, a15, a16, a17, a18, a19, a20, a21, a22, a23, a24, a25, a26]⟩) :
  (e b).bool = (Day.Yr (a0.ev e).int (a17.ev e).int) ∧ (e (b + 1)).int = (Day.AD (a0.ev e).int (a17.ev e).int 0 (a19.ev e).int) ∧ (e (b + 2)).int = (Day.AD (a0.ev e).int (a17.ev e).int 1 (a20.ev e).int) ∧ (e (b + 3)).int = (Day.AD (a0.ev e).int (a17.ev e).int 2 (a21.ev e).int) ∧ (e (b + 4)).int = (Day.AD (a0.ev e).int (a17.ev e).int 3 (a22.ev e).int) ∧ (e (b + 5)).int = (Day.AD (a0.ev e).int (a17.ev e).int 4 (a23.ev e).int) ∧ (e (b + 6)).int = (Day.AD (a0.ev e).int (a17.ev e).int 5 (a24.ev e).int) ∧ (e (b + 7)).int = (Day.AD (a0.ev e).int (a17.ev e).int 6 (a25.ev e).int) ∧ (e (b + 8)).int = (Day.AD (a0.ev e).int (a17.ev e).int 7 (a26.ev e).int) := by
 have hp := AN S3 h
 have ho := fun j a => AO (a := a) S3 j h
 simp only [KG, gi, gb, gs, gv, ge, List.map_cons, List.map_nil, List.getD_cons_zero, List.getD_cons_succ, L.Aq, A.Ad] at hp ho
 exact ⟨hp, (congrArg A.int (ho 0 _ rfl) :), (congrArg A.int (ho 1 _ rfl) :), (congrArg A.int (ho 2 _ rfl) :), (congrArg A.int (ho 3 _ rfl) :), (congrArg A.int (ho 4 _ rfl) :), (congrArg A.int (ho 5 _ rfl) :), (congrArg A.int (ho 6 _ rfl) :), (congrArg A.int (ho 7 _ rfl) :)⟩
theorem Acf {e : Nat → A} {b : Nat} {a0 a1 a2 a3 a4 a5 a6 a7 a8 a9 a10 a11 a12 a13 a14 a15 a16 a17 a18 : L} (h : Def.holds T e ⟨b, .call 1720, [a0, a1, a2, a3, a4, a5, a6, a7, a8, a9, a10, a11, a12, a13, a14, a15, a16, a17, a18]⟩) :
  (e b).bool = (Day.right (a0.ev e).int && ((Day.Ls.mk (a18.ev e) (a13.ev e).int)).n == (a0.ev e).int && Day.Be (a15.ev e).int (a0.ev e).int) ∧ (e (b + 1)).int = ((Day.Al (a0.ev e).int).a 0) ∧ (e (b + 2)).int = ((Day.Al (a0.ev e).int).a 1) ∧ (e (b + 3)).int = ((Day.Al (a0.ev e).int).a 2) ∧ (e (b + 4)).int = ((Day.Al (a0.ev e).int).a 3) ∧ (e (b + 5)).int = ((Day.Al (a0.ev e).int).a 4) ∧ (e (b + 6)).int = ((Day.Al (a0.ev e).int).a 5) ∧ (e (b + 7)).int = ((Day.Al (a0.ev e).int).a 6) ∧ (e (b + 8)).int = ((Day.Al (a0.ev e).int).a 7) ∧ (e (b + 9)).int = ((Day.AW (Day.BH (Day.Ls.mk (a18.ev e) (a13.ev e).int)) (a15.ev e).int (a0.ev e).int)) ∧ (e (b + 10)).int = ((Day.Al (a0.ev e).int).a 0) ∧ (e (b + 11)).int = ((Day.Al (a0.ev e).int).a 1) ∧ (e (b + 12)).int = ((Day.Al (a0.ev e).int).a 2) ∧ (e (b + 13)).int = ((Day.Al (a0.ev e).int).a 3) ∧ (e (b + 14)).int = ((Day.Al (a0.ev e).int).a 4) ∧ (e (b + 15)).int = ((Day.Al (a0.ev e).int).a 5) ∧ (e (b + 16)).int = ((Day.Al (a0.ev e).int).a 6) ∧ (e (b + 17)).int = ((Day.Al (a0.ev e).int).a 7) ∧ (e (b + 18)).int = ((Day.AW (Day.BH (Day.Ls.mk (a18.ev e) (a13.ev e).int)) (a15.ev e).int (a0.ev e).int)) ∧ (e (b + 19)).int = (((Day.Ls.mk (a18.ev e) (a13.ev e).int)).k (Day.AW (Day.BH (Day.Ls.mk (a18.ev e) (a13.ev e).int)) (a15.ev e).int (a0.ev e).int)) ∧ (e (b + 20)).int = (((Day.Ls.mk (a18.ev e) (a13.ev e).int)).d (Day.AW (Day.BH (Day.Ls.mk (a18.ev e) (a13.ev e).int)) (a15.ev e).int (a0.ev e).int)) ∧ (e (b + 21)).bool = ((Day.Fw (a0.ev e).int (Day.Ls.mk (a18.ev e) (a13.ev e).int) (a15.ev e).int (a10.ev e).int)) ∧ (e (b + 22)).bool = ((!(Day.Fw (a0.ev e).int (Day.Ls.mk (a18.ev e) (a13.ev e).int) (a15.ev e).int (a10.ev e).int))) := by
 have hp := AN S4 h
 have ho := fun j a => AO (a := a) S4 j h
 simp only [KH, gi, gb, gs, gv, ge, List.map_cons, List.map_nil, List.getD_cons_zero, List.getD_cons_succ, L.Aq, A.Ad] at hp ho
 exact ⟨hp, (congrArg A.int (ho 0 _ rfl) :), (congrArg A.int (ho 1 _ rfl) :), (congrArg A.int (ho 2 _ rfl) :), (congrArg A.int (ho 3 _ rfl) :), (congrArg A.int (ho 4 _ rfl) :), (congrArg A.int (ho 5 _ rfl) :), (congrArg A.int (ho 6 _ rfl) :), (congrArg A.int (ho 7 _ rfl) :), (congrArg A.int (ho 8 _ rfl) :), (congrArg A.int (ho 9 _ rfl) :), (congrArg A.int (ho 10 _ rfl) :), (congrArg A.int (ho 11 _ rfl) :), (congrArg A.int (ho 12 _ rfl) :), (congrArg A.int (ho 13 _ rfl) :), (congrArg A.int (ho 14 _ rfl) :), (congrArg A.int (ho 15 _ rfl) :), (congrArg A.int (ho 16 _ rfl) :), (congrArg A.int (ho 17 _ rfl) :), (congrArg A.int (ho 18 _ rfl) :), (congrArg A.int (ho 19 _ rfl) :), (congrArg A.bool (ho 20 _ rfl) :), (congrArg A.bool (ho 21 _ rfl) :)⟩
theorem Acg {e : Nat → A} {b : Nat} {a0 a1 a2 a3 a4 a5 a6 a7 : L} (h : Def.holds T e ⟨b, .call 1890, [a0, a1, a2, a3, a4, a5, a6, a7]⟩) :
  (e b).bool = (Day.Ls.FL (Day.Ls.mk (a5.ev e) (a0.ev e).int) && (Day.Be (a4.ev e).int ((Day.Ls.mk (a5.ev e) (a0.ev e).int)).n && (Day.GV (a7.ev e) ((Day.Ls.mk (a5.ev e) (a0.ev e).int)).n && (Day.Zb (a7.ev e) && Day.Ms (a2.ev e).int ((Day.Ls.mk (a5.ev e) (a0.ev e).int)).n)))) ∧ e (b + 1) = (Day.EF (Day.Ls.mk (a5.ev e) (a0.ev e).int) (a4.ev e).int (a7.ev e)) := by
 have hp := AN S5 h
 have ho := fun j a => AO (a := a) S5 j h
 simp only [KI, gi, gb, gs, gv, ge, List.map_cons, List.map_nil, List.getD_cons_zero, List.getD_cons_succ, L.Aq, A.Ad] at hp ho
 exact ⟨hp, (ho 0 _ rfl :)⟩
theorem Ach {e : Nat → A} {b : Nat} {a0 a1 a2 a3 a4 a5 a6 a7 : L} (h : Def.holds T e ⟨b, .call 1900, [a0, a1, a2, a3, a4, a5, a6, a7]⟩) :
  (e b).bool = (Day.Ls.FL (Day.Ls.mk (a5.ev e) (a0.ev e).int) && (Day.Be (a3.ev e).int ((Day.Ls.mk (a5.ev e) (a0.ev e).int)).n && (Day.GV (a7.ev e) ((Day.Ls.mk (a5.ev e) (a0.ev e).int)).n && (Day.Zb (a7.ev e) && (Day.Ms (a2.ev e).int ((Day.Ls.mk (a5.ev e) (a0.ev e).int)).n && Day.Ms ((Day.Ls.mk (a6.ev e) (a1.ev e).int)).n ((Day.Ls.mk (a5.ev e) (a0.ev e).int)).n))))) ∧ e (b + 1) = (Day.Fc (Day.Ls.mk (a5.ev e) (a0.ev e).int) (Day.Ls.mk (a6.ev e) (a1.ev e).int) (a3.ev e).int (a7.ev e)) := by
 have hp := AN S6 h
 have ho := fun j a => AO (a := a) S6 j h
 simp only [KJ, gi, gb, gs, gv, ge, List.map_cons, List.map_nil, List.getD_cons_zero, List.getD_cons_succ, L.Aq, A.Ad] at hp ho
 exact ⟨hp, (ho 0 _ rfl :)⟩
end Rx.S
