import Derived.Test.YtngghkhjejkelabKXc
import Derived.Test.YtngghkhjejkelabKXd
set_option linter.unusedVariables false
set_option linter.unusedSimpArgs false
namespace Rx.S
open Go Rx
set_option maxRecDepth 100000
def t_49 (al : List A) : Bool × List A := (true, [.i (Day.clampR (gi al 0) (gi al 1) (gi al 2))])
def t_35 (al : List A) : Bool × List A := (Day.sm (gi al 1), [.i (Day.upR (gi al 0) (gi al 1))])
def t_33 (al : List A) : Bool × List A := (Day.i64 (gi al 0), [.i (Day.downR (gi al 0))])
def t_50 (al : List A) : Bool × List A := (Day.modP (gi al 0) && Day.i64 (gi al 1), [.i (Day.modR (gi al 0) (gi al 1))])
def t_36 (al : List A) : Bool × List A := (Day.slotP (gi al 0) (gi al 1), [.i (Day.nextR (gi al 0) (gi al 1))])
def t_66 (al : List A) : Bool × List A := (Day.atP (gi al 0) (gi al 1) (gi al 2), [.i (Day.atR (gi al 0) (gi al 1) (gi al 2))])
def t_43 (al : List A) : Bool × List A := (true, [.b (Day.right (gi al 0))])
def t_18 (al : List A) : Bool × List A := (true, [.b (Day.right (gi al 0))])
def t_56 (al : List A) : Bool × List A := (Day.timeP (gs al 0), [.i (Day.times (Day.kOf (gs al 0)) (gi al 1))])
def t_32 (al : List A) : Bool × List A := (Day.u8 (gi al 1), [.i (Day.times (gi al 1) (gi al 0))])
def t_40 (al : List A) : Bool × List A := (true, [.i (Day.times 2 (gi al 0))])
def t_20 (al : List A) : Bool × List A := (true, [.i (Day.times 2 (gi al 0))])
def t_30 (al : List A) : Bool × List A := let z0 := (Day.HB.mk [(gi al 1), (gi al 2), (gi al 3), (gi al 4), (gi al 5), (gi al 6), (gi al 7), (gi al 8)] (gi al 9) (gi al 10) (gi al 11) (gi al 12)); let r1 := Day.cleanH (gi al 0) z0; (Day.HB.i64 z0, [.i (((r1)).a 0), .i (((r1)).a 1), .i (((r1)).a 2), .i (((r1)).a 3), .i (((r1)).a 4), .i (((r1)).a 5), .i (((r1)).a 6), .i (((r1)).a 7), .i (((r1)).port), .i (((r1)).age), .i (((r1)).hold), .i (((r1)).pos), .i (Day.argE (gi al 0))])
def t_25 (al : List A) : Bool × List A := let z0 := (Day.HB.mk [(gi al 1), (gi al 2), (gi al 3), (gi al 4), (gi al 5), (gi al 6), (gi al 7), (gi al 8)] (gi al 9) (gi al 10) (gi al 11) (gi al 12)); (Day.HB.i64 z0, [.b (Day.rightH (gi al 0) z0)])
def t_21 (al : List A) : Bool × List A := let z0 := (Day.HB.mk [(gi al 1), (gi al 2), (gi al 3), (gi al 4), (gi al 5), (gi al 6), (gi al 7), (gi al 8)] (gi al 9) (gi al 10) (gi al 11) (gi al 12)); let r1 := Day.tickH (gi al 0) z0; (Day.HB.i64 z0, [.i (((r1)).a 0), .i (((r1)).a 1), .i (((r1)).a 2), .i (((r1)).a 3), .i (((r1)).a 4), .i (((r1)).a 5), .i (((r1)).a 6), .i (((r1)).a 7), .i (((r1)).port), .i (((r1)).age), .i (((r1)).hold), .i (((r1)).pos), .i (Day.argH (gi al 0) z0)])
def t_19 (al : List A) : Bool × List A := (true, [.b (Day.inR (gi al 0) (gi al 1))])
def t_8 (al : List A) : Bool × List A := let z0 := (Day.HB.mk [(gi al 1), (gi al 2), (gi al 3), (gi al 4), (gi al 5), (gi al 6), (gi al 7), (gi al 8)] (gi al 9) (gi al 10) (gi al 11) (gi al 12)); (true, [.b (Day.rightH (gi al 0) z0)])
def t_14 (al : List A) : Bool × List A := let r0 := Day.freshH (gi al 0); (true, [.i (((r0)).a 0), .i (((r0)).a 1), .i (((r0)).a 2), .i (((r0)).a 3), .i (((r0)).a 4), .i (((r0)).a 5), .i (((r0)).a 6), .i (((r0)).a 7), .i (((r0)).port), .i (((r0)).age), .i (((r0)).hold), .i (((r0)).pos), .i (Day.argE (gi al 0))])
def t_53 (al : List A) : Bool × List A := let z0 := (Day.HB.mk [(gi al 1), (gi al 2), (gi al 3), (gi al 4), (gi al 5), (gi al 6), (gi al 7), (gi al 8)] (gi al 9) (gi al 10) (gi al 11) (gi al 12)); (Day.rightH (gi al 0) z0, [Day.ofIls ((Day.cntL (gi al 0) z0)), .i ((((Day.cntL (gi al 0) z0)).length : Int))])
def t_38 (al : List A) : Bool × List A := let z0 := (Day.HB.mk [(gi al 1), (gi al 2), (gi al 3), (gi al 4), (gi al 5), (gi al 6), (gi al 7), (gi al 8)] (gi al 9) (gi al 10) (gi al 11) (gi al 12)); (Day.HB.i64 z0, [.i (Day.votesH (gi al 0) z0 (gi al 13))])
def t_39 (al : List A) : Bool × List A := let z0 := (Day.HB.mk [(gi al 1), (gi al 2), (gi al 3), (gi al 4), (gi al 5), (gi al 6), (gi al 7), (gi al 8)] (gi al 9) (gi al 10) (gi al 11) (gi al 12)); (Day.HB.i64 z0, [.i (Day.bestH (gi al 0) z0), .i (Day.bestK (gi al 0) z0)])
def t_23 (al : List A) : Bool × List A := let z0 := (Day.HB.mk [(gi al 1), (gi al 2), (gi al 3), (gi al 4), (gi al 5), (gi al 6), (gi al 7), (gi al 8)] (gi al 9) (gi al 10) (gi al 11) (gi al 12)); let r1 := Day.settleH (gi al 0) z0; (Day.HB.i64 z0, [.i (((r1)).a 0), .i (((r1)).a 1), .i (((r1)).a 2), .i (((r1)).a 3), .i (((r1)).a 4), .i (((r1)).a 5), .i (((r1)).a 6), .i (((r1)).a 7), .i (((r1)).port), .i (((r1)).age), .i (((r1)).hold), .i (((r1)).pos), .i (Day.argH (gi al 0) z0)])
def t_26 (al : List A) : Bool × List A := (Day.Ls.ok (Day.Ls.mk (ge al 1) (gi al 2)), [.b (Day.fitsR (gi al 0) (Day.Ls.mk (ge al 1) (gi al 2)))])
def t_10 (al : List A) : Bool × List A := (Day.Ls.ok (Day.Ls.mk (ge al 1) (gi al 2)), [.b (Day.fitsR (gi al 0) (Day.Ls.mk (ge al 1) (gi al 2)))])
def t_37 (al : List A) : Bool × List A := let z0 := (Day.HB.mk [(gi al 1), (gi al 2), (gi al 3), (gi al 4), (gi al 5), (gi al 6), (gi al 7), (gi al 8)] (gi al 9) (gi al 10) (gi al 11) (gi al 12)); (Day.HB.i64 z0 && Day.Ls.ok (Day.Ls.mk (ge al 13) (gi al 14)), [.i (Day.gateE (gi al 0) z0 (Day.Ls.mk (ge al 13) (gi al 14)))])
def t_22 (al : List A) : Bool × List A := let z0 := (Day.HB.mk [(gi al 1), (gi al 2), (gi al 3), (gi al 4), (gi al 5), (gi al 6), (gi al 7), (gi al 8)] (gi al 9) (gi al 10) (gi al 11) (gi al 12)); let r1 := Day.noteH (gi al 0) z0 (Day.Ls.mk (ge al 13) (gi al 14)); (Day.HB.i64 z0 && Day.Ls.ok (Day.Ls.mk (ge al 13) (gi al 14)), [.i (((r1)).a 0), .i (((r1)).a 1), .i (((r1)).a 2), .i (((r1)).a 3), .i (((r1)).a 4), .i (((r1)).a 5), .i (((r1)).a 6), .i (((r1)).a 7), .i (((r1)).port), .i (((r1)).age), .i (((r1)).hold), .i (((r1)).pos), .i (Day.gateE (gi al 0) z0 (Day.Ls.mk (ge al 13) (gi al 14)))])
def t_42 (al : List A) : Bool × List A := let z0 := (Day.HB.mk [(gi al 1), (gi al 2), (gi al 3), (gi al 4), (gi al 5), (gi al 6), (gi al 7), (gi al 8)] (gi al 9) (gi al 10) (gi al 11) (gi al 12)); let r1 := Day.ownerH (gi al 0) z0 (Day.Ls.mk (ge al 13) (gi al 14)); (Day.rightH (gi al 0) z0 && Day.fitsR (gi al 0) (Day.Ls.mk (ge al 13) (gi al 14)), [.i (((r1)).a 0), .i (((r1)).a 1), .i (((r1)).a 2), .i (((r1)).a 3), .i (((r1)).a 4), .i (((r1)).a 5), .i (((r1)).a 6), .i (((r1)).a 7), .i (((r1)).port), .i (((r1)).age), .i (((r1)).hold), .i (((r1)).pos), .i (((Day.ownerF z0 (Day.Ls.mk (ge al 13) (gi al 14)))).kind), .i (((Day.ownerF z0 (Day.Ls.mk (ge al 13) (gi al 14)))).id)])
def t_41 (al : List A) : Bool × List A := let z0 := (Day.HB.mk [(gi al 1), (gi al 2), (gi al 3), (gi al 4), (gi al 5), (gi al 6), (gi al 7), (gi al 8)] (gi al 9) (gi al 10) (gi al 11) (gi al 12)); let r1 := Day.firstH (gi al 0) z0 (Day.Ls.mk (ge al 13) (gi al 14)); (Day.rightH (gi al 0) z0 && Day.fitsR (gi al 0) (Day.Ls.mk (ge al 13) (gi al 14)), [.i (((r1)).a 0), .i (((r1)).a 1), .i (((r1)).a 2), .i (((r1)).a 3), .i (((r1)).a 4), .i (((r1)).a 5), .i (((r1)).a 6), .i (((r1)).a 7), .i (((r1)).port), .i (((r1)).age), .i (((r1)).hold), .i (((r1)).pos), .i (((Day.firstFr (gi al 0) z0 (Day.Ls.mk (ge al 13) (gi al 14)))).kind), .i (((Day.firstFr (gi al 0) z0 (Day.Ls.mk (ge al 13) (gi al 14)))).id)])
def t_24 (al : List A) : Bool × List A := let z0 := (Day.HB.mk [(gi al 1), (gi al 2), (gi al 3), (gi al 4), (gi al 5), (gi al 6), (gi al 7), (gi al 8)] (gi al 9) (gi al 10) (gi al 11) (gi al 12)); let r1 := Day.relayH (gi al 0) z0 (Day.Ls.mk (ge al 13) (gi al 14)); (Day.HB.i64 z0 && Day.Ls.ok (Day.Ls.mk (ge al 13) (gi al 14)), [.i (((r1)).a 0), .i (((r1)).a 1), .i (((r1)).a 2), .i (((r1)).a 3), .i (((r1)).a 4), .i (((r1)).a 5), .i (((r1)).a 6), .i (((r1)).a 7), .i (((r1)).port), .i (((r1)).age), .i (((r1)).hold), .i (((r1)).pos), .i (((Day.relayF (gi al 0) z0 (Day.Ls.mk (ge al 13) (gi al 14)))).kind), .i (((Day.relayF (gi al 0) z0 (Day.Ls.mk (ge al 13) (gi al 14)))).id), .i (Day.gateE (gi al 0) z0 (Day.Ls.mk (ge al 13) (gi al 14)))])
def t_11 (al : List A) : Bool × List A := let z0 := (Day.HB.mk [(gi al 1), (gi al 2), (gi al 3), (gi al 4), (gi al 5), (gi al 6), (gi al 7), (gi al 8)] (gi al 9) (gi al 10) (gi al 11) (gi al 12)); let r1 := Day.hubH (gi al 0) z0 (Day.Ls.mk (ge al 13) (gi al 14)); (Day.HB.i64 z0 && Day.Ls.ok (Day.Ls.mk (ge al 13) (gi al 14)), [.i (((r1)).a 0), .i (((r1)).a 1), .i (((r1)).a 2), .i (((r1)).a 3), .i (((r1)).a 4), .i (((r1)).a 5), .i (((r1)).a 6), .i (((r1)).a 7), .i (((r1)).port), .i (((r1)).age), .i (((r1)).hold), .i (((r1)).pos), .i (((Day.hubF (gi al 0) z0 (Day.Ls.mk (ge al 13) (gi al 14)))).kind), .i (((Day.hubF (gi al 0) z0 (Day.Ls.mk (ge al 13) (gi al 14)))).id), .i (Day.gateE (gi al 0) z0 (Day.Ls.mk (ge al 13) (gi al 14)))])
def t_7 (al : List A) : Bool × List A := (Day.Ts.ok (Day.Ts.mk (ge al 0) (gi al 1)), [.b (Day.fewR (Day.Ts.mk (ge al 0) (gi al 1)) (gi al 2))])
def t_9 (al : List A) : Bool × List A := (true, [.b (true)])
def t_59 (al : List A) : Bool × List A := (Day.Ls.fok (Day.Ls.mk (ge al 0) (gi al 1)) && (Day.inR ((Day.Ls.mk (ge al 0) (gi al 1))).n 1000000 && Day.leB 1 ((Day.Ls.mk (ge al 0) (gi al 1))).n), [(((A.l ((Day.Ls.mk (ge al 0) (gi al 1))).x.els, ((Day.Ls.mk (ge al 0) (gi al 1))).n))).1, .i ((((A.l ((Day.Ls.mk (ge al 0) (gi al 1))).x.els, ((Day.Ls.mk (ge al 0) (gi al 1))).n))).2)])
def t_44 (al : List A) : Bool × List A := (Day.Ls.fok (Day.Ls.mk (ge al 0) (gi al 1)) && (Day.Ls.fok (Day.Ls.mk (ge al 2) (gi al 3)) && (Day.inR ((Day.Ls.mk (ge al 0) (gi al 1))).n 1000000 && (Day.leB 1 ((Day.Ls.mk (ge al 0) (gi al 1))).n && Day.leB 1 ((Day.Ls.mk (ge al 2) (gi al 3))).n))), [((Day.bothL (Day.Ls.mk (ge al 0) (gi al 1)) (Day.Ls.mk (ge al 2) (gi al 3)))).1, .i (((Day.bothL (Day.Ls.mk (ge al 0) (gi al 1)) (Day.Ls.mk (ge al 2) (gi al 3)))).2), .i (Day.bothE (Day.Ls.mk (ge al 0) (gi al 1)) (Day.Ls.mk (ge al 2) (gi al 3)))])
def t_27 (al : List A) : Bool × List A := let z0 := (Day.HB.mk [(gi al 0), (gi al 1), (gi al 2), (gi al 3), (gi al 4), (gi al 5), (gi al 6), (gi al 7)] (gi al 8) (gi al 9) (gi al 10) (gi al 11)); let z1 := (Day.HB.mk [(gi al 12), (gi al 13), (gi al 14), (gi al 15), (gi al 16), (gi al 17), (gi al 18), (gi al 19)] (gi al 20) (gi al 21) (gi al 22) (gi al 23)); let r2 := Day.pickH (gb al 28) z0 z1; (Day.Ls.fok (Day.Ls.mk (ge al 24) (gi al 25)) && (Day.Ls.fok (Day.Ls.mk (ge al 26) (gi al 27)) && (Day.inR ((Day.Ls.mk (ge al 24) (gi al 25))).n 1000000 && (Day.leB 1 ((Day.Ls.mk (ge al 24) (gi al 25))).n && Day.eqB ((Day.Ls.mk (ge al 24) (gi al 25))).n ((Day.Ls.mk (ge al 26) (gi al 27))).n))), [.i (((z0)).a 0), .i (((z0)).a 1), .i (((z0)).a 2), .i (((z0)).a 3), .i (((z0)).a 4), .i (((z0)).a 5), .i (((z0)).a 6), .i (((z0)).a 7), .i (((z0)).port), .i (((z0)).age), .i (((z0)).hold), .i (((z0)).pos), ((Day.sideQ (gb al 29) (Day.Ls.mk (ge al 24) (gi al 25)) (Day.Ls.mk (ge al 26) (gi al 27)) (Day.Ls.mk (ge al 24) (gi al 25)))).1, .i (((Day.sideQ (gb al 29) (Day.Ls.mk (ge al 24) (gi al 25)) (Day.Ls.mk (ge al 26) (gi al 27)) (Day.Ls.mk (ge al 24) (gi al 25)))).2), .i (((r2)).a 0), .i (((r2)).a 1), .i (((r2)).a 2), .i (((r2)).a 3), .i (((r2)).a 4), .i (((r2)).a 5), .i (((r2)).a 6), .i (((r2)).a 7), .i (((r2)).port), .i (((r2)).age), .i (((r2)).hold), .i (((r2)).pos), ((Day.sideQ (gb al 28) (Day.Ls.mk (ge al 24) (gi al 25)) (Day.Ls.mk (ge al 26) (gi al 27)) (Day.Ls.mk (ge al 26) (gi al 27)))).1, .i (((Day.sideQ (gb al 28) (Day.Ls.mk (ge al 24) (gi al 25)) (Day.Ls.mk (ge al 26) (gi al 27)) (Day.Ls.mk (ge al 26) (gi al 27)))).2)])
def t_13 (al : List A) : Bool × List A := let z0 := (Day.HB.mk [(gi al 1), (gi al 2), (gi al 3), (gi al 4), (gi al 5), (gi al 6), (gi al 7), (gi al 8)] (gi al 9) (gi al 10) (gi al 11) (gi al 12)); let z1 := (Day.HB.mk [(gi al 13), (gi al 14), (gi al 15), (gi al 16), (gi al 17), (gi al 18), (gi al 19), (gi al 20)] (gi al 21) (gi al 22) (gi al 23) (gi al 24)); let r2 := Day.linkH0 (gi al 0) z0 z1 (Day.Ls.mk (ge al 25) (gi al 26)) (Day.Ls.mk (ge al 27) (gi al 28)) (gb al 29) (gb al 30); let r3 := Day.linkH1 (gi al 0) z0 z1 (Day.Ls.mk (ge al 25) (gi al 26)) (Day.Ls.mk (ge al 27) (gi al 28)) (gb al 29) (gb al 30); (Day.HB.i64 z0 && (Day.HB.i64 z1 && (Day.Ls.fok (Day.Ls.mk (ge al 25) (gi al 26)) && Day.Ls.fok (Day.Ls.mk (ge al 27) (gi al 28)))), [.i (((r2)).a 0), .i (((r2)).a 1), .i (((r2)).a 2), .i (((r2)).a 3), .i (((r2)).a 4), .i (((r2)).a 5), .i (((r2)).a 6), .i (((r2)).a 7), .i (((r2)).port), .i (((r2)).age), .i (((r2)).hold), .i (((r2)).pos), .i (((r3)).a 0), .i (((r3)).a 1), .i (((r3)).a 2), .i (((r3)).a 3), .i (((r3)).a 4), .i (((r3)).a 5), .i (((r3)).a 6), .i (((r3)).a 7), .i (((r3)).port), .i (((r3)).age), .i (((r3)).hold), .i (((r3)).pos), .i (((Day.linkF0 (gi al 0) z0 z1 (Day.Ls.mk (ge al 25) (gi al 26)) (Day.Ls.mk (ge al 27) (gi al 28)) (gb al 29) (gb al 30))).kind), .i (((Day.linkF0 (gi al 0) z0 z1 (Day.Ls.mk (ge al 25) (gi al 26)) (Day.Ls.mk (ge al 27) (gi al 28)) (gb al 29) (gb al 30))).id), .i (((Day.linkF1 (gi al 0) z0 z1 (Day.Ls.mk (ge al 25) (gi al 26)) (Day.Ls.mk (ge al 27) (gi al 28)) (gb al 29) (gb al 30))).kind), .i (((Day.linkF1 (gi al 0) z0 z1 (Day.Ls.mk (ge al 25) (gi al 26)) (Day.Ls.mk (ge al 27) (gi al 28)) (gb al 29) (gb al 30))).id), .i (Day.linkE (gi al 0) z0 z1 (Day.Ls.mk (ge al 25) (gi al 26)) (Day.Ls.mk (ge al 27) (gi al 28)))])
def t_12 (al : List A) : Bool × List A := (true, [.b (true)])
def t_4 (al : List A) : Bool × List A := let z0 := (Day.HB.mk [(gi al 1), (gi al 2), (gi al 3), (gi al 4), (gi al 5), (gi al 6), (gi al 7), (gi al 8)] (gi al 9) (gi al 10) (gi al 11) (gi al 12)); let z1 := (Day.HB.mk [(gi al 13), (gi al 14), (gi al 15), (gi al 16), (gi al 17), (gi al 18), (gi al 19), (gi al 20)] (gi al 21) (gi al 22) (gi al 23) (gi al 24)); (Day.i64 (gi al 0) && (Day.HB.i64 z0 && (Day.HB.i64 z1 && (Day.Ls.fok (Day.Ls.mk (ge al 25) (gi al 26)) && Day.Ls.fok (Day.Ls.mk (ge al 27) (gi al 28))))), [.b (true)])
def t_5 (al : List A) : Bool × List A := let z0 := (Day.HB.mk [(gi al 1), (gi al 2), (gi al 3), (gi al 4), (gi al 5), (gi al 6), (gi al 7), (gi al 8)] (gi al 9) (gi al 10) (gi al 11) (gi al 12)); let z1 := (Day.HB.mk [(gi al 13), (gi al 14), (gi al 15), (gi al 16), (gi al 17), (gi al 18), (gi al 19), (gi al 20)] (gi al 21) (gi al 22) (gi al 23) (gi al 24)); (Day.i64 (gi al 0) && (Day.HB.i64 z0 && (Day.HB.i64 z1 && (Day.Ls.fok (Day.Ls.mk (ge al 25) (gi al 26)) && Day.Ls.fok (Day.Ls.mk (ge al 27) (gi al 28))))), [.b (true)])
def t_3 (al : List A) : Bool × List A := let z0 := (Day.HB.mk [(gi al 1), (gi al 2), (gi al 3), (gi al 4), (gi al 5), (gi al 6), (gi al 7), (gi al 8)] (gi al 9) (gi al 10) (gi al 11) (gi al 12)); (Day.u8 (gi al 0) && Day.HB.i64 z0 && Day.Ts.ok (Day.Ts.mk (ge al 13) (gi al 14)), [.b (true)])
def t_1470 (al : List A) : Bool × List A := let z0 := (Day.HB.mk [(gi al 1), (gi al 2), (gi al 3), (gi al 4), (gi al 5), (gi al 6), (gi al 7), (gi al 8)] (gi al 9) (gi al 10) (gi al 11) (gi al 12)); (Day.right (gi al 0) && Day.inR (gi al 13) 8, [.b ((!Day.okF (gi al 0) z0 (gi al 13))), .b (Day.okF (gi al 0) z0 (gi al 13))])
def t_1490 (al : List A) : Bool × List A := (Day.loP (gi al 0) (gi al 1), [.i (Day.fillF (gi al 0) (gi al 1) 0 (gi al 6)), .i (Day.fillF (gi al 0) (gi al 1) 1 (gi al 7)), .i (Day.fillF (gi al 0) (gi al 1) 2 (gi al 8)), .i (Day.fillF (gi al 0) (gi al 1) 3 (gi al 9)), .i (Day.fillF (gi al 0) (gi al 1) 4 (gi al 10)), .i (Day.fillF (gi al 0) (gi al 1) 5 (gi al 11)), .i (Day.fillF (gi al 0) (gi al 1) 6 (gi al 12)), .i (Day.fillF (gi al 0) (gi al 1) 7 (gi al 13))])
def t_1540 (al : List A) : Bool × List A := let z0 := (Day.HB.mk [(gi al 1), (gi al 2), (gi al 3), (gi al 4), (gi al 5), (gi al 6), (gi al 7), (gi al 8)] (gi al 9) (gi al 10) (gi al 11) (gi al 12)); (Day.countsP (gi al 0) z0 (gi al 13) (ge al 14), [Day.ofIls (Day.cntsF (gi al 0) z0 (gi al 13) (ge al 14))])
def t_1560 (al : List A) : Bool × List A := (Day.listP (gi al 0) (gi al 2) (ge al 17), [.i (Day.maxF (gi al 1) (gi al 2) (ge al 17))])
def t_1561 (al : List A) : Bool × List A := (Day.listP (gi al 0) (gi al 2) (ge al 15), [.i (Day.idxF (gi al 1) (gi al 2) (ge al 15)), .b (Day.hasF (gi al 1) (gi al 2) (ge al 15)), .b ((!Day.hasF (gi al 1) (gi al 2) (ge al 15)))])
def t_1630 (al : List A) : Bool × List A := (Day.Ls.ok (Day.Ls.mk (ge al 6) (gi al 1)) && Day.inR (gi al 5) ((Day.Ls.mk (ge al 6) (gi al 1))).n, [.b ((!Day.allF (Day.fitB (Day.Ls.mk (ge al 6) (gi al 1))) (gi al 5) ((Day.Ls.mk (ge al 6) (gi al 1))).n)), .b (Day.allF (Day.fitB (Day.Ls.mk (ge al 6) (gi al 1))) (gi al 5) ((Day.Ls.mk (ge al 6) (gi al 1))).n)])
def t_1640 (al : List A) : Bool × List A := (Day.Ls.ok (Day.Ls.mk (ge al 3) (gi al 1)) && Day.inR (gi al 2) ((Day.Ls.mk (ge al 3) (gi al 1))).n, [.b ((!Day.allF (Day.fitB (Day.Ls.mk (ge al 3) (gi al 1))) (gi al 2) ((Day.Ls.mk (ge al 3) (gi al 1))).n)), .b (Day.allF (Day.fitB (Day.Ls.mk (ge al 3) (gi al 1))) (gi al 2) ((Day.Ls.mk (ge al 3) (gi al 1))).n)])
def t_1670 (al : List A) : Bool × List A := (Day.inR (gi al 16) ((Day.Ls.mk (ge al 17) (gi al 13))).n && Day.inR ((Day.Ls.mk (ge al 17) (gi al 13))).n 8, [.i (Day.noteF ((Day.Ls.mk (ge al 17) (gi al 13))).n (Day.Ls.mk (ge al 17) (gi al 13)) (gi al 16) 0 (gi al 18)), .i (Day.noteF ((Day.Ls.mk (ge al 17) (gi al 13))).n (Day.Ls.mk (ge al 17) (gi al 13)) (gi al 16) 1 (gi al 19)), .i (Day.noteF ((Day.Ls.mk (ge al 17) (gi al 13))).n (Day.Ls.mk (ge al 17) (gi al 13)) (gi al 16) 2 (gi al 20)), .i (Day.noteF ((Day.Ls.mk (ge al 17) (gi al 13))).n (Day.Ls.mk (ge al 17) (gi al 13)) (gi al 16) 3 (gi al 21)), .i (Day.noteF ((Day.Ls.mk (ge al 17) (gi al 13))).n (Day.Ls.mk (ge al 17) (gi al 13)) (gi al 16) 4 (gi al 22)), .i (Day.noteF ((Day.Ls.mk (ge al 17) (gi al 13))).n (Day.Ls.mk (ge al 17) (gi al 13)) (gi al 16) 5 (gi al 23)), .i (Day.noteF ((Day.Ls.mk (ge al 17) (gi al 13))).n (Day.Ls.mk (ge al 17) (gi al 13)) (gi al 16) 6 (gi al 24)), .i (Day.noteF ((Day.Ls.mk (ge al 17) (gi al 13))).n (Day.Ls.mk (ge al 17) (gi al 13)) (gi al 16) 7 (gi al 25))])
def t_1700 (al : List A) : Bool × List A := (Day.Ls.ok (Day.Ls.mk (ge al 2) (gi al 0)) && Day.inR (gi al 1) ((Day.Ls.mk (ge al 2) (gi al 0))).n, [.i (Day.firstF (Day.isCs (Day.Ls.mk (ge al 2) (gi al 0))) (gi al 1) ((Day.Ls.mk (ge al 2) (gi al 0))).n), .b (Day.anyF (Day.isCs (Day.Ls.mk (ge al 2) (gi al 0))) (gi al 1) ((Day.Ls.mk (ge al 2) (gi al 0))).n), .b ((!Day.anyF (Day.isCs (Day.Ls.mk (ge al 2) (gi al 0))) (gi al 1) ((Day.Ls.mk (ge al 2) (gi al 0))).n))])
def t_1701 (al : List A) : Bool × List A := (Day.loP (gi al 0) (gi al 17), [.i (Day.fillF (gi al 0) (gi al 17) 0 (gi al 19)), .i (Day.fillF (gi al 0) (gi al 17) 1 (gi al 20)), .i (Day.fillF (gi al 0) (gi al 17) 2 (gi al 21)), .i (Day.fillF (gi al 0) (gi al 17) 3 (gi al 22)), .i (Day.fillF (gi al 0) (gi al 17) 4 (gi al 23)), .i (Day.fillF (gi al 0) (gi al 17) 5 (gi al 24)), .i (Day.fillF (gi al 0) (gi al 17) 6 (gi al 25)), .i (Day.fillF (gi al 0) (gi al 17) 7 (gi al 26))])
def t_1820 (al : List A) : Bool × List A := (Day.Ts.ok (Day.Ts.mk (ge al 4) (gi al 0)) && Day.inR (gi al 2) ((Day.Ts.mk (ge al 4) (gi al 0))).n, [.b ((!Day.allF (Day.shortB (Day.Ts.mk (ge al 4) (gi al 0)) 20) (gi al 2) ((Day.Ts.mk (ge al 4) (gi al 0))).n)), .b (Day.allF (Day.shortB (Day.Ts.mk (ge al 4) (gi al 0)) 20) (gi al 2) ((Day.Ts.mk (ge al 4) (gi al 0))).n)])
def t_1890 (al : List A) : Bool × List A := (Day.Ls.fok (Day.Ls.mk (ge al 5) (gi al 0)) && (Day.inR (gi al 4) ((Day.Ls.mk (ge al 5) (gi al 0))).n && (Day.lenIs (ge al 7) ((Day.Ls.mk (ge al 5) (gi al 0))).n && (Day.isL (ge al 7) && Day.eqB (gi al 2) ((Day.Ls.mk (ge al 5) (gi al 0))).n))), [Day.bothX (Day.Ls.mk (ge al 5) (gi al 0)) (gi al 4) (ge al 7)])
def t_2000 (al : List A) : Bool × List A := (Day.inR (gi al 16) (((Day.Ts.mk (ge al 58) (gi al 13))).n - 1) && (Day.inR (gi al 18) (gi al 41) && (Day.leB (gi al 41) (((Day.Ts.mk (ge al 58) (gi al 13))).at (gi al 16)).n && (Day.leB (gi al 41) 8 && Day.allF (Day.notCs (((Day.Ts.mk (ge al 58) (gi al 13))).at (gi al 16))) (gi al 18) (gi al 41)))), [.b (false), .b (true)])
def t_2001 (al : List A) : Bool × List A := let z0 := (Day.HB.mk [(gi al 23), (gi al 24), (gi al 25), (gi al 26), (gi al 27), (gi al 28), (gi al 29), (gi al 30)] (gi al 31) (gi al 32) (gi al 33) (gi al 34)); let r1 := (Day.apartGo (gi al 14) (Day.Ts.mk (ge al 22) (gi al 13)) (gi al 16) z0).1; (Day.apartI (gi al 14) (gi al 15) (Day.Ts.mk (ge al 22) (gi al 13)) (gi al 16) z0, [.b (true), .i (((r1)).a 0), .i (((r1)).a 1), .i (((r1)).a 2), .i (((r1)).a 3), .i (((r1)).a 4), .i (((r1)).a 5), .i (((r1)).a 6), .i (((r1)).a 7), .i (((r1)).port), .i (((r1)).age), .i (((r1)).hold), .i (((r1)).pos), .b ((Day.apartGo (gi al 14) (Day.Ts.mk (ge al 22) (gi al 13)) (gi al 16) z0).2), .i (((r1)).a 0), .i (((r1)).a 1), .i (((r1)).a 2), .i (((r1)).a 3), .i (((r1)).a 4), .i (((r1)).a 5), .i (((r1)).a 6), .i (((r1)).a 7), .i (((r1)).port), .i (((r1)).age), .i (((r1)).hold), .i (((r1)).pos), .b ((!(Day.apartGo (gi al 14) (Day.Ts.mk (ge al 22) (gi al 13)) (gi al 16) z0).2))])
def table : List (Nat × (List A → Bool × List A)) := [(49, t_49), (35, t_35), (33, t_33), (50, t_50), (36, t_36), (66, t_66), (43, t_43), (18, t_18), (56, t_56), (32, t_32), (40, t_40), (20, t_20), (30, t_30), (25, t_25), (21, t_21), (19, t_19), (8, t_8), (14, t_14), (53, t_53), (38, t_38), (39, t_39), (23, t_23), (26, t_26), (10, t_10), (37, t_37), (22, t_22), (42, t_42), (41, t_41), (24, t_24), (11, t_11), (7, t_7), (9, t_9), (59, t_59), (44, t_44), (27, t_27), (13, t_13), (12, t_12), (4, t_4), (5, t_5), (3, t_3), (1470, t_1470), (1490, t_1490), (1540, t_1540), (1560, t_1560), (1561, t_1561), (1630, t_1630), (1640, t_1640), (1670, t_1670), (1700, t_1700), (1701, t_1701), (1820, t_1820), (1890, t_1890), (2000, t_2000), (2001, t_2001)]
def T : Nat → List A → Bool × List A := tab table
theorem T_49 : T 49 = t_49 := rfl
theorem T_35 : T 35 = t_35 := rfl
theorem T_33 : T 33 = t_33 := rfl
theorem T_50 : T 50 = t_50 := rfl
theorem T_36 : T 36 = t_36 := rfl
theorem T_66 : T 66 = t_66 := rfl
theorem T_43 : T 43 = t_43 := rfl
theorem T_18 : T 18 = t_18 := rfl
theorem T_56 : T 56 = t_56 := rfl
theorem T_32 : T 32 = t_32 := rfl
theorem T_40 : T 40 = t_40 := rfl
theorem T_20 : T 20 = t_20 := rfl
theorem T_30 : T 30 = t_30 := rfl
theorem T_25 : T 25 = t_25 := rfl
theorem T_21 : T 21 = t_21 := rfl
theorem T_19 : T 19 = t_19 := rfl
theorem T_8 : T 8 = t_8 := rfl
theorem T_14 : T 14 = t_14 := rfl
theorem T_53 : T 53 = t_53 := rfl
theorem T_38 : T 38 = t_38 := rfl
theorem T_39 : T 39 = t_39 := rfl
theorem T_23 : T 23 = t_23 := rfl
theorem T_26 : T 26 = t_26 := rfl
theorem T_10 : T 10 = t_10 := rfl
theorem T_37 : T 37 = t_37 := rfl
theorem T_22 : T 22 = t_22 := rfl
theorem T_42 : T 42 = t_42 := rfl
theorem T_41 : T 41 = t_41 := rfl
theorem T_24 : T 24 = t_24 := rfl
theorem T_11 : T 11 = t_11 := rfl
theorem T_7 : T 7 = t_7 := rfl
theorem T_9 : T 9 = t_9 := rfl
theorem T_59 : T 59 = t_59 := rfl
theorem T_44 : T 44 = t_44 := rfl
theorem T_27 : T 27 = t_27 := rfl
theorem T_13 : T 13 = t_13 := rfl
theorem T_12 : T 12 = t_12 := rfl
theorem T_4 : T 4 = t_4 := rfl
theorem T_5 : T 5 = t_5 := rfl
theorem T_3 : T 3 = t_3 := rfl
theorem T_1470 : T 1470 = t_1470 := rfl
theorem T_1490 : T 1490 = t_1490 := rfl
theorem T_1540 : T 1540 = t_1540 := rfl
theorem T_1560 : T 1560 = t_1560 := rfl
theorem T_1561 : T 1561 = t_1561 := rfl
theorem T_1630 : T 1630 = t_1630 := rfl
theorem T_1640 : T 1640 = t_1640 := rfl
theorem T_1670 : T 1670 = t_1670 := rfl
theorem T_1700 : T 1700 = t_1700 := rfl
theorem T_1701 : T 1701 = t_1701 := rfl
theorem T_1820 : T 1820 = t_1820 := rfl
theorem T_1890 : T 1890 = t_1890 := rfl
theorem T_2000 : T 2000 = t_2000 := rfl
theorem T_2001 : T 2001 = t_2001 := rfl
def ws : List (Nat × Nat) := [(49, 2), (35, 2), (33, 2), (50, 2), (36, 2), (66, 2), (43, 2), (18, 2), (56, 2), (32, 2), (40, 2), (20, 2), (30, 14), (25, 2), (21, 14), (19, 2), (8, 2), (14, 14), (53, 3), (38, 2), (39, 3), (23, 14), (26, 2), (10, 2), (37, 2), (22, 14), (42, 15), (41, 15), (24, 16), (11, 16), (7, 2), (9, 2), (59, 3), (44, 4), (27, 29), (13, 30), (12, 2), (4, 2), (5, 2), (3, 2), (1470, 3), (1490, 9), (1540, 2), (1560, 2), (1561, 4), (1630, 3), (1640, 3), (1670, 9), (1700, 4), (1701, 9), (1820, 3), (1890, 2), (2000, 3), (2001, 28)]
theorem widths : WidthOK T ws := fun f k h al => by
 have := look_mem h
 simp only [ws, List.mem_cons, List.not_mem_nil, or_false, Prod.mk.injEq] at this
 rcases this with ⟨rfl, rfl⟩ | ⟨rfl, rfl⟩ | ⟨rfl, rfl⟩ | ⟨rfl, rfl⟩ | ⟨rfl, rfl⟩ | ⟨rfl, rfl⟩ | ⟨rfl, rfl⟩ | ⟨rfl, rfl⟩ | ⟨rfl, rfl⟩ | ⟨rfl, rfl⟩ | ⟨rfl, rfl⟩ | ⟨rfl, rfl⟩ | ⟨rfl, rfl⟩ | ⟨rfl, rfl⟩ | ⟨rfl, rfl⟩ | ⟨rfl, rfl⟩ | ⟨rfl, rfl⟩ | ⟨rfl, rfl⟩ | ⟨rfl, rfl⟩ | ⟨rfl, rfl⟩ | ⟨rfl, rfl⟩ | ⟨rfl, rfl⟩ | ⟨rfl, rfl⟩ | ⟨rfl, rfl⟩ | ⟨rfl, rfl⟩ | ⟨rfl, rfl⟩ | ⟨rfl, rfl⟩ | ⟨rfl, rfl⟩ | ⟨rfl, rfl⟩ | ⟨rfl, rfl⟩ | ⟨rfl, rfl⟩ | ⟨rfl, rfl⟩ | ⟨rfl, rfl⟩ | ⟨rfl, rfl⟩ | ⟨rfl, rfl⟩ | ⟨rfl, rfl⟩ | ⟨rfl, rfl⟩ | ⟨rfl, rfl⟩ | ⟨rfl, rfl⟩ | ⟨rfl, rfl⟩ | ⟨rfl, rfl⟩ | ⟨rfl, rfl⟩ | ⟨rfl, rfl⟩ | ⟨rfl, rfl⟩ | ⟨rfl, rfl⟩ | ⟨rfl, rfl⟩ | ⟨rfl, rfl⟩ | ⟨rfl, rfl⟩ | ⟨rfl, rfl⟩ | ⟨rfl, rfl⟩ | ⟨rfl, rfl⟩ | ⟨rfl, rfl⟩ | ⟨rfl, rfl⟩ | ⟨rfl, rfl⟩
 ·rw [T_49]; exact Nat.le_refl _
 ·rw [T_35]; exact Nat.le_refl _
 ·rw [T_33]; exact Nat.le_refl _
 ·rw [T_50]; exact Nat.le_refl _
 ·rw [T_36]; exact Nat.le_refl _
 ·rw [T_66]; exact Nat.le_refl _
 ·rw [T_43]; exact Nat.le_refl _
 ·rw [T_18]; exact Nat.le_refl _
 ·rw [T_56]; exact Nat.le_refl _
 ·rw [T_32]; exact Nat.le_refl _
 ·rw [T_40]; exact Nat.le_refl _
 ·rw [T_20]; exact Nat.le_refl _
 ·rw [T_30]; exact Nat.le_refl _
 ·rw [T_25]; exact Nat.le_refl _
 ·rw [T_21]; exact Nat.le_refl _
 ·rw [T_19]; exact Nat.le_refl _
 ·rw [T_8]; exact Nat.le_refl _
 ·rw [T_14]; exact Nat.le_refl _
 ·rw [T_53]; exact Nat.le_refl _
 ·rw [T_38]; exact Nat.le_refl _
 ·rw [T_39]; exact Nat.le_refl _
 ·rw [T_23]; exact Nat.le_refl _
 ·rw [T_26]; exact Nat.le_refl _
 ·rw [T_10]; exact Nat.le_refl _
 ·rw [T_37]; exact Nat.le_refl _
 ·rw [T_22]; exact Nat.le_refl _
 ·rw [T_42]; exact Nat.le_refl _
 ·rw [T_41]; exact Nat.le_refl _
 ·rw [T_24]; exact Nat.le_refl _
 ·rw [T_11]; exact Nat.le_refl _
 ·rw [T_7]; exact Nat.le_refl _
 ·rw [T_9]; exact Nat.le_refl _
 ·rw [T_59]; exact Nat.le_refl _
 ·rw [T_44]; exact Nat.le_refl _
 ·rw [T_27]; exact Nat.le_refl _
 ·rw [T_13]; exact Nat.le_refl _
 ·rw [T_12]; exact Nat.le_refl _
 ·rw [T_4]; exact Nat.le_refl _
 ·rw [T_5]; exact Nat.le_refl _
 ·rw [T_3]; exact Nat.le_refl _
 ·rw [T_1470]; exact Nat.le_refl _
 ·rw [T_1490]; exact Nat.le_refl _
 ·rw [T_1540]; exact Nat.le_refl _
 ·rw [T_1560]; exact Nat.le_refl _
 ·rw [T_1561]; exact Nat.le_refl _
 ·rw [T_1630]; exact Nat.le_refl _
 ·rw [T_1640]; exact Nat.le_refl _
 ·rw [T_1670]; exact Nat.le_refl _
 ·rw [T_1700]; exact Nat.le_refl _
 ·rw [T_1701]; exact Nat.le_refl _
 ·rw [T_1820]; exact Nat.le_refl _
 ·rw [T_1890]; exact Nat.le_refl _
 ·rw [T_2000]; exact Nat.le_refl _
 ·rw [T_2001]; exact Nat.le_refl _
theorem consI {a b : Int} {l m : List A} (h : a = b) (k : l = m) : (A.i a :: l) = (A.i b :: m) := by subst h k; rfl
theorem consB {a b : Bool} {l m : List A} (h : a = b) (k : l = m) : (A.b a :: l) = (A.b b :: m) := by subst h k; rfl
theorem consL {a b : A} {l m : List A} (h : a = b) (k : l = m) : (a :: l) = (b :: m) := by subst h k; rfl
theorem out_tally_Clamp {e : Nat → A} {b : Nat} {a0 a1 a2 : L} (h : Def.holds T e ⟨b, .call 49, [a0, a1, a2]⟩) :
  (e b).bool = (true) ∧ (e (b + 1)).int = (Day.clampR (a0.ev e).int (a1.ev e).int (a2.ev e).int) := by
 have hp := q_pre T_49 h
 have ho := fun j a => q_out (a := a) T_49 j h
 simp only [t_49, gi, gb, gs, gv, ge, List.map_cons, List.map_nil, List.getD_cons_zero, List.getD_cons_succ, L.ev_n, A.int_i] at hp ho
 exact ⟨hp, (congrArg A.int (ho 0 _ rfl) :)⟩
theorem out_tally_Up {e : Nat → A} {b : Nat} {a0 a1 : L} (h : Def.holds T e ⟨b, .call 35, [a0, a1]⟩) :
  (e b).bool = (Day.sm (a1.ev e).int) ∧ (e (b + 1)).int = (Day.upR (a0.ev e).int (a1.ev e).int) := by
 have hp := q_pre T_35 h
 have ho := fun j a => q_out (a := a) T_35 j h
 simp only [t_35, gi, gb, gs, gv, ge, List.map_cons, List.map_nil, List.getD_cons_zero, List.getD_cons_succ, L.ev_n, A.int_i] at hp ho
 exact ⟨hp, (congrArg A.int (ho 0 _ rfl) :)⟩
theorem out_tally_Down {e : Nat → A} {b : Nat} {a0 : L} (h : Def.holds T e ⟨b, .call 33, [a0]⟩) :
  (e b).bool = (Day.i64 (a0.ev e).int) ∧ (e (b + 1)).int = (Day.downR (a0.ev e).int) := by
 have hp := q_pre T_33 h
 have ho := fun j a => q_out (a := a) T_33 j h
 simp only [t_33, gi, gb, gs, gv, ge, List.map_cons, List.map_nil, List.getD_cons_zero, List.getD_cons_succ, L.ev_n, A.int_i] at hp ho
 exact ⟨hp, (congrArg A.int (ho 0 _ rfl) :)⟩
theorem out_ring_Mod {e : Nat → A} {b : Nat} {a0 a1 : L} (h : Def.holds T e ⟨b, .call 50, [a0, a1]⟩) :
  (e b).bool = (Day.modP (a0.ev e).int && Day.i64 (a1.ev e).int) ∧ (e (b + 1)).int = (Day.modR (a0.ev e).int (a1.ev e).int) := by
 have hp := q_pre T_50 h
 have ho := fun j a => q_out (a := a) T_50 j h
 simp only [t_50, gi, gb, gs, gv, ge, List.map_cons, List.map_nil, List.getD_cons_zero, List.getD_cons_succ, L.ev_n, A.int_i] at hp ho
 exact ⟨hp, (congrArg A.int (ho 0 _ rfl) :)⟩
theorem out_ring_Next {e : Nat → A} {b : Nat} {a0 a1 : L} (h : Def.holds T e ⟨b, .call 36, [a0, a1]⟩) :
  (e b).bool = (Day.slotP (a0.ev e).int (a1.ev e).int) ∧ (e (b + 1)).int = (Day.nextR (a0.ev e).int (a1.ev e).int) := by
 have hp := q_pre T_36 h
 have ho := fun j a => q_out (a := a) T_36 j h
 simp only [t_36, gi, gb, gs, gv, ge, List.map_cons, List.map_nil, List.getD_cons_zero, List.getD_cons_succ, L.ev_n, A.int_i] at hp ho
 exact ⟨hp, (congrArg A.int (ho 0 _ rfl) :)⟩
theorem out_ring_At {e : Nat → A} {b : Nat} {a0 a1 a2 : L} (h : Def.holds T e ⟨b, .call 66, [a0, a1, a2]⟩) :
  (e b).bool = (Day.atP (a0.ev e).int (a1.ev e).int (a2.ev e).int) ∧ (e (b + 1)).int = (Day.atR (a0.ev e).int (a1.ev e).int (a2.ev e).int) := by
 have hp := q_pre T_66 h
 have ho := fun j a => q_out (a := a) T_66 j h
 simp only [t_66, gi, gb, gs, gv, ge, List.map_cons, List.map_nil, List.getD_cons_zero, List.getD_cons_succ, L.ev_n, A.int_i] at hp ho
 exact ⟨hp, (congrArg A.int (ho 0 _ rfl) :)⟩
theorem out_conf_Right {e : Nat → A} {b : Nat} {a0 : L} (h : Def.holds T e ⟨b, .call 43, [a0]⟩) :
  (e b).bool = (true) ∧ (e (b + 1)).bool = (Day.right (a0.ev e).int) := by
 have hp := q_pre T_43 h
 have ho := fun j a => q_out (a := a) T_43 j h
 simp only [t_43, gi, gb, gs, gv, ge, List.map_cons, List.map_nil, List.getD_cons_zero, List.getD_cons_succ, L.ev_n, A.int_i] at hp ho
 exact ⟨hp, (congrArg A.bool (ho 0 _ rfl) :)⟩
theorem out_ref03_Right {e : Nat → A} {b : Nat} {a0 : L} (h : Def.holds T e ⟨b, .call 18, [a0]⟩) :
  (e b).bool = (true) ∧ (e (b + 1)).bool = (Day.right (a0.ev e).int) := by
 have hp := q_pre T_18 h
 have ho := fun j a => q_out (a := a) T_18 j h
 simp only [t_18, gi, gb, gs, gv, ge, List.map_cons, List.map_nil, List.getD_cons_zero, List.getD_cons_succ, L.ev_n, A.int_i] at hp ho
 exact ⟨hp, (congrArg A.bool (ho 0 _ rfl) :)⟩
theorem out_conf_time {e : Nat → A} {b : Nat} {a0 a1 : L} (h : Def.holds T e ⟨b, .call 56, [a0, a1]⟩) :
  (e b).bool = (Day.timeP (a0.ev e).str) ∧ (e (b + 1)).int = (Day.times (Day.kOf (a0.ev e).str) (a1.ev e).int) := by
 have hp := q_pre T_56 h
 have ho := fun j a => q_out (a := a) T_56 j h
 simp only [t_56, gi, gb, gs, gv, ge, List.map_cons, List.map_nil, List.getD_cons_zero, List.getD_cons_succ, L.ev_n, A.int_i] at hp ho
 exact ⟨hp, (congrArg A.int (ho 0 _ rfl) :)⟩
theorem out_ref03_times {e : Nat → A} {b : Nat} {a0 a1 : L} (h : Def.holds T e ⟨b, .call 32, [a0, a1]⟩) :
  (e b).bool = (Day.u8 (a1.ev e).int) ∧ (e (b + 1)).int = (Day.times (a1.ev e).int (a0.ev e).int) := by
 have hp := q_pre T_32 h
 have ho := fun j a => q_out (a := a) T_32 j h
 simp only [t_32, gi, gb, gs, gv, ge, List.map_cons, List.map_nil, List.getD_cons_zero, List.getD_cons_succ, L.ev_n, A.int_i] at hp ho
 exact ⟨hp, (congrArg A.int (ho 0 _ rfl) :)⟩
theorem out_conf_Block {e : Nat → A} {b : Nat} {a0 : L} (h : Def.holds T e ⟨b, .call 40, [a0]⟩) :
  (e b).bool = (true) ∧ (e (b + 1)).int = (Day.times 2 (a0.ev e).int) := by
 have hp := q_pre T_40 h
 have ho := fun j a => q_out (a := a) T_40 j h
 simp only [t_40, gi, gb, gs, gv, ge, List.map_cons, List.map_nil, List.getD_cons_zero, List.getD_cons_succ, L.ev_n, A.int_i] at hp ho
 exact ⟨hp, (congrArg A.int (ho 0 _ rfl) :)⟩
theorem out_ref03_Block {e : Nat → A} {b : Nat} {a0 : L} (h : Def.holds T e ⟨b, .call 20, [a0]⟩) :
  (e b).bool = (true) ∧ (e (b + 1)).int = (Day.times 2 (a0.ev e).int) := by
 have hp := q_pre T_20 h
 have ho := fun j a => q_out (a := a) T_20 j h
 simp only [t_20, gi, gb, gs, gv, ge, List.map_cons, List.map_nil, List.getD_cons_zero, List.getD_cons_succ, L.ev_n, A.int_i] at hp ho
 exact ⟨hp, (congrArg A.int (ho 0 _ rfl) :)⟩
theorem out_vote_Clean {e : Nat → A} {b : Nat} {a0 a1 a2 a3 a4 a5 a6 a7 a8 a9 a10 a11 a12 : L} (h : Def.holds T e ⟨b, .call 30, [a0, a1, a2, a3, a4, a5, a6, a7, a8, a9, a10, a11, a12]⟩) :
  ∀ z0, z0 = (Day.HB.mk [(a1.ev e).int, (a2.ev e).int, (a3.ev e).int, (a4.ev e).int, (a5.ev e).int, (a6.ev e).int, (a7.ev e).int, (a8.ev e).int] (a9.ev e).int (a10.ev e).int (a11.ev e).int (a12.ev e).int) → ∀ r1, r1 = Day.cleanH (a0.ev e).int z0 → (e b).bool = (Day.HB.i64 z0) ∧ (e (b + 1)).int = (((r1)).a 0) ∧ (e (b + 2)).int = (((r1)).a 1) ∧ (e (b + 3)).int = (((r1)).a 2) ∧ (e (b + 4)).int = (((r1)).a 3) ∧ (e (b + 5)).int = (((r1)).a 4) ∧ (e (b + 6)).int = (((r1)).a 5) ∧ (e (b + 7)).int = (((r1)).a 6) ∧ (e (b + 8)).int = (((r1)).a 7) ∧ (e (b + 9)).int = (((r1)).port) ∧ (e (b + 10)).int = (((r1)).age) ∧ (e (b + 11)).int = (((r1)).hold) ∧ (e (b + 12)).int = (((r1)).pos) ∧ (e (b + 13)).int = (Day.argE (a0.ev e).int) := by
 intro z0 hz0 r1 hr1
 subst hz0 hr1
 have hp := q_pre T_30 h
 have ho := fun j a => q_out (a := a) T_30 j h
 simp only [t_30, gi, gb, gs, gv, ge, List.map_cons, List.map_nil, List.getD_cons_zero, List.getD_cons_succ, L.ev_n, A.int_i] at hp ho
 exact ⟨hp, (congrArg A.int (ho 0 _ rfl) :), (congrArg A.int (ho 1 _ rfl) :), (congrArg A.int (ho 2 _ rfl) :), (congrArg A.int (ho 3 _ rfl) :), (congrArg A.int (ho 4 _ rfl) :), (congrArg A.int (ho 5 _ rfl) :), (congrArg A.int (ho 6 _ rfl) :), (congrArg A.int (ho 7 _ rfl) :), (congrArg A.int (ho 8 _ rfl) :), (congrArg A.int (ho 9 _ rfl) :), (congrArg A.int (ho 10 _ rfl) :), (congrArg A.int (ho 11 _ rfl) :), (congrArg A.int (ho 12 _ rfl) :)⟩
theorem out_vote_Right {e : Nat → A} {b : Nat} {a0 a1 a2 a3 a4 a5 a6 a7 a8 a9 a10 a11 a12 : L} (h : Def.holds T e ⟨b, .call 25, [a0, a1, a2, a3, a4, a5, a6, a7, a8, a9, a10, a11, a12]⟩) :
  ∀ z0, z0 = (Day.HB.mk [(a1.ev e).int, (a2.ev e).int, (a3.ev e).int, (a4.ev e).int, (a5.ev e).int, (a6.ev e).int, (a7.ev e).int, (a8.ev e).int] (a9.ev e).int (a10.ev e).int (a11.ev e).int (a12.ev e).int) → (e b).bool = (Day.HB.i64 z0) ∧ (e (b + 1)).bool = (Day.rightH (a0.ev e).int z0) := by
 intro z0 hz0
 subst hz0
 have hp := q_pre T_25 h
 have ho := fun j a => q_out (a := a) T_25 j h
 simp only [t_25, gi, gb, gs, gv, ge, List.map_cons, List.map_nil, List.getD_cons_zero, List.getD_cons_succ, L.ev_n, A.int_i] at hp ho
 exact ⟨hp, (congrArg A.bool (ho 0 _ rfl) :)⟩
theorem out_vote_Tick {e : Nat → A} {b : Nat} {a0 a1 a2 a3 a4 a5 a6 a7 a8 a9 a10 a11 a12 : L} (h : Def.holds T e ⟨b, .call 21, [a0, a1, a2, a3, a4, a5, a6, a7, a8, a9, a10, a11, a12]⟩) :
  ∀ z0, z0 = (Day.HB.mk [(a1.ev e).int, (a2.ev e).int, (a3.ev e).int, (a4.ev e).int, (a5.ev e).int, (a6.ev e).int, (a7.ev e).int, (a8.ev e).int] (a9.ev e).int (a10.ev e).int (a11.ev e).int (a12.ev e).int) → ∀ r1, r1 = Day.tickH (a0.ev e).int z0 → (e b).bool = (Day.HB.i64 z0) ∧ (e (b + 1)).int = (((r1)).a 0) ∧ (e (b + 2)).int = (((r1)).a 1) ∧ (e (b + 3)).int = (((r1)).a 2) ∧ (e (b + 4)).int = (((r1)).a 3) ∧ (e (b + 5)).int = (((r1)).a 4) ∧ (e (b + 6)).int = (((r1)).a 5) ∧ (e (b + 7)).int = (((r1)).a 6) ∧ (e (b + 8)).int = (((r1)).a 7) ∧ (e (b + 9)).int = (((r1)).port) ∧ (e (b + 10)).int = (((r1)).age) ∧ (e (b + 11)).int = (((r1)).hold) ∧ (e (b + 12)).int = (((r1)).pos) ∧ (e (b + 13)).int = (Day.argH (a0.ev e).int z0) := by
 intro z0 hz0 r1 hr1
 subst hz0 hr1
 have hp := q_pre T_21 h
 have ho := fun j a => q_out (a := a) T_21 j h
 simp only [t_21, gi, gb, gs, gv, ge, List.map_cons, List.map_nil, List.getD_cons_zero, List.getD_cons_succ, L.ev_n, A.int_i] at hp ho
 exact ⟨hp, (congrArg A.int (ho 0 _ rfl) :), (congrArg A.int (ho 1 _ rfl) :), (congrArg A.int (ho 2 _ rfl) :), (congrArg A.int (ho 3 _ rfl) :), (congrArg A.int (ho 4 _ rfl) :), (congrArg A.int (ho 5 _ rfl) :), (congrArg A.int (ho 6 _ rfl) :), (congrArg A.int (ho 7 _ rfl) :), (congrArg A.int (ho 8 _ rfl) :), (congrArg A.int (ho 9 _ rfl) :), (congrArg A.int (ho 10 _ rfl) :), (congrArg A.int (ho 11 _ rfl) :), (congrArg A.int (ho 12 _ rfl) :)⟩
theorem out_ref11_in {e : Nat → A} {b : Nat} {a0 a1 : L} (h : Def.holds T e ⟨b, .call 19, [a0, a1]⟩) :
  (e b).bool = (true) ∧ (e (b + 1)).bool = (Day.inR (a0.ev e).int (a1.ev e).int) := by
 have hp := q_pre T_19 h
 have ho := fun j a => q_out (a := a) T_19 j h
 simp only [t_19, gi, gb, gs, gv, ge, List.map_cons, List.map_nil, List.getD_cons_zero, List.getD_cons_succ, L.ev_n, A.int_i] at hp ho
 exact ⟨hp, (congrArg A.bool (ho 0 _ rfl) :)⟩
theorem out_ref11_Right {e : Nat → A} {b : Nat} {a0 a1 a2 a3 a4 a5 a6 a7 a8 a9 a10 a11 a12 : L} (h : Def.holds T e ⟨b, .call 8, [a0, a1, a2, a3, a4, a5, a6, a7, a8, a9, a10, a11, a12]⟩) :
  ∀ z0, z0 = (Day.HB.mk [(a1.ev e).int, (a2.ev e).int, (a3.ev e).int, (a4.ev e).int, (a5.ev e).int, (a6.ev e).int, (a7.ev e).int, (a8.ev e).int] (a9.ev e).int (a10.ev e).int (a11.ev e).int (a12.ev e).int) → (e b).bool = (true) ∧ (e (b + 1)).bool = (Day.rightH (a0.ev e).int z0) := by
 intro z0 hz0
 subst hz0
 have hp := q_pre T_8 h
 have ho := fun j a => q_out (a := a) T_8 j h
 simp only [t_8, gi, gb, gs, gv, ge, List.map_cons, List.map_nil, List.getD_cons_zero, List.getD_cons_succ, L.ev_n, A.int_i] at hp ho
 exact ⟨hp, (congrArg A.bool (ho 0 _ rfl) :)⟩
theorem out_ref11_Fresh {e : Nat → A} {b : Nat} {a0 : L} (h : Def.holds T e ⟨b, .call 14, [a0]⟩) :
  ∀ r0, r0 = Day.freshH (a0.ev e).int → (e b).bool = (true) ∧ (e (b + 1)).int = (((r0)).a 0) ∧ (e (b + 2)).int = (((r0)).a 1) ∧ (e (b + 3)).int = (((r0)).a 2) ∧ (e (b + 4)).int = (((r0)).a 3) ∧ (e (b + 5)).int = (((r0)).a 4) ∧ (e (b + 6)).int = (((r0)).a 5) ∧ (e (b + 7)).int = (((r0)).a 6) ∧ (e (b + 8)).int = (((r0)).a 7) ∧ (e (b + 9)).int = (((r0)).port) ∧ (e (b + 10)).int = (((r0)).age) ∧ (e (b + 11)).int = (((r0)).hold) ∧ (e (b + 12)).int = (((r0)).pos) ∧ (e (b + 13)).int = (Day.argE (a0.ev e).int) := by
 intro r0 hr0
 subst hr0
 have hp := q_pre T_14 h
 have ho := fun j a => q_out (a := a) T_14 j h
 simp only [t_14, gi, gb, gs, gv, ge, List.map_cons, List.map_nil, List.getD_cons_zero, List.getD_cons_succ, L.ev_n, A.int_i] at hp ho
 exact ⟨hp, (congrArg A.int (ho 0 _ rfl) :), (congrArg A.int (ho 1 _ rfl) :), (congrArg A.int (ho 2 _ rfl) :), (congrArg A.int (ho 3 _ rfl) :), (congrArg A.int (ho 4 _ rfl) :), (congrArg A.int (ho 5 _ rfl) :), (congrArg A.int (ho 6 _ rfl) :), (congrArg A.int (ho 7 _ rfl) :), (congrArg A.int (ho 8 _ rfl) :), (congrArg A.int (ho 9 _ rfl) :), (congrArg A.int (ho 10 _ rfl) :), (congrArg A.int (ho 11 _ rfl) :), (congrArg A.int (ho 12 _ rfl) :)⟩
theorem out_vote_counts {e : Nat → A} {b : Nat} {a0 a1 a2 a3 a4 a5 a6 a7 a8 a9 a10 a11 a12 : L} (h : Def.holds T e ⟨b, .call 53, [a0, a1, a2, a3, a4, a5, a6, a7, a8, a9, a10, a11, a12]⟩) :
  ∀ z0, z0 = (Day.HB.mk [(a1.ev e).int, (a2.ev e).int, (a3.ev e).int, (a4.ev e).int, (a5.ev e).int, (a6.ev e).int, (a7.ev e).int, (a8.ev e).int] (a9.ev e).int (a10.ev e).int (a11.ev e).int (a12.ev e).int) → (e b).bool = (Day.rightH (a0.ev e).int z0) ∧ e (b + 1) = (Day.ofIls ((Day.cntL (a0.ev e).int z0))) ∧ (e (b + 2)).int = ((((Day.cntL (a0.ev e).int z0)).length : Int)) := by
 intro z0 hz0
 subst hz0
 have hp := q_pre T_53 h
 have ho := fun j a => q_out (a := a) T_53 j h
 simp only [t_53, gi, gb, gs, gv, ge, List.map_cons, List.map_nil, List.getD_cons_zero, List.getD_cons_succ, L.ev_n, A.int_i] at hp ho
 exact ⟨hp, (ho 0 _ rfl :), (congrArg A.int (ho 1 _ rfl) :)⟩
theorem out_vote_Votes {e : Nat → A} {b : Nat} {a0 a1 a2 a3 a4 a5 a6 a7 a8 a9 a10 a11 a12 a13 : L} (h : Def.holds T e ⟨b, .call 38, [a0, a1, a2, a3, a4, a5, a6, a7, a8, a9, a10, a11, a12, a13]⟩) :
  ∀ z0, z0 = (Day.HB.mk [(a1.ev e).int, (a2.ev e).int, (a3.ev e).int, (a4.ev e).int, (a5.ev e).int, (a6.ev e).int, (a7.ev e).int, (a8.ev e).int] (a9.ev e).int (a10.ev e).int (a11.ev e).int (a12.ev e).int) → (e b).bool = (Day.HB.i64 z0) ∧ (e (b + 1)).int = (Day.votesH (a0.ev e).int z0 (a13.ev e).int) := by
 intro z0 hz0
 subst hz0
 have hp := q_pre T_38 h
 have ho := fun j a => q_out (a := a) T_38 j h
 simp only [t_38, gi, gb, gs, gv, ge, List.map_cons, List.map_nil, List.getD_cons_zero, List.getD_cons_succ, L.ev_n, A.int_i] at hp ho
 exact ⟨hp, (congrArg A.int (ho 0 _ rfl) :)⟩
theorem out_vote_Best {e : Nat → A} {b : Nat} {a0 a1 a2 a3 a4 a5 a6 a7 a8 a9 a10 a11 a12 : L} (h : Def.holds T e ⟨b, .call 39, [a0, a1, a2, a3, a4, a5, a6, a7, a8, a9, a10, a11, a12]⟩) :
  ∀ z0, z0 = (Day.HB.mk [(a1.ev e).int, (a2.ev e).int, (a3.ev e).int, (a4.ev e).int, (a5.ev e).int, (a6.ev e).int, (a7.ev e).int, (a8.ev e).int] (a9.ev e).int (a10.ev e).int (a11.ev e).int (a12.ev e).int) → (e b).bool = (Day.HB.i64 z0) ∧ (e (b + 1)).int = (Day.bestH (a0.ev e).int z0) ∧ (e (b + 2)).int = (Day.bestK (a0.ev e).int z0) := by
 intro z0 hz0
 subst hz0
 have hp := q_pre T_39 h
 have ho := fun j a => q_out (a := a) T_39 j h
 simp only [t_39, gi, gb, gs, gv, ge, List.map_cons, List.map_nil, List.getD_cons_zero, List.getD_cons_succ, L.ev_n, A.int_i] at hp ho
 exact ⟨hp, (congrArg A.int (ho 0 _ rfl) :), (congrArg A.int (ho 1 _ rfl) :)⟩
theorem out_gate_Settle {e : Nat → A} {b : Nat} {a0 a1 a2 a3 a4 a5 a6 a7 a8 a9 a10 a11 a12 : L} (h : Def.holds T e ⟨b, .call 23, [a0, a1, a2, a3, a4, a5, a6, a7, a8, a9, a10, a11, a12]⟩) :
  ∀ z0, z0 = (Day.HB.mk [(a1.ev e).int, (a2.ev e).int, (a3.ev e).int, (a4.ev e).int, (a5.ev e).int, (a6.ev e).int, (a7.ev e).int, (a8.ev e).int] (a9.ev e).int (a10.ev e).int (a11.ev e).int (a12.ev e).int) → ∀ r1, r1 = Day.settleH (a0.ev e).int z0 → (e b).bool = (Day.HB.i64 z0) ∧ (e (b + 1)).int = (((r1)).a 0) ∧ (e (b + 2)).int = (((r1)).a 1) ∧ (e (b + 3)).int = (((r1)).a 2) ∧ (e (b + 4)).int = (((r1)).a 3) ∧ (e (b + 5)).int = (((r1)).a 4) ∧ (e (b + 6)).int = (((r1)).a 5) ∧ (e (b + 7)).int = (((r1)).a 6) ∧ (e (b + 8)).int = (((r1)).a 7) ∧ (e (b + 9)).int = (((r1)).port) ∧ (e (b + 10)).int = (((r1)).age) ∧ (e (b + 11)).int = (((r1)).hold) ∧ (e (b + 12)).int = (((r1)).pos) ∧ (e (b + 13)).int = (Day.argH (a0.ev e).int z0) := by
 intro z0 hz0 r1 hr1
 subst hz0 hr1
 have hp := q_pre T_23 h
 have ho := fun j a => q_out (a := a) T_23 j h
 simp only [t_23, gi, gb, gs, gv, ge, List.map_cons, List.map_nil, List.getD_cons_zero, List.getD_cons_succ, L.ev_n, A.int_i] at hp ho
 exact ⟨hp, (congrArg A.int (ho 0 _ rfl) :), (congrArg A.int (ho 1 _ rfl) :), (congrArg A.int (ho 2 _ rfl) :), (congrArg A.int (ho 3 _ rfl) :), (congrArg A.int (ho 4 _ rfl) :), (congrArg A.int (ho 5 _ rfl) :), (congrArg A.int (ho 6 _ rfl) :), (congrArg A.int (ho 7 _ rfl) :), (congrArg A.int (ho 8 _ rfl) :), (congrArg A.int (ho 9 _ rfl) :), (congrArg A.int (ho 10 _ rfl) :), (congrArg A.int (ho 11 _ rfl) :), (congrArg A.int (ho 12 _ rfl) :)⟩
theorem out_gate_Fits {e : Nat → A} {b : Nat} {a0 a1 a2 : L} (h : Def.holds T e ⟨b, .call 26, [a0, a1, a2]⟩) :
  (e b).bool = (Day.Ls.ok (Day.Ls.mk (a1.ev e) (a2.ev e).int)) ∧ (e (b + 1)).bool = (Day.fitsR (a0.ev e).int (Day.Ls.mk (a1.ev e) (a2.ev e).int)) := by
 have hp := q_pre T_26 h
 have ho := fun j a => q_out (a := a) T_26 j h
 simp only [t_26, gi, gb, gs, gv, ge, List.map_cons, List.map_nil, List.getD_cons_zero, List.getD_cons_succ, L.ev_n, A.int_i] at hp ho
 exact ⟨hp, (congrArg A.bool (ho 0 _ rfl) :)⟩
theorem out_ref12_Fits {e : Nat → A} {b : Nat} {a0 a1 a2 : L} (h : Def.holds T e ⟨b, .call 10, [a0, a1, a2]⟩) :
  (e b).bool = (Day.Ls.ok (Day.Ls.mk (a1.ev e) (a2.ev e).int)) ∧ (e (b + 1)).bool = (Day.fitsR (a0.ev e).int (Day.Ls.mk (a1.ev e) (a2.ev e).int)) := by
 have hp := q_pre T_10 h
 have ho := fun j a => q_out (a := a) T_10 j h
 simp only [t_10, gi, gb, gs, gv, ge, List.map_cons, List.map_nil, List.getD_cons_zero, List.getD_cons_succ, L.ev_n, A.int_i] at hp ho
 exact ⟨hp, (congrArg A.bool (ho 0 _ rfl) :)⟩
theorem out_gate_check {e : Nat → A} {b : Nat} {a0 a1 a2 a3 a4 a5 a6 a7 a8 a9 a10 a11 a12 a13 a14 : L} (h : Def.holds T e ⟨b, .call 37, [a0, a1, a2, a3, a4, a5, a6, a7, a8, a9, a10, a11, a12, a13, a14]⟩) :
  ∀ z0, z0 = (Day.HB.mk [(a1.ev e).int, (a2.ev e).int, (a3.ev e).int, (a4.ev e).int, (a5.ev e).int, (a6.ev e).int, (a7.ev e).int, (a8.ev e).int] (a9.ev e).int (a10.ev e).int (a11.ev e).int (a12.ev e).int) → (e b).bool = (Day.HB.i64 z0 && Day.Ls.ok (Day.Ls.mk (a13.ev e) (a14.ev e).int)) ∧ (e (b + 1)).int = (Day.gateE (a0.ev e).int z0 (Day.Ls.mk (a13.ev e) (a14.ev e).int)) := by
 intro z0 hz0
 subst hz0
 have hp := q_pre T_37 h
 have ho := fun j a => q_out (a := a) T_37 j h
 simp only [t_37, gi, gb, gs, gv, ge, List.map_cons, List.map_nil, List.getD_cons_zero, List.getD_cons_succ, L.ev_n, A.int_i] at hp ho
 exact ⟨hp, (congrArg A.int (ho 0 _ rfl) :)⟩
theorem out_gate_Note {e : Nat → A} {b : Nat} {a0 a1 a2 a3 a4 a5 a6 a7 a8 a9 a10 a11 a12 a13 a14 : L} (h : Def.holds T e ⟨b, .call 22, [a0, a1, a2, a3, a4, a5, a6, a7, a8, a9, a10, a11, a12, a13, a14]⟩) :
  ∀ z0, z0 = (Day.HB.mk [(a1.ev e).int, (a2.ev e).int, (a3.ev e).int, (a4.ev e).int, (a5.ev e).int, (a6.ev e).int, (a7.ev e).int, (a8.ev e).int] (a9.ev e).int (a10.ev e).int (a11.ev e).int (a12.ev e).int) → ∀ r1, r1 = Day.noteH (a0.ev e).int z0 (Day.Ls.mk (a13.ev e) (a14.ev e).int) → (e b).bool = (Day.HB.i64 z0 && Day.Ls.ok (Day.Ls.mk (a13.ev e) (a14.ev e).int)) ∧ (e (b + 1)).int = (((r1)).a 0) ∧ (e (b + 2)).int = (((r1)).a 1) ∧ (e (b + 3)).int = (((r1)).a 2) ∧ (e (b + 4)).int = (((r1)).a 3) ∧ (e (b + 5)).int = (((r1)).a 4) ∧ (e (b + 6)).int = (((r1)).a 5) ∧ (e (b + 7)).int = (((r1)).a 6) ∧ (e (b + 8)).int = (((r1)).a 7) ∧ (e (b + 9)).int = (((r1)).port) ∧ (e (b + 10)).int = (((r1)).age) ∧ (e (b + 11)).int = (((r1)).hold) ∧ (e (b + 12)).int = (((r1)).pos) ∧ (e (b + 13)).int = (Day.gateE (a0.ev e).int z0 (Day.Ls.mk (a13.ev e) (a14.ev e).int)) := by
 intro z0 hz0 r1 hr1
 subst hz0 hr1
 have hp := q_pre T_22 h
 have ho := fun j a => q_out (a := a) T_22 j h
 simp only [t_22, gi, gb, gs, gv, ge, List.map_cons, List.map_nil, List.getD_cons_zero, List.getD_cons_succ, L.ev_n, A.int_i] at hp ho
 exact ⟨hp, (congrArg A.int (ho 0 _ rfl) :), (congrArg A.int (ho 1 _ rfl) :), (congrArg A.int (ho 2 _ rfl) :), (congrArg A.int (ho 3 _ rfl) :), (congrArg A.int (ho 4 _ rfl) :), (congrArg A.int (ho 5 _ rfl) :), (congrArg A.int (ho 6 _ rfl) :), (congrArg A.int (ho 7 _ rfl) :), (congrArg A.int (ho 8 _ rfl) :), (congrArg A.int (ho 9 _ rfl) :), (congrArg A.int (ho 10 _ rfl) :), (congrArg A.int (ho 11 _ rfl) :), (congrArg A.int (ho 12 _ rfl) :)⟩
theorem out_gate_owner {e : Nat → A} {b : Nat} {a0 a1 a2 a3 a4 a5 a6 a7 a8 a9 a10 a11 a12 a13 a14 : L} (h : Def.holds T e ⟨b, .call 42, [a0, a1, a2, a3, a4, a5, a6, a7, a8, a9, a10, a11, a12, a13, a14]⟩) :
  ∀ z0, z0 = (Day.HB.mk [(a1.ev e).int, (a2.ev e).int, (a3.ev e).int, (a4.ev e).int, (a5.ev e).int, (a6.ev e).int, (a7.ev e).int, (a8.ev e).int] (a9.ev e).int (a10.ev e).int (a11.ev e).int (a12.ev e).int) → ∀ r1, r1 = Day.ownerH (a0.ev e).int z0 (Day.Ls.mk (a13.ev e) (a14.ev e).int) → (e b).bool = (Day.rightH (a0.ev e).int z0 && Day.fitsR (a0.ev e).int (Day.Ls.mk (a13.ev e) (a14.ev e).int)) ∧ (e (b + 1)).int = (((r1)).a 0) ∧ (e (b + 2)).int = (((r1)).a 1) ∧ (e (b + 3)).int = (((r1)).a 2) ∧ (e (b + 4)).int = (((r1)).a 3) ∧ (e (b + 5)).int = (((r1)).a 4) ∧ (e (b + 6)).int = (((r1)).a 5) ∧ (e (b + 7)).int = (((r1)).a 6) ∧ (e (b + 8)).int = (((r1)).a 7) ∧ (e (b + 9)).int = (((r1)).port) ∧ (e (b + 10)).int = (((r1)).age) ∧ (e (b + 11)).int = (((r1)).hold) ∧ (e (b + 12)).int = (((r1)).pos) ∧ (e (b + 13)).int = (((Day.ownerF z0 (Day.Ls.mk (a13.ev e) (a14.ev e).int))).kind) ∧ (e (b + 14)).int = (((Day.ownerF z0 (Day.Ls.mk (a13.ev e) (a14.ev e).int))).id) := by
 intro z0 hz0 r1 hr1
 subst hz0 hr1
 have hp := q_pre T_42 h
 have ho := fun j a => q_out (a := a) T_42 j h
 simp only [t_42, gi, gb, gs, gv, ge, List.map_cons, List.map_nil, List.getD_cons_zero, List.getD_cons_succ, L.ev_n, A.int_i] at hp ho
 exact ⟨hp, (congrArg A.int (ho 0 _ rfl) :), (congrArg A.int (ho 1 _ rfl) :), (congrArg A.int (ho 2 _ rfl) :), (congrArg A.int (ho 3 _ rfl) :), (congrArg A.int (ho 4 _ rfl) :), (congrArg A.int (ho 5 _ rfl) :), (congrArg A.int (ho 6 _ rfl) :), (congrArg A.int (ho 7 _ rfl) :), (congrArg A.int (ho 8 _ rfl) :), (congrArg A.int (ho 9 _ rfl) :), (congrArg A.int (ho 10 _ rfl) :), (congrArg A.int (ho 11 _ rfl) :), (congrArg A.int (ho 12 _ rfl) :), (congrArg A.int (ho 13 _ rfl) :)⟩
theorem out_gate_first {e : Nat → A} {b : Nat} {a0 a1 a2 a3 a4 a5 a6 a7 a8 a9 a10 a11 a12 a13 a14 : L} (h : Def.holds T e ⟨b, .call 41, [a0, a1, a2, a3, a4, a5, a6, a7, a8, a9, a10, a11, a12, a13, a14]⟩) :
  ∀ z0, z0 = (Day.HB.mk [(a1.ev e).int, (a2.ev e).int, (a3.ev e).int, (a4.ev e).int, (a5.ev e).int, (a6.ev e).int, (a7.ev e).int, (a8.ev e).int] (a9.ev e).int (a10.ev e).int (a11.ev e).int (a12.ev e).int) → ∀ r1, r1 = Day.firstH (a0.ev e).int z0 (Day.Ls.mk (a13.ev e) (a14.ev e).int) → (e b).bool = (Day.rightH (a0.ev e).int z0 && Day.fitsR (a0.ev e).int (Day.Ls.mk (a13.ev e) (a14.ev e).int)) ∧ (e (b + 1)).int = (((r1)).a 0) ∧ (e (b + 2)).int = (((r1)).a 1) ∧ (e (b + 3)).int = (((r1)).a 2) ∧ (e (b + 4)).int = (((r1)).a 3) ∧ (e (b + 5)).int = (((r1)).a 4) ∧ (e (b + 6)).int = (((r1)).a 5) ∧ (e (b + 7)).int = (((r1)).a 6) ∧ (e (b + 8)).int = (((r1)).a 7) ∧ (e (b + 9)).int = (((r1)).port) ∧ (e (b + 10)).int = (((r1)).age) ∧ (e (b + 11)).int = (((r1)).hold) ∧ (e (b + 12)).int = (((r1)).pos) ∧ (e (b + 13)).int = (((Day.firstFr (a0.ev e).int z0 (Day.Ls.mk (a13.ev e) (a14.ev e).int))).kind) ∧ (e (b + 14)).int = (((Day.firstFr (a0.ev e).int z0 (Day.Ls.mk (a13.ev e) (a14.ev e).int))).id) := by
 intro z0 hz0 r1 hr1
 subst hz0 hr1
 have hp := q_pre T_41 h
 have ho := fun j a => q_out (a := a) T_41 j h
 simp only [t_41, gi, gb, gs, gv, ge, List.map_cons, List.map_nil, List.getD_cons_zero, List.getD_cons_succ, L.ev_n, A.int_i] at hp ho
 exact ⟨hp, (congrArg A.int (ho 0 _ rfl) :), (congrArg A.int (ho 1 _ rfl) :), (congrArg A.int (ho 2 _ rfl) :), (congrArg A.int (ho 3 _ rfl) :), (congrArg A.int (ho 4 _ rfl) :), (congrArg A.int (ho 5 _ rfl) :), (congrArg A.int (ho 6 _ rfl) :), (congrArg A.int (ho 7 _ rfl) :), (congrArg A.int (ho 8 _ rfl) :), (congrArg A.int (ho 9 _ rfl) :), (congrArg A.int (ho 10 _ rfl) :), (congrArg A.int (ho 11 _ rfl) :), (congrArg A.int (ho 12 _ rfl) :), (congrArg A.int (ho 13 _ rfl) :)⟩
theorem out_gate_Relay {e : Nat → A} {b : Nat} {a0 a1 a2 a3 a4 a5 a6 a7 a8 a9 a10 a11 a12 a13 a14 : L} (h : Def.holds T e ⟨b, .call 24, [a0, a1, a2, a3, a4, a5, a6, a7, a8, a9, a10, a11, a12, a13, a14]⟩) :
  ∀ z0, z0 = (Day.HB.mk [(a1.ev e).int, (a2.ev e).int, (a3.ev e).int, (a4.ev e).int, (a5.ev e).int, (a6.ev e).int, (a7.ev e).int, (a8.ev e).int] (a9.ev e).int (a10.ev e).int (a11.ev e).int (a12.ev e).int) → ∀ r1, r1 = Day.relayH (a0.ev e).int z0 (Day.Ls.mk (a13.ev e) (a14.ev e).int) → (e b).bool = (Day.HB.i64 z0 && Day.Ls.ok (Day.Ls.mk (a13.ev e) (a14.ev e).int)) ∧ (e (b + 1)).int = (((r1)).a 0) ∧ (e (b + 2)).int = (((r1)).a 1) ∧ (e (b + 3)).int = (((r1)).a 2) ∧ (e (b + 4)).int = (((r1)).a 3) ∧ (e (b + 5)).int = (((r1)).a 4) ∧ (e (b + 6)).int = (((r1)).a 5) ∧ (e (b + 7)).int = (((r1)).a 6) ∧ (e (b + 8)).int = (((r1)).a 7) ∧ (e (b + 9)).int = (((r1)).port) ∧ (e (b + 10)).int = (((r1)).age) ∧ (e (b + 11)).int = (((r1)).hold) ∧ (e (b + 12)).int = (((r1)).pos) ∧ (e (b + 13)).int = (((Day.relayF (a0.ev e).int z0 (Day.Ls.mk (a13.ev e) (a14.ev e).int))).kind) ∧ (e (b + 14)).int = (((Day.relayF (a0.ev e).int z0 (Day.Ls.mk (a13.ev e) (a14.ev e).int))).id) ∧ (e (b + 15)).int = (Day.gateE (a0.ev e).int z0 (Day.Ls.mk (a13.ev e) (a14.ev e).int)) := by
 intro z0 hz0 r1 hr1
 subst hz0 hr1
 have hp := q_pre T_24 h
 have ho := fun j a => q_out (a := a) T_24 j h
 simp only [t_24, gi, gb, gs, gv, ge, List.map_cons, List.map_nil, List.getD_cons_zero, List.getD_cons_succ, L.ev_n, A.int_i] at hp ho
 exact ⟨hp, (congrArg A.int (ho 0 _ rfl) :), (congrArg A.int (ho 1 _ rfl) :), (congrArg A.int (ho 2 _ rfl) :), (congrArg A.int (ho 3 _ rfl) :), (congrArg A.int (ho 4 _ rfl) :), (congrArg A.int (ho 5 _ rfl) :), (congrArg A.int (ho 6 _ rfl) :), (congrArg A.int (ho 7 _ rfl) :), (congrArg A.int (ho 8 _ rfl) :), (congrArg A.int (ho 9 _ rfl) :), (congrArg A.int (ho 10 _ rfl) :), (congrArg A.int (ho 11 _ rfl) :), (congrArg A.int (ho 12 _ rfl) :), (congrArg A.int (ho 13 _ rfl) :), (congrArg A.int (ho 14 _ rfl) :)⟩
theorem out_hub_Step {e : Nat → A} {b : Nat} {a0 a1 a2 a3 a4 a5 a6 a7 a8 a9 a10 a11 a12 a13 a14 : L} (h : Def.holds T e ⟨b, .call 11, [a0, a1, a2, a3, a4, a5, a6, a7, a8, a9, a10, a11, a12, a13, a14]⟩) :
  ∀ z0, z0 = (Day.HB.mk [(a1.ev e).int, (a2.ev e).int, (a3.ev e).int, (a4.ev e).int, (a5.ev e).int, (a6.ev e).int, (a7.ev e).int, (a8.ev e).int] (a9.ev e).int (a10.ev e).int (a11.ev e).int (a12.ev e).int) → ∀ r1, r1 = Day.hubH (a0.ev e).int z0 (Day.Ls.mk (a13.ev e) (a14.ev e).int) → (e b).bool = (Day.HB.i64 z0 && Day.Ls.ok (Day.Ls.mk (a13.ev e) (a14.ev e).int)) ∧ (e (b + 1)).int = (((r1)).a 0) ∧ (e (b + 2)).int = (((r1)).a 1) ∧ (e (b + 3)).int = (((r1)).a 2) ∧ (e (b + 4)).int = (((r1)).a 3) ∧ (e (b + 5)).int = (((r1)).a 4) ∧ (e (b + 6)).int = (((r1)).a 5) ∧ (e (b + 7)).int = (((r1)).a 6) ∧ (e (b + 8)).int = (((r1)).a 7) ∧ (e (b + 9)).int = (((r1)).port) ∧ (e (b + 10)).int = (((r1)).age) ∧ (e (b + 11)).int = (((r1)).hold) ∧ (e (b + 12)).int = (((r1)).pos) ∧ (e (b + 13)).int = (((Day.hubF (a0.ev e).int z0 (Day.Ls.mk (a13.ev e) (a14.ev e).int))).kind) ∧ (e (b + 14)).int = (((Day.hubF (a0.ev e).int z0 (Day.Ls.mk (a13.ev e) (a14.ev e).int))).id) ∧ (e (b + 15)).int = (Day.gateE (a0.ev e).int z0 (Day.Ls.mk (a13.ev e) (a14.ev e).int)) := by
 intro z0 hz0 r1 hr1
 subst hz0 hr1
 have hp := q_pre T_11 h
 have ho := fun j a => q_out (a := a) T_11 j h
 simp only [t_11, gi, gb, gs, gv, ge, List.map_cons, List.map_nil, List.getD_cons_zero, List.getD_cons_succ, L.ev_n, A.int_i] at hp ho
 exact ⟨hp, (congrArg A.int (ho 0 _ rfl) :), (congrArg A.int (ho 1 _ rfl) :), (congrArg A.int (ho 2 _ rfl) :), (congrArg A.int (ho 3 _ rfl) :), (congrArg A.int (ho 4 _ rfl) :), (congrArg A.int (ho 5 _ rfl) :), (congrArg A.int (ho 6 _ rfl) :), (congrArg A.int (ho 7 _ rfl) :), (congrArg A.int (ho 8 _ rfl) :), (congrArg A.int (ho 9 _ rfl) :), (congrArg A.int (ho 10 _ rfl) :), (congrArg A.int (ho 11 _ rfl) :), (congrArg A.int (ho 12 _ rfl) :), (congrArg A.int (ho 13 _ rfl) :), (congrArg A.int (ho 14 _ rfl) :)⟩
theorem out_ref13_Few {e : Nat → A} {b : Nat} {a0 a1 a2 : L} (h : Def.holds T e ⟨b, .call 7, [a0, a1, a2]⟩) :
  (e b).bool = (Day.Ts.ok (Day.Ts.mk (a0.ev e) (a1.ev e).int)) ∧ (e (b + 1)).bool = (Day.fewR (Day.Ts.mk (a0.ev e) (a1.ev e).int) (a2.ev e).int) := by
 have hp := q_pre T_7 h
 have ho := fun j a => q_out (a := a) T_7 j h
 simp only [t_7, gi, gb, gs, gv, ge, List.map_cons, List.map_nil, List.getD_cons_zero, List.getD_cons_succ, L.ev_n, A.int_i] at hp ho
 exact ⟨hp, (congrArg A.bool (ho 0 _ rfl) :)⟩
theorem out_law13_awake {e : Nat → A} {b : Nat} (h : Def.holds T e ⟨b, .call 9, []⟩) :
  (e b).bool = (true) ∧ (e (b + 1)).bool = (true) := by
 have hp := q_pre T_9 h
 have ho := fun j a => q_out (a := a) T_9 j h
 simp only [t_9, gi, gb, gs, gv, ge, List.map_cons, List.map_nil, List.getD_cons_zero, List.getD_cons_succ, L.ev_n, A.int_i] at hp ho
 exact ⟨hp, (congrArg A.bool (ho 0 _ rfl) :)⟩
theorem out_Clone {e : Nat → A} {b : Nat} {a0 a1 : L} (h : Def.holds T e ⟨b, .call 59, [a0, a1]⟩) :
  (e b).bool = (Day.Ls.fok (Day.Ls.mk (a0.ev e) (a1.ev e).int) && (Day.inR ((Day.Ls.mk (a0.ev e) (a1.ev e).int)).n 1000000 && Day.leB 1 ((Day.Ls.mk (a0.ev e) (a1.ev e).int)).n)) ∧ e (b + 1) = ((((A.l ((Day.Ls.mk (a0.ev e) (a1.ev e).int)).x.els, ((Day.Ls.mk (a0.ev e) (a1.ev e).int)).n))).1) ∧ (e (b + 2)).int = ((((A.l ((Day.Ls.mk (a0.ev e) (a1.ev e).int)).x.els, ((Day.Ls.mk (a0.ev e) (a1.ev e).int)).n))).2) := by
 have hp := q_pre T_59 h
 have ho := fun j a => q_out (a := a) T_59 j h
 simp only [t_59, gi, gb, gs, gv, ge, List.map_cons, List.map_nil, List.getD_cons_zero, List.getD_cons_succ, L.ev_n, A.int_i] at hp ho
 exact ⟨hp, (ho 0 _ rfl :), (congrArg A.int (ho 1 _ rfl) :)⟩
theorem out_port_Both {e : Nat → A} {b : Nat} {a0 a1 a2 a3 : L} (h : Def.holds T e ⟨b, .call 44, [a0, a1, a2, a3]⟩) :
  (e b).bool = (Day.Ls.fok (Day.Ls.mk (a0.ev e) (a1.ev e).int) && (Day.Ls.fok (Day.Ls.mk (a2.ev e) (a3.ev e).int) && (Day.inR ((Day.Ls.mk (a0.ev e) (a1.ev e).int)).n 1000000 && (Day.leB 1 ((Day.Ls.mk (a0.ev e) (a1.ev e).int)).n && Day.leB 1 ((Day.Ls.mk (a2.ev e) (a3.ev e).int)).n)))) ∧ e (b + 1) = (((Day.bothL (Day.Ls.mk (a0.ev e) (a1.ev e).int) (Day.Ls.mk (a2.ev e) (a3.ev e).int))).1) ∧ (e (b + 2)).int = (((Day.bothL (Day.Ls.mk (a0.ev e) (a1.ev e).int) (Day.Ls.mk (a2.ev e) (a3.ev e).int))).2) ∧ (e (b + 3)).int = (Day.bothE (Day.Ls.mk (a0.ev e) (a1.ev e).int) (Day.Ls.mk (a2.ev e) (a3.ev e).int)) := by
 have hp := q_pre T_44 h
 have ho := fun j a => q_out (a := a) T_44 j h
 simp only [t_44, gi, gb, gs, gv, ge, List.map_cons, List.map_nil, List.getD_cons_zero, List.getD_cons_succ, L.ev_n, A.int_i] at hp ho
 exact ⟨hp, (ho 0 _ rfl :), (congrArg A.int (ho 1 _ rfl) :), (congrArg A.int (ho 2 _ rfl) :)⟩
theorem out_link_sides {e : Nat → A} {b : Nat} {a0 a1 a2 a3 a4 a5 a6 a7 a8 a9 a10 a11 a12 a13 a14 a15 a16 a17 a18 a19 a20 a21 a22 a23 a24 a25 a26 a27 a28 a29 : L} (h : Def.holds T e ⟨b, .call 27, [a0, a1, a2, a3, a4, a5, a6, a7, a8, a9, a10, a11, a12, a13, a14, a15, a16, a17, a18, a19, a20, a21, a22, a23, a24, a25, a26, a27, a28, a29]⟩) :
  ∀ z0, z0 = (Day.HB.mk [(a0.ev e).int, (a1.ev e).int, (a2.ev e).int, (a3.ev e).int, (a4.ev e).int, (a5.ev e).int, (a6.ev e).int, (a7.ev e).int] (a8.ev e).int (a9.ev e).int (a10.ev e).int (a11.ev e).int) → ∀ z1, z1 = (Day.HB.mk [(a12.ev e).int, (a13.ev e).int, (a14.ev e).int, (a15.ev e).int, (a16.ev e).int, (a17.ev e).int, (a18.ev e).int, (a19.ev e).int] (a20.ev e).int (a21.ev e).int (a22.ev e).int (a23.ev e).int) → ∀ r2, r2 = Day.pickH (a28.ev e).bool z0 z1 → (e b).bool = (Day.Ls.fok (Day.Ls.mk (a24.ev e) (a25.ev e).int) && (Day.Ls.fok (Day.Ls.mk (a26.ev e) (a27.ev e).int) && (Day.inR ((Day.Ls.mk (a24.ev e) (a25.ev e).int)).n 1000000 && (Day.leB 1 ((Day.Ls.mk (a24.ev e) (a25.ev e).int)).n && Day.eqB ((Day.Ls.mk (a24.ev e) (a25.ev e).int)).n ((Day.Ls.mk (a26.ev e) (a27.ev e).int)).n)))) ∧ (e (b + 1)).int = (((z0)).a 0) ∧ (e (b + 2)).int = (((z0)).a 1) ∧ (e (b + 3)).int = (((z0)).a 2) ∧ (e (b + 4)).int = (((z0)).a 3) ∧ (e (b + 5)).int = (((z0)).a 4) ∧ (e (b + 6)).int = (((z0)).a 5) ∧ (e (b + 7)).int = (((z0)).a 6) ∧ (e (b + 8)).int = (((z0)).a 7) ∧ (e (b + 9)).int = (((z0)).port) ∧ (e (b + 10)).int = (((z0)).age) ∧ (e (b + 11)).int = (((z0)).hold) ∧ (e (b + 12)).int = (((z0)).pos) ∧ e (b + 13) = (((Day.sideQ (a29.ev e).bool (Day.Ls.mk (a24.ev e) (a25.ev e).int) (Day.Ls.mk (a26.ev e) (a27.ev e).int) (Day.Ls.mk (a24.ev e) (a25.ev e).int))).1) ∧ (e (b + 14)).int = (((Day.sideQ (a29.ev e).bool (Day.Ls.mk (a24.ev e) (a25.ev e).int) (Day.Ls.mk (a26.ev e) (a27.ev e).int) (Day.Ls.mk (a24.ev e) (a25.ev e).int))).2) ∧ (e (b + 15)).int = (((r2)).a 0) ∧ (e (b + 16)).int = (((r2)).a 1) ∧ (e (b + 17)).int = (((r2)).a 2) ∧ (e (b + 18)).int = (((r2)).a 3) ∧ (e (b + 19)).int = (((r2)).a 4) ∧ (e (b + 20)).int = (((r2)).a 5) ∧ (e (b + 21)).int = (((r2)).a 6) ∧ (e (b + 22)).int = (((r2)).a 7) ∧ (e (b + 23)).int = (((r2)).port) ∧ (e (b + 24)).int = (((r2)).age) ∧ (e (b + 25)).int = (((r2)).hold) ∧ (e (b + 26)).int = (((r2)).pos) ∧ e (b + 27) = (((Day.sideQ (a28.ev e).bool (Day.Ls.mk (a24.ev e) (a25.ev e).int) (Day.Ls.mk (a26.ev e) (a27.ev e).int) (Day.Ls.mk (a26.ev e) (a27.ev e).int))).1) ∧ (e (b + 28)).int = (((Day.sideQ (a28.ev e).bool (Day.Ls.mk (a24.ev e) (a25.ev e).int) (Day.Ls.mk (a26.ev e) (a27.ev e).int) (Day.Ls.mk (a26.ev e) (a27.ev e).int))).2) := by
 intro z0 hz0 z1 hz1 r2 hr2
 subst hz0 hz1 hr2
 have hp := q_pre T_27 h
 have ho := fun j a => q_out (a := a) T_27 j h
 simp only [t_27, gi, gb, gs, gv, ge, List.map_cons, List.map_nil, List.getD_cons_zero, List.getD_cons_succ, L.ev_n, A.int_i] at hp ho
 exact ⟨hp, (congrArg A.int (ho 0 _ rfl) :), (congrArg A.int (ho 1 _ rfl) :), (congrArg A.int (ho 2 _ rfl) :), (congrArg A.int (ho 3 _ rfl) :), (congrArg A.int (ho 4 _ rfl) :), (congrArg A.int (ho 5 _ rfl) :), (congrArg A.int (ho 6 _ rfl) :), (congrArg A.int (ho 7 _ rfl) :), (congrArg A.int (ho 8 _ rfl) :), (congrArg A.int (ho 9 _ rfl) :), (congrArg A.int (ho 10 _ rfl) :), (congrArg A.int (ho 11 _ rfl) :), (ho 12 _ rfl :), (congrArg A.int (ho 13 _ rfl) :), (congrArg A.int (ho 14 _ rfl) :), (congrArg A.int (ho 15 _ rfl) :), (congrArg A.int (ho 16 _ rfl) :), (congrArg A.int (ho 17 _ rfl) :), (congrArg A.int (ho 18 _ rfl) :), (congrArg A.int (ho 19 _ rfl) :), (congrArg A.int (ho 20 _ rfl) :), (congrArg A.int (ho 21 _ rfl) :), (congrArg A.int (ho 22 _ rfl) :), (congrArg A.int (ho 23 _ rfl) :), (congrArg A.int (ho 24 _ rfl) :), (congrArg A.int (ho 25 _ rfl) :), (ho 26 _ rfl :), (congrArg A.int (ho 27 _ rfl) :)⟩
theorem out_link_Step {e : Nat → A} {b : Nat} {a0 a1 a2 a3 a4 a5 a6 a7 a8 a9 a10 a11 a12 a13 a14 a15 a16 a17 a18 a19 a20 a21 a22 a23 a24 a25 a26 a27 a28 a29 a30 : L} (h : Def.holds T e ⟨b, .call 13, [a0, a1, a2, a3, a4, a5, a6, a7, a8, a9, a10, a11, a12, a13, a14, a15, a16, a17, a18, a19, a20, a21, a22, a23, a24, a25, a26, a27, a28, a29, a30]⟩) :
  ∀ z0, z0 = (Day.HB.mk [(a1.ev e).int, (a2.ev e).int, (a3.ev e).int, (a4.ev e).int, (a5.ev e).int, (a6.ev e).int, (a7.ev e).int, (a8.ev e).int] (a9.ev e).int (a10.ev e).int (a11.ev e).int (a12.ev e).int) → ∀ z1, z1 = (Day.HB.mk [(a13.ev e).int, (a14.ev e).int, (a15.ev e).int, (a16.ev e).int, (a17.ev e).int, (a18.ev e).int, (a19.ev e).int, (a20.ev e).int] (a21.ev e).int (a22.ev e).int (a23.ev e).int (a24.ev e).int) → ∀ r2, r2 = Day.linkH0 (a0.ev e).int z0 z1 (Day.Ls.mk (a25.ev e) (a26.ev e).int) (Day.Ls.mk (a27.ev e) (a28.ev e).int) (a29.ev e).bool (a30.ev e).bool → ∀ r3, r3 = Day.linkH1 (a0.ev e).int z0 z1 (Day.Ls.mk (a25.ev e) (a26.ev e).int) (Day.Ls.mk (a27.ev e) (a28.ev e).int) (a29.ev e).bool (a30.ev e).bool → (e b).bool = (Day.HB.i64 z0 && (Day.HB.i64 z1 && (Day.Ls.fok (Day.Ls.mk (a25.ev e) (a26.ev e).int) && Day.Ls.fok (Day.Ls.mk (a27.ev e) (a28.ev e).int)))) ∧ (e (b + 1)).int = (((r2)).a 0) ∧ (e (b + 2)).int = (((r2)).a 1) ∧ (e (b + 3)).int = (((r2)).a 2) ∧ (e (b + 4)).int = (((r2)).a 3) ∧ (e (b + 5)).int = (((r2)).a 4) ∧ (e (b + 6)).int = (((r2)).a 5) ∧ (e (b + 7)).int = (((r2)).a 6) ∧ (e (b + 8)).int = (((r2)).a 7) ∧ (e (b + 9)).int = (((r2)).port) ∧ (e (b + 10)).int = (((r2)).age) ∧ (e (b + 11)).int = (((r2)).hold) ∧ (e (b + 12)).int = (((r2)).pos) ∧ (e (b + 13)).int = (((r3)).a 0) ∧ (e (b + 14)).int = (((r3)).a 1) ∧ (e (b + 15)).int = (((r3)).a 2) ∧ (e (b + 16)).int = (((r3)).a 3) ∧ (e (b + 17)).int = (((r3)).a 4) ∧ (e (b + 18)).int = (((r3)).a 5) ∧ (e (b + 19)).int = (((r3)).a 6) ∧ (e (b + 20)).int = (((r3)).a 7) ∧ (e (b + 21)).int = (((r3)).port) ∧ (e (b + 22)).int = (((r3)).age) ∧ (e (b + 23)).int = (((r3)).hold) ∧ (e (b + 24)).int = (((r3)).pos) ∧ (e (b + 25)).int = (((Day.linkF0 (a0.ev e).int z0 z1 (Day.Ls.mk (a25.ev e) (a26.ev e).int) (Day.Ls.mk (a27.ev e) (a28.ev e).int) (a29.ev e).bool (a30.ev e).bool)).kind) ∧ (e (b + 26)).int = (((Day.linkF0 (a0.ev e).int z0 z1 (Day.Ls.mk (a25.ev e) (a26.ev e).int) (Day.Ls.mk (a27.ev e) (a28.ev e).int) (a29.ev e).bool (a30.ev e).bool)).id) ∧ (e (b + 27)).int = (((Day.linkF1 (a0.ev e).int z0 z1 (Day.Ls.mk (a25.ev e) (a26.ev e).int) (Day.Ls.mk (a27.ev e) (a28.ev e).int) (a29.ev e).bool (a30.ev e).bool)).kind) ∧ (e (b + 28)).int = (((Day.linkF1 (a0.ev e).int z0 z1 (Day.Ls.mk (a25.ev e) (a26.ev e).int) (Day.Ls.mk (a27.ev e) (a28.ev e).int) (a29.ev e).bool (a30.ev e).bool)).id) ∧ (e (b + 29)).int = (Day.linkE (a0.ev e).int z0 z1 (Day.Ls.mk (a25.ev e) (a26.ev e).int) (Day.Ls.mk (a27.ev e) (a28.ev e).int)) := by
 intro z0 hz0 z1 hz1 r2 hr2 r3 hr3
 subst hz0 hz1 hr2 hr3
 have hp := q_pre T_13 h
 have ho := fun j a => q_out (a := a) T_13 j h
 simp only [t_13, gi, gb, gs, gv, ge, List.map_cons, List.map_nil, List.getD_cons_zero, List.getD_cons_succ, L.ev_n, A.int_i] at hp ho
 exact ⟨hp, (congrArg A.int (ho 0 _ rfl) :), (congrArg A.int (ho 1 _ rfl) :), (congrArg A.int (ho 2 _ rfl) :), (congrArg A.int (ho 3 _ rfl) :), (congrArg A.int (ho 4 _ rfl) :), (congrArg A.int (ho 5 _ rfl) :), (congrArg A.int (ho 6 _ rfl) :), (congrArg A.int (ho 7 _ rfl) :), (congrArg A.int (ho 8 _ rfl) :), (congrArg A.int (ho 9 _ rfl) :), (congrArg A.int (ho 10 _ rfl) :), (congrArg A.int (ho 11 _ rfl) :), (congrArg A.int (ho 12 _ rfl) :), (congrArg A.int (ho 13 _ rfl) :), (congrArg A.int (ho 14 _ rfl) :), (congrArg A.int (ho 15 _ rfl) :), (congrArg A.int (ho 16 _ rfl) :), (congrArg A.int (ho 17 _ rfl) :), (congrArg A.int (ho 18 _ rfl) :), (congrArg A.int (ho 19 _ rfl) :), (congrArg A.int (ho 20 _ rfl) :), (congrArg A.int (ho 21 _ rfl) :), (congrArg A.int (ho 22 _ rfl) :), (congrArg A.int (ho 23 _ rfl) :), (congrArg A.int (ho 24 _ rfl) :), (congrArg A.int (ho 25 _ rfl) :), (congrArg A.int (ho 26 _ rfl) :), (congrArg A.int (ho 27 _ rfl) :), (congrArg A.int (ho 28 _ rfl) :)⟩
theorem out_law14_awake {e : Nat → A} {b : Nat} (h : Def.holds T e ⟨b, .call 12, []⟩) :
  (e b).bool = (true) ∧ (e (b + 1)).bool = (true) := by
 have hp := q_pre T_12 h
 have ho := fun j a => q_out (a := a) T_12 j h
 simp only [t_12, gi, gb, gs, gv, ge, List.map_cons, List.map_nil, List.getD_cons_zero, List.getD_cons_succ, L.ev_n, A.int_i] at hp ho
 exact ⟨hp, (congrArg A.bool (ho 0 _ rfl) :)⟩
theorem out_L1470 {e : Nat → A} {b : Nat} {a0 a1 a2 a3 a4 a5 a6 a7 a8 a9 a10 a11 a12 a13 a14 a15 : L} (h : Def.holds T e ⟨b, .call 1470, [a0, a1, a2, a3, a4, a5, a6, a7, a8, a9, a10, a11, a12, a13, a14, a15]⟩) :
  ∀ z0, z0 = (Day.HB.mk [(a1.ev e).int, (a2.ev e).int, (a3.ev e).int, (a4.ev e).int, (a5.ev e).int, (a6.ev e).int, (a7.ev e).int, (a8.ev e).int] (a9.ev e).int (a10.ev e).int (a11.ev e).int (a12.ev e).int) → (e b).bool = (Day.right (a0.ev e).int && Day.inR (a13.ev e).int 8) ∧ (e (b + 1)).bool = ((!Day.okF (a0.ev e).int z0 (a13.ev e).int)) ∧ (e (b + 2)).bool = (Day.okF (a0.ev e).int z0 (a13.ev e).int) := by
 intro z0 hz0
 subst hz0
 have hp := q_pre T_1470 h
 have ho := fun j a => q_out (a := a) T_1470 j h
 simp only [t_1470, gi, gb, gs, gv, ge, List.map_cons, List.map_nil, List.getD_cons_zero, List.getD_cons_succ, L.ev_n, A.int_i] at hp ho
 exact ⟨hp, (congrArg A.bool (ho 0 _ rfl) :), (congrArg A.bool (ho 1 _ rfl) :)⟩
theorem out_L1490 {e : Nat → A} {b : Nat} {a0 a1 a2 a3 a4 a5 a6 a7 a8 a9 a10 a11 a12 a13 : L} (h : Def.holds T e ⟨b, .call 1490, [a0, a1, a2, a3, a4, a5, a6, a7, a8, a9, a10, a11, a12, a13]⟩) :
  (e b).bool = (Day.loP (a0.ev e).int (a1.ev e).int) ∧ (e (b + 1)).int = (Day.fillF (a0.ev e).int (a1.ev e).int 0 (a6.ev e).int) ∧ (e (b + 2)).int = (Day.fillF (a0.ev e).int (a1.ev e).int 1 (a7.ev e).int) ∧ (e (b + 3)).int = (Day.fillF (a0.ev e).int (a1.ev e).int 2 (a8.ev e).int) ∧ (e (b + 4)).int = (Day.fillF (a0.ev e).int (a1.ev e).int 3 (a9.ev e).int) ∧ (e (b + 5)).int = (Day.fillF (a0.ev e).int (a1.ev e).int 4 (a10.ev e).int) ∧ (e (b + 6)).int = (Day.fillF (a0.ev e).int (a1.ev e).int 5 (a11.ev e).int) ∧ (e (b + 7)).int = (Day.fillF (a0.ev e).int (a1.ev e).int 6 (a12.ev e).int) ∧ (e (b + 8)).int = (Day.fillF (a0.ev e).int (a1.ev e).int 7 (a13.ev e).int) := by
 have hp := q_pre T_1490 h
 have ho := fun j a => q_out (a := a) T_1490 j h
 simp only [t_1490, gi, gb, gs, gv, ge, List.map_cons, List.map_nil, List.getD_cons_zero, List.getD_cons_succ, L.ev_n, A.int_i] at hp ho
 exact ⟨hp, (congrArg A.int (ho 0 _ rfl) :), (congrArg A.int (ho 1 _ rfl) :), (congrArg A.int (ho 2 _ rfl) :), (congrArg A.int (ho 3 _ rfl) :), (congrArg A.int (ho 4 _ rfl) :), (congrArg A.int (ho 5 _ rfl) :), (congrArg A.int (ho 6 _ rfl) :), (congrArg A.int (ho 7 _ rfl) :)⟩
theorem out_L1540 {e : Nat → A} {b : Nat} {a0 a1 a2 a3 a4 a5 a6 a7 a8 a9 a10 a11 a12 a13 a14 : L} (h : Def.holds T e ⟨b, .call 1540, [a0, a1, a2, a3, a4, a5, a6, a7, a8, a9, a10, a11, a12, a13, a14]⟩) :
  ∀ z0, z0 = (Day.HB.mk [(a1.ev e).int, (a2.ev e).int, (a3.ev e).int, (a4.ev e).int, (a5.ev e).int, (a6.ev e).int, (a7.ev e).int, (a8.ev e).int] (a9.ev e).int (a10.ev e).int (a11.ev e).int (a12.ev e).int) → (e b).bool = (Day.countsP (a0.ev e).int z0 (a13.ev e).int (a14.ev e)) ∧ e (b + 1) = (Day.ofIls (Day.cntsF (a0.ev e).int z0 (a13.ev e).int (a14.ev e))) := by
 intro z0 hz0
 subst hz0
 have hp := q_pre T_1540 h
 have ho := fun j a => q_out (a := a) T_1540 j h
 simp only [t_1540, gi, gb, gs, gv, ge, List.map_cons, List.map_nil, List.getD_cons_zero, List.getD_cons_succ, L.ev_n, A.int_i] at hp ho
 exact ⟨hp, (ho 0 _ rfl :)⟩
theorem out_L1560 {e : Nat → A} {b : Nat} {a0 a1 a2 a3 a4 a5 a6 a7 a8 a9 a10 a11 a12 a13 a14 a15 a16 a17 : L} (h : Def.holds T e ⟨b, .call 1560, [a0, a1, a2, a3, a4, a5, a6, a7, a8, a9, a10, a11, a12, a13, a14, a15, a16, a17]⟩) :
  (e b).bool = (Day.listP (a0.ev e).int (a2.ev e).int (a17.ev e)) ∧ (e (b + 1)).int = (Day.maxF (a1.ev e).int (a2.ev e).int (a17.ev e)) := by
 have hp := q_pre T_1560 h
 have ho := fun j a => q_out (a := a) T_1560 j h
 simp only [t_1560, gi, gb, gs, gv, ge, List.map_cons, List.map_nil, List.getD_cons_zero, List.getD_cons_succ, L.ev_n, A.int_i] at hp ho
 exact ⟨hp, (congrArg A.int (ho 0 _ rfl) :)⟩
theorem out_L1561 {e : Nat → A} {b : Nat} {a0 a1 a2 a3 a4 a5 a6 a7 a8 a9 a10 a11 a12 a13 a14 a15 : L} (h : Def.holds T e ⟨b, .call 1561, [a0, a1, a2, a3, a4, a5, a6, a7, a8, a9, a10, a11, a12, a13, a14, a15]⟩) :
  (e b).bool = (Day.listP (a0.ev e).int (a2.ev e).int (a15.ev e)) ∧ (e (b + 1)).int = (Day.idxF (a1.ev e).int (a2.ev e).int (a15.ev e)) ∧ (e (b + 2)).bool = (Day.hasF (a1.ev e).int (a2.ev e).int (a15.ev e)) ∧ (e (b + 3)).bool = ((!Day.hasF (a1.ev e).int (a2.ev e).int (a15.ev e))) := by
 have hp := q_pre T_1561 h
 have ho := fun j a => q_out (a := a) T_1561 j h
 simp only [t_1561, gi, gb, gs, gv, ge, List.map_cons, List.map_nil, List.getD_cons_zero, List.getD_cons_succ, L.ev_n, A.int_i] at hp ho
 exact ⟨hp, (congrArg A.int (ho 0 _ rfl) :), (congrArg A.bool (ho 1 _ rfl) :), (congrArg A.bool (ho 2 _ rfl) :)⟩
theorem out_L1630 {e : Nat → A} {b : Nat} {a0 a1 a2 a3 a4 a5 a6 : L} (h : Def.holds T e ⟨b, .call 1630, [a0, a1, a2, a3, a4, a5, a6]⟩) :
  (e b).bool = (Day.Ls.ok (Day.Ls.mk (a6.ev e) (a1.ev e).int) && Day.inR (a5.ev e).int ((Day.Ls.mk (a6.ev e) (a1.ev e).int)).n) ∧ (e (b + 1)).bool = ((!Day.allF (Day.fitB (Day.Ls.mk (a6.ev e) (a1.ev e).int)) (a5.ev e).int ((Day.Ls.mk (a6.ev e) (a1.ev e).int)).n)) ∧ (e (b + 2)).bool = (Day.allF (Day.fitB (Day.Ls.mk (a6.ev e) (a1.ev e).int)) (a5.ev e).int ((Day.Ls.mk (a6.ev e) (a1.ev e).int)).n) := by
 have hp := q_pre T_1630 h
 have ho := fun j a => q_out (a := a) T_1630 j h
 simp only [t_1630, gi, gb, gs, gv, ge, List.map_cons, List.map_nil, List.getD_cons_zero, List.getD_cons_succ, L.ev_n, A.int_i] at hp ho
 exact ⟨hp, (congrArg A.bool (ho 0 _ rfl) :), (congrArg A.bool (ho 1 _ rfl) :)⟩
theorem out_L1640 {e : Nat → A} {b : Nat} {a0 a1 a2 a3 : L} (h : Def.holds T e ⟨b, .call 1640, [a0, a1, a2, a3]⟩) :
  (e b).bool = (Day.Ls.ok (Day.Ls.mk (a3.ev e) (a1.ev e).int) && Day.inR (a2.ev e).int ((Day.Ls.mk (a3.ev e) (a1.ev e).int)).n) ∧ (e (b + 1)).bool = ((!Day.allF (Day.fitB (Day.Ls.mk (a3.ev e) (a1.ev e).int)) (a2.ev e).int ((Day.Ls.mk (a3.ev e) (a1.ev e).int)).n)) ∧ (e (b + 2)).bool = (Day.allF (Day.fitB (Day.Ls.mk (a3.ev e) (a1.ev e).int)) (a2.ev e).int ((Day.Ls.mk (a3.ev e) (a1.ev e).int)).n) := by
 have hp := q_pre T_1640 h
 have ho := fun j a => q_out (a := a) T_1640 j h
 simp only [t_1640, gi, gb, gs, gv, ge, List.map_cons, List.map_nil, List.getD_cons_zero, List.getD_cons_succ, L.ev_n, A.int_i] at hp ho
 exact ⟨hp, (congrArg A.bool (ho 0 _ rfl) :), (congrArg A.bool (ho 1 _ rfl) :)⟩
theorem out_L1670 {e : Nat → A} {b : Nat} {a0 a1 a2 a3 a4 a5 a6 a7 a8 a9 a10 a11 a12 a13 a14 a15 a16 a17 a18 a19 a20 a21 a22 a23 a24 a25 : L} (h : Def.holds T e ⟨b, .call 1670, [a0, a1, a2, a3, a4, a5, a6, a7, a8, a9, a10, a11, a12, a13, a14, a15, a16, a17, a18, a19, a20, a21, a22, a23, a24, a25]⟩) :
  (e b).bool = (Day.inR (a16.ev e).int ((Day.Ls.mk (a17.ev e) (a13.ev e).int)).n && Day.inR ((Day.Ls.mk (a17.ev e) (a13.ev e).int)).n 8) ∧ (e (b + 1)).int = (Day.noteF ((Day.Ls.mk (a17.ev e) (a13.ev e).int)).n (Day.Ls.mk (a17.ev e) (a13.ev e).int) (a16.ev e).int 0 (a18.ev e).int) ∧ (e (b + 2)).int = (Day.noteF ((Day.Ls.mk (a17.ev e) (a13.ev e).int)).n (Day.Ls.mk (a17.ev e) (a13.ev e).int) (a16.ev e).int 1 (a19.ev e).int) ∧ (e (b + 3)).int = (Day.noteF ((Day.Ls.mk (a17.ev e) (a13.ev e).int)).n (Day.Ls.mk (a17.ev e) (a13.ev e).int) (a16.ev e).int 2 (a20.ev e).int) ∧ (e (b + 4)).int = (Day.noteF ((Day.Ls.mk (a17.ev e) (a13.ev e).int)).n (Day.Ls.mk (a17.ev e) (a13.ev e).int) (a16.ev e).int 3 (a21.ev e).int) ∧ (e (b + 5)).int = (Day.noteF ((Day.Ls.mk (a17.ev e) (a13.ev e).int)).n (Day.Ls.mk (a17.ev e) (a13.ev e).int) (a16.ev e).int 4 (a22.ev e).int) ∧ (e (b + 6)).int = (Day.noteF ((Day.Ls.mk (a17.ev e) (a13.ev e).int)).n (Day.Ls.mk (a17.ev e) (a13.ev e).int) (a16.ev e).int 5 (a23.ev e).int) ∧ (e (b + 7)).int = (Day.noteF ((Day.Ls.mk (a17.ev e) (a13.ev e).int)).n (Day.Ls.mk (a17.ev e) (a13.ev e).int) (a16.ev e).int 6 (a24.ev e).int) ∧ (e (b + 8)).int = (Day.noteF ((Day.Ls.mk (a17.ev e) (a13.ev e).int)).n (Day.Ls.mk (a17.ev e) (a13.ev e).int) (a16.ev e).int 7 (a25.ev e).int) := by
 have hp := q_pre T_1670 h
 have ho := fun j a => q_out (a := a) T_1670 j h
 simp only [t_1670, gi, gb, gs, gv, ge, List.map_cons, List.map_nil, List.getD_cons_zero, List.getD_cons_succ, L.ev_n, A.int_i] at hp ho
 exact ⟨hp, (congrArg A.int (ho 0 _ rfl) :), (congrArg A.int (ho 1 _ rfl) :), (congrArg A.int (ho 2 _ rfl) :), (congrArg A.int (ho 3 _ rfl) :), (congrArg A.int (ho 4 _ rfl) :), (congrArg A.int (ho 5 _ rfl) :), (congrArg A.int (ho 6 _ rfl) :), (congrArg A.int (ho 7 _ rfl) :)⟩
theorem out_L1700 {e : Nat → A} {b : Nat} {a0 a1 a2 a3 a4 a5 a6 a7 a8 a9 a10 a11 a12 a13 a14 : L} (h : Def.holds T e ⟨b, .call 1700, [a0, a1, a2, a3, a4, a5, a6, a7, a8, a9, a10, a11, a12, a13, a14]⟩) :
  (e b).bool = (Day.Ls.ok (Day.Ls.mk (a2.ev e) (a0.ev e).int) && Day.inR (a1.ev e).int ((Day.Ls.mk (a2.ev e) (a0.ev e).int)).n) ∧ (e (b + 1)).int = (Day.firstF (Day.isCs (Day.Ls.mk (a2.ev e) (a0.ev e).int)) (a1.ev e).int ((Day.Ls.mk (a2.ev e) (a0.ev e).int)).n) ∧ (e (b + 2)).bool = (Day.anyF (Day.isCs (Day.Ls.mk (a2.ev e) (a0.ev e).int)) (a1.ev e).int ((Day.Ls.mk (a2.ev e) (a0.ev e).int)).n) ∧ (e (b + 3)).bool = ((!Day.anyF (Day.isCs (Day.Ls.mk (a2.ev e) (a0.ev e).int)) (a1.ev e).int ((Day.Ls.mk (a2.ev e) (a0.ev e).int)).n)) := by
 have hp := q_pre T_1700 h
 have ho := fun j a => q_out (a := a) T_1700 j h
 simp only [t_1700, gi, gb, gs, gv, ge, List.map_cons, List.map_nil, List.getD_cons_zero, List.getD_cons_succ, L.ev_n, A.int_i] at hp ho
 exact ⟨hp, (congrArg A.int (ho 0 _ rfl) :), (congrArg A.bool (ho 1 _ rfl) :), (congrArg A.bool (ho 2 _ rfl) :)⟩
theorem out_L1701 {e : Nat → A} {b : Nat} {a0 a1 a2 a3 a4 a5 a6 a7 a8 a9 a10 a11 a12 a13 a14 a15 a16 a17 a18 a19 a20 a21 a22 a23 a24 a25 a26 : L} (h : Def.holds T e ⟨b, .call 1701, [a0, a1, a2, a3, a4, a5, a6, a7, a8, a9, a10, a11, a12, a13, a14, a15, a16, a17, a18, a19, a20, a21, a22, a23, a24, a25, a26]⟩) :
  (e b).bool = (Day.loP (a0.ev e).int (a17.ev e).int) ∧ (e (b + 1)).int = (Day.fillF (a0.ev e).int (a17.ev e).int 0 (a19.ev e).int) ∧ (e (b + 2)).int = (Day.fillF (a0.ev e).int (a17.ev e).int 1 (a20.ev e).int) ∧ (e (b + 3)).int = (Day.fillF (a0.ev e).int (a17.ev e).int 2 (a21.ev e).int) ∧ (e (b + 4)).int = (Day.fillF (a0.ev e).int (a17.ev e).int 3 (a22.ev e).int) ∧ (e (b + 5)).int = (Day.fillF (a0.ev e).int (a17.ev e).int 4 (a23.ev e).int) ∧ (e (b + 6)).int = (Day.fillF (a0.ev e).int (a17.ev e).int 5 (a24.ev e).int) ∧ (e (b + 7)).int = (Day.fillF (a0.ev e).int (a17.ev e).int 6 (a25.ev e).int) ∧ (e (b + 8)).int = (Day.fillF (a0.ev e).int (a17.ev e).int 7 (a26.ev e).int) := by
 have hp := q_pre T_1701 h
 have ho := fun j a => q_out (a := a) T_1701 j h
 simp only [t_1701, gi, gb, gs, gv, ge, List.map_cons, List.map_nil, List.getD_cons_zero, List.getD_cons_succ, L.ev_n, A.int_i] at hp ho
 exact ⟨hp, (congrArg A.int (ho 0 _ rfl) :), (congrArg A.int (ho 1 _ rfl) :), (congrArg A.int (ho 2 _ rfl) :), (congrArg A.int (ho 3 _ rfl) :), (congrArg A.int (ho 4 _ rfl) :), (congrArg A.int (ho 5 _ rfl) :), (congrArg A.int (ho 6 _ rfl) :), (congrArg A.int (ho 7 _ rfl) :)⟩
theorem out_L1820 {e : Nat → A} {b : Nat} {a0 a1 a2 a3 a4 : L} (h : Def.holds T e ⟨b, .call 1820, [a0, a1, a2, a3, a4]⟩) :
  (e b).bool = (Day.Ts.ok (Day.Ts.mk (a4.ev e) (a0.ev e).int) && Day.inR (a2.ev e).int ((Day.Ts.mk (a4.ev e) (a0.ev e).int)).n) ∧ (e (b + 1)).bool = ((!Day.allF (Day.shortB (Day.Ts.mk (a4.ev e) (a0.ev e).int) 20) (a2.ev e).int ((Day.Ts.mk (a4.ev e) (a0.ev e).int)).n)) ∧ (e (b + 2)).bool = (Day.allF (Day.shortB (Day.Ts.mk (a4.ev e) (a0.ev e).int) 20) (a2.ev e).int ((Day.Ts.mk (a4.ev e) (a0.ev e).int)).n) := by
 have hp := q_pre T_1820 h
 have ho := fun j a => q_out (a := a) T_1820 j h
 simp only [t_1820, gi, gb, gs, gv, ge, List.map_cons, List.map_nil, List.getD_cons_zero, List.getD_cons_succ, L.ev_n, A.int_i] at hp ho
 exact ⟨hp, (congrArg A.bool (ho 0 _ rfl) :), (congrArg A.bool (ho 1 _ rfl) :)⟩
theorem out_L1890 {e : Nat → A} {b : Nat} {a0 a1 a2 a3 a4 a5 a6 a7 : L} (h : Def.holds T e ⟨b, .call 1890, [a0, a1, a2, a3, a4, a5, a6, a7]⟩) :
  (e b).bool = (Day.Ls.fok (Day.Ls.mk (a5.ev e) (a0.ev e).int) && (Day.inR (a4.ev e).int ((Day.Ls.mk (a5.ev e) (a0.ev e).int)).n && (Day.lenIs (a7.ev e) ((Day.Ls.mk (a5.ev e) (a0.ev e).int)).n && (Day.isL (a7.ev e) && Day.eqB (a2.ev e).int ((Day.Ls.mk (a5.ev e) (a0.ev e).int)).n)))) ∧ e (b + 1) = (Day.bothX (Day.Ls.mk (a5.ev e) (a0.ev e).int) (a4.ev e).int (a7.ev e)) := by
 have hp := q_pre T_1890 h
 have ho := fun j a => q_out (a := a) T_1890 j h
 simp only [t_1890, gi, gb, gs, gv, ge, List.map_cons, List.map_nil, List.getD_cons_zero, List.getD_cons_succ, L.ev_n, A.int_i] at hp ho
 exact ⟨hp, (ho 0 _ rfl :)⟩
theorem out_L2000 {e : Nat → A} {b : Nat} {a0 a1 a2 a3 a4 a5 a6 a7 a8 a9 a10 a11 a12 a13 a14 a15 a16 a17 a18 a19 a20 a21 a22 a23 a24 a25 a26 a27 a28 a29 a30 a31 a32 a33 a34 a35 a36 a37 a38 a39 a40 a41 a42 a43 a44 a45 a46 a47 a48 a49 a50 a51 a52 a53 a54 a55 a56 a57 a58 a59 a60 a61 : L} (h : Def.holds T e ⟨b, .call 2000, [a0, a1, a2, a3, a4, a5, a6, a7, a8, a9, a10, a11, a12, a13, a14, a15, a16, a17, a18, a19, a20, a21, a22, a23, a24, a25, a26, a27, a28, a29, a30, a31, a32, a33, a34, a35, a36, a37, a38, a39, a40, a41, a42, a43, a44, a45, a46, a47, a48, a49, a50, a51, a52, a53, a54, a55, a56, a57, a58, a59, a60, a61]⟩) :
  (e b).bool = (Day.inR (a16.ev e).int (((Day.Ts.mk (a58.ev e) (a13.ev e).int)).n - 1) && (Day.inR (a18.ev e).int (a41.ev e).int && (Day.leB (a41.ev e).int (((Day.Ts.mk (a58.ev e) (a13.ev e).int)).at (a16.ev e).int).n && (Day.leB (a41.ev e).int 8 && Day.allF (Day.notCs (((Day.Ts.mk (a58.ev e) (a13.ev e).int)).at (a16.ev e).int)) (a18.ev e).int (a41.ev e).int)))) ∧ (e (b + 1)).bool = (false) ∧ (e (b + 2)).bool = (true) := by
 have hp := q_pre T_2000 h
 have ho := fun j a => q_out (a := a) T_2000 j h
 simp only [t_2000, gi, gb, gs, gv, ge, List.map_cons, List.map_nil, List.getD_cons_zero, List.getD_cons_succ, L.ev_n, A.int_i] at hp ho
 exact ⟨hp, (congrArg A.bool (ho 0 _ rfl) :), (congrArg A.bool (ho 1 _ rfl) :)⟩
theorem out_L2001 {e : Nat → A} {b : Nat} {a0 a1 a2 a3 a4 a5 a6 a7 a8 a9 a10 a11 a12 a13 a14 a15 a16 a17 a18 a19 a20 a21 a22 a23 a24 a25 a26 a27 a28 a29 a30 a31 a32 a33 a34 : L} (h : Def.holds T e ⟨b, .call 2001, [a0, a1, a2, a3, a4, a5, a6, a7, a8, a9, a10, a11, a12, a13, a14, a15, a16, a17, a18, a19, a20, a21, a22, a23, a24, a25, a26, a27, a28, a29, a30, a31, a32, a33, a34]⟩) :
  ∀ z0, z0 = (Day.HB.mk [(a23.ev e).int, (a24.ev e).int, (a25.ev e).int, (a26.ev e).int, (a27.ev e).int, (a28.ev e).int, (a29.ev e).int, (a30.ev e).int] (a31.ev e).int (a32.ev e).int (a33.ev e).int (a34.ev e).int) → ∀ r1, r1 = (Day.apartGo (a14.ev e).int (Day.Ts.mk (a22.ev e) (a13.ev e).int) (a16.ev e).int z0).1 → (e b).bool = (Day.apartI (a14.ev e).int (a15.ev e).int (Day.Ts.mk (a22.ev e) (a13.ev e).int) (a16.ev e).int z0) ∧ (e (b + 1)).bool = (true) ∧ (e (b + 2)).int = (((r1)).a 0) ∧ (e (b + 3)).int = (((r1)).a 1) ∧ (e (b + 4)).int = (((r1)).a 2) ∧ (e (b + 5)).int = (((r1)).a 3) ∧ (e (b + 6)).int = (((r1)).a 4) ∧ (e (b + 7)).int = (((r1)).a 5) ∧ (e (b + 8)).int = (((r1)).a 6) ∧ (e (b + 9)).int = (((r1)).a 7) ∧ (e (b + 10)).int = (((r1)).port) ∧ (e (b + 11)).int = (((r1)).age) ∧ (e (b + 12)).int = (((r1)).hold) ∧ (e (b + 13)).int = (((r1)).pos) ∧ (e (b + 14)).bool = ((Day.apartGo (a14.ev e).int (Day.Ts.mk (a22.ev e) (a13.ev e).int) (a16.ev e).int z0).2) ∧ (e (b + 15)).int = (((r1)).a 0) ∧ (e (b + 16)).int = (((r1)).a 1) ∧ (e (b + 17)).int = (((r1)).a 2) ∧ (e (b + 18)).int = (((r1)).a 3) ∧ (e (b + 19)).int = (((r1)).a 4) ∧ (e (b + 20)).int = (((r1)).a 5) ∧ (e (b + 21)).int = (((r1)).a 6) ∧ (e (b + 22)).int = (((r1)).a 7) ∧ (e (b + 23)).int = (((r1)).port) ∧ (e (b + 24)).int = (((r1)).age) ∧ (e (b + 25)).int = (((r1)).hold) ∧ (e (b + 26)).int = (((r1)).pos) ∧ (e (b + 27)).bool = ((!(Day.apartGo (a14.ev e).int (Day.Ts.mk (a22.ev e) (a13.ev e).int) (a16.ev e).int z0).2)) := by
 intro z0 hz0 r1 hr1
 subst hz0 hr1
 have hp := q_pre T_2001 h
 have ho := fun j a => q_out (a := a) T_2001 j h
 simp only [t_2001, gi, gb, gs, gv, ge, List.map_cons, List.map_nil, List.getD_cons_zero, List.getD_cons_succ, L.ev_n, A.int_i] at hp ho
 exact ⟨hp, (congrArg A.bool (ho 0 _ rfl) :), (congrArg A.int (ho 1 _ rfl) :), (congrArg A.int (ho 2 _ rfl) :), (congrArg A.int (ho 3 _ rfl) :), (congrArg A.int (ho 4 _ rfl) :), (congrArg A.int (ho 5 _ rfl) :), (congrArg A.int (ho 6 _ rfl) :), (congrArg A.int (ho 7 _ rfl) :), (congrArg A.int (ho 8 _ rfl) :), (congrArg A.int (ho 9 _ rfl) :), (congrArg A.int (ho 10 _ rfl) :), (congrArg A.int (ho 11 _ rfl) :), (congrArg A.int (ho 12 _ rfl) :), (congrArg A.bool (ho 13 _ rfl) :), (congrArg A.int (ho 14 _ rfl) :), (congrArg A.int (ho 15 _ rfl) :), (congrArg A.int (ho 16 _ rfl) :), (congrArg A.int (ho 17 _ rfl) :), (congrArg A.int (ho 18 _ rfl) :), (congrArg A.int (ho 19 _ rfl) :), (congrArg A.int (ho 20 _ rfl) :), (congrArg A.int (ho 21 _ rfl) :), (congrArg A.int (ho 22 _ rfl) :), (congrArg A.int (ho 23 _ rfl) :), (congrArg A.int (ho 24 _ rfl) :), (congrArg A.int (ho 25 _ rfl) :), (congrArg A.bool (ho 26 _ rfl) :)⟩
end Rx.S
