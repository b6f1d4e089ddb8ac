import Derived.Test.YtjipnabidebgbaaHXc
import Derived.Test.YtjipnabidebgbaaJXd
set_option linter.unusedVariables false
set_option linter.unusedSimpArgs false
namespace Rx.S
open Go Rx
set_option maxRecDepth 100000
def t_133 (al : List A) : Bool × List A := (true, [.i (Day.clampR (gi al 0) (gi al 1) (gi al 2))])
def t_143 (al : List A) : Bool × List A := (Day.sm (gi al 1), [.i (Day.upR (gi al 0) (gi al 1))])
def t_142 (al : List A) : Bool × List A := (Day.i64 (gi al 0), [.i (Day.downR (gi al 0))])
def t_33 (al : List A) : Bool × List A := (Day.modP (gi al 0) && Day.i64 (gi al 1), [.i (Day.modR (gi al 0) (gi al 1))])
def t_35 (al : List A) : Bool × List A := (Day.slotP (gi al 0) (gi al 1), [.i (Day.nextR (gi al 0) (gi al 1))])
def t_37 (al : List A) : Bool × List A := (Day.atP (gi al 0) (gi al 1) (gi al 2), [.i (Day.atR (gi al 0) (gi al 1) (gi al 2))])
def t_50 (al : List A) : Bool × List A := (true, [.b (Day.right (gi al 0))])
def t_51 (al : List A) : Bool × List A := (true, [.b (Day.right (gi al 0))])
def t_130 (al : List A) : Bool × List A := (Day.timeP (gs al 0), [.i (Day.times (Day.kOf (gs al 0)) (gi al 1))])
def t_132 (al : List A) : Bool × List A := (Day.u8 (gi al 1), [.i (Day.times (gi al 1) (gi al 0))])
def t_44 (al : List A) : Bool × List A := (true, [.i (Day.times 2 (gi al 0))])
def t_52 (al : List A) : Bool × List A := (true, [.i (Day.times 2 (gi al 0))])
def t_89 (al : List A) : Bool × List A := let z0 := (Day.HB.mk [(gi al 1), (gi al 2), (gi al 3), (gi al 4), (gi al 5), (gi al 6), (gi al 7), (gi al 8)] (gi al 9) (gi al 10) (gi al 11) (gi al 12)); let r1 := Day.cleanH (gi al 0) z0; (Day.HB.i64 z0, [.i (((r1)).a 0), .i (((r1)).a 1), .i (((r1)).a 2), .i (((r1)).a 3), .i (((r1)).a 4), .i (((r1)).a 5), .i (((r1)).a 6), .i (((r1)).a 7), .i (((r1)).port), .i (((r1)).age), .i (((r1)).hold), .i (((r1)).pos), .i (Day.argE (gi al 0))])
def t_96 (al : List A) : Bool × List A := let z0 := (Day.HB.mk [(gi al 1), (gi al 2), (gi al 3), (gi al 4), (gi al 5), (gi al 6), (gi al 7), (gi al 8)] (gi al 9) (gi al 10) (gi al 11) (gi al 12)); (Day.HB.i64 z0, [.b (Day.rightH (gi al 0) z0)])
def t_90 (al : List A) : Bool × List A := let z0 := (Day.HB.mk [(gi al 1), (gi al 2), (gi al 3), (gi al 4), (gi al 5), (gi al 6), (gi al 7), (gi al 8)] (gi al 9) (gi al 10) (gi al 11) (gi al 12)); let r1 := Day.tickH (gi al 0) z0; (Day.HB.i64 z0, [.i (((r1)).a 0), .i (((r1)).a 1), .i (((r1)).a 2), .i (((r1)).a 3), .i (((r1)).a 4), .i (((r1)).a 5), .i (((r1)).a 6), .i (((r1)).a 7), .i (((r1)).port), .i (((r1)).age), .i (((r1)).hold), .i (((r1)).pos), .i (Day.argH (gi al 0) z0)])
def t_147 (al : List A) : Bool × List A := (true, [.b (Day.inR (gi al 0) (gi al 1))])
def t_97 (al : List A) : Bool × List A := let z0 := (Day.HB.mk [(gi al 1), (gi al 2), (gi al 3), (gi al 4), (gi al 5), (gi al 6), (gi al 7), (gi al 8)] (gi al 9) (gi al 10) (gi al 11) (gi al 12)); (true, [.b (Day.rightH (gi al 0) z0)])
def t_94 (al : List A) : Bool × List A := let r0 := Day.freshH (gi al 0); (true, [.i (((r0)).a 0), .i (((r0)).a 1), .i (((r0)).a 2), .i (((r0)).a 3), .i (((r0)).a 4), .i (((r0)).a 5), .i (((r0)).a 6), .i (((r0)).a 7), .i (((r0)).port), .i (((r0)).age), .i (((r0)).hold), .i (((r0)).pos), .i (Day.argE (gi al 0))])
def t_144 (al : List A) : Bool × List A := let z0 := (Day.HB.mk [(gi al 1), (gi al 2), (gi al 3), (gi al 4), (gi al 5), (gi al 6), (gi al 7), (gi al 8)] (gi al 9) (gi al 10) (gi al 11) (gi al 12)); (Day.rightH (gi al 0) z0, [Day.ofIls ((Day.cntL (gi al 0) z0)), .i ((((Day.cntL (gi al 0) z0)).length : Int))])
def t_100 (al : List A) : Bool × List A := let z0 := (Day.HB.mk [(gi al 1), (gi al 2), (gi al 3), (gi al 4), (gi al 5), (gi al 6), (gi al 7), (gi al 8)] (gi al 9) (gi al 10) (gi al 11) (gi al 12)); (Day.HB.i64 z0, [.i (Day.votesH (gi al 0) z0 (gi al 13))])
def t_91 (al : List A) : Bool × List A := let z0 := (Day.HB.mk [(gi al 1), (gi al 2), (gi al 3), (gi al 4), (gi al 5), (gi al 6), (gi al 7), (gi al 8)] (gi al 9) (gi al 10) (gi al 11) (gi al 12)); (Day.HB.i64 z0, [.i (Day.bestH (gi al 0) z0), .i (Day.bestK (gi al 0) z0)])
def t_105 (al : List A) : Bool × List A := let z0 := (Day.HB.mk [(gi al 1), (gi al 2), (gi al 3), (gi al 4), (gi al 5), (gi al 6), (gi al 7), (gi al 8)] (gi al 9) (gi al 10) (gi al 11) (gi al 12)); let r1 := Day.settleH (gi al 0) z0; (Day.HB.i64 z0, [.i (((r1)).a 0), .i (((r1)).a 1), .i (((r1)).a 2), .i (((r1)).a 3), .i (((r1)).a 4), .i (((r1)).a 5), .i (((r1)).a 6), .i (((r1)).a 7), .i (((r1)).port), .i (((r1)).age), .i (((r1)).hold), .i (((r1)).pos), .i (Day.argH (gi al 0) z0)])
def t_110 (al : List A) : Bool × List A := (Day.Ls.ok (Day.Ls.mk (ge al 1) (gi al 2)), [.b (Day.fitsR (gi al 0) (Day.Ls.mk (ge al 1) (gi al 2)))])
def t_151 (al : List A) : Bool × List A := let z0 := (Day.HB.mk [(gi al 1), (gi al 2), (gi al 3), (gi al 4), (gi al 5), (gi al 6), (gi al 7), (gi al 8)] (gi al 9) (gi al 10) (gi al 11) (gi al 12)); (Day.HB.i64 z0 && Day.Ls.ok (Day.Ls.mk (ge al 13) (gi al 14)), [.i (Day.gateE (gi al 0) z0 (Day.Ls.mk (ge al 13) (gi al 14)))])
def t_106 (al : List A) : Bool × List A := let z0 := (Day.HB.mk [(gi al 1), (gi al 2), (gi al 3), (gi al 4), (gi al 5), (gi al 6), (gi al 7), (gi al 8)] (gi al 9) (gi al 10) (gi al 11) (gi al 12)); let r1 := Day.noteH (gi al 0) z0 (Day.Ls.mk (ge al 13) (gi al 14)); (Day.HB.i64 z0 && Day.Ls.ok (Day.Ls.mk (ge al 13) (gi al 14)), [.i (((r1)).a 0), .i (((r1)).a 1), .i (((r1)).a 2), .i (((r1)).a 3), .i (((r1)).a 4), .i (((r1)).a 5), .i (((r1)).a 6), .i (((r1)).a 7), .i (((r1)).port), .i (((r1)).age), .i (((r1)).hold), .i (((r1)).pos), .i (Day.gateE (gi al 0) z0 (Day.Ls.mk (ge al 13) (gi al 14)))])
def t_153 (al : List A) : Bool × List A := let z0 := (Day.HB.mk [(gi al 1), (gi al 2), (gi al 3), (gi al 4), (gi al 5), (gi al 6), (gi al 7), (gi al 8)] (gi al 9) (gi al 10) (gi al 11) (gi al 12)); let r1 := Day.ownerH (gi al 0) z0 (Day.Ls.mk (ge al 13) (gi al 14)); (Day.rightH (gi al 0) z0 && Day.fitsR (gi al 0) (Day.Ls.mk (ge al 13) (gi al 14)), [.i (((r1)).a 0), .i (((r1)).a 1), .i (((r1)).a 2), .i (((r1)).a 3), .i (((r1)).a 4), .i (((r1)).a 5), .i (((r1)).a 6), .i (((r1)).a 7), .i (((r1)).port), .i (((r1)).age), .i (((r1)).hold), .i (((r1)).pos), .i (((Day.ownerF z0 (Day.Ls.mk (ge al 13) (gi al 14)))).kind), .i (((Day.ownerF z0 (Day.Ls.mk (ge al 13) (gi al 14)))).id)])
def t_152 (al : List A) : Bool × List A := let z0 := (Day.HB.mk [(gi al 1), (gi al 2), (gi al 3), (gi al 4), (gi al 5), (gi al 6), (gi al 7), (gi al 8)] (gi al 9) (gi al 10) (gi al 11) (gi al 12)); let r1 := Day.firstH (gi al 0) z0 (Day.Ls.mk (ge al 13) (gi al 14)); (Day.rightH (gi al 0) z0 && Day.fitsR (gi al 0) (Day.Ls.mk (ge al 13) (gi al 14)), [.i (((r1)).a 0), .i (((r1)).a 1), .i (((r1)).a 2), .i (((r1)).a 3), .i (((r1)).a 4), .i (((r1)).a 5), .i (((r1)).a 6), .i (((r1)).a 7), .i (((r1)).port), .i (((r1)).age), .i (((r1)).hold), .i (((r1)).pos), .i (((Day.firstFr (gi al 0) z0 (Day.Ls.mk (ge al 13) (gi al 14)))).kind), .i (((Day.firstFr (gi al 0) z0 (Day.Ls.mk (ge al 13) (gi al 14)))).id)])
def t_104 (al : List A) : Bool × List A := let z0 := (Day.HB.mk [(gi al 1), (gi al 2), (gi al 3), (gi al 4), (gi al 5), (gi al 6), (gi al 7), (gi al 8)] (gi al 9) (gi al 10) (gi al 11) (gi al 12)); let r1 := Day.relayH (gi al 0) z0 (Day.Ls.mk (ge al 13) (gi al 14)); (Day.HB.i64 z0 && Day.Ls.ok (Day.Ls.mk (ge al 13) (gi al 14)), [.i (((r1)).a 0), .i (((r1)).a 1), .i (((r1)).a 2), .i (((r1)).a 3), .i (((r1)).a 4), .i (((r1)).a 5), .i (((r1)).a 6), .i (((r1)).a 7), .i (((r1)).port), .i (((r1)).age), .i (((r1)).hold), .i (((r1)).pos), .i (((Day.relayF (gi al 0) z0 (Day.Ls.mk (ge al 13) (gi al 14)))).kind), .i (((Day.relayF (gi al 0) z0 (Day.Ls.mk (ge al 13) (gi al 14)))).id), .i (Day.gateE (gi al 0) z0 (Day.Ls.mk (ge al 13) (gi al 14)))])
def t_119 (al : List A) : Bool × List A := let z0 := (Day.HB.mk [(gi al 1), (gi al 2), (gi al 3), (gi al 4), (gi al 5), (gi al 6), (gi al 7), (gi al 8)] (gi al 9) (gi al 10) (gi al 11) (gi al 12)); let r1 := Day.hubH (gi al 0) z0 (Day.Ls.mk (ge al 13) (gi al 14)); (Day.HB.i64 z0 && Day.Ls.ok (Day.Ls.mk (ge al 13) (gi al 14)), [.i (((r1)).a 0), .i (((r1)).a 1), .i (((r1)).a 2), .i (((r1)).a 3), .i (((r1)).a 4), .i (((r1)).a 5), .i (((r1)).a 6), .i (((r1)).a 7), .i (((r1)).port), .i (((r1)).age), .i (((r1)).hold), .i (((r1)).pos), .i (((Day.hubF (gi al 0) z0 (Day.Ls.mk (ge al 13) (gi al 14)))).kind), .i (((Day.hubF (gi al 0) z0 (Day.Ls.mk (ge al 13) (gi al 14)))).id), .i (Day.gateE (gi al 0) z0 (Day.Ls.mk (ge al 13) (gi al 14)))])
def t_118 (al : List A) : Bool × List A := (true, [.b (true)])
def t_26 (al : List A) : Bool × List A := let z0 := (Day.HB.mk [(gi al 1), (gi al 2), (gi al 3), (gi al 4), (gi al 5), (gi al 6), (gi al 7), (gi al 8)] (gi al 9) (gi al 10) (gi al 11) (gi al 12)); (Day.u8 (gi al 0) && Day.HB.i64 z0 && Day.u8 (gi al 13) && Day.Ls.ok (Day.Ls.mk (ge al 14) (gi al 15)), [.b (true)])
def t_1470 (al : List A) : Bool × List A := let z0 := (Day.HB.mk [(gi al 1), (gi al 2), (gi al 3), (gi al 4), (gi al 5), (gi al 6), (gi al 7), (gi al 8)] (gi al 9) (gi al 10) (gi al 11) (gi al 12)); (Day.right (gi al 0) && Day.inR (gi al 13) 8, [.b ((!Day.okF (gi al 0) z0 (gi al 13))), .b (Day.okF (gi al 0) z0 (gi al 13))])
def t_1490 (al : List A) : Bool × List A := (Day.loP (gi al 0) (gi al 1), [.i (Day.fillF (gi al 0) (gi al 1) 0 (gi al 6)), .i (Day.fillF (gi al 0) (gi al 1) 1 (gi al 7)), .i (Day.fillF (gi al 0) (gi al 1) 2 (gi al 8)), .i (Day.fillF (gi al 0) (gi al 1) 3 (gi al 9)), .i (Day.fillF (gi al 0) (gi al 1) 4 (gi al 10)), .i (Day.fillF (gi al 0) (gi al 1) 5 (gi al 11)), .i (Day.fillF (gi al 0) (gi al 1) 6 (gi al 12)), .i (Day.fillF (gi al 0) (gi al 1) 7 (gi al 13))])
def t_1540 (al : List A) : Bool × List A := let z0 := (Day.HB.mk [(gi al 1), (gi al 2), (gi al 3), (gi al 4), (gi al 5), (gi al 6), (gi al 7), (gi al 8)] (gi al 9) (gi al 10) (gi al 11) (gi al 12)); (Day.countsP (gi al 0) z0 (gi al 13) (ge al 14), [Day.ofIls (Day.cntsF (gi al 0) z0 (gi al 13) (ge al 14))])
def t_1560 (al : List A) : Bool × List A := (Day.listP (gi al 0) (gi al 2) (ge al 17), [.i (Day.maxF (gi al 1) (gi al 2) (ge al 17))])
def t_1561 (al : List A) : Bool × List A := (Day.listP (gi al 0) (gi al 2) (ge al 15), [.i (Day.idxF (gi al 1) (gi al 2) (ge al 15)), .b (Day.hasF (gi al 1) (gi al 2) (ge al 15)), .b ((!Day.hasF (gi al 1) (gi al 2) (ge al 15)))])
def t_1630 (al : List A) : Bool × List A := (Day.Ls.ok (Day.Ls.mk (ge al 6) (gi al 1)) && Day.inR (gi al 5) ((Day.Ls.mk (ge al 6) (gi al 1))).n, [.b ((!Day.allF (Day.fitB (Day.Ls.mk (ge al 6) (gi al 1))) (gi al 5) ((Day.Ls.mk (ge al 6) (gi al 1))).n)), .b (Day.allF (Day.fitB (Day.Ls.mk (ge al 6) (gi al 1))) (gi al 5) ((Day.Ls.mk (ge al 6) (gi al 1))).n)])
def t_1670 (al : List A) : Bool × List A := (Day.inR (gi al 16) ((Day.Ls.mk (ge al 17) (gi al 13))).n && Day.inR ((Day.Ls.mk (ge al 17) (gi al 13))).n 8, [.i (Day.noteF ((Day.Ls.mk (ge al 17) (gi al 13))).n (Day.Ls.mk (ge al 17) (gi al 13)) (gi al 16) 0 (gi al 18)), .i (Day.noteF ((Day.Ls.mk (ge al 17) (gi al 13))).n (Day.Ls.mk (ge al 17) (gi al 13)) (gi al 16) 1 (gi al 19)), .i (Day.noteF ((Day.Ls.mk (ge al 17) (gi al 13))).n (Day.Ls.mk (ge al 17) (gi al 13)) (gi al 16) 2 (gi al 20)), .i (Day.noteF ((Day.Ls.mk (ge al 17) (gi al 13))).n (Day.Ls.mk (ge al 17) (gi al 13)) (gi al 16) 3 (gi al 21)), .i (Day.noteF ((Day.Ls.mk (ge al 17) (gi al 13))).n (Day.Ls.mk (ge al 17) (gi al 13)) (gi al 16) 4 (gi al 22)), .i (Day.noteF ((Day.Ls.mk (ge al 17) (gi al 13))).n (Day.Ls.mk (ge al 17) (gi al 13)) (gi al 16) 5 (gi al 23)), .i (Day.noteF ((Day.Ls.mk (ge al 17) (gi al 13))).n (Day.Ls.mk (ge al 17) (gi al 13)) (gi al 16) 6 (gi al 24)), .i (Day.noteF ((Day.Ls.mk (ge al 17) (gi al 13))).n (Day.Ls.mk (ge al 17) (gi al 13)) (gi al 16) 7 (gi al 25))])
def t_1700 (al : List A) : Bool × List A := (Day.Ls.ok (Day.Ls.mk (ge al 2) (gi al 0)) && Day.inR (gi al 1) ((Day.Ls.mk (ge al 2) (gi al 0))).n, [.i (Day.firstF (Day.isCs (Day.Ls.mk (ge al 2) (gi al 0))) (gi al 1) ((Day.Ls.mk (ge al 2) (gi al 0))).n), .b (Day.anyF (Day.isCs (Day.Ls.mk (ge al 2) (gi al 0))) (gi al 1) ((Day.Ls.mk (ge al 2) (gi al 0))).n), .b ((!Day.anyF (Day.isCs (Day.Ls.mk (ge al 2) (gi al 0))) (gi al 1) ((Day.Ls.mk (ge al 2) (gi al 0))).n))])
def t_1701 (al : List A) : Bool × List A := (Day.loP (gi al 0) (gi al 17), [.i (Day.fillF (gi al 0) (gi al 17) 0 (gi al 19)), .i (Day.fillF (gi al 0) (gi al 17) 1 (gi al 20)), .i (Day.fillF (gi al 0) (gi al 17) 2 (gi al 21)), .i (Day.fillF (gi al 0) (gi al 17) 3 (gi al 22)), .i (Day.fillF (gi al 0) (gi al 17) 4 (gi al 23)), .i (Day.fillF (gi al 0) (gi al 17) 5 (gi al 24)), .i (Day.fillF (gi al 0) (gi al 17) 6 (gi al 25)), .i (Day.fillF (gi al 0) (gi al 17) 7 (gi al 26))])
def t_1870 (al : List A) : Bool × List A := let z0 := (Day.HB.mk [(gi al 27), (gi al 28), (gi al 29), (gi al 30), (gi al 31), (gi al 32), (gi al 33), (gi al 34)] (gi al 35) (gi al 36) (gi al 37) (gi al 38)); let r1 := (Day.holdGo (gi al 15) (ge al 16) (ge al 26) (gi al 14) (gi al 17) z0); (Day.holdP (gi al 15) ((ge al 16)).int z0 && (Day.inR (gi al 17) (gi al 14) && (Day.inR ((ge al 16)).int ((gi al 15) - 1) && Day.leB (gi al 14) 100)), [.i (((Day.noHB)).a 0), .i (((Day.noHB)).a 1), .i (((Day.noHB)).a 2), .i (((Day.noHB)).a 3), .i (((Day.noHB)).a 4), .i (((Day.noHB)).a 5), .i (((Day.noHB)).a 6), .i (((Day.noHB)).a 7), .i (((Day.noHB)).port), .i (((Day.noHB)).age), .i (((Day.noHB)).hold), .i (((Day.noHB)).pos), .b (false), .i (((r1)).a 0), .i (((r1)).a 1), .i (((r1)).a 2), .i (((r1)).a 3), .i (((r1)).a 4), .i (((r1)).a 5), .i (((r1)).a 6), .i (((r1)).a 7), .i (((r1)).port), .i (((r1)).age), .i (((r1)).hold), .i (((r1)).pos), .b (true)])
def table : List (Nat × (List A → Bool × List A)) := [(133, t_133), (143, t_143), (142, t_142), (33, t_33), (35, t_35), (37, t_37), (50, t_50), (51, t_51), (130, t_130), (132, t_132), (44, t_44), (52, t_52), (89, t_89), (96, t_96), (90, t_90), (147, t_147), (97, t_97), (94, t_94), (144, t_144), (100, t_100), (91, t_91), (105, t_105), (110, t_110), (151, t_151), (106, t_106), (153, t_153), (152, t_152), (104, t_104), (119, t_119), (118, t_118), (26, t_26), (1470, t_1470), (1490, t_1490), (1540, t_1540), (1560, t_1560), (1561, t_1561), (1630, t_1630), (1670, t_1670), (1700, t_1700), (1701, t_1701), (1870, t_1870)]
def T : Nat → List A → Bool × List A := tab table
theorem T_133 : T 133 = t_133 := rfl
theorem T_143 : T 143 = t_143 := rfl
theorem T_142 : T 142 = t_142 := rfl
theorem T_33 : T 33 = t_33 := rfl
theorem T_35 : T 35 = t_35 := rfl
theorem T_37 : T 37 = t_37 := rfl
theorem T_50 : T 50 = t_50 := rfl
theorem T_51 : T 51 = t_51 := rfl
theorem T_130 : T 130 = t_130 := rfl
theorem T_132 : T 132 = t_132 := rfl
theorem T_44 : T 44 = t_44 := rfl
theorem T_52 : T 52 = t_52 := rfl
theorem T_89 : T 89 = t_89 := rfl
theorem T_96 : T 96 = t_96 := rfl
theorem T_90 : T 90 = t_90 := rfl
theorem T_147 : T 147 = t_147 := rfl
theorem T_97 : T 97 = t_97 := rfl
theorem T_94 : T 94 = t_94 := rfl
theorem T_144 : T 144 = t_144 := rfl
theorem T_100 : T 100 = t_100 := rfl
theorem T_91 : T 91 = t_91 := rfl
theorem T_105 : T 105 = t_105 := rfl
theorem T_110 : T 110 = t_110 := rfl
theorem T_151 : T 151 = t_151 := rfl
theorem T_106 : T 106 = t_106 := rfl
theorem T_153 : T 153 = t_153 := rfl
theorem T_152 : T 152 = t_152 := rfl
theorem T_104 : T 104 = t_104 := rfl
theorem T_119 : T 119 = t_119 := rfl
theorem T_118 : T 118 = t_118 := rfl
theorem T_26 : T 26 = t_26 := rfl
theorem T_1470 : T 1470 = t_1470 := rfl
theorem T_1490 : T 1490 = t_1490 := rfl
theorem T_1540 : T 1540 = t_1540 := rfl
theorem T_1560 : T 1560 = t_1560 := rfl
theorem T_1561 : T 1561 = t_1561 := rfl
theorem T_1630 : T 1630 = t_1630 := rfl
theorem T_1670 : T 1670 = t_1670 := rfl
theorem T_1700 : T 1700 = t_1700 := rfl
theorem T_1701 : T 1701 = t_1701 := rfl
theorem T_1870 : T 1870 = t_1870 := rfl
def ws : List (Nat × Nat) := [(133, 2), (143, 2), (142, 2), (33, 2), (35, 2), (37, 2), (50, 2), (51, 2), (130, 2), (132, 2), (44, 2), (52, 2), (89, 14), (96, 2), (90, 14), (147, 2), (97, 2), (94, 14), (144, 3), (100, 2), (91, 3), (105, 14), (110, 2), (151, 2), (106, 14), (153, 15), (152, 15), (104, 16), (119, 16), (118, 2), (26, 2), (1470, 3), (1490, 9), (1540, 2), (1560, 2), (1561, 4), (1630, 3), (1670, 9), (1700, 4), (1701, 9), (1870, 27)]
theorem widths : WidthOK T ws := fun f k h al => by
 have := look_mem h
 simp only [ws, List.mem_cons, List.not_mem_nil, or_false, Prod.mk.injEq] at this
 rcases this with ⟨rfl, rfl⟩ | ⟨rfl, rfl⟩ | ⟨rfl, rfl⟩ | ⟨rfl, rfl⟩ | ⟨rfl, rfl⟩ | ⟨rfl, rfl⟩ | ⟨rfl, rfl⟩ | ⟨rfl, rfl⟩ | ⟨rfl, rfl⟩ | ⟨rfl, rfl⟩ | ⟨rfl, rfl⟩ | ⟨rfl, rfl⟩ | ⟨rfl, rfl⟩ | ⟨rfl, rfl⟩ | ⟨rfl, rfl⟩ | ⟨rfl, rfl⟩ | ⟨rfl, rfl⟩ | ⟨rfl, rfl⟩ | ⟨rfl, rfl⟩ | ⟨rfl, rfl⟩ | ⟨rfl, rfl⟩ | ⟨rfl, rfl⟩ | ⟨rfl, rfl⟩ | ⟨rfl, rfl⟩ | ⟨rfl, rfl⟩ | ⟨rfl, rfl⟩ | ⟨rfl, rfl⟩ | ⟨rfl, rfl⟩ | ⟨rfl, rfl⟩ | ⟨rfl, rfl⟩ | ⟨rfl, rfl⟩ | ⟨rfl, rfl⟩ | ⟨rfl, rfl⟩ | ⟨rfl, rfl⟩ | ⟨rfl, rfl⟩ | ⟨rfl, rfl⟩ | ⟨rfl, rfl⟩ | ⟨rfl, rfl⟩ | ⟨rfl, rfl⟩ | ⟨rfl, rfl⟩ | ⟨rfl, rfl⟩
 ·rw [T_133]; exact Nat.le_refl _
 ·rw [T_143]; exact Nat.le_refl _
 ·rw [T_142]; exact Nat.le_refl _
 ·rw [T_33]; exact Nat.le_refl _
 ·rw [T_35]; exact Nat.le_refl _
 ·rw [T_37]; exact Nat.le_refl _
 ·rw [T_50]; exact Nat.le_refl _
 ·rw [T_51]; exact Nat.le_refl _
 ·rw [T_130]; exact Nat.le_refl _
 ·rw [T_132]; exact Nat.le_refl _
 ·rw [T_44]; exact Nat.le_refl _
 ·rw [T_52]; exact Nat.le_refl _
 ·rw [T_89]; exact Nat.le_refl _
 ·rw [T_96]; exact Nat.le_refl _
 ·rw [T_90]; exact Nat.le_refl _
 ·rw [T_147]; exact Nat.le_refl _
 ·rw [T_97]; exact Nat.le_refl _
 ·rw [T_94]; exact Nat.le_refl _
 ·rw [T_144]; exact Nat.le_refl _
 ·rw [T_100]; exact Nat.le_refl _
 ·rw [T_91]; exact Nat.le_refl _
 ·rw [T_105]; exact Nat.le_refl _
 ·rw [T_110]; exact Nat.le_refl _
 ·rw [T_151]; exact Nat.le_refl _
 ·rw [T_106]; exact Nat.le_refl _
 ·rw [T_153]; exact Nat.le_refl _
 ·rw [T_152]; exact Nat.le_refl _
 ·rw [T_104]; exact Nat.le_refl _
 ·rw [T_119]; exact Nat.le_refl _
 ·rw [T_118]; exact Nat.le_refl _
 ·rw [T_26]; exact Nat.le_refl _
 ·rw [T_1470]; exact Nat.le_refl _
 ·rw [T_1490]; exact Nat.le_refl _
 ·rw [T_1540]; exact Nat.le_refl _
 ·rw [T_1560]; exact Nat.le_refl _
 ·rw [T_1561]; exact Nat.le_refl _
 ·rw [T_1630]; exact Nat.le_refl _
 ·rw [T_1670]; exact Nat.le_refl _
 ·rw [T_1700]; exact Nat.le_refl _
 ·rw [T_1701]; exact Nat.le_refl _
 ·rw [T_1870]; exact Nat.le_refl _
theorem consI {a b : Int} {l m : List A} (h : a = b) (k : l = m) : (A.i a :: l) = (A.i b :: m) := by subst h k; rfl
theorem consB {a b : Bool} {l m : List A} (h : a = b) (k : l = m) : (A.b a :: l) = (A.b b :: m) := by subst h k; rfl
theorem consL {a b : A} {l m : List A} (h : a = b) (k : l = m) : (a :: l) = (b :: m) := by subst h k; rfl
theorem out_tally_Clamp {e : Nat → A} {b : Nat} {a0 a1 a2 : L} (h : Def.holds T e ⟨b, .call 133, [a0, a1, a2]⟩) :
  (e b).bool = (true) ∧ (e (b + 1)).int = (Day.clampR (a0.ev e).int (a1.ev e).int (a2.ev e).int) := by
 have hp := q_pre T_133 h
 have ho := fun j a => q_out (a := a) T_133 j h
 simp only [t_133, gi, gb, gs, gv, ge, List.map_cons, List.map_nil, List.getD_cons_zero, List.getD_cons_succ, L.ev_n, A.int_i] at hp ho
 exact ⟨hp, (congrArg A.int (ho 0 _ rfl) :)⟩
theorem out_tally_Up {e : Nat → A} {b : Nat} {a0 a1 : L} (h : Def.holds T e ⟨b, .call 143, [a0, a1]⟩) :
  (e b).bool = (Day.sm (a1.ev e).int) ∧ (e (b + 1)).int = (Day.upR (a0.ev e).int (a1.ev e).int) := by
 have hp := q_pre T_143 h
 have ho := fun j a => q_out (a := a) T_143 j h
 simp only [t_143, gi, gb, gs, gv, ge, List.map_cons, List.map_nil, List.getD_cons_zero, List.getD_cons_succ, L.ev_n, A.int_i] at hp ho
 exact ⟨hp, (congrArg A.int (ho 0 _ rfl) :)⟩
theorem out_tally_Down {e : Nat → A} {b : Nat} {a0 : L} (h : Def.holds T e ⟨b, .call 142, [a0]⟩) :
  (e b).bool = (Day.i64 (a0.ev e).int) ∧ (e (b + 1)).int = (Day.downR (a0.ev e).int) := by
 have hp := q_pre T_142 h
 have ho := fun j a => q_out (a := a) T_142 j h
 simp only [t_142, gi, gb, gs, gv, ge, List.map_cons, List.map_nil, List.getD_cons_zero, List.getD_cons_succ, L.ev_n, A.int_i] at hp ho
 exact ⟨hp, (congrArg A.int (ho 0 _ rfl) :)⟩
theorem out_ring_Mod {e : Nat → A} {b : Nat} {a0 a1 : L} (h : Def.holds T e ⟨b, .call 33, [a0, a1]⟩) :
  (e b).bool = (Day.modP (a0.ev e).int && Day.i64 (a1.ev e).int) ∧ (e (b + 1)).int = (Day.modR (a0.ev e).int (a1.ev e).int) := by
 have hp := q_pre T_33 h
 have ho := fun j a => q_out (a := a) T_33 j h
 simp only [t_33, gi, gb, gs, gv, ge, List.map_cons, List.map_nil, List.getD_cons_zero, List.getD_cons_succ, L.ev_n, A.int_i] at hp ho
 exact ⟨hp, (congrArg A.int (ho 0 _ rfl) :)⟩
theorem out_ring_Next {e : Nat → A} {b : Nat} {a0 a1 : L} (h : Def.holds T e ⟨b, .call 35, [a0, a1]⟩) :
  (e b).bool = (Day.slotP (a0.ev e).int (a1.ev e).int) ∧ (e (b + 1)).int = (Day.nextR (a0.ev e).int (a1.ev e).int) := by
 have hp := q_pre T_35 h
 have ho := fun j a => q_out (a := a) T_35 j h
 simp only [t_35, gi, gb, gs, gv, ge, List.map_cons, List.map_nil, List.getD_cons_zero, List.getD_cons_succ, L.ev_n, A.int_i] at hp ho
 exact ⟨hp, (congrArg A.int (ho 0 _ rfl) :)⟩
theorem out_ring_At {e : Nat → A} {b : Nat} {a0 a1 a2 : L} (h : Def.holds T e ⟨b, .call 37, [a0, a1, a2]⟩) :
  (e b).bool = (Day.atP (a0.ev e).int (a1.ev e).int (a2.ev e).int) ∧ (e (b + 1)).int = (Day.atR (a0.ev e).int (a1.ev e).int (a2.ev e).int) := by
 have hp := q_pre T_37 h
 have ho := fun j a => q_out (a := a) T_37 j h
 simp only [t_37, gi, gb, gs, gv, ge, List.map_cons, List.map_nil, List.getD_cons_zero, List.getD_cons_succ, L.ev_n, A.int_i] at hp ho
 exact ⟨hp, (congrArg A.int (ho 0 _ rfl) :)⟩
theorem out_conf_Right {e : Nat → A} {b : Nat} {a0 : L} (h : Def.holds T e ⟨b, .call 50, [a0]⟩) :
  (e b).bool = (true) ∧ (e (b + 1)).bool = (Day.right (a0.ev e).int) := by
 have hp := q_pre T_50 h
 have ho := fun j a => q_out (a := a) T_50 j h
 simp only [t_50, gi, gb, gs, gv, ge, List.map_cons, List.map_nil, List.getD_cons_zero, List.getD_cons_succ, L.ev_n, A.int_i] at hp ho
 exact ⟨hp, (congrArg A.bool (ho 0 _ rfl) :)⟩
theorem out_ref03_Right {e : Nat → A} {b : Nat} {a0 : L} (h : Def.holds T e ⟨b, .call 51, [a0]⟩) :
  (e b).bool = (true) ∧ (e (b + 1)).bool = (Day.right (a0.ev e).int) := by
 have hp := q_pre T_51 h
 have ho := fun j a => q_out (a := a) T_51 j h
 simp only [t_51, gi, gb, gs, gv, ge, List.map_cons, List.map_nil, List.getD_cons_zero, List.getD_cons_succ, L.ev_n, A.int_i] at hp ho
 exact ⟨hp, (congrArg A.bool (ho 0 _ rfl) :)⟩
theorem out_conf_time {e : Nat → A} {b : Nat} {a0 a1 : L} (h : Def.holds T e ⟨b, .call 130, [a0, a1]⟩) :
  (e b).bool = (Day.timeP (a0.ev e).str) ∧ (e (b + 1)).int = (Day.times (Day.kOf (a0.ev e).str) (a1.ev e).int) := by
 have hp := q_pre T_130 h
 have ho := fun j a => q_out (a := a) T_130 j h
 simp only [t_130, gi, gb, gs, gv, ge, List.map_cons, List.map_nil, List.getD_cons_zero, List.getD_cons_succ, L.ev_n, A.int_i] at hp ho
 exact ⟨hp, (congrArg A.int (ho 0 _ rfl) :)⟩
theorem out_ref03_times {e : Nat → A} {b : Nat} {a0 a1 : L} (h : Def.holds T e ⟨b, .call 132, [a0, a1]⟩) :
  (e b).bool = (Day.u8 (a1.ev e).int) ∧ (e (b + 1)).int = (Day.times (a1.ev e).int (a0.ev e).int) := by
 have hp := q_pre T_132 h
 have ho := fun j a => q_out (a := a) T_132 j h
 simp only [t_132, gi, gb, gs, gv, ge, List.map_cons, List.map_nil, List.getD_cons_zero, List.getD_cons_succ, L.ev_n, A.int_i] at hp ho
 exact ⟨hp, (congrArg A.int (ho 0 _ rfl) :)⟩
theorem out_conf_Block {e : Nat → A} {b : Nat} {a0 : L} (h : Def.holds T e ⟨b, .call 44, [a0]⟩) :
  (e b).bool = (true) ∧ (e (b + 1)).int = (Day.times 2 (a0.ev e).int) := by
 have hp := q_pre T_44 h
 have ho := fun j a => q_out (a := a) T_44 j h
 simp only [t_44, gi, gb, gs, gv, ge, List.map_cons, List.map_nil, List.getD_cons_zero, List.getD_cons_succ, L.ev_n, A.int_i] at hp ho
 exact ⟨hp, (congrArg A.int (ho 0 _ rfl) :)⟩
theorem out_ref03_Block {e : Nat → A} {b : Nat} {a0 : L} (h : Def.holds T e ⟨b, .call 52, [a0]⟩) :
  (e b).bool = (true) ∧ (e (b + 1)).int = (Day.times 2 (a0.ev e).int) := by
 have hp := q_pre T_52 h
 have ho := fun j a => q_out (a := a) T_52 j h
 simp only [t_52, gi, gb, gs, gv, ge, List.map_cons, List.map_nil, List.getD_cons_zero, List.getD_cons_succ, L.ev_n, A.int_i] at hp ho
 exact ⟨hp, (congrArg A.int (ho 0 _ rfl) :)⟩
theorem out_vote_Clean {e : Nat → A} {b : Nat} {a0 a1 a2 a3 a4 a5 a6 a7 a8 a9 a10 a11 a12 : L} (h : Def.holds T e ⟨b, .call 89, [a0, a1, a2, a3, a4, a5, a6, a7, a8, a9, a10, a11, a12]⟩) :
  ∀ z0, z0 = (Day.HB.mk [(a1.ev e).int, (a2.ev e).int, (a3.ev e).int, (a4.ev e).int, (a5.ev e).int, (a6.ev e).int, (a7.ev e).int, (a8.ev e).int] (a9.ev e).int (a10.ev e).int (a11.ev e).int (a12.ev e).int) → ∀ r1, r1 = Day.cleanH (a0.ev e).int z0 → (e b).bool = (Day.HB.i64 z0) ∧ (e (b + 1)).int = (((r1)).a 0) ∧ (e (b + 2)).int = (((r1)).a 1) ∧ (e (b + 3)).int = (((r1)).a 2) ∧ (e (b + 4)).int = (((r1)).a 3) ∧ (e (b + 5)).int = (((r1)).a 4) ∧ (e (b + 6)).int = (((r1)).a 5) ∧ (e (b + 7)).int = (((r1)).a 6) ∧ (e (b + 8)).int = (((r1)).a 7) ∧ (e (b + 9)).int = (((r1)).port) ∧ (e (b + 10)).int = (((r1)).age) ∧ (e (b + 11)).int = (((r1)).hold) ∧ (e (b + 12)).int = (((r1)).pos) ∧ (e (b + 13)).int = (Day.argE (a0.ev e).int) := by
 intro z0 hz0 r1 hr1
 subst hz0 hr1
 have hp := q_pre T_89 h
 have ho := fun j a => q_out (a := a) T_89 j h
 simp only [t_89, gi, gb, gs, gv, ge, List.map_cons, List.map_nil, List.getD_cons_zero, List.getD_cons_succ, L.ev_n, A.int_i] at hp ho
 exact ⟨hp, (congrArg A.int (ho 0 _ rfl) :), (congrArg A.int (ho 1 _ rfl) :), (congrArg A.int (ho 2 _ rfl) :), (congrArg A.int (ho 3 _ rfl) :), (congrArg A.int (ho 4 _ rfl) :), (congrArg A.int (ho 5 _ rfl) :), (congrArg A.int (ho 6 _ rfl) :), (congrArg A.int (ho 7 _ rfl) :), (congrArg A.int (ho 8 _ rfl) :), (congrArg A.int (ho 9 _ rfl) :), (congrArg A.int (ho 10 _ rfl) :), (congrArg A.int (ho 11 _ rfl) :), (congrArg A.int (ho 12 _ rfl) :)⟩
theorem out_vote_Right {e : Nat → A} {b : Nat} {a0 a1 a2 a3 a4 a5 a6 a7 a8 a9 a10 a11 a12 : L} (h : Def.holds T e ⟨b, .call 96, [a0, a1, a2, a3, a4, a5, a6, a7, a8, a9, a10, a11, a12]⟩) :
  ∀ z0, z0 = (Day.HB.mk [(a1.ev e).int, (a2.ev e).int, (a3.ev e).int, (a4.ev e).int, (a5.ev e).int, (a6.ev e).int, (a7.ev e).int, (a8.ev e).int] (a9.ev e).int (a10.ev e).int (a11.ev e).int (a12.ev e).int) → (e b).bool = (Day.HB.i64 z0) ∧ (e (b + 1)).bool = (Day.rightH (a0.ev e).int z0) := by
 intro z0 hz0
 subst hz0
 have hp := q_pre T_96 h
 have ho := fun j a => q_out (a := a) T_96 j h
 simp only [t_96, gi, gb, gs, gv, ge, List.map_cons, List.map_nil, List.getD_cons_zero, List.getD_cons_succ, L.ev_n, A.int_i] at hp ho
 exact ⟨hp, (congrArg A.bool (ho 0 _ rfl) :)⟩
theorem out_vote_Tick {e : Nat → A} {b : Nat} {a0 a1 a2 a3 a4 a5 a6 a7 a8 a9 a10 a11 a12 : L} (h : Def.holds T e ⟨b, .call 90, [a0, a1, a2, a3, a4, a5, a6, a7, a8, a9, a10, a11, a12]⟩) :
  ∀ z0, z0 = (Day.HB.mk [(a1.ev e).int, (a2.ev e).int, (a3.ev e).int, (a4.ev e).int, (a5.ev e).int, (a6.ev e).int, (a7.ev e).int, (a8.ev e).int] (a9.ev e).int (a10.ev e).int (a11.ev e).int (a12.ev e).int) → ∀ r1, r1 = Day.tickH (a0.ev e).int z0 → (e b).bool = (Day.HB.i64 z0) ∧ (e (b + 1)).int = (((r1)).a 0) ∧ (e (b + 2)).int = (((r1)).a 1) ∧ (e (b + 3)).int = (((r1)).a 2) ∧ (e (b + 4)).int = (((r1)).a 3) ∧ (e (b + 5)).int = (((r1)).a 4) ∧ (e (b + 6)).int = (((r1)).a 5) ∧ (e (b + 7)).int = (((r1)).a 6) ∧ (e (b + 8)).int = (((r1)).a 7) ∧ (e (b + 9)).int = (((r1)).port) ∧ (e (b + 10)).int = (((r1)).age) ∧ (e (b + 11)).int = (((r1)).hold) ∧ (e (b + 12)).int = (((r1)).pos) ∧ (e (b + 13)).int = (Day.argH (a0.ev e).int z0) := by
 intro z0 hz0 r1 hr1
 subst hz0 hr1
 have hp := q_pre T_90 h
 have ho := fun j a => q_out (a := a) T_90 j h
 simp only [t_90, gi, gb, gs, gv, ge, List.map_cons, List.map_nil, List.getD_cons_zero, List.getD_cons_succ, L.ev_n, A.int_i] at hp ho
 exact ⟨hp, (congrArg A.int (ho 0 _ rfl) :), (congrArg A.int (ho 1 _ rfl) :), (congrArg A.int (ho 2 _ rfl) :), (congrArg A.int (ho 3 _ rfl) :), (congrArg A.int (ho 4 _ rfl) :), (congrArg A.int (ho 5 _ rfl) :), (congrArg A.int (ho 6 _ rfl) :), (congrArg A.int (ho 7 _ rfl) :), (congrArg A.int (ho 8 _ rfl) :), (congrArg A.int (ho 9 _ rfl) :), (congrArg A.int (ho 10 _ rfl) :), (congrArg A.int (ho 11 _ rfl) :), (congrArg A.int (ho 12 _ rfl) :)⟩
theorem out_ref11_in {e : Nat → A} {b : Nat} {a0 a1 : L} (h : Def.holds T e ⟨b, .call 147, [a0, a1]⟩) :
  (e b).bool = (true) ∧ (e (b + 1)).bool = (Day.inR (a0.ev e).int (a1.ev e).int) := by
 have hp := q_pre T_147 h
 have ho := fun j a => q_out (a := a) T_147 j h
 simp only [t_147, gi, gb, gs, gv, ge, List.map_cons, List.map_nil, List.getD_cons_zero, List.getD_cons_succ, L.ev_n, A.int_i] at hp ho
 exact ⟨hp, (congrArg A.bool (ho 0 _ rfl) :)⟩
theorem out_ref11_Right {e : Nat → A} {b : Nat} {a0 a1 a2 a3 a4 a5 a6 a7 a8 a9 a10 a11 a12 : L} (h : Def.holds T e ⟨b, .call 97, [a0, a1, a2, a3, a4, a5, a6, a7, a8, a9, a10, a11, a12]⟩) :
  ∀ z0, z0 = (Day.HB.mk [(a1.ev e).int, (a2.ev e).int, (a3.ev e).int, (a4.ev e).int, (a5.ev e).int, (a6.ev e).int, (a7.ev e).int, (a8.ev e).int] (a9.ev e).int (a10.ev e).int (a11.ev e).int (a12.ev e).int) → (e b).bool = (true) ∧ (e (b + 1)).bool = (Day.rightH (a0.ev e).int z0) := by
 intro z0 hz0
 subst hz0
 have hp := q_pre T_97 h
 have ho := fun j a => q_out (a := a) T_97 j h
 simp only [t_97, gi, gb, gs, gv, ge, List.map_cons, List.map_nil, List.getD_cons_zero, List.getD_cons_succ, L.ev_n, A.int_i] at hp ho
 exact ⟨hp, (congrArg A.bool (ho 0 _ rfl) :)⟩
theorem out_ref11_Fresh {e : Nat → A} {b : Nat} {a0 : L} (h : Def.holds T e ⟨b, .call 94, [a0]⟩) :
  ∀ r0, r0 = Day.freshH (a0.ev e).int → (e b).bool = (true) ∧ (e (b + 1)).int = (((r0)).a 0) ∧ (e (b + 2)).int = (((r0)).a 1) ∧ (e (b + 3)).int = (((r0)).a 2) ∧ (e (b + 4)).int = (((r0)).a 3) ∧ (e (b + 5)).int = (((r0)).a 4) ∧ (e (b + 6)).int = (((r0)).a 5) ∧ (e (b + 7)).int = (((r0)).a 6) ∧ (e (b + 8)).int = (((r0)).a 7) ∧ (e (b + 9)).int = (((r0)).port) ∧ (e (b + 10)).int = (((r0)).age) ∧ (e (b + 11)).int = (((r0)).hold) ∧ (e (b + 12)).int = (((r0)).pos) ∧ (e (b + 13)).int = (Day.argE (a0.ev e).int) := by
 intro r0 hr0
 subst hr0
 have hp := q_pre T_94 h
 have ho := fun j a => q_out (a := a) T_94 j h
 simp only [t_94, gi, gb, gs, gv, ge, List.map_cons, List.map_nil, List.getD_cons_zero, List.getD_cons_succ, L.ev_n, A.int_i] at hp ho
 exact ⟨hp, (congrArg A.int (ho 0 _ rfl) :), (congrArg A.int (ho 1 _ rfl) :), (congrArg A.int (ho 2 _ rfl) :), (congrArg A.int (ho 3 _ rfl) :), (congrArg A.int (ho 4 _ rfl) :), (congrArg A.int (ho 5 _ rfl) :), (congrArg A.int (ho 6 _ rfl) :), (congrArg A.int (ho 7 _ rfl) :), (congrArg A.int (ho 8 _ rfl) :), (congrArg A.int (ho 9 _ rfl) :), (congrArg A.int (ho 10 _ rfl) :), (congrArg A.int (ho 11 _ rfl) :), (congrArg A.int (ho 12 _ rfl) :)⟩
theorem out_vote_counts {e : Nat → A} {b : Nat} {a0 a1 a2 a3 a4 a5 a6 a7 a8 a9 a10 a11 a12 : L} (h : Def.holds T e ⟨b, .call 144, [a0, a1, a2, a3, a4, a5, a6, a7, a8, a9, a10, a11, a12]⟩) :
  ∀ z0, z0 = (Day.HB.mk [(a1.ev e).int, (a2.ev e).int, (a3.ev e).int, (a4.ev e).int, (a5.ev e).int, (a6.ev e).int, (a7.ev e).int, (a8.ev e).int] (a9.ev e).int (a10.ev e).int (a11.ev e).int (a12.ev e).int) → (e b).bool = (Day.rightH (a0.ev e).int z0) ∧ e (b + 1) = (Day.ofIls ((Day.cntL (a0.ev e).int z0))) ∧ (e (b + 2)).int = ((((Day.cntL (a0.ev e).int z0)).length : Int)) := by
 intro z0 hz0
 subst hz0
 have hp := q_pre T_144 h
 have ho := fun j a => q_out (a := a) T_144 j h
 simp only [t_144, gi, gb, gs, gv, ge, List.map_cons, List.map_nil, List.getD_cons_zero, List.getD_cons_succ, L.ev_n, A.int_i] at hp ho
 exact ⟨hp, (ho 0 _ rfl :), (congrArg A.int (ho 1 _ rfl) :)⟩
theorem out_vote_Votes {e : Nat → A} {b : Nat} {a0 a1 a2 a3 a4 a5 a6 a7 a8 a9 a10 a11 a12 a13 : L} (h : Def.holds T e ⟨b, .call 100, [a0, a1, a2, a3, a4, a5, a6, a7, a8, a9, a10, a11, a12, a13]⟩) :
  ∀ z0, z0 = (Day.HB.mk [(a1.ev e).int, (a2.ev e).int, (a3.ev e).int, (a4.ev e).int, (a5.ev e).int, (a6.ev e).int, (a7.ev e).int, (a8.ev e).int] (a9.ev e).int (a10.ev e).int (a11.ev e).int (a12.ev e).int) → (e b).bool = (Day.HB.i64 z0) ∧ (e (b + 1)).int = (Day.votesH (a0.ev e).int z0 (a13.ev e).int) := by
 intro z0 hz0
 subst hz0
 have hp := q_pre T_100 h
 have ho := fun j a => q_out (a := a) T_100 j h
 simp only [t_100, gi, gb, gs, gv, ge, List.map_cons, List.map_nil, List.getD_cons_zero, List.getD_cons_succ, L.ev_n, A.int_i] at hp ho
 exact ⟨hp, (congrArg A.int (ho 0 _ rfl) :)⟩
theorem out_vote_Best {e : Nat → A} {b : Nat} {a0 a1 a2 a3 a4 a5 a6 a7 a8 a9 a10 a11 a12 : L} (h : Def.holds T e ⟨b, .call 91, [a0, a1, a2, a3, a4, a5, a6, a7, a8, a9, a10, a11, a12]⟩) :
  ∀ z0, z0 = (Day.HB.mk [(a1.ev e).int, (a2.ev e).int, (a3.ev e).int, (a4.ev e).int, (a5.ev e).int, (a6.ev e).int, (a7.ev e).int, (a8.ev e).int] (a9.ev e).int (a10.ev e).int (a11.ev e).int (a12.ev e).int) → (e b).bool = (Day.HB.i64 z0) ∧ (e (b + 1)).int = (Day.bestH (a0.ev e).int z0) ∧ (e (b + 2)).int = (Day.bestK (a0.ev e).int z0) := by
 intro z0 hz0
 subst hz0
 have hp := q_pre T_91 h
 have ho := fun j a => q_out (a := a) T_91 j h
 simp only [t_91, gi, gb, gs, gv, ge, List.map_cons, List.map_nil, List.getD_cons_zero, List.getD_cons_succ, L.ev_n, A.int_i] at hp ho
 exact ⟨hp, (congrArg A.int (ho 0 _ rfl) :), (congrArg A.int (ho 1 _ rfl) :)⟩
theorem out_gate_Settle {e : Nat → A} {b : Nat} {a0 a1 a2 a3 a4 a5 a6 a7 a8 a9 a10 a11 a12 : L} (h : Def.holds T e ⟨b, .call 105, [a0, a1, a2, a3, a4, a5, a6, a7, a8, a9, a10, a11, a12]⟩) :
  ∀ z0, z0 = (Day.HB.mk [(a1.ev e).int, (a2.ev e).int, (a3.ev e).int, (a4.ev e).int, (a5.ev e).int, (a6.ev e).int, (a7.ev e).int, (a8.ev e).int] (a9.ev e).int (a10.ev e).int (a11.ev e).int (a12.ev e).int) → ∀ r1, r1 = Day.settleH (a0.ev e).int z0 → (e b).bool = (Day.HB.i64 z0) ∧ (e (b + 1)).int = (((r1)).a 0) ∧ (e (b + 2)).int = (((r1)).a 1) ∧ (e (b + 3)).int = (((r1)).a 2) ∧ (e (b + 4)).int = (((r1)).a 3) ∧ (e (b + 5)).int = (((r1)).a 4) ∧ (e (b + 6)).int = (((r1)).a 5) ∧ (e (b + 7)).int = (((r1)).a 6) ∧ (e (b + 8)).int = (((r1)).a 7) ∧ (e (b + 9)).int = (((r1)).port) ∧ (e (b + 10)).int = (((r1)).age) ∧ (e (b + 11)).int = (((r1)).hold) ∧ (e (b + 12)).int = (((r1)).pos) ∧ (e (b + 13)).int = (Day.argH (a0.ev e).int z0) := by
 intro z0 hz0 r1 hr1
 subst hz0 hr1
 have hp := q_pre T_105 h
 have ho := fun j a => q_out (a := a) T_105 j h
 simp only [t_105, gi, gb, gs, gv, ge, List.map_cons, List.map_nil, List.getD_cons_zero, List.getD_cons_succ, L.ev_n, A.int_i] at hp ho
 exact ⟨hp, (congrArg A.int (ho 0 _ rfl) :), (congrArg A.int (ho 1 _ rfl) :), (congrArg A.int (ho 2 _ rfl) :), (congrArg A.int (ho 3 _ rfl) :), (congrArg A.int (ho 4 _ rfl) :), (congrArg A.int (ho 5 _ rfl) :), (congrArg A.int (ho 6 _ rfl) :), (congrArg A.int (ho 7 _ rfl) :), (congrArg A.int (ho 8 _ rfl) :), (congrArg A.int (ho 9 _ rfl) :), (congrArg A.int (ho 10 _ rfl) :), (congrArg A.int (ho 11 _ rfl) :), (congrArg A.int (ho 12 _ rfl) :)⟩
theorem out_gate_Fits {e : Nat → A} {b : Nat} {a0 a1 a2 : L} (h : Def.holds T e ⟨b, .call 110, [a0, a1, a2]⟩) :
  (e b).bool = (Day.Ls.ok (Day.Ls.mk (a1.ev e) (a2.ev e).int)) ∧ (e (b + 1)).bool = (Day.fitsR (a0.ev e).int (Day.Ls.mk (a1.ev e) (a2.ev e).int)) := by
 have hp := q_pre T_110 h
 have ho := fun j a => q_out (a := a) T_110 j h
 simp only [t_110, gi, gb, gs, gv, ge, List.map_cons, List.map_nil, List.getD_cons_zero, List.getD_cons_succ, L.ev_n, A.int_i] at hp ho
 exact ⟨hp, (congrArg A.bool (ho 0 _ rfl) :)⟩
theorem out_gate_check {e : Nat → A} {b : Nat} {a0 a1 a2 a3 a4 a5 a6 a7 a8 a9 a10 a11 a12 a13 a14 : L} (h : Def.holds T e ⟨b, .call 151, [a0, a1, a2, a3, a4, a5, a6, a7, a8, a9, a10, a11, a12, a13, a14]⟩) :
  ∀ z0, z0 = (Day.HB.mk [(a1.ev e).int, (a2.ev e).int, (a3.ev e).int, (a4.ev e).int, (a5.ev e).int, (a6.ev e).int, (a7.ev e).int, (a8.ev e).int] (a9.ev e).int (a10.ev e).int (a11.ev e).int (a12.ev e).int) → (e b).bool = (Day.HB.i64 z0 && Day.Ls.ok (Day.Ls.mk (a13.ev e) (a14.ev e).int)) ∧ (e (b + 1)).int = (Day.gateE (a0.ev e).int z0 (Day.Ls.mk (a13.ev e) (a14.ev e).int)) := by
 intro z0 hz0
 subst hz0
 have hp := q_pre T_151 h
 have ho := fun j a => q_out (a := a) T_151 j h
 simp only [t_151, gi, gb, gs, gv, ge, List.map_cons, List.map_nil, List.getD_cons_zero, List.getD_cons_succ, L.ev_n, A.int_i] at hp ho
 exact ⟨hp, (congrArg A.int (ho 0 _ rfl) :)⟩
theorem out_gate_Note {e : Nat → A} {b : Nat} {a0 a1 a2 a3 a4 a5 a6 a7 a8 a9 a10 a11 a12 a13 a14 : L} (h : Def.holds T e ⟨b, .call 106, [a0, a1, a2, a3, a4, a5, a6, a7, a8, a9, a10, a11, a12, a13, a14]⟩) :
  ∀ z0, z0 = (Day.HB.mk [(a1.ev e).int, (a2.ev e).int, (a3.ev e).int, (a4.ev e).int, (a5.ev e).int, (a6.ev e).int, (a7.ev e).int, (a8.ev e).int] (a9.ev e).int (a10.ev e).int (a11.ev e).int (a12.ev e).int) → ∀ r1, r1 = Day.noteH (a0.ev e).int z0 (Day.Ls.mk (a13.ev e) (a14.ev e).int) → (e b).bool = (Day.HB.i64 z0 && Day.Ls.ok (Day.Ls.mk (a13.ev e) (a14.ev e).int)) ∧ (e (b + 1)).int = (((r1)).a 0) ∧ (e (b + 2)).int = (((r1)).a 1) ∧ (e (b + 3)).int = (((r1)).a 2) ∧ (e (b + 4)).int = (((r1)).a 3) ∧ (e (b + 5)).int = (((r1)).a 4) ∧ (e (b + 6)).int = (((r1)).a 5) ∧ (e (b + 7)).int = (((r1)).a 6) ∧ (e (b + 8)).int = (((r1)).a 7) ∧ (e (b + 9)).int = (((r1)).port) ∧ (e (b + 10)).int = (((r1)).age) ∧ (e (b + 11)).int = (((r1)).hold) ∧ (e (b + 12)).int = (((r1)).pos) ∧ (e (b + 13)).int = (Day.gateE (a0.ev e).int z0 (Day.Ls.mk (a13.ev e) (a14.ev e).int)) := by
 intro z0 hz0 r1 hr1
 subst hz0 hr1
 have hp := q_pre T_106 h
 have ho := fun j a => q_out (a := a) T_106 j h
 simp only [t_106, gi, gb, gs, gv, ge, List.map_cons, List.map_nil, List.getD_cons_zero, List.getD_cons_succ, L.ev_n, A.int_i] at hp ho
 exact ⟨hp, (congrArg A.int (ho 0 _ rfl) :), (congrArg A.int (ho 1 _ rfl) :), (congrArg A.int (ho 2 _ rfl) :), (congrArg A.int (ho 3 _ rfl) :), (congrArg A.int (ho 4 _ rfl) :), (congrArg A.int (ho 5 _ rfl) :), (congrArg A.int (ho 6 _ rfl) :), (congrArg A.int (ho 7 _ rfl) :), (congrArg A.int (ho 8 _ rfl) :), (congrArg A.int (ho 9 _ rfl) :), (congrArg A.int (ho 10 _ rfl) :), (congrArg A.int (ho 11 _ rfl) :), (congrArg A.int (ho 12 _ rfl) :)⟩
theorem out_gate_owner {e : Nat → A} {b : Nat} {a0 a1 a2 a3 a4 a5 a6 a7 a8 a9 a10 a11 a12 a13 a14 : L} (h : Def.holds T e ⟨b, .call 153, [a0, a1, a2, a3, a4, a5, a6, a7, a8, a9, a10, a11, a12, a13, a14]⟩) :
  ∀ z0, z0 = (Day.HB.mk [(a1.ev e).int, (a2.ev e).int, (a3.ev e).int, (a4.ev e).int, (a5.ev e).int, (a6.ev e).int, (a7.ev e).int, (a8.ev e).int] (a9.ev e).int (a10.ev e).int (a11.ev e).int (a12.ev e).int) → ∀ r1, r1 = Day.ownerH (a0.ev e).int z0 (Day.Ls.mk (a13.ev e) (a14.ev e).int) → (e b).bool = (Day.rightH (a0.ev e).int z0 && Day.fitsR (a0.ev e).int (Day.Ls.mk (a13.ev e) (a14.ev e).int)) ∧ (e (b + 1)).int = (((r1)).a 0) ∧ (e (b + 2)).int = (((r1)).a 1) ∧ (e (b + 3)).int = (((r1)).a 2) ∧ (e (b + 4)).int = (((r1)).a 3) ∧ (e (b + 5)).int = (((r1)).a 4) ∧ (e (b + 6)).int = (((r1)).a 5) ∧ (e (b + 7)).int = (((r1)).a 6) ∧ (e (b + 8)).int = (((r1)).a 7) ∧ (e (b + 9)).int = (((r1)).port) ∧ (e (b + 10)).int = (((r1)).age) ∧ (e (b + 11)).int = (((r1)).hold) ∧ (e (b + 12)).int = (((r1)).pos) ∧ (e (b + 13)).int = (((Day.ownerF z0 (Day.Ls.mk (a13.ev e) (a14.ev e).int))).kind) ∧ (e (b + 14)).int = (((Day.ownerF z0 (Day.Ls.mk (a13.ev e) (a14.ev e).int))).id) := by
 intro z0 hz0 r1 hr1
 subst hz0 hr1
 have hp := q_pre T_153 h
 have ho := fun j a => q_out (a := a) T_153 j h
 simp only [t_153, gi, gb, gs, gv, ge, List.map_cons, List.map_nil, List.getD_cons_zero, List.getD_cons_succ, L.ev_n, A.int_i] at hp ho
 exact ⟨hp, (congrArg A.int (ho 0 _ rfl) :), (congrArg A.int (ho 1 _ rfl) :), (congrArg A.int (ho 2 _ rfl) :), (congrArg A.int (ho 3 _ rfl) :), (congrArg A.int (ho 4 _ rfl) :), (congrArg A.int (ho 5 _ rfl) :), (congrArg A.int (ho 6 _ rfl) :), (congrArg A.int (ho 7 _ rfl) :), (congrArg A.int (ho 8 _ rfl) :), (congrArg A.int (ho 9 _ rfl) :), (congrArg A.int (ho 10 _ rfl) :), (congrArg A.int (ho 11 _ rfl) :), (congrArg A.int (ho 12 _ rfl) :), (congrArg A.int (ho 13 _ rfl) :)⟩
theorem out_gate_first {e : Nat → A} {b : Nat} {a0 a1 a2 a3 a4 a5 a6 a7 a8 a9 a10 a11 a12 a13 a14 : L} (h : Def.holds T e ⟨b, .call 152, [a0, a1, a2, a3, a4, a5, a6, a7, a8, a9, a10, a11, a12, a13, a14]⟩) :
  ∀ z0, z0 = (Day.HB.mk [(a1.ev e).int, (a2.ev e).int, (a3.ev e).int, (a4.ev e).int, (a5.ev e).int, (a6.ev e).int, (a7.ev e).int, (a8.ev e).int] (a9.ev e).int (a10.ev e).int (a11.ev e).int (a12.ev e).int) → ∀ r1, r1 = Day.firstH (a0.ev e).int z0 (Day.Ls.mk (a13.ev e) (a14.ev e).int) → (e b).bool = (Day.rightH (a0.ev e).int z0 && Day.fitsR (a0.ev e).int (Day.Ls.mk (a13.ev e) (a14.ev e).int)) ∧ (e (b + 1)).int = (((r1)).a 0) ∧ (e (b + 2)).int = (((r1)).a 1) ∧ (e (b + 3)).int = (((r1)).a 2) ∧ (e (b + 4)).int = (((r1)).a 3) ∧ (e (b + 5)).int = (((r1)).a 4) ∧ (e (b + 6)).int = (((r1)).a 5) ∧ (e (b + 7)).int = (((r1)).a 6) ∧ (e (b + 8)).int = (((r1)).a 7) ∧ (e (b + 9)).int = (((r1)).port) ∧ (e (b + 10)).int = (((r1)).age) ∧ (e (b + 11)).int = (((r1)).hold) ∧ (e (b + 12)).int = (((r1)).pos) ∧ (e (b + 13)).int = (((Day.firstFr (a0.ev e).int z0 (Day.Ls.mk (a13.ev e) (a14.ev e).int))).kind) ∧ (e (b + 14)).int = (((Day.firstFr (a0.ev e).int z0 (Day.Ls.mk (a13.ev e) (a14.ev e).int))).id) := by
 intro z0 hz0 r1 hr1
 subst hz0 hr1
 have hp := q_pre T_152 h
 have ho := fun j a => q_out (a := a) T_152 j h
 simp only [t_152, gi, gb, gs, gv, ge, List.map_cons, List.map_nil, List.getD_cons_zero, List.getD_cons_succ, L.ev_n, A.int_i] at hp ho
 exact ⟨hp, (congrArg A.int (ho 0 _ rfl) :), (congrArg A.int (ho 1 _ rfl) :), (congrArg A.int (ho 2 _ rfl) :), (congrArg A.int (ho 3 _ rfl) :), (congrArg A.int (ho 4 _ rfl) :), (congrArg A.int (ho 5 _ rfl) :), (congrArg A.int (ho 6 _ rfl) :), (congrArg A.int (ho 7 _ rfl) :), (congrArg A.int (ho 8 _ rfl) :), (congrArg A.int (ho 9 _ rfl) :), (congrArg A.int (ho 10 _ rfl) :), (congrArg A.int (ho 11 _ rfl) :), (congrArg A.int (ho 12 _ rfl) :), (congrArg A.int (ho 13 _ rfl) :)⟩
theorem out_gate_Relay {e : Nat → A} {b : Nat} {a0 a1 a2 a3 a4 a5 a6 a7 a8 a9 a10 a11 a12 a13 a14 : L} (h : Def.holds T e ⟨b, .call 104, [a0, a1, a2, a3, a4, a5, a6, a7, a8, a9, a10, a11, a12, a13, a14]⟩) :
  ∀ z0, z0 = (Day.HB.mk [(a1.ev e).int, (a2.ev e).int, (a3.ev e).int, (a4.ev e).int, (a5.ev e).int, (a6.ev e).int, (a7.ev e).int, (a8.ev e).int] (a9.ev e).int (a10.ev e).int (a11.ev e).int (a12.ev e).int) → ∀ r1, r1 = Day.relayH (a0.ev e).int z0 (Day.Ls.mk (a13.ev e) (a14.ev e).int) → (e b).bool = (Day.HB.i64 z0 && Day.Ls.ok (Day.Ls.mk (a13.ev e) (a14.ev e).int)) ∧ (e (b + 1)).int = (((r1)).a 0) ∧ (e (b + 2)).int = (((r1)).a 1) ∧ (e (b + 3)).int = (((r1)).a 2) ∧ (e (b + 4)).int = (((r1)).a 3) ∧ (e (b + 5)).int = (((r1)).a 4) ∧ (e (b + 6)).int = (((r1)).a 5) ∧ (e (b + 7)).int = (((r1)).a 6) ∧ (e (b + 8)).int = (((r1)).a 7) ∧ (e (b + 9)).int = (((r1)).port) ∧ (e (b + 10)).int = (((r1)).age) ∧ (e (b + 11)).int = (((r1)).hold) ∧ (e (b + 12)).int = (((r1)).pos) ∧ (e (b + 13)).int = (((Day.relayF (a0.ev e).int z0 (Day.Ls.mk (a13.ev e) (a14.ev e).int))).kind) ∧ (e (b + 14)).int = (((Day.relayF (a0.ev e).int z0 (Day.Ls.mk (a13.ev e) (a14.ev e).int))).id) ∧ (e (b + 15)).int = (Day.gateE (a0.ev e).int z0 (Day.Ls.mk (a13.ev e) (a14.ev e).int)) := by
 intro z0 hz0 r1 hr1
 subst hz0 hr1
 have hp := q_pre T_104 h
 have ho := fun j a => q_out (a := a) T_104 j h
 simp only [t_104, gi, gb, gs, gv, ge, List.map_cons, List.map_nil, List.getD_cons_zero, List.getD_cons_succ, L.ev_n, A.int_i] at hp ho
 exact ⟨hp, (congrArg A.int (ho 0 _ rfl) :), (congrArg A.int (ho 1 _ rfl) :), (congrArg A.int (ho 2 _ rfl) :), (congrArg A.int (ho 3 _ rfl) :), (congrArg A.int (ho 4 _ rfl) :), (congrArg A.int (ho 5 _ rfl) :), (congrArg A.int (ho 6 _ rfl) :), (congrArg A.int (ho 7 _ rfl) :), (congrArg A.int (ho 8 _ rfl) :), (congrArg A.int (ho 9 _ rfl) :), (congrArg A.int (ho 10 _ rfl) :), (congrArg A.int (ho 11 _ rfl) :), (congrArg A.int (ho 12 _ rfl) :), (congrArg A.int (ho 13 _ rfl) :), (congrArg A.int (ho 14 _ rfl) :)⟩
theorem out_hub_Step {e : Nat → A} {b : Nat} {a0 a1 a2 a3 a4 a5 a6 a7 a8 a9 a10 a11 a12 a13 a14 : L} (h : Def.holds T e ⟨b, .call 119, [a0, a1, a2, a3, a4, a5, a6, a7, a8, a9, a10, a11, a12, a13, a14]⟩) :
  ∀ z0, z0 = (Day.HB.mk [(a1.ev e).int, (a2.ev e).int, (a3.ev e).int, (a4.ev e).int, (a5.ev e).int, (a6.ev e).int, (a7.ev e).int, (a8.ev e).int] (a9.ev e).int (a10.ev e).int (a11.ev e).int (a12.ev e).int) → ∀ r1, r1 = Day.hubH (a0.ev e).int z0 (Day.Ls.mk (a13.ev e) (a14.ev e).int) → (e b).bool = (Day.HB.i64 z0 && Day.Ls.ok (Day.Ls.mk (a13.ev e) (a14.ev e).int)) ∧ (e (b + 1)).int = (((r1)).a 0) ∧ (e (b + 2)).int = (((r1)).a 1) ∧ (e (b + 3)).int = (((r1)).a 2) ∧ (e (b + 4)).int = (((r1)).a 3) ∧ (e (b + 5)).int = (((r1)).a 4) ∧ (e (b + 6)).int = (((r1)).a 5) ∧ (e (b + 7)).int = (((r1)).a 6) ∧ (e (b + 8)).int = (((r1)).a 7) ∧ (e (b + 9)).int = (((r1)).port) ∧ (e (b + 10)).int = (((r1)).age) ∧ (e (b + 11)).int = (((r1)).hold) ∧ (e (b + 12)).int = (((r1)).pos) ∧ (e (b + 13)).int = (((Day.hubF (a0.ev e).int z0 (Day.Ls.mk (a13.ev e) (a14.ev e).int))).kind) ∧ (e (b + 14)).int = (((Day.hubF (a0.ev e).int z0 (Day.Ls.mk (a13.ev e) (a14.ev e).int))).id) ∧ (e (b + 15)).int = (Day.gateE (a0.ev e).int z0 (Day.Ls.mk (a13.ev e) (a14.ev e).int)) := by
 intro z0 hz0 r1 hr1
 subst hz0 hr1
 have hp := q_pre T_119 h
 have ho := fun j a => q_out (a := a) T_119 j h
 simp only [t_119, gi, gb, gs, gv, ge, List.map_cons, List.map_nil, List.getD_cons_zero, List.getD_cons_succ, L.ev_n, A.int_i] at hp ho
 exact ⟨hp, (congrArg A.int (ho 0 _ rfl) :), (congrArg A.int (ho 1 _ rfl) :), (congrArg A.int (ho 2 _ rfl) :), (congrArg A.int (ho 3 _ rfl) :), (congrArg A.int (ho 4 _ rfl) :), (congrArg A.int (ho 5 _ rfl) :), (congrArg A.int (ho 6 _ rfl) :), (congrArg A.int (ho 7 _ rfl) :), (congrArg A.int (ho 8 _ rfl) :), (congrArg A.int (ho 9 _ rfl) :), (congrArg A.int (ho 10 _ rfl) :), (congrArg A.int (ho 11 _ rfl) :), (congrArg A.int (ho 12 _ rfl) :), (congrArg A.int (ho 13 _ rfl) :), (congrArg A.int (ho 14 _ rfl) :)⟩
theorem out_law13_awake {e : Nat → A} {b : Nat} (h : Def.holds T e ⟨b, .call 118, []⟩) :
  (e b).bool = (true) ∧ (e (b + 1)).bool = (true) := by
 have hp := q_pre T_118 h
 have ho := fun j a => q_out (a := a) T_118 j h
 simp only [t_118, gi, gb, gs, gv, ge, List.map_cons, List.map_nil, List.getD_cons_zero, List.getD_cons_succ, L.ev_n, A.int_i] at hp ho
 exact ⟨hp, (congrArg A.bool (ho 0 _ rfl) :)⟩
theorem out_L1470 {e : Nat → A} {b : Nat} {a0 a1 a2 a3 a4 a5 a6 a7 a8 a9 a10 a11 a12 a13 a14 a15 : L} (h : Def.holds T e ⟨b, .call 1470, [a0, a1, a2, a3, a4, a5, a6, a7, a8, a9, a10, a11, a12, a13, a14, a15]⟩) :
  ∀ z0, z0 = (Day.HB.mk [(a1.ev e).int, (a2.ev e).int, (a3.ev e).int, (a4.ev e).int, (a5.ev e).int, (a6.ev e).int, (a7.ev e).int, (a8.ev e).int] (a9.ev e).int (a10.ev e).int (a11.ev e).int (a12.ev e).int) → (e b).bool = (Day.right (a0.ev e).int && Day.inR (a13.ev e).int 8) ∧ (e (b + 1)).bool = ((!Day.okF (a0.ev e).int z0 (a13.ev e).int)) ∧ (e (b + 2)).bool = (Day.okF (a0.ev e).int z0 (a13.ev e).int) := by
 intro z0 hz0
 subst hz0
 have hp := q_pre T_1470 h
 have ho := fun j a => q_out (a := a) T_1470 j h
 simp only [t_1470, gi, gb, gs, gv, ge, List.map_cons, List.map_nil, List.getD_cons_zero, List.getD_cons_succ, L.ev_n, A.int_i] at hp ho
 exact ⟨hp, (congrArg A.bool (ho 0 _ rfl) :), (congrArg A.bool (ho 1 _ rfl) :)⟩
theorem out_L1490 {e : Nat → A} {b : Nat} {a0 a1 a2 a3 a4 a5 a6 a7 a8 a9 a10 a11 a12 a13 : L} (h : Def.holds T e ⟨b, .call 1490, [a0, a1, a2, a3, a4, a5, a6, a7, a8, a9, a10, a11, a12, a13]⟩) :
  (e b).bool = (Day.loP (a0.ev e).int (a1.ev e).int) ∧ (e (b + 1)).int = (Day.fillF (a0.ev e).int (a1.ev e).int 0 (a6.ev e).int) ∧ (e (b + 2)).int = (Day.fillF (a0.ev e).int (a1.ev e).int 1 (a7.ev e).int) ∧ (e (b + 3)).int = (Day.fillF (a0.ev e).int (a1.ev e).int 2 (a8.ev e).int) ∧ (e (b + 4)).int = (Day.fillF (a0.ev e).int (a1.ev e).int 3 (a9.ev e).int) ∧ (e (b + 5)).int = (Day.fillF (a0.ev e).int (a1.ev e).int 4 (a10.ev e).int) ∧ (e (b + 6)).int = (Day.fillF (a0.ev e).int (a1.ev e).int 5 (a11.ev e).int) ∧ (e (b + 7)).int = (Day.fillF (a0.ev e).int (a1.ev e).int 6 (a12.ev e).int) ∧ (e (b + 8)).int = (Day.fillF (a0.ev e).int (a1.ev e).int 7 (a13.ev e).int) := by
 have hp := q_pre T_1490 h
 have ho := fun j a => q_out (a := a) T_1490 j h
 simp only [t_1490, gi, gb, gs, gv, ge, List.map_cons, List.map_nil, List.getD_cons_zero, List.getD_cons_succ, L.ev_n, A.int_i] at hp ho
 exact ⟨hp, (congrArg A.int (ho 0 _ rfl) :), (congrArg A.int (ho 1 _ rfl) :), (congrArg A.int (ho 2 _ rfl) :), (congrArg A.int (ho 3 _ rfl) :), (congrArg A.int (ho 4 _ rfl) :), (congrArg A.int (ho 5 _ rfl) :), (congrArg A.int (ho 6 _ rfl) :), (congrArg A.int (ho 7 _ rfl) :)⟩
theorem out_L1540 {e : Nat → A} {b : Nat} {a0 a1 a2 a3 a4 a5 a6 a7 a8 a9 a10 a11 a12 a13 a14 : L} (h : Def.holds T e ⟨b, .call 1540, [a0, a1, a2, a3, a4, a5, a6, a7, a8, a9, a10, a11, a12, a13, a14]⟩) :
  ∀ z0, z0 = (Day.HB.mk [(a1.ev e).int, (a2.ev e).int, (a3.ev e).int, (a4.ev e).int, (a5.ev e).int, (a6.ev e).int, (a7.ev e).int, (a8.ev e).int] (a9.ev e).int (a10.ev e).int (a11.ev e).int (a12.ev e).int) → (e b).bool = (Day.countsP (a0.ev e).int z0 (a13.ev e).int (a14.ev e)) ∧ e (b + 1) = (Day.ofIls (Day.cntsF (a0.ev e).int z0 (a13.ev e).int (a14.ev e))) := by
 intro z0 hz0
 subst hz0
 have hp := q_pre T_1540 h
 have ho := fun j a => q_out (a := a) T_1540 j h
 simp only [t_1540, gi, gb, gs, gv, ge, List.map_cons, List.map_nil, List.getD_cons_zero, List.getD_cons_succ, L.ev_n, A.int_i] at hp ho
 exact ⟨hp, (ho 0 _ rfl :)⟩
theorem out_L1560 {e : Nat → A} {b : Nat} {a0 a1 a2 a3 a4 a5 a6 a7 a8 a9 a10 a11 a12 a13 a14 a15 a16 a17 : L} (h : Def.holds T e ⟨b, .call 1560, [a0, a1, a2, a3, a4, a5, a6, a7, a8, a9, a10, a11, a12, a13, a14, a15, a16, a17]⟩) :
  (e b).bool = (Day.listP (a0.ev e).int (a2.ev e).int (a17.ev e)) ∧ (e (b + 1)).int = (Day.maxF (a1.ev e).int (a2.ev e).int (a17.ev e)) := by
 have hp := q_pre T_1560 h
 have ho := fun j a => q_out (a := a) T_1560 j h
 simp only [t_1560, gi, gb, gs, gv, ge, List.map_cons, List.map_nil, List.getD_cons_zero, List.getD_cons_succ, L.ev_n, A.int_i] at hp ho
 exact ⟨hp, (congrArg A.int (ho 0 _ rfl) :)⟩
theorem out_L1561 {e : Nat → A} {b : Nat} {a0 a1 a2 a3 a4 a5 a6 a7 a8 a9 a10 a11 a12 a13 a14 a15 : L} (h : Def.holds T e ⟨b, .call 1561, [a0, a1, a2, a3, a4, a5, a6, a7, a8, a9, a10, a11, a12, a13, a14, a15]⟩) :
  (e b).bool = (Day.listP (a0.ev e).int (a2.ev e).int (a15.ev e)) ∧ (e (b + 1)).int = (Day.idxF (a1.ev e).int (a2.ev e).int (a15.ev e)) ∧ (e (b + 2)).bool = (Day.hasF (a1.ev e).int (a2.ev e).int (a15.ev e)) ∧ (e (b + 3)).bool = ((!Day.hasF (a1.ev e).int (a2.ev e).int (a15.ev e))) := by
 have hp := q_pre T_1561 h
 have ho := fun j a => q_out (a := a) T_1561 j h
 simp only [t_1561, gi, gb, gs, gv, ge, List.map_cons, List.map_nil, List.getD_cons_zero, List.getD_cons_succ, L.ev_n, A.int_i] at hp ho
 exact ⟨hp, (congrArg A.int (ho 0 _ rfl) :), (congrArg A.bool (ho 1 _ rfl) :), (congrArg A.bool (ho 2 _ rfl) :)⟩
theorem out_L1630 {e : Nat → A} {b : Nat} {a0 a1 a2 a3 a4 a5 a6 : L} (h : Def.holds T e ⟨b, .call 1630, [a0, a1, a2, a3, a4, a5, a6]⟩) :
  (e b).bool = (Day.Ls.ok (Day.Ls.mk (a6.ev e) (a1.ev e).int) && Day.inR (a5.ev e).int ((Day.Ls.mk (a6.ev e) (a1.ev e).int)).n) ∧ (e (b + 1)).bool = ((!Day.allF (Day.fitB (Day.Ls.mk (a6.ev e) (a1.ev e).int)) (a5.ev e).int ((Day.Ls.mk (a6.ev e) (a1.ev e).int)).n)) ∧ (e (b + 2)).bool = (Day.allF (Day.fitB (Day.Ls.mk (a6.ev e) (a1.ev e).int)) (a5.ev e).int ((Day.Ls.mk (a6.ev e) (a1.ev e).int)).n) := by
 have hp := q_pre T_1630 h
 have ho := fun j a => q_out (a := a) T_1630 j h
 simp only [t_1630, gi, gb, gs, gv, ge, List.map_cons, List.map_nil, List.getD_cons_zero, List.getD_cons_succ, L.ev_n, A.int_i] at hp ho
 exact ⟨hp, (congrArg A.bool (ho 0 _ rfl) :), (congrArg A.bool (ho 1 _ rfl) :)⟩
theorem out_L1670 {e : Nat → A} {b : Nat} {a0 a1 a2 a3 a4 a5 a6 a7 a8 a9 a10 a11 a12 a13 a14 a15 a16 a17 a18 a19 a20 a21 a22 a23 a24 a25 : L} (h : Def.holds T e ⟨b, .call 1670, [a0, a1, a2, a3, a4, a5, a6, a7, a8, a9, a10, a11, a12, a13, a14, a15, a16, a17, a18, a19, a20, a21, a22, a23, a24, a25]⟩) :
  (e b).bool = (Day.inR (a16.ev e).int ((Day.Ls.mk (a17.ev e) (a13.ev e).int)).n && Day.inR ((Day.Ls.mk (a17.ev e) (a13.ev e).int)).n 8) ∧ (e (b + 1)).int = (Day.noteF ((Day.Ls.mk (a17.ev e) (a13.ev e).int)).n (Day.Ls.mk (a17.ev e) (a13.ev e).int) (a16.ev e).int 0 (a18.ev e).int) ∧ (e (b + 2)).int = (Day.noteF ((Day.Ls.mk (a17.ev e) (a13.ev e).int)).n (Day.Ls.mk (a17.ev e) (a13.ev e).int) (a16.ev e).int 1 (a19.ev e).int) ∧ (e (b + 3)).int = (Day.noteF ((Day.Ls.mk (a17.ev e) (a13.ev e).int)).n (Day.Ls.mk (a17.ev e) (a13.ev e).int) (a16.ev e).int 2 (a20.ev e).int) ∧ (e (b + 4)).int = (Day.noteF ((Day.Ls.mk (a17.ev e) (a13.ev e).int)).n (Day.Ls.mk (a17.ev e) (a13.ev e).int) (a16.ev e).int 3 (a21.ev e).int) ∧ (e (b + 5)).int = (Day.noteF ((Day.Ls.mk (a17.ev e) (a13.ev e).int)).n (Day.Ls.mk (a17.ev e) (a13.ev e).int) (a16.ev e).int 4 (a22.ev e).int) ∧ (e (b + 6)).int = (Day.noteF ((Day.Ls.mk (a17.ev e) (a13.ev e).int)).n (Day.Ls.mk (a17.ev e) (a13.ev e).int) (a16.ev e).int 5 (a23.ev e).int) ∧ (e (b + 7)).int = (Day.noteF ((Day.Ls.mk (a17.ev e) (a13.ev e).int)).n (Day.Ls.mk (a17.ev e) (a13.ev e).int) (a16.ev e).int 6 (a24.ev e).int) ∧ (e (b + 8)).int = (Day.noteF ((Day.Ls.mk (a17.ev e) (a13.ev e).int)).n (Day.Ls.mk (a17.ev e) (a13.ev e).int) (a16.ev e).int 7 (a25.ev e).int) := by
 have hp := q_pre T_1670 h
 have ho := fun j a => q_out (a := a) T_1670 j h
 simp only [t_1670, gi, gb, gs, gv, ge, List.map_cons, List.map_nil, List.getD_cons_zero, List.getD_cons_succ, L.ev_n, A.int_i] at hp ho
 exact ⟨hp, (congrArg A.int (ho 0 _ rfl) :), (congrArg A.int (ho 1 _ rfl) :), (congrArg A.int (ho 2 _ rfl) :), (congrArg A.int (ho 3 _ rfl) :), (congrArg A.int (ho 4 _ rfl) :), (congrArg A.int (ho 5 _ rfl) :), (congrArg A.int (ho 6 _ rfl) :), (congrArg A.int (ho 7 _ rfl) :)⟩
theorem out_L1700 {e : Nat → A} {b : Nat} {a0 a1 a2 a3 a4 a5 a6 a7 a8 a9 a10 a11 a12 a13 a14 : L} (h : Def.holds T e ⟨b, .call 1700, [a0, a1, a2, a3, a4, a5, a6, a7, a8, a9, a10, a11, a12, a13, a14]⟩) :
  (e b).bool = (Day.Ls.ok (Day.Ls.mk (a2.ev e) (a0.ev e).int) && Day.inR (a1.ev e).int ((Day.Ls.mk (a2.ev e) (a0.ev e).int)).n) ∧ (e (b + 1)).int = (Day.firstF (Day.isCs (Day.Ls.mk (a2.ev e) (a0.ev e).int)) (a1.ev e).int ((Day.Ls.mk (a2.ev e) (a0.ev e).int)).n) ∧ (e (b + 2)).bool = (Day.anyF (Day.isCs (Day.Ls.mk (a2.ev e) (a0.ev e).int)) (a1.ev e).int ((Day.Ls.mk (a2.ev e) (a0.ev e).int)).n) ∧ (e (b + 3)).bool = ((!Day.anyF (Day.isCs (Day.Ls.mk (a2.ev e) (a0.ev e).int)) (a1.ev e).int ((Day.Ls.mk (a2.ev e) (a0.ev e).int)).n)) := by
 have hp := q_pre T_1700 h
 have ho := fun j a => q_out (a := a) T_1700 j h
 simp only [t_1700, gi, gb, gs, gv, ge, List.map_cons, List.map_nil, List.getD_cons_zero, List.getD_cons_succ, L.ev_n, A.int_i] at hp ho
 exact ⟨hp, (congrArg A.int (ho 0 _ rfl) :), (congrArg A.bool (ho 1 _ rfl) :), (congrArg A.bool (ho 2 _ rfl) :)⟩
theorem out_L1701 {e : Nat → A} {b : Nat} {a0 a1 a2 a3 a4 a5 a6 a7 a8 a9 a10 a11 a12 a13 a14 a15 a16 a17 a18 a19 a20 a21 a22 a23 a24 a25 a26 : L} (h : Def.holds T e ⟨b, .call 1701, [a0, a1, a2, a3, a4, a5, a6, a7, a8, a9, a10, a11, a12, a13, a14, a15, a16, a17, a18, a19, a20, a21, a22, a23, a24, a25, a26]⟩) :
  (e b).bool = (Day.loP (a0.ev e).int (a17.ev e).int) ∧ (e (b + 1)).int = (Day.fillF (a0.ev e).int (a17.ev e).int 0 (a19.ev e).int) ∧ (e (b + 2)).int = (Day.fillF (a0.ev e).int (a17.ev e).int 1 (a20.ev e).int) ∧ (e (b + 3)).int = (Day.fillF (a0.ev e).int (a17.ev e).int 2 (a21.ev e).int) ∧ (e (b + 4)).int = (Day.fillF (a0.ev e).int (a17.ev e).int 3 (a22.ev e).int) ∧ (e (b + 5)).int = (Day.fillF (a0.ev e).int (a17.ev e).int 4 (a23.ev e).int) ∧ (e (b + 6)).int = (Day.fillF (a0.ev e).int (a17.ev e).int 5 (a24.ev e).int) ∧ (e (b + 7)).int = (Day.fillF (a0.ev e).int (a17.ev e).int 6 (a25.ev e).int) ∧ (e (b + 8)).int = (Day.fillF (a0.ev e).int (a17.ev e).int 7 (a26.ev e).int) := by
 have hp := q_pre T_1701 h
 have ho := fun j a => q_out (a := a) T_1701 j h
 simp only [t_1701, gi, gb, gs, gv, ge, List.map_cons, List.map_nil, List.getD_cons_zero, List.getD_cons_succ, L.ev_n, A.int_i] at hp ho
 exact ⟨hp, (congrArg A.int (ho 0 _ rfl) :), (congrArg A.int (ho 1 _ rfl) :), (congrArg A.int (ho 2 _ rfl) :), (congrArg A.int (ho 3 _ rfl) :), (congrArg A.int (ho 4 _ rfl) :), (congrArg A.int (ho 5 _ rfl) :), (congrArg A.int (ho 6 _ rfl) :), (congrArg A.int (ho 7 _ rfl) :)⟩
theorem out_L1870 {e : Nat → A} {b : Nat} {a0 a1 a2 a3 a4 a5 a6 a7 a8 a9 a10 a11 a12 a13 a14 a15 a16 a17 a18 a19 a20 a21 a22 a23 a24 a25 a26 a27 a28 a29 a30 a31 a32 a33 a34 a35 a36 a37 a38 : L} (h : Def.holds T e ⟨b, .call 1870, [a0, a1, a2, a3, a4, a5, a6, a7, a8, a9, a10, a11, a12, a13, a14, a15, a16, a17, a18, a19, a20, a21, a22, a23, a24, a25, a26, a27, a28, a29, a30, a31, a32, a33, a34, a35, a36, a37, a38]⟩) :
  ∀ z0, z0 = (Day.HB.mk [(a27.ev e).int, (a28.ev e).int, (a29.ev e).int, (a30.ev e).int, (a31.ev e).int, (a32.ev e).int, (a33.ev e).int, (a34.ev e).int] (a35.ev e).int (a36.ev e).int (a37.ev e).int (a38.ev e).int) → ∀ r1, r1 = (Day.holdGo (a15.ev e).int (a16.ev e) (a26.ev e) (a14.ev e).int (a17.ev e).int z0) → (e b).bool = (Day.holdP (a15.ev e).int ((a16.ev e)).int z0 && (Day.inR (a17.ev e).int (a14.ev e).int && (Day.inR ((a16.ev e)).int ((a15.ev e).int - 1) && Day.leB (a14.ev e).int 100))) ∧ (e (b + 1)).int = (((Day.noHB)).a 0) ∧ (e (b + 2)).int = (((Day.noHB)).a 1) ∧ (e (b + 3)).int = (((Day.noHB)).a 2) ∧ (e (b + 4)).int = (((Day.noHB)).a 3) ∧ (e (b + 5)).int = (((Day.noHB)).a 4) ∧ (e (b + 6)).int = (((Day.noHB)).a 5) ∧ (e (b + 7)).int = (((Day.noHB)).a 6) ∧ (e (b + 8)).int = (((Day.noHB)).a 7) ∧ (e (b + 9)).int = (((Day.noHB)).port) ∧ (e (b + 10)).int = (((Day.noHB)).age) ∧ (e (b + 11)).int = (((Day.noHB)).hold) ∧ (e (b + 12)).int = (((Day.noHB)).pos) ∧ (e (b + 13)).bool = (false) ∧ (e (b + 14)).int = (((r1)).a 0) ∧ (e (b + 15)).int = (((r1)).a 1) ∧ (e (b + 16)).int = (((r1)).a 2) ∧ (e (b + 17)).int = (((r1)).a 3) ∧ (e (b + 18)).int = (((r1)).a 4) ∧ (e (b + 19)).int = (((r1)).a 5) ∧ (e (b + 20)).int = (((r1)).a 6) ∧ (e (b + 21)).int = (((r1)).a 7) ∧ (e (b + 22)).int = (((r1)).port) ∧ (e (b + 23)).int = (((r1)).age) ∧ (e (b + 24)).int = (((r1)).hold) ∧ (e (b + 25)).int = (((r1)).pos) ∧ (e (b + 26)).bool = (true) := by
 intro z0 hz0 r1 hr1
 subst hz0 hr1
 have hp := q_pre T_1870 h
 have ho := fun j a => q_out (a := a) T_1870 j h
 simp only [t_1870, gi, gb, gs, gv, ge, List.map_cons, List.map_nil, List.getD_cons_zero, List.getD_cons_succ, L.ev_n, A.int_i] at hp ho
 exact ⟨hp, (congrArg A.int (ho 0 _ rfl) :), (congrArg A.int (ho 1 _ rfl) :), (congrArg A.int (ho 2 _ rfl) :), (congrArg A.int (ho 3 _ rfl) :), (congrArg A.int (ho 4 _ rfl) :), (congrArg A.int (ho 5 _ rfl) :), (congrArg A.int (ho 6 _ rfl) :), (congrArg A.int (ho 7 _ rfl) :), (congrArg A.int (ho 8 _ rfl) :), (congrArg A.int (ho 9 _ rfl) :), (congrArg A.int (ho 10 _ rfl) :), (congrArg A.int (ho 11 _ rfl) :), (congrArg A.bool (ho 12 _ rfl) :), (congrArg A.int (ho 13 _ rfl) :), (congrArg A.int (ho 14 _ rfl) :), (congrArg A.int (ho 15 _ rfl) :), (congrArg A.int (ho 16 _ rfl) :), (congrArg A.int (ho 17 _ rfl) :), (congrArg A.int (ho 18 _ rfl) :), (congrArg A.int (ho 19 _ rfl) :), (congrArg A.int (ho 20 _ rfl) :), (congrArg A.int (ho 21 _ rfl) :), (congrArg A.int (ho 22 _ rfl) :), (congrArg A.int (ho 23 _ rfl) :), (congrArg A.int (ho 24 _ rfl) :), (congrArg A.bool (ho 25 _ rfl) :)⟩
end Rx.S
