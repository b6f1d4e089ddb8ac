import Derived.Test.YtjipnabidebgbaaXc
import Derived.Test.YtjipnabidebgbaaXd
set_option linter.unusedVariables false
set_option linter.unusedSimpArgs false
namespace Rx.S
open Go Rx
set_option maxRecDepth 100000
set_option linter.unusedVariables false
set_option linter.unusedSimpArgs false
def t_133 (al : List A) : Bool × List A := (true, [.i (Day.clampR (gi al 0) (gi al 1) (gi al 2))])
def t_143 (al : List A) : Bool × List A := (Day.sm (gi al 1), [.i (Day.upR (gi al 0) (gi al 1))])
def t_142 (al : List A) : Bool × List A := (Day.i64 (gi al 0), [.i (Day.downR (gi al 0))])
def t_134 (al : List A) : Bool × List A := (true, [.i (Day.clampR (gi al 0) (gi al 1) (gi al 2))])
def t_148 (al : List A) : Bool × List A := (Day.sm (gi al 1), [.i (Day.upR (gi al 0) (gi al 1))])
def t_149 (al : List A) : Bool × List A := (Day.i64 (gi al 0), [.i (Day.downR (gi al 0))])
def t_33 (al : List A) : Bool × List A := (Day.modP (gi al 0) && Day.i64 (gi al 1), [.i (Day.modR (gi al 0) (gi al 1))])
def t_35 (al : List A) : Bool × List A := (Day.slotP (gi al 0) (gi al 1), [.i (Day.nextR (gi al 0) (gi al 1))])
def t_37 (al : List A) : Bool × List A := (Day.atP (gi al 0) (gi al 1) (gi al 2), [.i (Day.atR (gi al 0) (gi al 1) (gi al 2))])
def t_39 (al : List A) : Bool × List A := (Day.aheadP (gi al 0) (gi al 1) (gi al 2), [.i (Day.aheadR (gi al 0) (gi al 1) (gi al 2))])
def t_34 (al : List A) : Bool × List A := (Day.modP (gi al 0) && Day.i64 (gi al 1), [.i (Day.modR (gi al 0) (gi al 1))])
def t_36 (al : List A) : Bool × List A := (Day.slotP (gi al 0) (gi al 1), [.i (Day.nextR (gi al 0) (gi al 1))])
def t_38 (al : List A) : Bool × List A := (Day.atP (gi al 0) (gi al 1) (gi al 2), [.i (Day.atR (gi al 0) (gi al 1) (gi al 2))])
def t_40 (al : List A) : Bool × List A := (Day.aheadP (gi al 0) (gi al 1) (gi al 2), [.i (Day.aheadR (gi al 0) (gi al 1) (gi al 2))])
def t_50 (al : List A) : Bool × List A := (true, [.b (Day.right (gi al 0))])
def t_51 (al : List A) : Bool × List A := (true, [.b (Day.right (gi al 0))])
def t_130 (al : List A) : Bool × List A := (Day.timeP (gs al 0), [.i (Day.times (Day.kOf (gs al 0)) (gi al 1))])
def t_132 (al : List A) : Bool × List A := (Day.u8 (gi al 1), [.i (Day.times (gi al 1) (gi al 0))])
def t_44 (al : List A) : Bool × List A := (true, [.i (Day.times 2 (gi al 0))])
def t_52 (al : List A) : Bool × List A := (true, [.i (Day.times 2 (gi al 0))])
def t_45 (al : List A) : Bool × List A := (true, [.i (Day.times 8 (gi al 0))])
def t_53 (al : List A) : Bool × List A := (true, [.i (Day.times 8 (gi al 0))])
def t_54 (al : List A) : Bool × List A := (true, [.i (Day.times 3 (gi al 0))])
def t_55 (al : List A) : Bool × List A := (true, [.i (Day.times 3 (gi al 0))])
def t_46 (al : List A) : Bool × List A := (true, [.i (Day.times 40 (gi al 0))])
def t_56 (al : List A) : Bool × List A := (true, [.i (Day.times 40 (gi al 0))])
def t_47 (al : List A) : Bool × List A := (true, [.i (Day.times 96 (gi al 0))])
def t_57 (al : List A) : Bool × List A := (true, [.i (Day.times 96 (gi al 0))])
def t_129 (al : List A) : Bool × List A := (Day.timeP (gs al 0), [.i (Day.ownR (Day.kOf (gs al 0)) (gi al 1) (gi al 2)), .i (Day.ownE (gi al 1) (gi al 2))])
def t_131 (al : List A) : Bool × List A := (Day.u8 (gi al 2), [.i (Day.ownR (gi al 2) (gi al 0) (gi al 1)), .i (Day.ownE (gi al 0) (gi al 1))])
def t_41 (al : List A) : Bool × List A := (true, [.i (Day.ownR 4 (gi al 0) (gi al 1)), .i (Day.ownE (gi al 0) (gi al 1))])
def t_48 (al : List A) : Bool × List A := (true, [.i (Day.ownR 4 (gi al 0) (gi al 1)), .i (Day.ownE (gi al 0) (gi al 1))])
def t_42 (al : List A) : Bool × List A := (true, [.i (Day.ownR 2 (gi al 0) (gi al 1)), .i (Day.ownE (gi al 0) (gi al 1))])
def t_49 (al : List A) : Bool × List A := (true, [.i (Day.ownR 2 (gi al 0) (gi al 1)), .i (Day.ownE (gi al 0) (gi al 1))])
def t_58 (al : List A) : Bool × List A := (true, [.i (((Day.freshN (gi al 0) (gi al 1))).id), .i (((Day.freshN (gi al 0) (gi al 1))).mode), .i (((Day.freshN (gi al 0) (gi al 1))).count), .i (((Day.freshN (gi al 0) (gi al 1))).pos), .i (Day.idE (gi al 0) (gi al 1))])
def t_63 (al : List A) : Bool × List A := (Day.ND.i64 (Day.ND.mk (gi al 1) (gi al 2) (gi al 3) (gi al 4)), [.b (Day.rightN (gi al 0) (Day.ND.mk (gi al 1) (gi al 2) (gi al 3) (gi al 4)))])
def t_60 (al : List A) : Bool × List A := (Day.ND.i64 (Day.ND.mk (gi al 2) (gi al 3) (gi al 4) (gi al 5)), [.i (((Day.cleanN (gi al 0) (gi al 1) (Day.ND.mk (gi al 2) (gi al 3) (gi al 4) (gi al 5)))).id), .i (((Day.cleanN (gi al 0) (gi al 1) (Day.ND.mk (gi al 2) (gi al 3) (gi al 4) (gi al 5)))).mode), .i (((Day.cleanN (gi al 0) (gi al 1) (Day.ND.mk (gi al 2) (gi al 3) (gi al 4) (gi al 5)))).count), .i (((Day.cleanN (gi al 0) (gi al 1) (Day.ND.mk (gi al 2) (gi al 3) (gi al 4) (gi al 5)))).pos), .i (Day.idE (gi al 0) (gi al 1))])
def t_65 (al : List A) : Bool × List A := (true, [.i (((Day.wakeN (Day.ND.mk (gi al 0) (gi al 1) (gi al 2) (gi al 3)))).id), .i (((Day.wakeN (Day.ND.mk (gi al 0) (gi al 1) (gi al 2) (gi al 3)))).mode), .i (((Day.wakeN (Day.ND.mk (gi al 0) (gi al 1) (gi al 2) (gi al 3)))).count), .i (((Day.wakeN (Day.ND.mk (gi al 0) (gi al 1) (gi al 2) (gi al 3)))).pos)])
def t_59 (al : List A) : Bool × List A := (true, [.i (((Day.freshN (gi al 0) (gi al 1))).id), .i (((Day.freshN (gi al 0) (gi al 1))).mode), .i (((Day.freshN (gi al 0) (gi al 1))).count), .i (((Day.freshN (gi al 0) (gi al 1))).pos), .i (Day.idE (gi al 0) (gi al 1))])
def t_64 (al : List A) : Bool × List A := (Day.ND.i64 (Day.ND.mk (gi al 1) (gi al 2) (gi al 3) (gi al 4)), [.b (Day.rightN (gi al 0) (Day.ND.mk (gi al 1) (gi al 2) (gi al 3) (gi al 4)))])
def t_61 (al : List A) : Bool × List A := (Day.ND.i64 (Day.ND.mk (gi al 2) (gi al 3) (gi al 4) (gi al 5)), [.i (((Day.cleanN (gi al 0) (gi al 1) (Day.ND.mk (gi al 2) (gi al 3) (gi al 4) (gi al 5)))).id), .i (((Day.cleanN (gi al 0) (gi al 1) (Day.ND.mk (gi al 2) (gi al 3) (gi al 4) (gi al 5)))).mode), .i (((Day.cleanN (gi al 0) (gi al 1) (Day.ND.mk (gi al 2) (gi al 3) (gi al 4) (gi al 5)))).count), .i (((Day.cleanN (gi al 0) (gi al 1) (Day.ND.mk (gi al 2) (gi al 3) (gi al 4) (gi al 5)))).pos), .i (Day.idE (gi al 0) (gi al 1))])
def t_66 (al : List A) : Bool × List A := (true, [.i (((Day.wakeN (Day.ND.mk (gi al 0) (gi al 1) (gi al 2) (gi al 3)))).id), .i (((Day.wakeN (Day.ND.mk (gi al 0) (gi al 1) (gi al 2) (gi al 3)))).mode), .i (((Day.wakeN (Day.ND.mk (gi al 0) (gi al 1) (gi al 2) (gi al 3)))).count), .i (((Day.wakeN (Day.ND.mk (gi al 0) (gi al 1) (gi al 2) (gi al 3)))).pos)])
def t_89 (al : List A) : Bool × List A := (Day.HB.i64 (Day.HB.mk [(gi al 1), (gi al 2), (gi al 3), (gi al 4), (gi al 5), (gi al 6), (gi al 7), (gi al 8)] (gi al 9) (gi al 10) (gi al 11) (gi al 12)), [.i (((Day.cleanH (gi al 0) (Day.HB.mk [(gi al 1), (gi al 2), (gi al 3), (gi al 4), (gi al 5), (gi al 6), (gi al 7), (gi al 8)] (gi al 9) (gi al 10) (gi al 11) (gi al 12)))).a 0), .i (((Day.cleanH (gi al 0) (Day.HB.mk [(gi al 1), (gi al 2), (gi al 3), (gi al 4), (gi al 5), (gi al 6), (gi al 7), (gi al 8)] (gi al 9) (gi al 10) (gi al 11) (gi al 12)))).a 1), .i (((Day.cleanH (gi al 0) (Day.HB.mk [(gi al 1), (gi al 2), (gi al 3), (gi al 4), (gi al 5), (gi al 6), (gi al 7), (gi al 8)] (gi al 9) (gi al 10) (gi al 11) (gi al 12)))).a 2), .i (((Day.cleanH (gi al 0) (Day.HB.mk [(gi al 1), (gi al 2), (gi al 3), (gi al 4), (gi al 5), (gi al 6), (gi al 7), (gi al 8)] (gi al 9) (gi al 10) (gi al 11) (gi al 12)))).a 3), .i (((Day.cleanH (gi al 0) (Day.HB.mk [(gi al 1), (gi al 2), (gi al 3), (gi al 4), (gi al 5), (gi al 6), (gi al 7), (gi al 8)] (gi al 9) (gi al 10) (gi al 11) (gi al 12)))).a 4), .i (((Day.cleanH (gi al 0) (Day.HB.mk [(gi al 1), (gi al 2), (gi al 3), (gi al 4), (gi al 5), (gi al 6), (gi al 7), (gi al 8)] (gi al 9) (gi al 10) (gi al 11) (gi al 12)))).a 5), .i (((Day.cleanH (gi al 0) (Day.HB.mk [(gi al 1), (gi al 2), (gi al 3), (gi al 4), (gi al 5), (gi al 6), (gi al 7), (gi al 8)] (gi al 9) (gi al 10) (gi al 11) (gi al 12)))).a 6), .i (((Day.cleanH (gi al 0) (Day.HB.mk [(gi al 1), (gi al 2), (gi al 3), (gi al 4), (gi al 5), (gi al 6), (gi al 7), (gi al 8)] (gi al 9) (gi al 10) (gi al 11) (gi al 12)))).a 7), .i (((Day.cleanH (gi al 0) (Day.HB.mk [(gi al 1), (gi al 2), (gi al 3), (gi al 4), (gi al 5), (gi al 6), (gi al 7), (gi al 8)] (gi al 9) (gi al 10) (gi al 11) (gi al 12)))).port), .i (((Day.cleanH (gi al 0) (Day.HB.mk [(gi al 1), (gi al 2), (gi al 3), (gi al 4), (gi al 5), (gi al 6), (gi al 7), (gi al 8)] (gi al 9) (gi al 10) (gi al 11) (gi al 12)))).age), .i (((Day.cleanH (gi al 0) (Day.HB.mk [(gi al 1), (gi al 2), (gi al 3), (gi al 4), (gi al 5), (gi al 6), (gi al 7), (gi al 8)] (gi al 9) (gi al 10) (gi al 11) (gi al 12)))).hold), .i (((Day.cleanH (gi al 0) (Day.HB.mk [(gi al 1), (gi al 2), (gi al 3), (gi al 4), (gi al 5), (gi al 6), (gi al 7), (gi al 8)] (gi al 9) (gi al 10) (gi al 11) (gi al 12)))).pos), .i (Day.argE (gi al 0))])
def t_96 (al : List A) : Bool × List A := (Day.HB.i64 (Day.HB.mk [(gi al 1), (gi al 2), (gi al 3), (gi al 4), (gi al 5), (gi al 6), (gi al 7), (gi al 8)] (gi al 9) (gi al 10) (gi al 11) (gi al 12)), [.b (Day.rightH (gi al 0) (Day.HB.mk [(gi al 1), (gi al 2), (gi al 3), (gi al 4), (gi al 5), (gi al 6), (gi al 7), (gi al 8)] (gi al 9) (gi al 10) (gi al 11) (gi al 12)))])
def t_93 (al : List A) : Bool × List A := (true, [.i (((Day.freshH (gi al 0))).a 0), .i (((Day.freshH (gi al 0))).a 1), .i (((Day.freshH (gi al 0))).a 2), .i (((Day.freshH (gi al 0))).a 3), .i (((Day.freshH (gi al 0))).a 4), .i (((Day.freshH (gi al 0))).a 5), .i (((Day.freshH (gi al 0))).a 6), .i (((Day.freshH (gi al 0))).a 7), .i (((Day.freshH (gi al 0))).port), .i (((Day.freshH (gi al 0))).age), .i (((Day.freshH (gi al 0))).hold), .i (((Day.freshH (gi al 0))).pos), .i (Day.argE (gi al 0))])
def t_90 (al : List A) : Bool × List A := (Day.HB.i64 (Day.HB.mk [(gi al 1), (gi al 2), (gi al 3), (gi al 4), (gi al 5), (gi al 6), (gi al 7), (gi al 8)] (gi al 9) (gi al 10) (gi al 11) (gi al 12)), [.i (((Day.tickH (gi al 0) (Day.HB.mk [(gi al 1), (gi al 2), (gi al 3), (gi al 4), (gi al 5), (gi al 6), (gi al 7), (gi al 8)] (gi al 9) (gi al 10) (gi al 11) (gi al 12)))).a 0), .i (((Day.tickH (gi al 0) (Day.HB.mk [(gi al 1), (gi al 2), (gi al 3), (gi al 4), (gi al 5), (gi al 6), (gi al 7), (gi al 8)] (gi al 9) (gi al 10) (gi al 11) (gi al 12)))).a 1), .i (((Day.tickH (gi al 0) (Day.HB.mk [(gi al 1), (gi al 2), (gi al 3), (gi al 4), (gi al 5), (gi al 6), (gi al 7), (gi al 8)] (gi al 9) (gi al 10) (gi al 11) (gi al 12)))).a 2), .i (((Day.tickH (gi al 0) (Day.HB.mk [(gi al 1), (gi al 2), (gi al 3), (gi al 4), (gi al 5), (gi al 6), (gi al 7), (gi al 8)] (gi al 9) (gi al 10) (gi al 11) (gi al 12)))).a 3), .i (((Day.tickH (gi al 0) (Day.HB.mk [(gi al 1), (gi al 2), (gi al 3), (gi al 4), (gi al 5), (gi al 6), (gi al 7), (gi al 8)] (gi al 9) (gi al 10) (gi al 11) (gi al 12)))).a 4), .i (((Day.tickH (gi al 0) (Day.HB.mk [(gi al 1), (gi al 2), (gi al 3), (gi al 4), (gi al 5), (gi al 6), (gi al 7), (gi al 8)] (gi al 9) (gi al 10) (gi al 11) (gi al 12)))).a 5), .i (((Day.tickH (gi al 0) (Day.HB.mk [(gi al 1), (gi al 2), (gi al 3), (gi al 4), (gi al 5), (gi al 6), (gi al 7), (gi al 8)] (gi al 9) (gi al 10) (gi al 11) (gi al 12)))).a 6), .i (((Day.tickH (gi al 0) (Day.HB.mk [(gi al 1), (gi al 2), (gi al 3), (gi al 4), (gi al 5), (gi al 6), (gi al 7), (gi al 8)] (gi al 9) (gi al 10) (gi al 11) (gi al 12)))).a 7), .i (((Day.tickH (gi al 0) (Day.HB.mk [(gi al 1), (gi al 2), (gi al 3), (gi al 4), (gi al 5), (gi al 6), (gi al 7), (gi al 8)] (gi al 9) (gi al 10) (gi al 11) (gi al 12)))).port), .i (((Day.tickH (gi al 0) (Day.HB.mk [(gi al 1), (gi al 2), (gi al 3), (gi al 4), (gi al 5), (gi al 6), (gi al 7), (gi al 8)] (gi al 9) (gi al 10) (gi al 11) (gi al 12)))).age), .i (((Day.tickH (gi al 0) (Day.HB.mk [(gi al 1), (gi al 2), (gi al 3), (gi al 4), (gi al 5), (gi al 6), (gi al 7), (gi al 8)] (gi al 9) (gi al 10) (gi al 11) (gi al 12)))).hold), .i (((Day.tickH (gi al 0) (Day.HB.mk [(gi al 1), (gi al 2), (gi al 3), (gi al 4), (gi al 5), (gi al 6), (gi al 7), (gi al 8)] (gi al 9) (gi al 10) (gi al 11) (gi al 12)))).pos), .i (Day.argH (gi al 0) (Day.HB.mk [(gi al 1), (gi al 2), (gi al 3), (gi al 4), (gi al 5), (gi al 6), (gi al 7), (gi al 8)] (gi al 9) (gi al 10) (gi al 11) (gi al 12)))])
def t_147 (al : List A) : Bool × List A := (true, [.b (Day.inR (gi al 0) (gi al 1))])
def t_97 (al : List A) : Bool × List A := (true, [.b (Day.rightH (gi al 0) (Day.HB.mk [(gi al 1), (gi al 2), (gi al 3), (gi al 4), (gi al 5), (gi al 6), (gi al 7), (gi al 8)] (gi al 9) (gi al 10) (gi al 11) (gi al 12)))])
def t_95 (al : List A) : Bool × List A := (Day.HB.i64 (Day.HB.mk [(gi al 1), (gi al 2), (gi al 3), (gi al 4), (gi al 5), (gi al 6), (gi al 7), (gi al 8)] (gi al 9) (gi al 10) (gi al 11) (gi al 12)), [.i (((Day.cleanH (gi al 0) (Day.HB.mk [(gi al 1), (gi al 2), (gi al 3), (gi al 4), (gi al 5), (gi al 6), (gi al 7), (gi al 8)] (gi al 9) (gi al 10) (gi al 11) (gi al 12)))).a 0), .i (((Day.cleanH (gi al 0) (Day.HB.mk [(gi al 1), (gi al 2), (gi al 3), (gi al 4), (gi al 5), (gi al 6), (gi al 7), (gi al 8)] (gi al 9) (gi al 10) (gi al 11) (gi al 12)))).a 1), .i (((Day.cleanH (gi al 0) (Day.HB.mk [(gi al 1), (gi al 2), (gi al 3), (gi al 4), (gi al 5), (gi al 6), (gi al 7), (gi al 8)] (gi al 9) (gi al 10) (gi al 11) (gi al 12)))).a 2), .i (((Day.cleanH (gi al 0) (Day.HB.mk [(gi al 1), (gi al 2), (gi al 3), (gi al 4), (gi al 5), (gi al 6), (gi al 7), (gi al 8)] (gi al 9) (gi al 10) (gi al 11) (gi al 12)))).a 3), .i (((Day.cleanH (gi al 0) (Day.HB.mk [(gi al 1), (gi al 2), (gi al 3), (gi al 4), (gi al 5), (gi al 6), (gi al 7), (gi al 8)] (gi al 9) (gi al 10) (gi al 11) (gi al 12)))).a 4), .i (((Day.cleanH (gi al 0) (Day.HB.mk [(gi al 1), (gi al 2), (gi al 3), (gi al 4), (gi al 5), (gi al 6), (gi al 7), (gi al 8)] (gi al 9) (gi al 10) (gi al 11) (gi al 12)))).a 5), .i (((Day.cleanH (gi al 0) (Day.HB.mk [(gi al 1), (gi al 2), (gi al 3), (gi al 4), (gi al 5), (gi al 6), (gi al 7), (gi al 8)] (gi al 9) (gi al 10) (gi al 11) (gi al 12)))).a 6), .i (((Day.cleanH (gi al 0) (Day.HB.mk [(gi al 1), (gi al 2), (gi al 3), (gi al 4), (gi al 5), (gi al 6), (gi al 7), (gi al 8)] (gi al 9) (gi al 10) (gi al 11) (gi al 12)))).a 7), .i (((Day.cleanH (gi al 0) (Day.HB.mk [(gi al 1), (gi al 2), (gi al 3), (gi al 4), (gi al 5), (gi al 6), (gi al 7), (gi al 8)] (gi al 9) (gi al 10) (gi al 11) (gi al 12)))).port), .i (((Day.cleanH (gi al 0) (Day.HB.mk [(gi al 1), (gi al 2), (gi al 3), (gi al 4), (gi al 5), (gi al 6), (gi al 7), (gi al 8)] (gi al 9) (gi al 10) (gi al 11) (gi al 12)))).age), .i (((Day.cleanH (gi al 0) (Day.HB.mk [(gi al 1), (gi al 2), (gi al 3), (gi al 4), (gi al 5), (gi al 6), (gi al 7), (gi al 8)] (gi al 9) (gi al 10) (gi al 11) (gi al 12)))).hold), .i (((Day.cleanH (gi al 0) (Day.HB.mk [(gi al 1), (gi al 2), (gi al 3), (gi al 4), (gi al 5), (gi al 6), (gi al 7), (gi al 8)] (gi al 9) (gi al 10) (gi al 11) (gi al 12)))).pos), .i (Day.argE (gi al 0))])
def t_94 (al : List A) : Bool × List A := (true, [.i (((Day.freshH (gi al 0))).a 0), .i (((Day.freshH (gi al 0))).a 1), .i (((Day.freshH (gi al 0))).a 2), .i (((Day.freshH (gi al 0))).a 3), .i (((Day.freshH (gi al 0))).a 4), .i (((Day.freshH (gi al 0))).a 5), .i (((Day.freshH (gi al 0))).a 6), .i (((Day.freshH (gi al 0))).a 7), .i (((Day.freshH (gi al 0))).port), .i (((Day.freshH (gi al 0))).age), .i (((Day.freshH (gi al 0))).hold), .i (((Day.freshH (gi al 0))).pos), .i (Day.argE (gi al 0))])
def t_98 (al : List A) : Bool × List A := (Day.HB.i64 (Day.HB.mk [(gi al 1), (gi al 2), (gi al 3), (gi al 4), (gi al 5), (gi al 6), (gi al 7), (gi al 8)] (gi al 9) (gi al 10) (gi al 11) (gi al 12)), [.i (((Day.tickH (gi al 0) (Day.HB.mk [(gi al 1), (gi al 2), (gi al 3), (gi al 4), (gi al 5), (gi al 6), (gi al 7), (gi al 8)] (gi al 9) (gi al 10) (gi al 11) (gi al 12)))).a 0), .i (((Day.tickH (gi al 0) (Day.HB.mk [(gi al 1), (gi al 2), (gi al 3), (gi al 4), (gi al 5), (gi al 6), (gi al 7), (gi al 8)] (gi al 9) (gi al 10) (gi al 11) (gi al 12)))).a 1), .i (((Day.tickH (gi al 0) (Day.HB.mk [(gi al 1), (gi al 2), (gi al 3), (gi al 4), (gi al 5), (gi al 6), (gi al 7), (gi al 8)] (gi al 9) (gi al 10) (gi al 11) (gi al 12)))).a 2), .i (((Day.tickH (gi al 0) (Day.HB.mk [(gi al 1), (gi al 2), (gi al 3), (gi al 4), (gi al 5), (gi al 6), (gi al 7), (gi al 8)] (gi al 9) (gi al 10) (gi al 11) (gi al 12)))).a 3), .i (((Day.tickH (gi al 0) (Day.HB.mk [(gi al 1), (gi al 2), (gi al 3), (gi al 4), (gi al 5), (gi al 6), (gi al 7), (gi al 8)] (gi al 9) (gi al 10) (gi al 11) (gi al 12)))).a 4), .i (((Day.tickH (gi al 0) (Day.HB.mk [(gi al 1), (gi al 2), (gi al 3), (gi al 4), (gi al 5), (gi al 6), (gi al 7), (gi al 8)] (gi al 9) (gi al 10) (gi al 11) (gi al 12)))).a 5), .i (((Day.tickH (gi al 0) (Day.HB.mk [(gi al 1), (gi al 2), (gi al 3), (gi al 4), (gi al 5), (gi al 6), (gi al 7), (gi al 8)] (gi al 9) (gi al 10) (gi al 11) (gi al 12)))).a 6), .i (((Day.tickH (gi al 0) (Day.HB.mk [(gi al 1), (gi al 2), (gi al 3), (gi al 4), (gi al 5), (gi al 6), (gi al 7), (gi al 8)] (gi al 9) (gi al 10) (gi al 11) (gi al 12)))).a 7), .i (((Day.tickH (gi al 0) (Day.HB.mk [(gi al 1), (gi al 2), (gi al 3), (gi al 4), (gi al 5), (gi al 6), (gi al 7), (gi al 8)] (gi al 9) (gi al 10) (gi al 11) (gi al 12)))).port), .i (((Day.tickH (gi al 0) (Day.HB.mk [(gi al 1), (gi al 2), (gi al 3), (gi al 4), (gi al 5), (gi al 6), (gi al 7), (gi al 8)] (gi al 9) (gi al 10) (gi al 11) (gi al 12)))).age), .i (((Day.tickH (gi al 0) (Day.HB.mk [(gi al 1), (gi al 2), (gi al 3), (gi al 4), (gi al 5), (gi al 6), (gi al 7), (gi al 8)] (gi al 9) (gi al 10) (gi al 11) (gi al 12)))).hold), .i (((Day.tickH (gi al 0) (Day.HB.mk [(gi al 1), (gi al 2), (gi al 3), (gi al 4), (gi al 5), (gi al 6), (gi al 7), (gi al 8)] (gi al 9) (gi al 10) (gi al 11) (gi al 12)))).pos), .i (Day.argH (gi al 0) (Day.HB.mk [(gi al 1), (gi al 2), (gi al 3), (gi al 4), (gi al 5), (gi al 6), (gi al 7), (gi al 8)] (gi al 9) (gi al 10) (gi al 11) (gi al 12)))])
def t_150 (al : List A) : Bool × List A := (Day.rightH (gi al 0) (Day.HB.mk [(gi al 1), (gi al 2), (gi al 3), (gi al 4), (gi al 5), (gi al 6), (gi al 7), (gi al 8)] (gi al 9) (gi al 10) (gi al 11) (gi al 12)) && Day.ltR (gi al 13) (gi al 0), [.b (Day.voteB (gi al 0) (Day.HB.mk [(gi al 1), (gi al 2), (gi al 3), (gi al 4), (gi al 5), (gi al 6), (gi al 7), (gi al 8)] (gi al 9) (gi al 10) (gi al 11) (gi al 12)) ((gi al 13)).toNat (gi al 14))])
def t_101 (al : List A) : Bool × List A := (true, [.i (Day.votesH (gi al 0) (Day.HB.mk [(gi al 1), (gi al 2), (gi al 3), (gi al 4), (gi al 5), (gi al 6), (gi al 7), (gi al 8)] (gi al 9) (gi al 10) (gi al 11) (gi al 12)) (gi al 13))])
def t_99 (al : List A) : Bool × List A := (true, [.i (Day.bestH (gi al 0) (Day.HB.mk [(gi al 1), (gi al 2), (gi al 3), (gi al 4), (gi al 5), (gi al 6), (gi al 7), (gi al 8)] (gi al 9) (gi al 10) (gi al 11) (gi al 12))), .i (Day.bestK (gi al 0) (Day.HB.mk [(gi al 1), (gi al 2), (gi al 3), (gi al 4), (gi al 5), (gi al 6), (gi al 7), (gi al 8)] (gi al 9) (gi al 10) (gi al 11) (gi al 12)))])
def t_144 (al : List A) : Bool × List A := (Day.rightH (gi al 0) (Day.HB.mk [(gi al 1), (gi al 2), (gi al 3), (gi al 4), (gi al 5), (gi al 6), (gi al 7), (gi al 8)] (gi al 9) (gi al 10) (gi al 11) (gi al 12)), [Day.ofIls ((Day.cntL (gi al 0) (Day.HB.mk [(gi al 1), (gi al 2), (gi al 3), (gi al 4), (gi al 5), (gi al 6), (gi al 7), (gi al 8)] (gi al 9) (gi al 10) (gi al 11) (gi al 12)))), .i ((((Day.cntL (gi al 0) (Day.HB.mk [(gi al 1), (gi al 2), (gi al 3), (gi al 4), (gi al 5), (gi al 6), (gi al 7), (gi al 8)] (gi al 9) (gi al 10) (gi al 11) (gi al 12)))).length : Int))])
def t_100 (al : List A) : Bool × List A := (Day.HB.i64 (Day.HB.mk [(gi al 1), (gi al 2), (gi al 3), (gi al 4), (gi al 5), (gi al 6), (gi al 7), (gi al 8)] (gi al 9) (gi al 10) (gi al 11) (gi al 12)), [.i (Day.votesH (gi al 0) (Day.HB.mk [(gi al 1), (gi al 2), (gi al 3), (gi al 4), (gi al 5), (gi al 6), (gi al 7), (gi al 8)] (gi al 9) (gi al 10) (gi al 11) (gi al 12)) (gi al 13))])
def t_91 (al : List A) : Bool × List A := (Day.HB.i64 (Day.HB.mk [(gi al 1), (gi al 2), (gi al 3), (gi al 4), (gi al 5), (gi al 6), (gi al 7), (gi al 8)] (gi al 9) (gi al 10) (gi al 11) (gi al 12)), [.i (Day.bestH (gi al 0) (Day.HB.mk [(gi al 1), (gi al 2), (gi al 3), (gi al 4), (gi al 5), (gi al 6), (gi al 7), (gi al 8)] (gi al 9) (gi al 10) (gi al 11) (gi al 12))), .i (Day.bestK (gi al 0) (Day.HB.mk [(gi al 1), (gi al 2), (gi al 3), (gi al 4), (gi al 5), (gi al 6), (gi al 7), (gi al 8)] (gi al 9) (gi al 10) (gi al 11) (gi al 12)))])
def t_92 (al : List A) : Bool × List A := (true, [.b (true)])
def t_15 (al : List A) : Bool × List A := (Day.i64 (gi al 0) && Day.i64 (gi al 1) && Day.HB.i64 (Day.HB.mk [(gi al 2), (gi al 3), (gi al 4), (gi al 5), (gi al 6), (gi al 7), (gi al 8), (gi al 9)] (gi al 10) (gi al 11) (gi al 12) (gi al 13)), [.b (true)])
def t_14 (al : List A) : Bool × List A := (Day.u8 (gi al 0) && Day.HB.i64 (Day.HB.mk [(gi al 1), (gi al 2), (gi al 3), (gi al 4), (gi al 5), (gi al 6), (gi al 7), (gi al 8)] (gi al 9) (gi al 10) (gi al 11) (gi al 12)), [.b (true)])
def t_16 (al : List A) : Bool × List A := (Day.u8 (gi al 0) && Day.HB.i64 (Day.HB.mk [(gi al 1), (gi al 2), (gi al 3), (gi al 4), (gi al 5), (gi al 6), (gi al 7), (gi al 8)] (gi al 9) (gi al 10) (gi al 11) (gi al 12)), [.b (true)])
def t_1490 (al : List A) : Bool × List A := (Day.loP (gi al 0) (gi al 1), [.i (Day.fillF (gi al 0) (gi al 1) 0 (gi al 6)), .i (Day.fillF (gi al 0) (gi al 1) 1 (gi al 7)), .i (Day.fillF (gi al 0) (gi al 1) 2 (gi al 8)), .i (Day.fillF (gi al 0) (gi al 1) 3 (gi al 9)), .i (Day.fillF (gi al 0) (gi al 1) 4 (gi al 10)), .i (Day.fillF (gi al 0) (gi al 1) 5 (gi al 11)), .i (Day.fillF (gi al 0) (gi al 1) 6 (gi al 12)), .i (Day.fillF (gi al 0) (gi al 1) 7 (gi al 13))])
def t_1500 (al : List A) : Bool × List A := (Day.loP (gi al 0) (gi al 13), [.i (Day.upF (gi al 0) (gi al 13) 0 (gi al 16)), .i (Day.upF (gi al 0) (gi al 13) 1 (gi al 17)), .i (Day.upF (gi al 0) (gi al 13) 2 (gi al 18)), .i (Day.upF (gi al 0) (gi al 13) 3 (gi al 19)), .i (Day.upF (gi al 0) (gi al 13) 4 (gi al 20)), .i (Day.upF (gi al 0) (gi al 13) 5 (gi al 21)), .i (Day.upF (gi al 0) (gi al 13) 6 (gi al 22)), .i (Day.upF (gi al 0) (gi al 13) 7 (gi al 23))])
def t_1520 (al : List A) : Bool × List A := (Day.votesP (gi al 0) (Day.HB.mk [(gi al 1), (gi al 2), (gi al 3), (gi al 4), (gi al 5), (gi al 6), (gi al 7), (gi al 8)] (gi al 9) (gi al 10) (gi al 11) (gi al 12)) (gi al 15) (gi al 14), [.i (Day.votesF (gi al 0) (Day.HB.mk [(gi al 1), (gi al 2), (gi al 3), (gi al 4), (gi al 5), (gi al 6), (gi al 7), (gi al 8)] (gi al 9) (gi al 10) (gi al 11) (gi al 12)) (gi al 13) (gi al 15) (gi al 14))])
def t_1530 (al : List A) : Bool × List A := (Day.bestP (gi al 0) (Day.HB.mk [(gi al 1), (gi al 2), (gi al 3), (gi al 4), (gi al 5), (gi al 6), (gi al 7), (gi al 8)] (gi al 9) (gi al 10) (gi al 11) (gi al 12)) (gi al 14), [.i (Day.bestU (gi al 0) (Day.HB.mk [(gi al 1), (gi al 2), (gi al 3), (gi al 4), (gi al 5), (gi al 6), (gi al 7), (gi al 8)] (gi al 9) (gi al 10) (gi al 11) (gi al 12)) (gi al 14) (gi al 13))])
def t_1540 (al : List A) : Bool × List A := (Day.countsP (gi al 0) (Day.HB.mk [(gi al 1), (gi al 2), (gi al 3), (gi al 4), (gi al 5), (gi al 6), (gi al 7), (gi al 8)] (gi al 9) (gi al 10) (gi al 11) (gi al 12)) (gi al 13) (ge al 14), [Day.ofIls (Day.cntsF (gi al 0) (Day.HB.mk [(gi al 1), (gi al 2), (gi al 3), (gi al 4), (gi al 5), (gi al 6), (gi al 7), (gi al 8)] (gi al 9) (gi al 10) (gi al 11) (gi al 12)) (gi al 13) (ge al 14))])
def t_1560 (al : List A) : Bool × List A := (Day.listP (gi al 0) (gi al 2) (ge al 17), [.i (Day.maxF (gi al 1) (gi al 2) (ge al 17))])
def t_1561 (al : List A) : Bool × List A := (Day.listP (gi al 0) (gi al 2) (ge al 15), [.i (Day.idxF (gi al 1) (gi al 2) (ge al 15)), .b (Day.hasF (gi al 1) (gi al 2) (ge al 15)), .b ((!Day.hasF (gi al 1) (gi al 2) (ge al 15)))])
def t_1590 (al : List A) : Bool × List A := (Day.endsP (gi al 13) (gi al 14) (gi al 16) (Day.HB.mk [(gi al 32), (gi al 33), (gi al 34), (gi al 35), (gi al 36), (gi al 37), (gi al 38), (gi al 39)] (gi al 40) (gi al 41) (gi al 42) (gi al 43)), [.i (0), .i (0), .i (0), .i (0), .i (0), .i (0), .i (0), .i (0), .i (0), .i (0), .i (0), .i (0), .i (0), .b (false), .i (0), .i (((Day.tickN (gi al 13) (Day.HB.mk [(gi al 32), (gi al 33), (gi al 34), (gi al 35), (gi al 36), (gi al 37), (gi al 38), (gi al 39)] (gi al 40) (gi al 41) (gi al 42) (gi al 43)) (2 * (gi al 13) - (gi al 16)).toNat)).a 0), .i (((Day.tickN (gi al 13) (Day.HB.mk [(gi al 32), (gi al 33), (gi al 34), (gi al 35), (gi al 36), (gi al 37), (gi al 38), (gi al 39)] (gi al 40) (gi al 41) (gi al 42) (gi al 43)) (2 * (gi al 13) - (gi al 16)).toNat)).a 1), .i (((Day.tickN (gi al 13) (Day.HB.mk [(gi al 32), (gi al 33), (gi al 34), (gi al 35), (gi al 36), (gi al 37), (gi al 38), (gi al 39)] (gi al 40) (gi al 41) (gi al 42) (gi al 43)) (2 * (gi al 13) - (gi al 16)).toNat)).a 2), .i (((Day.tickN (gi al 13) (Day.HB.mk [(gi al 32), (gi al 33), (gi al 34), (gi al 35), (gi al 36), (gi al 37), (gi al 38), (gi al 39)] (gi al 40) (gi al 41) (gi al 42) (gi al 43)) (2 * (gi al 13) - (gi al 16)).toNat)).a 3), .i (((Day.tickN (gi al 13) (Day.HB.mk [(gi al 32), (gi al 33), (gi al 34), (gi al 35), (gi al 36), (gi al 37), (gi al 38), (gi al 39)] (gi al 40) (gi al 41) (gi al 42) (gi al 43)) (2 * (gi al 13) - (gi al 16)).toNat)).a 4), .i (((Day.tickN (gi al 13) (Day.HB.mk [(gi al 32), (gi al 33), (gi al 34), (gi al 35), (gi al 36), (gi al 37), (gi al 38), (gi al 39)] (gi al 40) (gi al 41) (gi al 42) (gi al 43)) (2 * (gi al 13) - (gi al 16)).toNat)).a 5), .i (((Day.tickN (gi al 13) (Day.HB.mk [(gi al 32), (gi al 33), (gi al 34), (gi al 35), (gi al 36), (gi al 37), (gi al 38), (gi al 39)] (gi al 40) (gi al 41) (gi al 42) (gi al 43)) (2 * (gi al 13) - (gi al 16)).toNat)).a 6), .i (((Day.tickN (gi al 13) (Day.HB.mk [(gi al 32), (gi al 33), (gi al 34), (gi al 35), (gi al 36), (gi al 37), (gi al 38), (gi al 39)] (gi al 40) (gi al 41) (gi al 42) (gi al 43)) (2 * (gi al 13) - (gi al 16)).toNat)).a 7), .i (((Day.tickN (gi al 13) (Day.HB.mk [(gi al 32), (gi al 33), (gi al 34), (gi al 35), (gi al 36), (gi al 37), (gi al 38), (gi al 39)] (gi al 40) (gi al 41) (gi al 42) (gi al 43)) (2 * (gi al 13) - (gi al 16)).toNat)).port), .i (((Day.tickN (gi al 13) (Day.HB.mk [(gi al 32), (gi al 33), (gi al 34), (gi al 35), (gi al 36), (gi al 37), (gi al 38), (gi al 39)] (gi al 40) (gi al 41) (gi al 42) (gi al 43)) (2 * (gi al 13) - (gi al 16)).toNat)).age), .i (((Day.tickN (gi al 13) (Day.HB.mk [(gi al 32), (gi al 33), (gi al 34), (gi al 35), (gi al 36), (gi al 37), (gi al 38), (gi al 39)] (gi al 40) (gi al 41) (gi al 42) (gi al 43)) (2 * (gi al 13) - (gi al 16)).toNat)).hold), .i (((Day.tickN (gi al 13) (Day.HB.mk [(gi al 32), (gi al 33), (gi al 34), (gi al 35), (gi al 36), (gi al 37), (gi al 38), (gi al 39)] (gi al 40) (gi al 41) (gi al 42) (gi al 43)) (2 * (gi al 13) - (gi al 16)).toNat)).pos), .b (true)])
def t_1600 (al : List A) : Bool × List A := (Day.fewP (gi al 13) (Day.HB.mk [(gi al 20), (gi al 21), (gi al 22), (gi al 23), (gi al 24), (gi al 25), (gi al 26), (gi al 27)] (gi al 28) (gi al 29) (gi al 30) (gi al 31)) (Day.HB.mk [(gi al 32), (gi al 33), (gi al 34), (gi al 35), (gi al 36), (gi al 37), (gi al 38), (gi al 39)] (gi al 40) (gi al 41) (gi al 42) (gi al 43)) (gi al 17) (gi al 16), [.i (0), .b (false), .i ((gi al 16) + Day.sumF (gi al 13) (Day.HB.mk [(gi al 20), (gi al 21), (gi al 22), (gi al 23), (gi al 24), (gi al 25), (gi al 26), (gi al 27)] (gi al 28) (gi al 29) (gi al 30) (gi al 31)) (gi al 17)), .b (true)])
def table : List (Nat × (List A → Bool × List A)) := [(133, t_133), (143, t_143), (142, t_142), (134, t_134), (148, t_148), (149, t_149), (33, t_33), (35, t_35), (37, t_37), (39, t_39), (34, t_34), (36, t_36), (38, t_38), (40, t_40), (50, t_50), (51, t_51), (130, t_130), (132, t_132), (44, t_44), (52, t_52), (45, t_45), (53, t_53), (54, t_54), (55, t_55), (46, t_46), (56, t_56), (47, t_47), (57, t_57), (129, t_129), (131, t_131), (41, t_41), (48, t_48), (42, t_42), (49, t_49), (58, t_58), (63, t_63), (60, t_60), (65, t_65), (59, t_59), (64, t_64), (61, t_61), (66, t_66), (89, t_89), (96, t_96), (93, t_93), (90, t_90), (147, t_147), (97, t_97), (95, t_95), (94, t_94), (98, t_98), (150, t_150), (101, t_101), (99, t_99), (144, t_144), (100, t_100), (91, t_91), (92, t_92), (15, t_15), (14, t_14), (16, t_16), (1490, t_1490), (1500, t_1500), (1520, t_1520), (1530, t_1530), (1540, t_1540), (1560, t_1560), (1561, t_1561), (1590, t_1590), (1600, t_1600)]
def T : Nat → List A → Bool × List A := tab table
theorem T_133 : T 133 = t_133 := rfl
theorem T_143 : T 143 = t_143 := rfl
theorem T_142 : T 142 = t_142 := rfl
theorem T_134 : T 134 = t_134 := rfl
theorem T_148 : T 148 = t_148 := rfl
theorem T_149 : T 149 = t_149 := rfl
theorem T_33 : T 33 = t_33 := rfl
theorem T_35 : T 35 = t_35 := rfl
theorem T_37 : T 37 = t_37 := rfl
theorem T_39 : T 39 = t_39 := rfl
theorem T_34 : T 34 = t_34 := rfl
theorem T_36 : T 36 = t_36 := rfl
theorem T_38 : T 38 = t_38 := rfl
theorem T_40 : T 40 = t_40 := rfl
theorem T_50 : T 50 = t_50 := rfl
theorem T_51 : T 51 = t_51 := rfl
theorem T_130 : T 130 = t_130 := rfl
theorem T_132 : T 132 = t_132 := rfl
theorem T_44 : T 44 = t_44 := rfl
theorem T_52 : T 52 = t_52 := rfl
theorem T_45 : T 45 = t_45 := rfl
theorem T_53 : T 53 = t_53 := rfl
theorem T_54 : T 54 = t_54 := rfl
theorem T_55 : T 55 = t_55 := rfl
theorem T_46 : T 46 = t_46 := rfl
theorem T_56 : T 56 = t_56 := rfl
theorem T_47 : T 47 = t_47 := rfl
theorem T_57 : T 57 = t_57 := rfl
theorem T_129 : T 129 = t_129 := rfl
theorem T_131 : T 131 = t_131 := rfl
theorem T_41 : T 41 = t_41 := rfl
theorem T_48 : T 48 = t_48 := rfl
theorem T_42 : T 42 = t_42 := rfl
theorem T_49 : T 49 = t_49 := rfl
theorem T_58 : T 58 = t_58 := rfl
theorem T_63 : T 63 = t_63 := rfl
theorem T_60 : T 60 = t_60 := rfl
theorem T_65 : T 65 = t_65 := rfl
theorem T_59 : T 59 = t_59 := rfl
theorem T_64 : T 64 = t_64 := rfl
theorem T_61 : T 61 = t_61 := rfl
theorem T_66 : T 66 = t_66 := rfl
theorem T_89 : T 89 = t_89 := rfl
theorem T_96 : T 96 = t_96 := rfl
theorem T_93 : T 93 = t_93 := rfl
theorem T_90 : T 90 = t_90 := rfl
theorem T_147 : T 147 = t_147 := rfl
theorem T_97 : T 97 = t_97 := rfl
theorem T_95 : T 95 = t_95 := rfl
theorem T_94 : T 94 = t_94 := rfl
theorem T_98 : T 98 = t_98 := rfl
theorem T_150 : T 150 = t_150 := rfl
theorem T_101 : T 101 = t_101 := rfl
theorem T_99 : T 99 = t_99 := rfl
theorem T_144 : T 144 = t_144 := rfl
theorem T_100 : T 100 = t_100 := rfl
theorem T_91 : T 91 = t_91 := rfl
theorem T_92 : T 92 = t_92 := rfl
theorem T_15 : T 15 = t_15 := rfl
theorem T_14 : T 14 = t_14 := rfl
theorem T_16 : T 16 = t_16 := rfl
theorem T_1490 : T 1490 = t_1490 := rfl
theorem T_1500 : T 1500 = t_1500 := rfl
theorem T_1520 : T 1520 = t_1520 := rfl
theorem T_1530 : T 1530 = t_1530 := rfl
theorem T_1540 : T 1540 = t_1540 := rfl
theorem T_1560 : T 1560 = t_1560 := rfl
theorem T_1561 : T 1561 = t_1561 := rfl
theorem T_1590 : T 1590 = t_1590 := rfl
theorem T_1600 : T 1600 = t_1600 := rfl
def ws : List (Nat × Nat) := [(133, 2), (143, 2), (142, 2), (134, 2), (148, 2), (149, 2), (33, 2), (35, 2), (37, 2), (39, 2), (34, 2), (36, 2), (38, 2), (40, 2), (50, 2), (51, 2), (130, 2), (132, 2), (44, 2), (52, 2), (45, 2), (53, 2), (54, 2), (55, 2), (46, 2), (56, 2), (47, 2), (57, 2), (129, 3), (131, 3), (41, 3), (48, 3), (42, 3), (49, 3), (58, 6), (63, 2), (60, 6), (65, 5), (59, 6), (64, 2), (61, 6), (66, 5), (89, 14), (96, 2), (93, 14), (90, 14), (147, 2), (97, 2), (95, 14), (94, 14), (98, 14), (150, 2), (101, 2), (99, 3), (144, 3), (100, 2), (91, 3), (92, 2), (15, 2), (14, 2), (16, 2), (1490, 9), (1500, 9), (1520, 2), (1530, 2), (1540, 2), (1560, 2), (1561, 4), (1590, 29), (1600, 5)]
theorem widths : WidthOK T ws := fun f k h al => by
  have := look_mem h
  simp only [ws, List.mem_cons, List.not_mem_nil, or_false, Prod.mk.injEq] at this
  rcases this with ⟨rfl, rfl⟩ | ⟨rfl, rfl⟩ | ⟨rfl, rfl⟩ | ⟨rfl, rfl⟩ | ⟨rfl, rfl⟩ | ⟨rfl, rfl⟩ | ⟨rfl, rfl⟩ | ⟨rfl, rfl⟩ | ⟨rfl, rfl⟩ | ⟨rfl, rfl⟩ | ⟨rfl, rfl⟩ | ⟨rfl, rfl⟩ | ⟨rfl, rfl⟩ | ⟨rfl, rfl⟩ | ⟨rfl, rfl⟩ | ⟨rfl, rfl⟩ | ⟨rfl, rfl⟩ | ⟨rfl, rfl⟩ | ⟨rfl, rfl⟩ | ⟨rfl, rfl⟩ | ⟨rfl, rfl⟩ | ⟨rfl, rfl⟩ | ⟨rfl, rfl⟩ | ⟨rfl, rfl⟩ | ⟨rfl, rfl⟩ | ⟨rfl, rfl⟩ | ⟨rfl, rfl⟩ | ⟨rfl, rfl⟩ | ⟨rfl, rfl⟩ | ⟨rfl, rfl⟩ | ⟨rfl, rfl⟩ | ⟨rfl, rfl⟩ | ⟨rfl, rfl⟩ | ⟨rfl, rfl⟩ | ⟨rfl, rfl⟩ | ⟨rfl, rfl⟩ | ⟨rfl, rfl⟩ | ⟨rfl, rfl⟩ | ⟨rfl, rfl⟩ | ⟨rfl, rfl⟩ | ⟨rfl, rfl⟩ | ⟨rfl, rfl⟩ | ⟨rfl, rfl⟩ | ⟨rfl, rfl⟩ | ⟨rfl, rfl⟩ | ⟨rfl, rfl⟩ | ⟨rfl, rfl⟩ | ⟨rfl, rfl⟩ | ⟨rfl, rfl⟩ | ⟨rfl, rfl⟩ | ⟨rfl, rfl⟩ | ⟨rfl, rfl⟩ | ⟨rfl, rfl⟩ | ⟨rfl, rfl⟩ | ⟨rfl, rfl⟩ | ⟨rfl, rfl⟩ | ⟨rfl, rfl⟩ | ⟨rfl, rfl⟩ | ⟨rfl, rfl⟩ | ⟨rfl, rfl⟩ | ⟨rfl, rfl⟩ | ⟨rfl, rfl⟩ | ⟨rfl, rfl⟩ | ⟨rfl, rfl⟩ | ⟨rfl, rfl⟩ | ⟨rfl, rfl⟩ | ⟨rfl, rfl⟩ | ⟨rfl, rfl⟩ | ⟨rfl, rfl⟩ | ⟨rfl, rfl⟩
  · rw [T_133]; exact Nat.le_refl _
  · rw [T_143]; exact Nat.le_refl _
  · rw [T_142]; exact Nat.le_refl _
  · rw [T_134]; exact Nat.le_refl _
  · rw [T_148]; exact Nat.le_refl _
  · rw [T_149]; exact Nat.le_refl _
  · rw [T_33]; exact Nat.le_refl _
  · rw [T_35]; exact Nat.le_refl _
  · rw [T_37]; exact Nat.le_refl _
  · rw [T_39]; exact Nat.le_refl _
  · rw [T_34]; exact Nat.le_refl _
  · rw [T_36]; exact Nat.le_refl _
  · rw [T_38]; exact Nat.le_refl _
  · rw [T_40]; exact Nat.le_refl _
  · rw [T_50]; exact Nat.le_refl _
  · rw [T_51]; exact Nat.le_refl _
  · rw [T_130]; exact Nat.le_refl _
  · rw [T_132]; exact Nat.le_refl _
  · rw [T_44]; exact Nat.le_refl _
  · rw [T_52]; exact Nat.le_refl _
  · rw [T_45]; exact Nat.le_refl _
  · rw [T_53]; exact Nat.le_refl _
  · rw [T_54]; exact Nat.le_refl _
  · rw [T_55]; exact Nat.le_refl _
  · rw [T_46]; exact Nat.le_refl _
  · rw [T_56]; exact Nat.le_refl _
  · rw [T_47]; exact Nat.le_refl _
  · rw [T_57]; exact Nat.le_refl _
  · rw [T_129]; exact Nat.le_refl _
  · rw [T_131]; exact Nat.le_refl _
  · rw [T_41]; exact Nat.le_refl _
  · rw [T_48]; exact Nat.le_refl _
  · rw [T_42]; exact Nat.le_refl _
  · rw [T_49]; exact Nat.le_refl _
  · rw [T_58]; exact Nat.le_refl _
  · rw [T_63]; exact Nat.le_refl _
  · rw [T_60]; exact Nat.le_refl _
  · rw [T_65]; exact Nat.le_refl _
  · rw [T_59]; exact Nat.le_refl _
  · rw [T_64]; exact Nat.le_refl _
  · rw [T_61]; exact Nat.le_refl _
  · rw [T_66]; exact Nat.le_refl _
  · rw [T_89]; exact Nat.le_refl _
  · rw [T_96]; exact Nat.le_refl _
  · rw [T_93]; exact Nat.le_refl _
  · rw [T_90]; exact Nat.le_refl _
  · rw [T_147]; exact Nat.le_refl _
  · rw [T_97]; exact Nat.le_refl _
  · rw [T_95]; exact Nat.le_refl _
  · rw [T_94]; exact Nat.le_refl _
  · rw [T_98]; exact Nat.le_refl _
  · rw [T_150]; exact Nat.le_refl _
  · rw [T_101]; exact Nat.le_refl _
  · rw [T_99]; exact Nat.le_refl _
  · rw [T_144]; exact Nat.le_refl _
  · rw [T_100]; exact Nat.le_refl _
  · rw [T_91]; exact Nat.le_refl _
  · rw [T_92]; exact Nat.le_refl _
  · rw [T_15]; exact Nat.le_refl _
  · rw [T_14]; exact Nat.le_refl _
  · rw [T_16]; exact Nat.le_refl _
  · rw [T_1490]; exact Nat.le_refl _
  · rw [T_1500]; exact Nat.le_refl _
  · rw [T_1520]; exact Nat.le_refl _
  · rw [T_1530]; exact Nat.le_refl _
  · rw [T_1540]; exact Nat.le_refl _
  · rw [T_1560]; exact Nat.le_refl _
  · rw [T_1561]; exact Nat.le_refl _
  · rw [T_1590]; exact Nat.le_refl _
  · rw [T_1600]; exact Nat.le_refl _
theorem out_tally_Clamp {e : Nat → A} {b : Nat} {a0 a1 a2 : L} (h : Def.holds T e ⟨b, .call 133, [a0, a1, a2]⟩) :
    (e b).bool = (true) ∧ (e (b + 1)).int = (Day.clampR (a0.ev e).int (a1.ev e).int (a2.ev e).int) := by
  have hp := q_pre T_133 h
  have ho := fun j a => q_out (a := a) T_133 j h
  simp only [t_133, gi, gb, gs, gv, ge, List.map_cons, List.map_nil, List.getD_cons_zero, List.getD_cons_succ, L.ev_n, A.int_i] at hp ho
  exact ⟨hp, (congrArg A.int (ho 0 _ rfl) :)⟩
theorem out_tally_Up {e : Nat → A} {b : Nat} {a0 a1 : L} (h : Def.holds T e ⟨b, .call 143, [a0, a1]⟩) :
    (e b).bool = (Day.sm (a1.ev e).int) ∧ (e (b + 1)).int = (Day.upR (a0.ev e).int (a1.ev e).int) := by
  have hp := q_pre T_143 h
  have ho := fun j a => q_out (a := a) T_143 j h
  simp only [t_143, gi, gb, gs, gv, ge, List.map_cons, List.map_nil, List.getD_cons_zero, List.getD_cons_succ, L.ev_n, A.int_i] at hp ho
  exact ⟨hp, (congrArg A.int (ho 0 _ rfl) :)⟩
theorem out_tally_Down {e : Nat → A} {b : Nat} {a0 : L} (h : Def.holds T e ⟨b, .call 142, [a0]⟩) :
    (e b).bool = (Day.i64 (a0.ev e).int) ∧ (e (b + 1)).int = (Day.downR (a0.ev e).int) := by
  have hp := q_pre T_142 h
  have ho := fun j a => q_out (a := a) T_142 j h
  simp only [t_142, gi, gb, gs, gv, ge, List.map_cons, List.map_nil, List.getD_cons_zero, List.getD_cons_succ, L.ev_n, A.int_i] at hp ho
  exact ⟨hp, (congrArg A.int (ho 0 _ rfl) :)⟩
theorem out_ref04_Clamp {e : Nat → A} {b : Nat} {a0 a1 a2 : L} (h : Def.holds T e ⟨b, .call 134, [a0, a1, a2]⟩) :
    (e b).bool = (true) ∧ (e (b + 1)).int = (Day.clampR (a0.ev e).int (a1.ev e).int (a2.ev e).int) := by
  have hp := q_pre T_134 h
  have ho := fun j a => q_out (a := a) T_134 j h
  simp only [t_134, gi, gb, gs, gv, ge, List.map_cons, List.map_nil, List.getD_cons_zero, List.getD_cons_succ, L.ev_n, A.int_i] at hp ho
  exact ⟨hp, (congrArg A.int (ho 0 _ rfl) :)⟩
theorem out_ref04_Up {e : Nat → A} {b : Nat} {a0 a1 : L} (h : Def.holds T e ⟨b, .call 148, [a0, a1]⟩) :
    (e b).bool = (Day.sm (a1.ev e).int) ∧ (e (b + 1)).int = (Day.upR (a0.ev e).int (a1.ev e).int) := by
  have hp := q_pre T_148 h
  have ho := fun j a => q_out (a := a) T_148 j h
  simp only [t_148, gi, gb, gs, gv, ge, List.map_cons, List.map_nil, List.getD_cons_zero, List.getD_cons_succ, L.ev_n, A.int_i] at hp ho
  exact ⟨hp, (congrArg A.int (ho 0 _ rfl) :)⟩
theorem out_ref04_Down {e : Nat → A} {b : Nat} {a0 : L} (h : Def.holds T e ⟨b, .call 149, [a0]⟩) :
    (e b).bool = (Day.i64 (a0.ev e).int) ∧ (e (b + 1)).int = (Day.downR (a0.ev e).int) := by
  have hp := q_pre T_149 h
  have ho := fun j a => q_out (a := a) T_149 j h
  simp only [t_149, gi, gb, gs, gv, ge, List.map_cons, List.map_nil, List.getD_cons_zero, List.getD_cons_succ, L.ev_n, A.int_i] at hp ho
  exact ⟨hp, (congrArg A.int (ho 0 _ rfl) :)⟩
theorem out_ring_Mod {e : Nat → A} {b : Nat} {a0 a1 : L} (h : Def.holds T e ⟨b, .call 33, [a0, a1]⟩) :
    (e b).bool = (Day.modP (a0.ev e).int && Day.i64 (a1.ev e).int) ∧ (e (b + 1)).int = (Day.modR (a0.ev e).int (a1.ev e).int) := by
  have hp := q_pre T_33 h
  have ho := fun j a => q_out (a := a) T_33 j h
  simp only [t_33, gi, gb, gs, gv, ge, List.map_cons, List.map_nil, List.getD_cons_zero, List.getD_cons_succ, L.ev_n, A.int_i] at hp ho
  exact ⟨hp, (congrArg A.int (ho 0 _ rfl) :)⟩
theorem out_ring_Next {e : Nat → A} {b : Nat} {a0 a1 : L} (h : Def.holds T e ⟨b, .call 35, [a0, a1]⟩) :
    (e b).bool = (Day.slotP (a0.ev e).int (a1.ev e).int) ∧ (e (b + 1)).int = (Day.nextR (a0.ev e).int (a1.ev e).int) := by
  have hp := q_pre T_35 h
  have ho := fun j a => q_out (a := a) T_35 j h
  simp only [t_35, gi, gb, gs, gv, ge, List.map_cons, List.map_nil, List.getD_cons_zero, List.getD_cons_succ, L.ev_n, A.int_i] at hp ho
  exact ⟨hp, (congrArg A.int (ho 0 _ rfl) :)⟩
theorem out_ring_At {e : Nat → A} {b : Nat} {a0 a1 a2 : L} (h : Def.holds T e ⟨b, .call 37, [a0, a1, a2]⟩) :
    (e b).bool = (Day.atP (a0.ev e).int (a1.ev e).int (a2.ev e).int) ∧ (e (b + 1)).int = (Day.atR (a0.ev e).int (a1.ev e).int (a2.ev e).int) := by
  have hp := q_pre T_37 h
  have ho := fun j a => q_out (a := a) T_37 j h
  simp only [t_37, gi, gb, gs, gv, ge, List.map_cons, List.map_nil, List.getD_cons_zero, List.getD_cons_succ, L.ev_n, A.int_i] at hp ho
  exact ⟨hp, (congrArg A.int (ho 0 _ rfl) :)⟩
theorem out_ring_Ahead {e : Nat → A} {b : Nat} {a0 a1 a2 : L} (h : Def.holds T e ⟨b, .call 39, [a0, a1, a2]⟩) :
    (e b).bool = (Day.aheadP (a0.ev e).int (a1.ev e).int (a2.ev e).int) ∧ (e (b + 1)).int = (Day.aheadR (a0.ev e).int (a1.ev e).int (a2.ev e).int) := by
  have hp := q_pre T_39 h
  have ho := fun j a => q_out (a := a) T_39 j h
  simp only [t_39, gi, gb, gs, gv, ge, List.map_cons, List.map_nil, List.getD_cons_zero, List.getD_cons_succ, L.ev_n, A.int_i] at hp ho
  exact ⟨hp, (congrArg A.int (ho 0 _ rfl) :)⟩
theorem out_ref05_Mod {e : Nat → A} {b : Nat} {a0 a1 : L} (h : Def.holds T e ⟨b, .call 34, [a0, a1]⟩) :
    (e b).bool = (Day.modP (a0.ev e).int && Day.i64 (a1.ev e).int) ∧ (e (b + 1)).int = (Day.modR (a0.ev e).int (a1.ev e).int) := by
  have hp := q_pre T_34 h
  have ho := fun j a => q_out (a := a) T_34 j h
  simp only [t_34, gi, gb, gs, gv, ge, List.map_cons, List.map_nil, List.getD_cons_zero, List.getD_cons_succ, L.ev_n, A.int_i] at hp ho
  exact ⟨hp, (congrArg A.int (ho 0 _ rfl) :)⟩
theorem out_ref05_Next {e : Nat → A} {b : Nat} {a0 a1 : L} (h : Def.holds T e ⟨b, .call 36, [a0, a1]⟩) :
    (e b).bool = (Day.slotP (a0.ev e).int (a1.ev e).int) ∧ (e (b + 1)).int = (Day.nextR (a0.ev e).int (a1.ev e).int) := by
  have hp := q_pre T_36 h
  have ho := fun j a => q_out (a := a) T_36 j h
  simp only [t_36, gi, gb, gs, gv, ge, List.map_cons, List.map_nil, List.getD_cons_zero, List.getD_cons_succ, L.ev_n, A.int_i] at hp ho
  exact ⟨hp, (congrArg A.int (ho 0 _ rfl) :)⟩
theorem out_ref05_At {e : Nat → A} {b : Nat} {a0 a1 a2 : L} (h : Def.holds T e ⟨b, .call 38, [a0, a1, a2]⟩) :
    (e b).bool = (Day.atP (a0.ev e).int (a1.ev e).int (a2.ev e).int) ∧ (e (b + 1)).int = (Day.atR (a0.ev e).int (a1.ev e).int (a2.ev e).int) := by
  have hp := q_pre T_38 h
  have ho := fun j a => q_out (a := a) T_38 j h
  simp only [t_38, gi, gb, gs, gv, ge, List.map_cons, List.map_nil, List.getD_cons_zero, List.getD_cons_succ, L.ev_n, A.int_i] at hp ho
  exact ⟨hp, (congrArg A.int (ho 0 _ rfl) :)⟩
theorem out_ref05_Ahead {e : Nat → A} {b : Nat} {a0 a1 a2 : L} (h : Def.holds T e ⟨b, .call 40, [a0, a1, a2]⟩) :
    (e b).bool = (Day.aheadP (a0.ev e).int (a1.ev e).int (a2.ev e).int) ∧ (e (b + 1)).int = (Day.aheadR (a0.ev e).int (a1.ev e).int (a2.ev e).int) := by
  have hp := q_pre T_40 h
  have ho := fun j a => q_out (a := a) T_40 j h
  simp only [t_40, gi, gb, gs, gv, ge, List.map_cons, List.map_nil, List.getD_cons_zero, List.getD_cons_succ, L.ev_n, A.int_i] at hp ho
  exact ⟨hp, (congrArg A.int (ho 0 _ rfl) :)⟩
theorem out_conf_Right {e : Nat → A} {b : Nat} {a0 : L} (h : Def.holds T e ⟨b, .call 50, [a0]⟩) :
    (e b).bool = (true) ∧ (e (b + 1)).bool = (Day.right (a0.ev e).int) := by
  have hp := q_pre T_50 h
  have ho := fun j a => q_out (a := a) T_50 j h
  simp only [t_50, gi, gb, gs, gv, ge, List.map_cons, List.map_nil, List.getD_cons_zero, List.getD_cons_succ, L.ev_n, A.int_i] at hp ho
  exact ⟨hp, (congrArg A.bool (ho 0 _ rfl) :)⟩
theorem out_ref03_Right {e : Nat → A} {b : Nat} {a0 : L} (h : Def.holds T e ⟨b, .call 51, [a0]⟩) :
    (e b).bool = (true) ∧ (e (b + 1)).bool = (Day.right (a0.ev e).int) := by
  have hp := q_pre T_51 h
  have ho := fun j a => q_out (a := a) T_51 j h
  simp only [t_51, gi, gb, gs, gv, ge, List.map_cons, List.map_nil, List.getD_cons_zero, List.getD_cons_succ, L.ev_n, A.int_i] at hp ho
  exact ⟨hp, (congrArg A.bool (ho 0 _ rfl) :)⟩
theorem out_conf_time {e : Nat → A} {b : Nat} {a0 a1 : L} (h : Def.holds T e ⟨b, .call 130, [a0, a1]⟩) :
    (e b).bool = (Day.timeP (a0.ev e).str) ∧ (e (b + 1)).int = (Day.times (Day.kOf (a0.ev e).str) (a1.ev e).int) := by
  have hp := q_pre T_130 h
  have ho := fun j a => q_out (a := a) T_130 j h
  simp only [t_130, gi, gb, gs, gv, ge, List.map_cons, List.map_nil, List.getD_cons_zero, List.getD_cons_succ, L.ev_n, A.int_i] at hp ho
  exact ⟨hp, (congrArg A.int (ho 0 _ rfl) :)⟩
theorem out_ref03_times {e : Nat → A} {b : Nat} {a0 a1 : L} (h : Def.holds T e ⟨b, .call 132, [a0, a1]⟩) :
    (e b).bool = (Day.u8 (a1.ev e).int) ∧ (e (b + 1)).int = (Day.times (a1.ev e).int (a0.ev e).int) := by
  have hp := q_pre T_132 h
  have ho := fun j a => q_out (a := a) T_132 j h
  simp only [t_132, gi, gb, gs, gv, ge, List.map_cons, List.map_nil, List.getD_cons_zero, List.getD_cons_succ, L.ev_n, A.int_i] at hp ho
  exact ⟨hp, (congrArg A.int (ho 0 _ rfl) :)⟩
theorem out_conf_Block {e : Nat → A} {b : Nat} {a0 : L} (h : Def.holds T e ⟨b, .call 44, [a0]⟩) :
    (e b).bool = (true) ∧ (e (b + 1)).int = (Day.times 2 (a0.ev e).int) := by
  have hp := q_pre T_44 h
  have ho := fun j a => q_out (a := a) T_44 j h
  simp only [t_44, gi, gb, gs, gv, ge, List.map_cons, List.map_nil, List.getD_cons_zero, List.getD_cons_succ, L.ev_n, A.int_i] at hp ho
  exact ⟨hp, (congrArg A.int (ho 0 _ rfl) :)⟩
theorem out_ref03_Block {e : Nat → A} {b : Nat} {a0 : L} (h : Def.holds T e ⟨b, .call 52, [a0]⟩) :
    (e b).bool = (true) ∧ (e (b + 1)).int = (Day.times 2 (a0.ev e).int) := by
  have hp := q_pre T_52 h
  have ho := fun j a => q_out (a := a) T_52 j h
  simp only [t_52, gi, gb, gs, gv, ge, List.map_cons, List.map_nil, List.getD_cons_zero, List.getD_cons_succ, L.ev_n, A.int_i] at hp ho
  exact ⟨hp, (congrArg A.int (ho 0 _ rfl) :)⟩
theorem out_conf_Watch {e : Nat → A} {b : Nat} {a0 : L} (h : Def.holds T e ⟨b, .call 45, [a0]⟩) :
    (e b).bool = (true) ∧ (e (b + 1)).int = (Day.times 8 (a0.ev e).int) := by
  have hp := q_pre T_45 h
  have ho := fun j a => q_out (a := a) T_45 j h
  simp only [t_45, gi, gb, gs, gv, ge, List.map_cons, List.map_nil, List.getD_cons_zero, List.getD_cons_succ, L.ev_n, A.int_i] at hp ho
  exact ⟨hp, (congrArg A.int (ho 0 _ rfl) :)⟩
theorem out_ref03_Watch {e : Nat → A} {b : Nat} {a0 : L} (h : Def.holds T e ⟨b, .call 53, [a0]⟩) :
    (e b).bool = (true) ∧ (e (b + 1)).int = (Day.times 8 (a0.ev e).int) := by
  have hp := q_pre T_53 h
  have ho := fun j a => q_out (a := a) T_53 j h
  simp only [t_53, gi, gb, gs, gv, ge, List.map_cons, List.map_nil, List.getD_cons_zero, List.getD_cons_succ, L.ev_n, A.int_i] at hp ho
  exact ⟨hp, (congrArg A.int (ho 0 _ rfl) :)⟩
theorem out_conf_Later {e : Nat → A} {b : Nat} {a0 : L} (h : Def.holds T e ⟨b, .call 54, [a0]⟩) :
    (e b).bool = (true) ∧ (e (b + 1)).int = (Day.times 3 (a0.ev e).int) := by
  have hp := q_pre T_54 h
  have ho := fun j a => q_out (a := a) T_54 j h
  simp only [t_54, gi, gb, gs, gv, ge, List.map_cons, List.map_nil, List.getD_cons_zero, List.getD_cons_succ, L.ev_n, A.int_i] at hp ho
  exact ⟨hp, (congrArg A.int (ho 0 _ rfl) :)⟩
theorem out_ref03_Later {e : Nat → A} {b : Nat} {a0 : L} (h : Def.holds T e ⟨b, .call 55, [a0]⟩) :
    (e b).bool = (true) ∧ (e (b + 1)).int = (Day.times 3 (a0.ev e).int) := by
  have hp := q_pre T_55 h
  have ho := fun j a => q_out (a := a) T_55 j h
  simp only [t_55, gi, gb, gs, gv, ge, List.map_cons, List.map_nil, List.getD_cons_zero, List.getD_cons_succ, L.ev_n, A.int_i] at hp ho
  exact ⟨hp, (congrArg A.int (ho 0 _ rfl) :)⟩
theorem out_conf_Start {e : Nat → A} {b : Nat} {a0 : L} (h : Def.holds T e ⟨b, .call 46, [a0]⟩) :
    (e b).bool = (true) ∧ (e (b + 1)).int = (Day.times 40 (a0.ev e).int) := by
  have hp := q_pre T_46 h
  have ho := fun j a => q_out (a := a) T_46 j h
  simp only [t_46, gi, gb, gs, gv, ge, List.map_cons, List.map_nil, List.getD_cons_zero, List.getD_cons_succ, L.ev_n, A.int_i] at hp ho
  exact ⟨hp, (congrArg A.int (ho 0 _ rfl) :)⟩
theorem out_ref03_Start {e : Nat → A} {b : Nat} {a0 : L} (h : Def.holds T e ⟨b, .call 56, [a0]⟩) :
    (e b).bool = (true) ∧ (e (b + 1)).int = (Day.times 40 (a0.ev e).int) := by
  have hp := q_pre T_56 h
  have ho := fun j a => q_out (a := a) T_56 j h
  simp only [t_56, gi, gb, gs, gv, ge, List.map_cons, List.map_nil, List.getD_cons_zero, List.getD_cons_succ, L.ev_n, A.int_i] at hp ho
  exact ⟨hp, (congrArg A.int (ho 0 _ rfl) :)⟩
theorem out_conf_Stable {e : Nat → A} {b : Nat} {a0 : L} (h : Def.holds T e ⟨b, .call 47, [a0]⟩) :
    (e b).bool = (true) ∧ (e (b + 1)).int = (Day.times 96 (a0.ev e).int) := by
  have hp := q_pre T_47 h
  have ho := fun j a => q_out (a := a) T_47 j h
  simp only [t_47, gi, gb, gs, gv, ge, List.map_cons, List.map_nil, List.getD_cons_zero, List.getD_cons_succ, L.ev_n, A.int_i] at hp ho
  exact ⟨hp, (congrArg A.int (ho 0 _ rfl) :)⟩
theorem out_ref03_Stable {e : Nat → A} {b : Nat} {a0 : L} (h : Def.holds T e ⟨b, .call 57, [a0]⟩) :
    (e b).bool = (true) ∧ (e (b + 1)).int = (Day.times 96 (a0.ev e).int) := by
  have hp := q_pre T_57 h
  have ho := fun j a => q_out (a := a) T_57 j h
  simp only [t_57, gi, gb, gs, gv, ge, List.map_cons, List.map_nil, List.getD_cons_zero, List.getD_cons_succ, L.ev_n, A.int_i] at hp ho
  exact ⟨hp, (congrArg A.int (ho 0 _ rfl) :)⟩
theorem out_conf_own {e : Nat → A} {b : Nat} {a0 a1 a2 : L} (h : Def.holds T e ⟨b, .call 129, [a0, a1, a2]⟩) :
    (e b).bool = (Day.timeP (a0.ev e).str) ∧ (e (b + 1)).int = (Day.ownR (Day.kOf (a0.ev e).str) (a1.ev e).int (a2.ev e).int) ∧ (e (b + 2)).int = (Day.ownE (a1.ev e).int (a2.ev e).int) := by
  have hp := q_pre T_129 h
  have ho := fun j a => q_out (a := a) T_129 j h
  simp only [t_129, gi, gb, gs, gv, ge, List.map_cons, List.map_nil, List.getD_cons_zero, List.getD_cons_succ, L.ev_n, A.int_i] at hp ho
  exact ⟨hp, (congrArg A.int (ho 0 _ rfl) :), (congrArg A.int (ho 1 _ rfl) :)⟩
theorem out_ref03_of {e : Nat → A} {b : Nat} {a0 a1 a2 : L} (h : Def.holds T e ⟨b, .call 131, [a0, a1, a2]⟩) :
    (e b).bool = (Day.u8 (a2.ev e).int) ∧ (e (b + 1)).int = (Day.ownR (a2.ev e).int (a0.ev e).int (a1.ev e).int) ∧ (e (b + 2)).int = (Day.ownE (a0.ev e).int (a1.ev e).int) := by
  have hp := q_pre T_131 h
  have ho := fun j a => q_out (a := a) T_131 j h
  simp only [t_131, gi, gb, gs, gv, ge, List.map_cons, List.map_nil, List.getD_cons_zero, List.getD_cons_succ, L.ev_n, A.int_i] at hp ho
  exact ⟨hp, (congrArg A.int (ho 0 _ rfl) :), (congrArg A.int (ho 1 _ rfl) :)⟩
theorem out_conf_Listen {e : Nat → A} {b : Nat} {a0 a1 : L} (h : Def.holds T e ⟨b, .call 41, [a0, a1]⟩) :
    (e b).bool = (true) ∧ (e (b + 1)).int = (Day.ownR 4 (a0.ev e).int (a1.ev e).int) ∧ (e (b + 2)).int = (Day.ownE (a0.ev e).int (a1.ev e).int) := by
  have hp := q_pre T_41 h
  have ho := fun j a => q_out (a := a) T_41 j h
  simp only [t_41, gi, gb, gs, gv, ge, List.map_cons, List.map_nil, List.getD_cons_zero, List.getD_cons_succ, L.ev_n, A.int_i] at hp ho
  exact ⟨hp, (congrArg A.int (ho 0 _ rfl) :), (congrArg A.int (ho 1 _ rfl) :)⟩
theorem out_ref03_Listen {e : Nat → A} {b : Nat} {a0 a1 : L} (h : Def.holds T e ⟨b, .call 48, [a0, a1]⟩) :
    (e b).bool = (true) ∧ (e (b + 1)).int = (Day.ownR 4 (a0.ev e).int (a1.ev e).int) ∧ (e (b + 2)).int = (Day.ownE (a0.ev e).int (a1.ev e).int) := by
  have hp := q_pre T_48 h
  have ho := fun j a => q_out (a := a) T_48 j h
  simp only [t_48, gi, gb, gs, gv, ge, List.map_cons, List.map_nil, List.getD_cons_zero, List.getD_cons_succ, L.ev_n, A.int_i] at hp ho
  exact ⟨hp, (congrArg A.int (ho 0 _ rfl) :), (congrArg A.int (ho 1 _ rfl) :)⟩
theorem out_conf_Cold {e : Nat → A} {b : Nat} {a0 a1 : L} (h : Def.holds T e ⟨b, .call 42, [a0, a1]⟩) :
    (e b).bool = (true) ∧ (e (b + 1)).int = (Day.ownR 2 (a0.ev e).int (a1.ev e).int) ∧ (e (b + 2)).int = (Day.ownE (a0.ev e).int (a1.ev e).int) := by
  have hp := q_pre T_42 h
  have ho := fun j a => q_out (a := a) T_42 j h
  simp only [t_42, gi, gb, gs, gv, ge, List.map_cons, List.map_nil, List.getD_cons_zero, List.getD_cons_succ, L.ev_n, A.int_i] at hp ho
  exact ⟨hp, (congrArg A.int (ho 0 _ rfl) :), (congrArg A.int (ho 1 _ rfl) :)⟩
theorem out_ref03_Cold {e : Nat → A} {b : Nat} {a0 a1 : L} (h : Def.holds T e ⟨b, .call 49, [a0, a1]⟩) :
    (e b).bool = (true) ∧ (e (b + 1)).int = (Day.ownR 2 (a0.ev e).int (a1.ev e).int) ∧ (e (b + 2)).int = (Day.ownE (a0.ev e).int (a1.ev e).int) := by
  have hp := q_pre T_49 h
  have ho := fun j a => q_out (a := a) T_49 j h
  simp only [t_49, gi, gb, gs, gv, ge, List.map_cons, List.map_nil, List.getD_cons_zero, List.getD_cons_succ, L.ev_n, A.int_i] at hp ho
  exact ⟨hp, (congrArg A.int (ho 0 _ rfl) :), (congrArg A.int (ho 1 _ rfl) :)⟩
theorem out_node_Fresh {e : Nat → A} {b : Nat} {a0 a1 : L} (h : Def.holds T e ⟨b, .call 58, [a0, a1]⟩) :
    (e b).bool = (true) ∧ (e (b + 1)).int = (((Day.freshN (a0.ev e).int (a1.ev e).int)).id) ∧ (e (b + 2)).int = (((Day.freshN (a0.ev e).int (a1.ev e).int)).mode) ∧ (e (b + 3)).int = (((Day.freshN (a0.ev e).int (a1.ev e).int)).count) ∧ (e (b + 4)).int = (((Day.freshN (a0.ev e).int (a1.ev e).int)).pos) ∧ (e (b + 5)).int = (Day.idE (a0.ev e).int (a1.ev e).int) := by
  have hp := q_pre T_58 h
  have ho := fun j a => q_out (a := a) T_58 j h
  simp only [t_58, gi, gb, gs, gv, ge, List.map_cons, List.map_nil, List.getD_cons_zero, List.getD_cons_succ, L.ev_n, A.int_i] at hp ho
  exact ⟨hp, (congrArg A.int (ho 0 _ rfl) :), (congrArg A.int (ho 1 _ rfl) :), (congrArg A.int (ho 2 _ rfl) :), (congrArg A.int (ho 3 _ rfl) :), (congrArg A.int (ho 4 _ rfl) :)⟩
theorem out_node_Right {e : Nat → A} {b : Nat} {a0 a1 a2 a3 a4 : L} (h : Def.holds T e ⟨b, .call 63, [a0, a1, a2, a3, a4]⟩) :
    (e b).bool = (Day.ND.i64 (Day.ND.mk (a1.ev e).int (a2.ev e).int (a3.ev e).int (a4.ev e).int)) ∧ (e (b + 1)).bool = (Day.rightN (a0.ev e).int (Day.ND.mk (a1.ev e).int (a2.ev e).int (a3.ev e).int (a4.ev e).int)) := by
  have hp := q_pre T_63 h
  have ho := fun j a => q_out (a := a) T_63 j h
  simp only [t_63, gi, gb, gs, gv, ge, List.map_cons, List.map_nil, List.getD_cons_zero, List.getD_cons_succ, L.ev_n, A.int_i] at hp ho
  exact ⟨hp, (congrArg A.bool (ho 0 _ rfl) :)⟩
theorem out_node_Clean {e : Nat → A} {b : Nat} {a0 a1 a2 a3 a4 a5 : L} (h : Def.holds T e ⟨b, .call 60, [a0, a1, a2, a3, a4, a5]⟩) :
    (e b).bool = (Day.ND.i64 (Day.ND.mk (a2.ev e).int (a3.ev e).int (a4.ev e).int (a5.ev e).int)) ∧ (e (b + 1)).int = (((Day.cleanN (a0.ev e).int (a1.ev e).int (Day.ND.mk (a2.ev e).int (a3.ev e).int (a4.ev e).int (a5.ev e).int))).id) ∧ (e (b + 2)).int = (((Day.cleanN (a0.ev e).int (a1.ev e).int (Day.ND.mk (a2.ev e).int (a3.ev e).int (a4.ev e).int (a5.ev e).int))).mode) ∧ (e (b + 3)).int = (((Day.cleanN (a0.ev e).int (a1.ev e).int (Day.ND.mk (a2.ev e).int (a3.ev e).int (a4.ev e).int (a5.ev e).int))).count) ∧ (e (b + 4)).int = (((Day.cleanN (a0.ev e).int (a1.ev e).int (Day.ND.mk (a2.ev e).int (a3.ev e).int (a4.ev e).int (a5.ev e).int))).pos) ∧ (e (b + 5)).int = (Day.idE (a0.ev e).int (a1.ev e).int) := by
  have hp := q_pre T_60 h
  have ho := fun j a => q_out (a := a) T_60 j h
  simp only [t_60, gi, gb, gs, gv, ge, List.map_cons, List.map_nil, List.getD_cons_zero, List.getD_cons_succ, L.ev_n, A.int_i] at hp ho
  exact ⟨hp, (congrArg A.int (ho 0 _ rfl) :), (congrArg A.int (ho 1 _ rfl) :), (congrArg A.int (ho 2 _ rfl) :), (congrArg A.int (ho 3 _ rfl) :), (congrArg A.int (ho 4 _ rfl) :)⟩
theorem out_node_Wake {e : Nat → A} {b : Nat} {a0 a1 a2 a3 : L} (h : Def.holds T e ⟨b, .call 65, [a0, a1, a2, a3]⟩) :
    (e b).bool = (true) ∧ (e (b + 1)).int = (((Day.wakeN (Day.ND.mk (a0.ev e).int (a1.ev e).int (a2.ev e).int (a3.ev e).int))).id) ∧ (e (b + 2)).int = (((Day.wakeN (Day.ND.mk (a0.ev e).int (a1.ev e).int (a2.ev e).int (a3.ev e).int))).mode) ∧ (e (b + 3)).int = (((Day.wakeN (Day.ND.mk (a0.ev e).int (a1.ev e).int (a2.ev e).int (a3.ev e).int))).count) ∧ (e (b + 4)).int = (((Day.wakeN (Day.ND.mk (a0.ev e).int (a1.ev e).int (a2.ev e).int (a3.ev e).int))).pos) := by
  have hp := q_pre T_65 h
  have ho := fun j a => q_out (a := a) T_65 j h
  simp only [t_65, gi, gb, gs, gv, ge, List.map_cons, List.map_nil, List.getD_cons_zero, List.getD_cons_succ, L.ev_n, A.int_i] at hp ho
  exact ⟨hp, (congrArg A.int (ho 0 _ rfl) :), (congrArg A.int (ho 1 _ rfl) :), (congrArg A.int (ho 2 _ rfl) :), (congrArg A.int (ho 3 _ rfl) :)⟩
theorem out_ref06_Fresh {e : Nat → A} {b : Nat} {a0 a1 : L} (h : Def.holds T e ⟨b, .call 59, [a0, a1]⟩) :
    (e b).bool = (true) ∧ (e (b + 1)).int = (((Day.freshN (a0.ev e).int (a1.ev e).int)).id) ∧ (e (b + 2)).int = (((Day.freshN (a0.ev e).int (a1.ev e).int)).mode) ∧ (e (b + 3)).int = (((Day.freshN (a0.ev e).int (a1.ev e).int)).count) ∧ (e (b + 4)).int = (((Day.freshN (a0.ev e).int (a1.ev e).int)).pos) ∧ (e (b + 5)).int = (Day.idE (a0.ev e).int (a1.ev e).int) := by
  have hp := q_pre T_59 h
  have ho := fun j a => q_out (a := a) T_59 j h
  simp only [t_59, gi, gb, gs, gv, ge, List.map_cons, List.map_nil, List.getD_cons_zero, List.getD_cons_succ, L.ev_n, A.int_i] at hp ho
  exact ⟨hp, (congrArg A.int (ho 0 _ rfl) :), (congrArg A.int (ho 1 _ rfl) :), (congrArg A.int (ho 2 _ rfl) :), (congrArg A.int (ho 3 _ rfl) :), (congrArg A.int (ho 4 _ rfl) :)⟩
theorem out_ref06_Right {e : Nat → A} {b : Nat} {a0 a1 a2 a3 a4 : L} (h : Def.holds T e ⟨b, .call 64, [a0, a1, a2, a3, a4]⟩) :
    (e b).bool = (Day.ND.i64 (Day.ND.mk (a1.ev e).int (a2.ev e).int (a3.ev e).int (a4.ev e).int)) ∧ (e (b + 1)).bool = (Day.rightN (a0.ev e).int (Day.ND.mk (a1.ev e).int (a2.ev e).int (a3.ev e).int (a4.ev e).int)) := by
  have hp := q_pre T_64 h
  have ho := fun j a => q_out (a := a) T_64 j h
  simp only [t_64, gi, gb, gs, gv, ge, List.map_cons, List.map_nil, List.getD_cons_zero, List.getD_cons_succ, L.ev_n, A.int_i] at hp ho
  exact ⟨hp, (congrArg A.bool (ho 0 _ rfl) :)⟩
theorem out_ref06_Clean {e : Nat → A} {b : Nat} {a0 a1 a2 a3 a4 a5 : L} (h : Def.holds T e ⟨b, .call 61, [a0, a1, a2, a3, a4, a5]⟩) :
    (e b).bool = (Day.ND.i64 (Day.ND.mk (a2.ev e).int (a3.ev e).int (a4.ev e).int (a5.ev e).int)) ∧ (e (b + 1)).int = (((Day.cleanN (a0.ev e).int (a1.ev e).int (Day.ND.mk (a2.ev e).int (a3.ev e).int (a4.ev e).int (a5.ev e).int))).id) ∧ (e (b + 2)).int = (((Day.cleanN (a0.ev e).int (a1.ev e).int (Day.ND.mk (a2.ev e).int (a3.ev e).int (a4.ev e).int (a5.ev e).int))).mode) ∧ (e (b + 3)).int = (((Day.cleanN (a0.ev e).int (a1.ev e).int (Day.ND.mk (a2.ev e).int (a3.ev e).int (a4.ev e).int (a5.ev e).int))).count) ∧ (e (b + 4)).int = (((Day.cleanN (a0.ev e).int (a1.ev e).int (Day.ND.mk (a2.ev e).int (a3.ev e).int (a4.ev e).int (a5.ev e).int))).pos) ∧ (e (b + 5)).int = (Day.idE (a0.ev e).int (a1.ev e).int) := by
  have hp := q_pre T_61 h
  have ho := fun j a => q_out (a := a) T_61 j h
  simp only [t_61, gi, gb, gs, gv, ge, List.map_cons, List.map_nil, List.getD_cons_zero, List.getD_cons_succ, L.ev_n, A.int_i] at hp ho
  exact ⟨hp, (congrArg A.int (ho 0 _ rfl) :), (congrArg A.int (ho 1 _ rfl) :), (congrArg A.int (ho 2 _ rfl) :), (congrArg A.int (ho 3 _ rfl) :), (congrArg A.int (ho 4 _ rfl) :)⟩
theorem out_ref06_Wake {e : Nat → A} {b : Nat} {a0 a1 a2 a3 : L} (h : Def.holds T e ⟨b, .call 66, [a0, a1, a2, a3]⟩) :
    (e b).bool = (true) ∧ (e (b + 1)).int = (((Day.wakeN (Day.ND.mk (a0.ev e).int (a1.ev e).int (a2.ev e).int (a3.ev e).int))).id) ∧ (e (b + 2)).int = (((Day.wakeN (Day.ND.mk (a0.ev e).int (a1.ev e).int (a2.ev e).int (a3.ev e).int))).mode) ∧ (e (b + 3)).int = (((Day.wakeN (Day.ND.mk (a0.ev e).int (a1.ev e).int (a2.ev e).int (a3.ev e).int))).count) ∧ (e (b + 4)).int = (((Day.wakeN (Day.ND.mk (a0.ev e).int (a1.ev e).int (a2.ev e).int (a3.ev e).int))).pos) := by
  have hp := q_pre T_66 h
  have ho := fun j a => q_out (a := a) T_66 j h
  simp only [t_66, gi, gb, gs, gv, ge, List.map_cons, List.map_nil, List.getD_cons_zero, List.getD_cons_succ, L.ev_n, A.int_i] at hp ho
  exact ⟨hp, (congrArg A.int (ho 0 _ rfl) :), (congrArg A.int (ho 1 _ rfl) :), (congrArg A.int (ho 2 _ rfl) :), (congrArg A.int (ho 3 _ rfl) :)⟩
theorem out_vote_Clean {e : Nat → A} {b : Nat} {a0 a1 a2 a3 a4 a5 a6 a7 a8 a9 a10 a11 a12 : L} (h : Def.holds T e ⟨b, .call 89, [a0, a1, a2, a3, a4, a5, a6, a7, a8, a9, a10, a11, a12]⟩) :
    (e b).bool = (Day.HB.i64 (Day.HB.mk [(a1.ev e).int, (a2.ev e).int, (a3.ev e).int, (a4.ev e).int, (a5.ev e).int, (a6.ev e).int, (a7.ev e).int, (a8.ev e).int] (a9.ev e).int (a10.ev e).int (a11.ev e).int (a12.ev e).int)) ∧ (e (b + 1)).int = (((Day.cleanH (a0.ev e).int (Day.HB.mk [(a1.ev e).int, (a2.ev e).int, (a3.ev e).int, (a4.ev e).int, (a5.ev e).int, (a6.ev e).int, (a7.ev e).int, (a8.ev e).int] (a9.ev e).int (a10.ev e).int (a11.ev e).int (a12.ev e).int))).a 0) ∧ (e (b + 2)).int = (((Day.cleanH (a0.ev e).int (Day.HB.mk [(a1.ev e).int, (a2.ev e).int, (a3.ev e).int, (a4.ev e).int, (a5.ev e).int, (a6.ev e).int, (a7.ev e).int, (a8.ev e).int] (a9.ev e).int (a10.ev e).int (a11.ev e).int (a12.ev e).int))).a 1) ∧ (e (b + 3)).int = (((Day.cleanH (a0.ev e).int (Day.HB.mk [(a1.ev e).int, (a2.ev e).int, (a3.ev e).int, (a4.ev e).int, (a5.ev e).int, (a6.ev e).int, (a7.ev e).int, (a8.ev e).int] (a9.ev e).int (a10.ev e).int (a11.ev e).int (a12.ev e).int))).a 2) ∧ (e (b + 4)).int = (((Day.cleanH (a0.ev e).int (Day.HB.mk [(a1.ev e).int, (a2.ev e).int, (a3.ev e).int, (a4.ev e).int, (a5.ev e).int, (a6.ev e).int, (a7.ev e).int, (a8.ev e).int] (a9.ev e).int (a10.ev e).int (a11.ev e).int (a12.ev e).int))).a 3) ∧ (e (b + 5)).int = (((Day.cleanH (a0.ev e).int (Day.HB.mk [(a1.ev e).int, (a2.ev e).int, (a3.ev e).int, (a4.ev e).int, (a5.ev e).int, (a6.ev e).int, (a7.ev e).int, (a8.ev e).int] (a9.ev e).int (a10.ev e).int (a11.ev e).int (a12.ev e).int))).a 4) ∧ (e (b + 6)).int = (((Day.cleanH (a0.ev e).int (Day.HB.mk [(a1.ev e).int, (a2.ev e).int, (a3.ev e).int, (a4.ev e).int, (a5.ev e).int, (a6.ev e).int, (a7.ev e).int, (a8.ev e).int] (a9.ev e).int (a10.ev e).int (a11.ev e).int (a12.ev e).int))).a 5) ∧ (e (b + 7)).int = (((Day.cleanH (a0.ev e).int (Day.HB.mk [(a1.ev e).int, (a2.ev e).int, (a3.ev e).int, (a4.ev e).int, (a5.ev e).int, (a6.ev e).int, (a7.ev e).int, (a8.ev e).int] (a9.ev e).int (a10.ev e).int (a11.ev e).int (a12.ev e).int))).a 6) ∧ (e (b + 8)).int = (((Day.cleanH (a0.ev e).int (Day.HB.mk [(a1.ev e).int, (a2.ev e).int, (a3.ev e).int, (a4.ev e).int, (a5.ev e).int, (a6.ev e).int, (a7.ev e).int, (a8.ev e).int] (a9.ev e).int (a10.ev e).int (a11.ev e).int (a12.ev e).int))).a 7) ∧ (e (b + 9)).int = (((Day.cleanH (a0.ev e).int (Day.HB.mk [(a1.ev e).int, (a2.ev e).int, (a3.ev e).int, (a4.ev e).int, (a5.ev e).int, (a6.ev e).int, (a7.ev e).int, (a8.ev e).int] (a9.ev e).int (a10.ev e).int (a11.ev e).int (a12.ev e).int))).port) ∧ (e (b + 10)).int = (((Day.cleanH (a0.ev e).int (Day.HB.mk [(a1.ev e).int, (a2.ev e).int, (a3.ev e).int, (a4.ev e).int, (a5.ev e).int, (a6.ev e).int, (a7.ev e).int, (a8.ev e).int] (a9.ev e).int (a10.ev e).int (a11.ev e).int (a12.ev e).int))).age) ∧ (e (b + 11)).int = (((Day.cleanH (a0.ev e).int (Day.HB.mk [(a1.ev e).int, (a2.ev e).int, (a3.ev e).int, (a4.ev e).int, (a5.ev e).int, (a6.ev e).int, (a7.ev e).int, (a8.ev e).int] (a9.ev e).int (a10.ev e).int (a11.ev e).int (a12.ev e).int))).hold) ∧ (e (b + 12)).int = (((Day.cleanH (a0.ev e).int (Day.HB.mk [(a1.ev e).int, (a2.ev e).int, (a3.ev e).int, (a4.ev e).int, (a5.ev e).int, (a6.ev e).int, (a7.ev e).int, (a8.ev e).int] (a9.ev e).int (a10.ev e).int (a11.ev e).int (a12.ev e).int))).pos) ∧ (e (b + 13)).int = (Day.argE (a0.ev e).int) := by
  have hp := q_pre T_89 h
  have ho := fun j a => q_out (a := a) T_89 j h
  simp only [t_89, gi, gb, gs, gv, ge, List.map_cons, List.map_nil, List.getD_cons_zero, List.getD_cons_succ, L.ev_n, A.int_i] at hp ho
  exact ⟨hp, (congrArg A.int (ho 0 _ rfl) :), (congrArg A.int (ho 1 _ rfl) :), (congrArg A.int (ho 2 _ rfl) :), (congrArg A.int (ho 3 _ rfl) :), (congrArg A.int (ho 4 _ rfl) :), (congrArg A.int (ho 5 _ rfl) :), (congrArg A.int (ho 6 _ rfl) :), (congrArg A.int (ho 7 _ rfl) :), (congrArg A.int (ho 8 _ rfl) :), (congrArg A.int (ho 9 _ rfl) :), (congrArg A.int (ho 10 _ rfl) :), (congrArg A.int (ho 11 _ rfl) :), (congrArg A.int (ho 12 _ rfl) :)⟩
theorem out_vote_Right {e : Nat → A} {b : Nat} {a0 a1 a2 a3 a4 a5 a6 a7 a8 a9 a10 a11 a12 : L} (h : Def.holds T e ⟨b, .call 96, [a0, a1, a2, a3, a4, a5, a6, a7, a8, a9, a10, a11, a12]⟩) :
    (e b).bool = (Day.HB.i64 (Day.HB.mk [(a1.ev e).int, (a2.ev e).int, (a3.ev e).int, (a4.ev e).int, (a5.ev e).int, (a6.ev e).int, (a7.ev e).int, (a8.ev e).int] (a9.ev e).int (a10.ev e).int (a11.ev e).int (a12.ev e).int)) ∧ (e (b + 1)).bool = (Day.rightH (a0.ev e).int (Day.HB.mk [(a1.ev e).int, (a2.ev e).int, (a3.ev e).int, (a4.ev e).int, (a5.ev e).int, (a6.ev e).int, (a7.ev e).int, (a8.ev e).int] (a9.ev e).int (a10.ev e).int (a11.ev e).int (a12.ev e).int)) := by
  have hp := q_pre T_96 h
  have ho := fun j a => q_out (a := a) T_96 j h
  simp only [t_96, gi, gb, gs, gv, ge, List.map_cons, List.map_nil, List.getD_cons_zero, List.getD_cons_succ, L.ev_n, A.int_i] at hp ho
  exact ⟨hp, (congrArg A.bool (ho 0 _ rfl) :)⟩
theorem out_vote_Fresh {e : Nat → A} {b : Nat} {a0 : L} (h : Def.holds T e ⟨b, .call 93, [a0]⟩) :
    (e b).bool = (true) ∧ (e (b + 1)).int = (((Day.freshH (a0.ev e).int)).a 0) ∧ (e (b + 2)).int = (((Day.freshH (a0.ev e).int)).a 1) ∧ (e (b + 3)).int = (((Day.freshH (a0.ev e).int)).a 2) ∧ (e (b + 4)).int = (((Day.freshH (a0.ev e).int)).a 3) ∧ (e (b + 5)).int = (((Day.freshH (a0.ev e).int)).a 4) ∧ (e (b + 6)).int = (((Day.freshH (a0.ev e).int)).a 5) ∧ (e (b + 7)).int = (((Day.freshH (a0.ev e).int)).a 6) ∧ (e (b + 8)).int = (((Day.freshH (a0.ev e).int)).a 7) ∧ (e (b + 9)).int = (((Day.freshH (a0.ev e).int)).port) ∧ (e (b + 10)).int = (((Day.freshH (a0.ev e).int)).age) ∧ (e (b + 11)).int = (((Day.freshH (a0.ev e).int)).hold) ∧ (e (b + 12)).int = (((Day.freshH (a0.ev e).int)).pos) ∧ (e (b + 13)).int = (Day.argE (a0.ev e).int) := by
  have hp := q_pre T_93 h
  have ho := fun j a => q_out (a := a) T_93 j h
  simp only [t_93, gi, gb, gs, gv, ge, List.map_cons, List.map_nil, List.getD_cons_zero, List.getD_cons_succ, L.ev_n, A.int_i] at hp ho
  exact ⟨hp, (congrArg A.int (ho 0 _ rfl) :), (congrArg A.int (ho 1 _ rfl) :), (congrArg A.int (ho 2 _ rfl) :), (congrArg A.int (ho 3 _ rfl) :), (congrArg A.int (ho 4 _ rfl) :), (congrArg A.int (ho 5 _ rfl) :), (congrArg A.int (ho 6 _ rfl) :), (congrArg A.int (ho 7 _ rfl) :), (congrArg A.int (ho 8 _ rfl) :), (congrArg A.int (ho 9 _ rfl) :), (congrArg A.int (ho 10 _ rfl) :), (congrArg A.int (ho 11 _ rfl) :), (congrArg A.int (ho 12 _ rfl) :)⟩
theorem out_vote_Tick {e : Nat → A} {b : Nat} {a0 a1 a2 a3 a4 a5 a6 a7 a8 a9 a10 a11 a12 : L} (h : Def.holds T e ⟨b, .call 90, [a0, a1, a2, a3, a4, a5, a6, a7, a8, a9, a10, a11, a12]⟩) :
    (e b).bool = (Day.HB.i64 (Day.HB.mk [(a1.ev e).int, (a2.ev e).int, (a3.ev e).int, (a4.ev e).int, (a5.ev e).int, (a6.ev e).int, (a7.ev e).int, (a8.ev e).int] (a9.ev e).int (a10.ev e).int (a11.ev e).int (a12.ev e).int)) ∧ (e (b + 1)).int = (((Day.tickH (a0.ev e).int (Day.HB.mk [(a1.ev e).int, (a2.ev e).int, (a3.ev e).int, (a4.ev e).int, (a5.ev e).int, (a6.ev e).int, (a7.ev e).int, (a8.ev e).int] (a9.ev e).int (a10.ev e).int (a11.ev e).int (a12.ev e).int))).a 0) ∧ (e (b + 2)).int = (((Day.tickH (a0.ev e).int (Day.HB.mk [(a1.ev e).int, (a2.ev e).int, (a3.ev e).int, (a4.ev e).int, (a5.ev e).int, (a6.ev e).int, (a7.ev e).int, (a8.ev e).int] (a9.ev e).int (a10.ev e).int (a11.ev e).int (a12.ev e).int))).a 1) ∧ (e (b + 3)).int = (((Day.tickH (a0.ev e).int (Day.HB.mk [(a1.ev e).int, (a2.ev e).int, (a3.ev e).int, (a4.ev e).int, (a5.ev e).int, (a6.ev e).int, (a7.ev e).int, (a8.ev e).int] (a9.ev e).int (a10.ev e).int (a11.ev e).int (a12.ev e).int))).a 2) ∧ (e (b + 4)).int = (((Day.tickH (a0.ev e).int (Day.HB.mk [(a1.ev e).int, (a2.ev e).int, (a3.ev e).int, (a4.ev e).int, (a5.ev e).int, (a6.ev e).int, (a7.ev e).int, (a8.ev e).int] (a9.ev e).int (a10.ev e).int (a11.ev e).int (a12.ev e).int))).a 3) ∧ (e (b + 5)).int = (((Day.tickH (a0.ev e).int (Day.HB.mk [(a1.ev e).int, (a2.ev e).int, (a3.ev e).int, (a4.ev e).int, (a5.ev e).int, (a6.ev e).int, (a7.ev e).int, (a8.ev e).int] (a9.ev e).int (a10.ev e).int (a11.ev e).int (a12.ev e).int))).a 4) ∧ (e (b + 6)).int = (((Day.tickH (a0.ev e).int (Day.HB.mk [(a1.ev e).int, (a2.ev e).int, (a3.ev e).int, (a4.ev e).int, (a5.ev e).int, (a6.ev e).int, (a7.ev e).int, (a8.ev e).int] (a9.ev e).int (a10.ev e).int (a11.ev e).int (a12.ev e).int))).a 5) ∧ (e (b + 7)).int = (((Day.tickH (a0.ev e).int (Day.HB.mk [(a1.ev e).int, (a2.ev e).int, (a3.ev e).int, (a4.ev e).int, (a5.ev e).int, (a6.ev e).int, (a7.ev e).int, (a8.ev e).int] (a9.ev e).int (a10.ev e).int (a11.ev e).int (a12.ev e).int))).a 6) ∧ (e (b + 8)).int = (((Day.tickH (a0.ev e).int (Day.HB.mk [(a1.ev e).int, (a2.ev e).int, (a3.ev e).int, (a4.ev e).int, (a5.ev e).int, (a6.ev e).int, (a7.ev e).int, (a8.ev e).int] (a9.ev e).int (a10.ev e).int (a11.ev e).int (a12.ev e).int))).a 7) ∧ (e (b + 9)).int = (((Day.tickH (a0.ev e).int (Day.HB.mk [(a1.ev e).int, (a2.ev e).int, (a3.ev e).int, (a4.ev e).int, (a5.ev e).int, (a6.ev e).int, (a7.ev e).int, (a8.ev e).int] (a9.ev e).int (a10.ev e).int (a11.ev e).int (a12.ev e).int))).port) ∧ (e (b + 10)).int = (((Day.tickH (a0.ev e).int (Day.HB.mk [(a1.ev e).int, (a2.ev e).int, (a3.ev e).int, (a4.ev e).int, (a5.ev e).int, (a6.ev e).int, (a7.ev e).int, (a8.ev e).int] (a9.ev e).int (a10.ev e).int (a11.ev e).int (a12.ev e).int))).age) ∧ (e (b + 11)).int = (((Day.tickH (a0.ev e).int (Day.HB.mk [(a1.ev e).int, (a2.ev e).int, (a3.ev e).int, (a4.ev e).int, (a5.ev e).int, (a6.ev e).int, (a7.ev e).int, (a8.ev e).int] (a9.ev e).int (a10.ev e).int (a11.ev e).int (a12.ev e).int))).hold) ∧ (e (b + 12)).int = (((Day.tickH (a0.ev e).int (Day.HB.mk [(a1.ev e).int, (a2.ev e).int, (a3.ev e).int, (a4.ev e).int, (a5.ev e).int, (a6.ev e).int, (a7.ev e).int, (a8.ev e).int] (a9.ev e).int (a10.ev e).int (a11.ev e).int (a12.ev e).int))).pos) ∧ (e (b + 13)).int = (Day.argH (a0.ev e).int (Day.HB.mk [(a1.ev e).int, (a2.ev e).int, (a3.ev e).int, (a4.ev e).int, (a5.ev e).int, (a6.ev e).int, (a7.ev e).int, (a8.ev e).int] (a9.ev e).int (a10.ev e).int (a11.ev e).int (a12.ev e).int)) := by
  have hp := q_pre T_90 h
  have ho := fun j a => q_out (a := a) T_90 j h
  simp only [t_90, gi, gb, gs, gv, ge, List.map_cons, List.map_nil, List.getD_cons_zero, List.getD_cons_succ, L.ev_n, A.int_i] at hp ho
  exact ⟨hp, (congrArg A.int (ho 0 _ rfl) :), (congrArg A.int (ho 1 _ rfl) :), (congrArg A.int (ho 2 _ rfl) :), (congrArg A.int (ho 3 _ rfl) :), (congrArg A.int (ho 4 _ rfl) :), (congrArg A.int (ho 5 _ rfl) :), (congrArg A.int (ho 6 _ rfl) :), (congrArg A.int (ho 7 _ rfl) :), (congrArg A.int (ho 8 _ rfl) :), (congrArg A.int (ho 9 _ rfl) :), (congrArg A.int (ho 10 _ rfl) :), (congrArg A.int (ho 11 _ rfl) :), (congrArg A.int (ho 12 _ rfl) :)⟩
theorem out_ref11_in {e : Nat → A} {b : Nat} {a0 a1 : L} (h : Def.holds T e ⟨b, .call 147, [a0, a1]⟩) :
    (e b).bool = (true) ∧ (e (b + 1)).bool = (Day.inR (a0.ev e).int (a1.ev e).int) := by
  have hp := q_pre T_147 h
  have ho := fun j a => q_out (a := a) T_147 j h
  simp only [t_147, gi, gb, gs, gv, ge, List.map_cons, List.map_nil, List.getD_cons_zero, List.getD_cons_succ, L.ev_n, A.int_i] at hp ho
  exact ⟨hp, (congrArg A.bool (ho 0 _ rfl) :)⟩
theorem out_ref11_Right {e : Nat → A} {b : Nat} {a0 a1 a2 a3 a4 a5 a6 a7 a8 a9 a10 a11 a12 : L} (h : Def.holds T e ⟨b, .call 97, [a0, a1, a2, a3, a4, a5, a6, a7, a8, a9, a10, a11, a12]⟩) :
    (e b).bool = (true) ∧ (e (b + 1)).bool = (Day.rightH (a0.ev e).int (Day.HB.mk [(a1.ev e).int, (a2.ev e).int, (a3.ev e).int, (a4.ev e).int, (a5.ev e).int, (a6.ev e).int, (a7.ev e).int, (a8.ev e).int] (a9.ev e).int (a10.ev e).int (a11.ev e).int (a12.ev e).int)) := by
  have hp := q_pre T_97 h
  have ho := fun j a => q_out (a := a) T_97 j h
  simp only [t_97, gi, gb, gs, gv, ge, List.map_cons, List.map_nil, List.getD_cons_zero, List.getD_cons_succ, L.ev_n, A.int_i] at hp ho
  exact ⟨hp, (congrArg A.bool (ho 0 _ rfl) :)⟩
theorem out_ref11_Clean {e : Nat → A} {b : Nat} {a0 a1 a2 a3 a4 a5 a6 a7 a8 a9 a10 a11 a12 : L} (h : Def.holds T e ⟨b, .call 95, [a0, a1, a2, a3, a4, a5, a6, a7, a8, a9, a10, a11, a12]⟩) :
    (e b).bool = (Day.HB.i64 (Day.HB.mk [(a1.ev e).int, (a2.ev e).int, (a3.ev e).int, (a4.ev e).int, (a5.ev e).int, (a6.ev e).int, (a7.ev e).int, (a8.ev e).int] (a9.ev e).int (a10.ev e).int (a11.ev e).int (a12.ev e).int)) ∧ (e (b + 1)).int = (((Day.cleanH (a0.ev e).int (Day.HB.mk [(a1.ev e).int, (a2.ev e).int, (a3.ev e).int, (a4.ev e).int, (a5.ev e).int, (a6.ev e).int, (a7.ev e).int, (a8.ev e).int] (a9.ev e).int (a10.ev e).int (a11.ev e).int (a12.ev e).int))).a 0) ∧ (e (b + 2)).int = (((Day.cleanH (a0.ev e).int (Day.HB.mk [(a1.ev e).int, (a2.ev e).int, (a3.ev e).int, (a4.ev e).int, (a5.ev e).int, (a6.ev e).int, (a7.ev e).int, (a8.ev e).int] (a9.ev e).int (a10.ev e).int (a11.ev e).int (a12.ev e).int))).a 1) ∧ (e (b + 3)).int = (((Day.cleanH (a0.ev e).int (Day.HB.mk [(a1.ev e).int, (a2.ev e).int, (a3.ev e).int, (a4.ev e).int, (a5.ev e).int, (a6.ev e).int, (a7.ev e).int, (a8.ev e).int] (a9.ev e).int (a10.ev e).int (a11.ev e).int (a12.ev e).int))).a 2) ∧ (e (b + 4)).int = (((Day.cleanH (a0.ev e).int (Day.HB.mk [(a1.ev e).int, (a2.ev e).int, (a3.ev e).int, (a4.ev e).int, (a5.ev e).int, (a6.ev e).int, (a7.ev e).int, (a8.ev e).int] (a9.ev e).int (a10.ev e).int (a11.ev e).int (a12.ev e).int))).a 3) ∧ (e (b + 5)).int = (((Day.cleanH (a0.ev e).int (Day.HB.mk [(a1.ev e).int, (a2.ev e).int, (a3.ev e).int, (a4.ev e).int, (a5.ev e).int, (a6.ev e).int, (a7.ev e).int, (a8.ev e).int] (a9.ev e).int (a10.ev e).int (a11.ev e).int (a12.ev e).int))).a 4) ∧ (e (b + 6)).int = (((Day.cleanH (a0.ev e).int (Day.HB.mk [(a1.ev e).int, (a2.ev e).int, (a3.ev e).int, (a4.ev e).int, (a5.ev e).int, (a6.ev e).int, (a7.ev e).int, (a8.ev e).int] (a9.ev e).int (a10.ev e).int (a11.ev e).int (a12.ev e).int))).a 5) ∧ (e (b + 7)).int = (((Day.cleanH (a0.ev e).int (Day.HB.mk [(a1.ev e).int, (a2.ev e).int, (a3.ev e).int, (a4.ev e).int, (a5.ev e).int, (a6.ev e).int, (a7.ev e).int, (a8.ev e).int] (a9.ev e).int (a10.ev e).int (a11.ev e).int (a12.ev e).int))).a 6) ∧ (e (b + 8)).int = (((Day.cleanH (a0.ev e).int (Day.HB.mk [(a1.ev e).int, (a2.ev e).int, (a3.ev e).int, (a4.ev e).int, (a5.ev e).int, (a6.ev e).int, (a7.ev e).int, (a8.ev e).int] (a9.ev e).int (a10.ev e).int (a11.ev e).int (a12.ev e).int))).a 7) ∧ (e (b + 9)).int = (((Day.cleanH (a0.ev e).int (Day.HB.mk [(a1.ev e).int, (a2.ev e).int, (a3.ev e).int, (a4.ev e).int, (a5.ev e).int, (a6.ev e).int, (a7.ev e).int, (a8.ev e).int] (a9.ev e).int (a10.ev e).int (a11.ev e).int (a12.ev e).int))).port) ∧ (e (b + 10)).int = (((Day.cleanH (a0.ev e).int (Day.HB.mk [(a1.ev e).int, (a2.ev e).int, (a3.ev e).int, (a4.ev e).int, (a5.ev e).int, (a6.ev e).int, (a7.ev e).int, (a8.ev e).int] (a9.ev e).int (a10.ev e).int (a11.ev e).int (a12.ev e).int))).age) ∧ (e (b + 11)).int = (((Day.cleanH (a0.ev e).int (Day.HB.mk [(a1.ev e).int, (a2.ev e).int, (a3.ev e).int, (a4.ev e).int, (a5.ev e).int, (a6.ev e).int, (a7.ev e).int, (a8.ev e).int] (a9.ev e).int (a10.ev e).int (a11.ev e).int (a12.ev e).int))).hold) ∧ (e (b + 12)).int = (((Day.cleanH (a0.ev e).int (Day.HB.mk [(a1.ev e).int, (a2.ev e).int, (a3.ev e).int, (a4.ev e).int, (a5.ev e).int, (a6.ev e).int, (a7.ev e).int, (a8.ev e).int] (a9.ev e).int (a10.ev e).int (a11.ev e).int (a12.ev e).int))).pos) ∧ (e (b + 13)).int = (Day.argE (a0.ev e).int) := by
  have hp := q_pre T_95 h
  have ho := fun j a => q_out (a := a) T_95 j h
  simp only [t_95, gi, gb, gs, gv, ge, List.map_cons, List.map_nil, List.getD_cons_zero, List.getD_cons_succ, L.ev_n, A.int_i] at hp ho
  exact ⟨hp, (congrArg A.int (ho 0 _ rfl) :), (congrArg A.int (ho 1 _ rfl) :), (congrArg A.int (ho 2 _ rfl) :), (congrArg A.int (ho 3 _ rfl) :), (congrArg A.int (ho 4 _ rfl) :), (congrArg A.int (ho 5 _ rfl) :), (congrArg A.int (ho 6 _ rfl) :), (congrArg A.int (ho 7 _ rfl) :), (congrArg A.int (ho 8 _ rfl) :), (congrArg A.int (ho 9 _ rfl) :), (congrArg A.int (ho 10 _ rfl) :), (congrArg A.int (ho 11 _ rfl) :), (congrArg A.int (ho 12 _ rfl) :)⟩
theorem out_ref11_Fresh {e : Nat → A} {b : Nat} {a0 : L} (h : Def.holds T e ⟨b, .call 94, [a0]⟩) :
    (e b).bool = (true) ∧ (e (b + 1)).int = (((Day.freshH (a0.ev e).int)).a 0) ∧ (e (b + 2)).int = (((Day.freshH (a0.ev e).int)).a 1) ∧ (e (b + 3)).int = (((Day.freshH (a0.ev e).int)).a 2) ∧ (e (b + 4)).int = (((Day.freshH (a0.ev e).int)).a 3) ∧ (e (b + 5)).int = (((Day.freshH (a0.ev e).int)).a 4) ∧ (e (b + 6)).int = (((Day.freshH (a0.ev e).int)).a 5) ∧ (e (b + 7)).int = (((Day.freshH (a0.ev e).int)).a 6) ∧ (e (b + 8)).int = (((Day.freshH (a0.ev e).int)).a 7) ∧ (e (b + 9)).int = (((Day.freshH (a0.ev e).int)).port) ∧ (e (b + 10)).int = (((Day.freshH (a0.ev e).int)).age) ∧ (e (b + 11)).int = (((Day.freshH (a0.ev e).int)).hold) ∧ (e (b + 12)).int = (((Day.freshH (a0.ev e).int)).pos) ∧ (e (b + 13)).int = (Day.argE (a0.ev e).int) := by
  have hp := q_pre T_94 h
  have ho := fun j a => q_out (a := a) T_94 j h
  simp only [t_94, gi, gb, gs, gv, ge, List.map_cons, List.map_nil, List.getD_cons_zero, List.getD_cons_succ, L.ev_n, A.int_i] at hp ho
  exact ⟨hp, (congrArg A.int (ho 0 _ rfl) :), (congrArg A.int (ho 1 _ rfl) :), (congrArg A.int (ho 2 _ rfl) :), (congrArg A.int (ho 3 _ rfl) :), (congrArg A.int (ho 4 _ rfl) :), (congrArg A.int (ho 5 _ rfl) :), (congrArg A.int (ho 6 _ rfl) :), (congrArg A.int (ho 7 _ rfl) :), (congrArg A.int (ho 8 _ rfl) :), (congrArg A.int (ho 9 _ rfl) :), (congrArg A.int (ho 10 _ rfl) :), (congrArg A.int (ho 11 _ rfl) :), (congrArg A.int (ho 12 _ rfl) :)⟩
theorem out_ref11_Tick {e : Nat → A} {b : Nat} {a0 a1 a2 a3 a4 a5 a6 a7 a8 a9 a10 a11 a12 : L} (h : Def.holds T e ⟨b, .call 98, [a0, a1, a2, a3, a4, a5, a6, a7, a8, a9, a10, a11, a12]⟩) :
    (e b).bool = (Day.HB.i64 (Day.HB.mk [(a1.ev e).int, (a2.ev e).int, (a3.ev e).int, (a4.ev e).int, (a5.ev e).int, (a6.ev e).int, (a7.ev e).int, (a8.ev e).int] (a9.ev e).int (a10.ev e).int (a11.ev e).int (a12.ev e).int)) ∧ (e (b + 1)).int = (((Day.tickH (a0.ev e).int (Day.HB.mk [(a1.ev e).int, (a2.ev e).int, (a3.ev e).int, (a4.ev e).int, (a5.ev e).int, (a6.ev e).int, (a7.ev e).int, (a8.ev e).int] (a9.ev e).int (a10.ev e).int (a11.ev e).int (a12.ev e).int))).a 0) ∧ (e (b + 2)).int = (((Day.tickH (a0.ev e).int (Day.HB.mk [(a1.ev e).int, (a2.ev e).int, (a3.ev e).int, (a4.ev e).int, (a5.ev e).int, (a6.ev e).int, (a7.ev e).int, (a8.ev e).int] (a9.ev e).int (a10.ev e).int (a11.ev e).int (a12.ev e).int))).a 1) ∧ (e (b + 3)).int = (((Day.tickH (a0.ev e).int (Day.HB.mk [(a1.ev e).int, (a2.ev e).int, (a3.ev e).int, (a4.ev e).int, (a5.ev e).int, (a6.ev e).int, (a7.ev e).int, (a8.ev e).int] (a9.ev e).int (a10.ev e).int (a11.ev e).int (a12.ev e).int))).a 2) ∧ (e (b + 4)).int = (((Day.tickH (a0.ev e).int (Day.HB.mk [(a1.ev e).int, (a2.ev e).int, (a3.ev e).int, (a4.ev e).int, (a5.ev e).int, (a6.ev e).int, (a7.ev e).int, (a8.ev e).int] (a9.ev e).int (a10.ev e).int (a11.ev e).int (a12.ev e).int))).a 3) ∧ (e (b + 5)).int = (((Day.tickH (a0.ev e).int (Day.HB.mk [(a1.ev e).int, (a2.ev e).int, (a3.ev e).int, (a4.ev e).int, (a5.ev e).int, (a6.ev e).int, (a7.ev e).int, (a8.ev e).int] (a9.ev e).int (a10.ev e).int (a11.ev e).int (a12.ev e).int))).a 4) ∧ (e (b + 6)).int = (((Day.tickH (a0.ev e).int (Day.HB.mk [(a1.ev e).int, (a2.ev e).int, (a3.ev e).int, (a4.ev e).int, (a5.ev e).int, (a6.ev e).int, (a7.ev e).int, (a8.ev e).int] (a9.ev e).int (a10.ev e).int (a11.ev e).int (a12.ev e).int))).a 5) ∧ (e (b + 7)).int = (((Day.tickH (a0.ev e).int (Day.HB.mk [(a1.ev e).int, (a2.ev e).int, (a3.ev e).int, (a4.ev e).int, (a5.ev e).int, (a6.ev e).int, (a7.ev e).int, (a8.ev e).int] (a9.ev e).int (a10.ev e).int (a11.ev e).int (a12.ev e).int))).a 6) ∧ (e (b + 8)).int = (((Day.tickH (a0.ev e).int (Day.HB.mk [(a1.ev e).int, (a2.ev e).int, (a3.ev e).int, (a4.ev e).int, (a5.ev e).int, (a6.ev e).int, (a7.ev e).int, (a8.ev e).int] (a9.ev e).int (a10.ev e).int (a11.ev e).int (a12.ev e).int))).a 7) ∧ (e (b + 9)).int = (((Day.tickH (a0.ev e).int (Day.HB.mk [(a1.ev e).int, (a2.ev e).int, (a3.ev e).int, (a4.ev e).int, (a5.ev e).int, (a6.ev e).int, (a7.ev e).int, (a8.ev e).int] (a9.ev e).int (a10.ev e).int (a11.ev e).int (a12.ev e).int))).port) ∧ (e (b + 10)).int = (((Day.tickH (a0.ev e).int (Day.HB.mk [(a1.ev e).int, (a2.ev e).int, (a3.ev e).int, (a4.ev e).int, (a5.ev e).int, (a6.ev e).int, (a7.ev e).int, (a8.ev e).int] (a9.ev e).int (a10.ev e).int (a11.ev e).int (a12.ev e).int))).age) ∧ (e (b + 11)).int = (((Day.tickH (a0.ev e).int (Day.HB.mk [(a1.ev e).int, (a2.ev e).int, (a3.ev e).int, (a4.ev e).int, (a5.ev e).int, (a6.ev e).int, (a7.ev e).int, (a8.ev e).int] (a9.ev e).int (a10.ev e).int (a11.ev e).int (a12.ev e).int))).hold) ∧ (e (b + 12)).int = (((Day.tickH (a0.ev e).int (Day.HB.mk [(a1.ev e).int, (a2.ev e).int, (a3.ev e).int, (a4.ev e).int, (a5.ev e).int, (a6.ev e).int, (a7.ev e).int, (a8.ev e).int] (a9.ev e).int (a10.ev e).int (a11.ev e).int (a12.ev e).int))).pos) ∧ (e (b + 13)).int = (Day.argH (a0.ev e).int (Day.HB.mk [(a1.ev e).int, (a2.ev e).int, (a3.ev e).int, (a4.ev e).int, (a5.ev e).int, (a6.ev e).int, (a7.ev e).int, (a8.ev e).int] (a9.ev e).int (a10.ev e).int (a11.ev e).int (a12.ev e).int)) := by
  have hp := q_pre T_98 h
  have ho := fun j a => q_out (a := a) T_98 j h
  simp only [t_98, gi, gb, gs, gv, ge, List.map_cons, List.map_nil, List.getD_cons_zero, List.getD_cons_succ, L.ev_n, A.int_i] at hp ho
  exact ⟨hp, (congrArg A.int (ho 0 _ rfl) :), (congrArg A.int (ho 1 _ rfl) :), (congrArg A.int (ho 2 _ rfl) :), (congrArg A.int (ho 3 _ rfl) :), (congrArg A.int (ho 4 _ rfl) :), (congrArg A.int (ho 5 _ rfl) :), (congrArg A.int (ho 6 _ rfl) :), (congrArg A.int (ho 7 _ rfl) :), (congrArg A.int (ho 8 _ rfl) :), (congrArg A.int (ho 9 _ rfl) :), (congrArg A.int (ho 10 _ rfl) :), (congrArg A.int (ho 11 _ rfl) :), (congrArg A.int (ho 12 _ rfl) :)⟩
theorem out_ref11_votes {e : Nat → A} {b : Nat} {a0 a1 a2 a3 a4 a5 a6 a7 a8 a9 a10 a11 a12 a13 a14 : L} (h : Def.holds T e ⟨b, .call 150, [a0, a1, a2, a3, a4, a5, a6, a7, a8, a9, a10, a11, a12, a13, a14]⟩) :
    (e b).bool = (Day.rightH (a0.ev e).int (Day.HB.mk [(a1.ev e).int, (a2.ev e).int, (a3.ev e).int, (a4.ev e).int, (a5.ev e).int, (a6.ev e).int, (a7.ev e).int, (a8.ev e).int] (a9.ev e).int (a10.ev e).int (a11.ev e).int (a12.ev e).int) && Day.ltR (a13.ev e).int (a0.ev e).int) ∧ (e (b + 1)).bool = (Day.voteB (a0.ev e).int (Day.HB.mk [(a1.ev e).int, (a2.ev e).int, (a3.ev e).int, (a4.ev e).int, (a5.ev e).int, (a6.ev e).int, (a7.ev e).int, (a8.ev e).int] (a9.ev e).int (a10.ev e).int (a11.ev e).int (a12.ev e).int) ((a13.ev e).int).toNat (a14.ev e).int) := by
  have hp := q_pre T_150 h
  have ho := fun j a => q_out (a := a) T_150 j h
  simp only [t_150, gi, gb, gs, gv, ge, List.map_cons, List.map_nil, List.getD_cons_zero, List.getD_cons_succ, L.ev_n, A.int_i] at hp ho
  exact ⟨hp, (congrArg A.bool (ho 0 _ rfl) :)⟩
theorem out_ref11_Votes {e : Nat → A} {b : Nat} {a0 a1 a2 a3 a4 a5 a6 a7 a8 a9 a10 a11 a12 a13 : L} (h : Def.holds T e ⟨b, .call 101, [a0, a1, a2, a3, a4, a5, a6, a7, a8, a9, a10, a11, a12, a13]⟩) :
    (e b).bool = (true) ∧ (e (b + 1)).int = (Day.votesH (a0.ev e).int (Day.HB.mk [(a1.ev e).int, (a2.ev e).int, (a3.ev e).int, (a4.ev e).int, (a5.ev e).int, (a6.ev e).int, (a7.ev e).int, (a8.ev e).int] (a9.ev e).int (a10.ev e).int (a11.ev e).int (a12.ev e).int) (a13.ev e).int) := by
  have hp := q_pre T_101 h
  have ho := fun j a => q_out (a := a) T_101 j h
  simp only [t_101, gi, gb, gs, gv, ge, List.map_cons, List.map_nil, List.getD_cons_zero, List.getD_cons_succ, L.ev_n, A.int_i] at hp ho
  exact ⟨hp, (congrArg A.int (ho 0 _ rfl) :)⟩
theorem out_ref11_Best {e : Nat → A} {b : Nat} {a0 a1 a2 a3 a4 a5 a6 a7 a8 a9 a10 a11 a12 : L} (h : Def.holds T e ⟨b, .call 99, [a0, a1, a2, a3, a4, a5, a6, a7, a8, a9, a10, a11, a12]⟩) :
    (e b).bool = (true) ∧ (e (b + 1)).int = (Day.bestH (a0.ev e).int (Day.HB.mk [(a1.ev e).int, (a2.ev e).int, (a3.ev e).int, (a4.ev e).int, (a5.ev e).int, (a6.ev e).int, (a7.ev e).int, (a8.ev e).int] (a9.ev e).int (a10.ev e).int (a11.ev e).int (a12.ev e).int)) ∧ (e (b + 2)).int = (Day.bestK (a0.ev e).int (Day.HB.mk [(a1.ev e).int, (a2.ev e).int, (a3.ev e).int, (a4.ev e).int, (a5.ev e).int, (a6.ev e).int, (a7.ev e).int, (a8.ev e).int] (a9.ev e).int (a10.ev e).int (a11.ev e).int (a12.ev e).int)) := by
  have hp := q_pre T_99 h
  have ho := fun j a => q_out (a := a) T_99 j h
  simp only [t_99, gi, gb, gs, gv, ge, List.map_cons, List.map_nil, List.getD_cons_zero, List.getD_cons_succ, L.ev_n, A.int_i] at hp ho
  exact ⟨hp, (congrArg A.int (ho 0 _ rfl) :), (congrArg A.int (ho 1 _ rfl) :)⟩
theorem out_vote_counts {e : Nat → A} {b : Nat} {a0 a1 a2 a3 a4 a5 a6 a7 a8 a9 a10 a11 a12 : L} (h : Def.holds T e ⟨b, .call 144, [a0, a1, a2, a3, a4, a5, a6, a7, a8, a9, a10, a11, a12]⟩) :
    (e b).bool = (Day.rightH (a0.ev e).int (Day.HB.mk [(a1.ev e).int, (a2.ev e).int, (a3.ev e).int, (a4.ev e).int, (a5.ev e).int, (a6.ev e).int, (a7.ev e).int, (a8.ev e).int] (a9.ev e).int (a10.ev e).int (a11.ev e).int (a12.ev e).int)) ∧ e (b + 1) = (Day.ofIls ((Day.cntL (a0.ev e).int (Day.HB.mk [(a1.ev e).int, (a2.ev e).int, (a3.ev e).int, (a4.ev e).int, (a5.ev e).int, (a6.ev e).int, (a7.ev e).int, (a8.ev e).int] (a9.ev e).int (a10.ev e).int (a11.ev e).int (a12.ev e).int)))) ∧ (e (b + 2)).int = ((((Day.cntL (a0.ev e).int (Day.HB.mk [(a1.ev e).int, (a2.ev e).int, (a3.ev e).int, (a4.ev e).int, (a5.ev e).int, (a6.ev e).int, (a7.ev e).int, (a8.ev e).int] (a9.ev e).int (a10.ev e).int (a11.ev e).int (a12.ev e).int))).length : Int)) := by
  have hp := q_pre T_144 h
  have ho := fun j a => q_out (a := a) T_144 j h
  simp only [t_144, gi, gb, gs, gv, ge, List.map_cons, List.map_nil, List.getD_cons_zero, List.getD_cons_succ, L.ev_n, A.int_i] at hp ho
  exact ⟨hp, (ho 0 _ rfl :), (congrArg A.int (ho 1 _ rfl) :)⟩
theorem out_vote_Votes {e : Nat → A} {b : Nat} {a0 a1 a2 a3 a4 a5 a6 a7 a8 a9 a10 a11 a12 a13 : L} (h : Def.holds T e ⟨b, .call 100, [a0, a1, a2, a3, a4, a5, a6, a7, a8, a9, a10, a11, a12, a13]⟩) :
    (e b).bool = (Day.HB.i64 (Day.HB.mk [(a1.ev e).int, (a2.ev e).int, (a3.ev e).int, (a4.ev e).int, (a5.ev e).int, (a6.ev e).int, (a7.ev e).int, (a8.ev e).int] (a9.ev e).int (a10.ev e).int (a11.ev e).int (a12.ev e).int)) ∧ (e (b + 1)).int = (Day.votesH (a0.ev e).int (Day.HB.mk [(a1.ev e).int, (a2.ev e).int, (a3.ev e).int, (a4.ev e).int, (a5.ev e).int, (a6.ev e).int, (a7.ev e).int, (a8.ev e).int] (a9.ev e).int (a10.ev e).int (a11.ev e).int (a12.ev e).int) (a13.ev e).int) := by
  have hp := q_pre T_100 h
  have ho := fun j a => q_out (a := a) T_100 j h
  simp only [t_100, gi, gb, gs, gv, ge, List.map_cons, List.map_nil, List.getD_cons_zero, List.getD_cons_succ, L.ev_n, A.int_i] at hp ho
  exact ⟨hp, (congrArg A.int (ho 0 _ rfl) :)⟩
theorem out_vote_Best {e : Nat → A} {b : Nat} {a0 a1 a2 a3 a4 a5 a6 a7 a8 a9 a10 a11 a12 : L} (h : Def.holds T e ⟨b, .call 91, [a0, a1, a2, a3, a4, a5, a6, a7, a8, a9, a10, a11, a12]⟩) :
    (e b).bool = (Day.HB.i64 (Day.HB.mk [(a1.ev e).int, (a2.ev e).int, (a3.ev e).int, (a4.ev e).int, (a5.ev e).int, (a6.ev e).int, (a7.ev e).int, (a8.ev e).int] (a9.ev e).int (a10.ev e).int (a11.ev e).int (a12.ev e).int)) ∧ (e (b + 1)).int = (Day.bestH (a0.ev e).int (Day.HB.mk [(a1.ev e).int, (a2.ev e).int, (a3.ev e).int, (a4.ev e).int, (a5.ev e).int, (a6.ev e).int, (a7.ev e).int, (a8.ev e).int] (a9.ev e).int (a10.ev e).int (a11.ev e).int (a12.ev e).int)) ∧ (e (b + 2)).int = (Day.bestK (a0.ev e).int (Day.HB.mk [(a1.ev e).int, (a2.ev e).int, (a3.ev e).int, (a4.ev e).int, (a5.ev e).int, (a6.ev e).int, (a7.ev e).int, (a8.ev e).int] (a9.ev e).int (a10.ev e).int (a11.ev e).int (a12.ev e).int)) := by
  have hp := q_pre T_91 h
  have ho := fun j a => q_out (a := a) T_91 j h
  simp only [t_91, gi, gb, gs, gv, ge, List.map_cons, List.map_nil, List.getD_cons_zero, List.getD_cons_succ, L.ev_n, A.int_i] at hp ho
  exact ⟨hp, (congrArg A.int (ho 0 _ rfl) :), (congrArg A.int (ho 1 _ rfl) :)⟩
theorem out_law11_awake {e : Nat → A} {b : Nat} (h : Def.holds T e ⟨b, .call 92, []⟩) :
    (e b).bool = (true) ∧ (e (b + 1)).bool = (true) := by
  have hp := q_pre T_92 h
  have ho := fun j a => q_out (a := a) T_92 j h
  simp only [t_92, gi, gb, gs, gv, ge, List.map_cons, List.map_nil, List.getD_cons_zero, List.getD_cons_succ, L.ev_n, A.int_i] at hp ho
  exact ⟨hp, (congrArg A.bool (ho 0 _ rfl) :)⟩
theorem out_law11_VoteTells {e : Nat → A} {b : Nat} {a0 a1 a2 a3 a4 a5 a6 a7 a8 a9 a10 a11 a12 a13 : L} (h : Def.holds T e ⟨b, .call 15, [a0, a1, a2, a3, a4, a5, a6, a7, a8, a9, a10, a11, a12, a13]⟩) :
    (e b).bool = (Day.i64 (a0.ev e).int && Day.i64 (a1.ev e).int && Day.HB.i64 (Day.HB.mk [(a2.ev e).int, (a3.ev e).int, (a4.ev e).int, (a5.ev e).int, (a6.ev e).int, (a7.ev e).int, (a8.ev e).int, (a9.ev e).int] (a10.ev e).int (a11.ev e).int (a12.ev e).int (a13.ev e).int)) ∧ (e (b + 1)).bool = (true) := by
  have hp := q_pre T_15 h
  have ho := fun j a => q_out (a := a) T_15 j h
  simp only [t_15, gi, gb, gs, gv, ge, List.map_cons, List.map_nil, List.getD_cons_zero, List.getD_cons_succ, L.ev_n, A.int_i] at hp ho
  exact ⟨hp, (congrArg A.bool (ho 0 _ rfl) :)⟩
theorem out_law11_VoteEnds {e : Nat → A} {b : Nat} {a0 a1 a2 a3 a4 a5 a6 a7 a8 a9 a10 a11 a12 : L} (h : Def.holds T e ⟨b, .call 14, [a0, a1, a2, a3, a4, a5, a6, a7, a8, a9, a10, a11, a12]⟩) :
    (e b).bool = (Day.u8 (a0.ev e).int && Day.HB.i64 (Day.HB.mk [(a1.ev e).int, (a2.ev e).int, (a3.ev e).int, (a4.ev e).int, (a5.ev e).int, (a6.ev e).int, (a7.ev e).int, (a8.ev e).int] (a9.ev e).int (a10.ev e).int (a11.ev e).int (a12.ev e).int)) ∧ (e (b + 1)).bool = (true) := by
  have hp := q_pre T_14 h
  have ho := fun j a => q_out (a := a) T_14 j h
  simp only [t_14, gi, gb, gs, gv, ge, List.map_cons, List.map_nil, List.getD_cons_zero, List.getD_cons_succ, L.ev_n, A.int_i] at hp ho
  exact ⟨hp, (congrArg A.bool (ho 0 _ rfl) :)⟩
theorem out_law11_VoteFew {e : Nat → A} {b : Nat} {a0 a1 a2 a3 a4 a5 a6 a7 a8 a9 a10 a11 a12 : L} (h : Def.holds T e ⟨b, .call 16, [a0, a1, a2, a3, a4, a5, a6, a7, a8, a9, a10, a11, a12]⟩) :
    (e b).bool = (Day.u8 (a0.ev e).int && Day.HB.i64 (Day.HB.mk [(a1.ev e).int, (a2.ev e).int, (a3.ev e).int, (a4.ev e).int, (a5.ev e).int, (a6.ev e).int, (a7.ev e).int, (a8.ev e).int] (a9.ev e).int (a10.ev e).int (a11.ev e).int (a12.ev e).int)) ∧ (e (b + 1)).bool = (true) := by
  have hp := q_pre T_16 h
  have ho := fun j a => q_out (a := a) T_16 j h
  simp only [t_16, gi, gb, gs, gv, ge, List.map_cons, List.map_nil, List.getD_cons_zero, List.getD_cons_succ, L.ev_n, A.int_i] at hp ho
  exact ⟨hp, (congrArg A.bool (ho 0 _ rfl) :)⟩
theorem out_L1490 {e : Nat → A} {b : Nat} {a0 a1 a2 a3 a4 a5 a6 a7 a8 a9 a10 a11 a12 a13 : L} (h : Def.holds T e ⟨b, .call 1490, [a0, a1, a2, a3, a4, a5, a6, a7, a8, a9, a10, a11, a12, a13]⟩) :
    (e b).bool = (Day.loP (a0.ev e).int (a1.ev e).int) ∧ (e (b + 1)).int = (Day.fillF (a0.ev e).int (a1.ev e).int 0 (a6.ev e).int) ∧ (e (b + 2)).int = (Day.fillF (a0.ev e).int (a1.ev e).int 1 (a7.ev e).int) ∧ (e (b + 3)).int = (Day.fillF (a0.ev e).int (a1.ev e).int 2 (a8.ev e).int) ∧ (e (b + 4)).int = (Day.fillF (a0.ev e).int (a1.ev e).int 3 (a9.ev e).int) ∧ (e (b + 5)).int = (Day.fillF (a0.ev e).int (a1.ev e).int 4 (a10.ev e).int) ∧ (e (b + 6)).int = (Day.fillF (a0.ev e).int (a1.ev e).int 5 (a11.ev e).int) ∧ (e (b + 7)).int = (Day.fillF (a0.ev e).int (a1.ev e).int 6 (a12.ev e).int) ∧ (e (b + 8)).int = (Day.fillF (a0.ev e).int (a1.ev e).int 7 (a13.ev e).int) := by
  have hp := q_pre T_1490 h
  have ho := fun j a => q_out (a := a) T_1490 j h
  simp only [t_1490, gi, gb, gs, gv, ge, List.map_cons, List.map_nil, List.getD_cons_zero, List.getD_cons_succ, L.ev_n, A.int_i] at hp ho
  exact ⟨hp, (congrArg A.int (ho 0 _ rfl) :), (congrArg A.int (ho 1 _ rfl) :), (congrArg A.int (ho 2 _ rfl) :), (congrArg A.int (ho 3 _ rfl) :), (congrArg A.int (ho 4 _ rfl) :), (congrArg A.int (ho 5 _ rfl) :), (congrArg A.int (ho 6 _ rfl) :), (congrArg A.int (ho 7 _ rfl) :)⟩
theorem out_L1500 {e : Nat → A} {b : Nat} {a0 a1 a2 a3 a4 a5 a6 a7 a8 a9 a10 a11 a12 a13 a14 a15 a16 a17 a18 a19 a20 a21 a22 a23 : L} (h : Def.holds T e ⟨b, .call 1500, [a0, a1, a2, a3, a4, a5, a6, a7, a8, a9, a10, a11, a12, a13, a14, a15, a16, a17, a18, a19, a20, a21, a22, a23]⟩) :
    (e b).bool = (Day.loP (a0.ev e).int (a13.ev e).int) ∧ (e (b + 1)).int = (Day.upF (a0.ev e).int (a13.ev e).int 0 (a16.ev e).int) ∧ (e (b + 2)).int = (Day.upF (a0.ev e).int (a13.ev e).int 1 (a17.ev e).int) ∧ (e (b + 3)).int = (Day.upF (a0.ev e).int (a13.ev e).int 2 (a18.ev e).int) ∧ (e (b + 4)).int = (Day.upF (a0.ev e).int (a13.ev e).int 3 (a19.ev e).int) ∧ (e (b + 5)).int = (Day.upF (a0.ev e).int (a13.ev e).int 4 (a20.ev e).int) ∧ (e (b + 6)).int = (Day.upF (a0.ev e).int (a13.ev e).int 5 (a21.ev e).int) ∧ (e (b + 7)).int = (Day.upF (a0.ev e).int (a13.ev e).int 6 (a22.ev e).int) ∧ (e (b + 8)).int = (Day.upF (a0.ev e).int (a13.ev e).int 7 (a23.ev e).int) := by
  have hp := q_pre T_1500 h
  have ho := fun j a => q_out (a := a) T_1500 j h
  simp only [t_1500, gi, gb, gs, gv, ge, List.map_cons, List.map_nil, List.getD_cons_zero, List.getD_cons_succ, L.ev_n, A.int_i] at hp ho
  exact ⟨hp, (congrArg A.int (ho 0 _ rfl) :), (congrArg A.int (ho 1 _ rfl) :), (congrArg A.int (ho 2 _ rfl) :), (congrArg A.int (ho 3 _ rfl) :), (congrArg A.int (ho 4 _ rfl) :), (congrArg A.int (ho 5 _ rfl) :), (congrArg A.int (ho 6 _ rfl) :), (congrArg A.int (ho 7 _ rfl) :)⟩
theorem out_L1520 {e : Nat → A} {b : Nat} {a0 a1 a2 a3 a4 a5 a6 a7 a8 a9 a10 a11 a12 a13 a14 a15 : L} (h : Def.holds T e ⟨b, .call 1520, [a0, a1, a2, a3, a4, a5, a6, a7, a8, a9, a10, a11, a12, a13, a14, a15]⟩) :
    (e b).bool = (Day.votesP (a0.ev e).int (Day.HB.mk [(a1.ev e).int, (a2.ev e).int, (a3.ev e).int, (a4.ev e).int, (a5.ev e).int, (a6.ev e).int, (a7.ev e).int, (a8.ev e).int] (a9.ev e).int (a10.ev e).int (a11.ev e).int (a12.ev e).int) (a15.ev e).int (a14.ev e).int) ∧ (e (b + 1)).int = (Day.votesF (a0.ev e).int (Day.HB.mk [(a1.ev e).int, (a2.ev e).int, (a3.ev e).int, (a4.ev e).int, (a5.ev e).int, (a6.ev e).int, (a7.ev e).int, (a8.ev e).int] (a9.ev e).int (a10.ev e).int (a11.ev e).int (a12.ev e).int) (a13.ev e).int (a15.ev e).int (a14.ev e).int) := by
  have hp := q_pre T_1520 h
  have ho := fun j a => q_out (a := a) T_1520 j h
  simp only [t_1520, gi, gb, gs, gv, ge, List.map_cons, List.map_nil, List.getD_cons_zero, List.getD_cons_succ, L.ev_n, A.int_i] at hp ho
  exact ⟨hp, (congrArg A.int (ho 0 _ rfl) :)⟩
theorem out_L1530 {e : Nat → A} {b : Nat} {a0 a1 a2 a3 a4 a5 a6 a7 a8 a9 a10 a11 a12 a13 a14 : L} (h : Def.holds T e ⟨b, .call 1530, [a0, a1, a2, a3, a4, a5, a6, a7, a8, a9, a10, a11, a12, a13, a14]⟩) :
    (e b).bool = (Day.bestP (a0.ev e).int (Day.HB.mk [(a1.ev e).int, (a2.ev e).int, (a3.ev e).int, (a4.ev e).int, (a5.ev e).int, (a6.ev e).int, (a7.ev e).int, (a8.ev e).int] (a9.ev e).int (a10.ev e).int (a11.ev e).int (a12.ev e).int) (a14.ev e).int) ∧ (e (b + 1)).int = (Day.bestU (a0.ev e).int (Day.HB.mk [(a1.ev e).int, (a2.ev e).int, (a3.ev e).int, (a4.ev e).int, (a5.ev e).int, (a6.ev e).int, (a7.ev e).int, (a8.ev e).int] (a9.ev e).int (a10.ev e).int (a11.ev e).int (a12.ev e).int) (a14.ev e).int (a13.ev e).int) := by
  have hp := q_pre T_1530 h
  have ho := fun j a => q_out (a := a) T_1530 j h
  simp only [t_1530, gi, gb, gs, gv, ge, List.map_cons, List.map_nil, List.getD_cons_zero, List.getD_cons_succ, L.ev_n, A.int_i] at hp ho
  exact ⟨hp, (congrArg A.int (ho 0 _ rfl) :)⟩
theorem out_L1540 {e : Nat → A} {b : Nat} {a0 a1 a2 a3 a4 a5 a6 a7 a8 a9 a10 a11 a12 a13 a14 : L} (h : Def.holds T e ⟨b, .call 1540, [a0, a1, a2, a3, a4, a5, a6, a7, a8, a9, a10, a11, a12, a13, a14]⟩) :
    (e b).bool = (Day.countsP (a0.ev e).int (Day.HB.mk [(a1.ev e).int, (a2.ev e).int, (a3.ev e).int, (a4.ev e).int, (a5.ev e).int, (a6.ev e).int, (a7.ev e).int, (a8.ev e).int] (a9.ev e).int (a10.ev e).int (a11.ev e).int (a12.ev e).int) (a13.ev e).int (a14.ev e)) ∧ e (b + 1) = (Day.ofIls (Day.cntsF (a0.ev e).int (Day.HB.mk [(a1.ev e).int, (a2.ev e).int, (a3.ev e).int, (a4.ev e).int, (a5.ev e).int, (a6.ev e).int, (a7.ev e).int, (a8.ev e).int] (a9.ev e).int (a10.ev e).int (a11.ev e).int (a12.ev e).int) (a13.ev e).int (a14.ev e))) := by
  have hp := q_pre T_1540 h
  have ho := fun j a => q_out (a := a) T_1540 j h
  simp only [t_1540, gi, gb, gs, gv, ge, List.map_cons, List.map_nil, List.getD_cons_zero, List.getD_cons_succ, L.ev_n, A.int_i] at hp ho
  exact ⟨hp, (ho 0 _ rfl :)⟩
theorem out_L1560 {e : Nat → A} {b : Nat} {a0 a1 a2 a3 a4 a5 a6 a7 a8 a9 a10 a11 a12 a13 a14 a15 a16 a17 : L} (h : Def.holds T e ⟨b, .call 1560, [a0, a1, a2, a3, a4, a5, a6, a7, a8, a9, a10, a11, a12, a13, a14, a15, a16, a17]⟩) :
    (e b).bool = (Day.listP (a0.ev e).int (a2.ev e).int (a17.ev e)) ∧ (e (b + 1)).int = (Day.maxF (a1.ev e).int (a2.ev e).int (a17.ev e)) := by
  have hp := q_pre T_1560 h
  have ho := fun j a => q_out (a := a) T_1560 j h
  simp only [t_1560, gi, gb, gs, gv, ge, List.map_cons, List.map_nil, List.getD_cons_zero, List.getD_cons_succ, L.ev_n, A.int_i] at hp ho
  exact ⟨hp, (congrArg A.int (ho 0 _ rfl) :)⟩
theorem out_L1561 {e : Nat → A} {b : Nat} {a0 a1 a2 a3 a4 a5 a6 a7 a8 a9 a10 a11 a12 a13 a14 a15 : L} (h : Def.holds T e ⟨b, .call 1561, [a0, a1, a2, a3, a4, a5, a6, a7, a8, a9, a10, a11, a12, a13, a14, a15]⟩) :
    (e b).bool = (Day.listP (a0.ev e).int (a2.ev e).int (a15.ev e)) ∧ (e (b + 1)).int = (Day.idxF (a1.ev e).int (a2.ev e).int (a15.ev e)) ∧ (e (b + 2)).bool = (Day.hasF (a1.ev e).int (a2.ev e).int (a15.ev e)) ∧ (e (b + 3)).bool = ((!Day.hasF (a1.ev e).int (a2.ev e).int (a15.ev e))) := by
  have hp := q_pre T_1561 h
  have ho := fun j a => q_out (a := a) T_1561 j h
  simp only [t_1561, gi, gb, gs, gv, ge, List.map_cons, List.map_nil, List.getD_cons_zero, List.getD_cons_succ, L.ev_n, A.int_i] at hp ho
  exact ⟨hp, (congrArg A.int (ho 0 _ rfl) :), (congrArg A.bool (ho 1 _ rfl) :), (congrArg A.bool (ho 2 _ rfl) :)⟩
theorem out_L1590 {e : Nat → A} {b : Nat} {a0 a1 a2 a3 a4 a5 a6 a7 a8 a9 a10 a11 a12 a13 a14 a15 a16 a17 a18 a19 a20 a21 a22 a23 a24 a25 a26 a27 a28 a29 a30 a31 a32 a33 a34 a35 a36 a37 a38 a39 a40 a41 a42 a43 : L} (h : Def.holds T e ⟨b, .call 1590, [a0, a1, a2, a3, a4, a5, a6, a7, a8, a9, a10, a11, a12, a13, a14, a15, a16, a17, a18, a19, a20, a21, a22, a23, a24, a25, a26, a27, a28, a29, a30, a31, a32, a33, a34, a35, a36, a37, a38, a39, a40, a41, a42, a43]⟩) :
    (e b).bool = (Day.endsP (a13.ev e).int (a14.ev e).int (a16.ev e).int (Day.HB.mk [(a32.ev e).int, (a33.ev e).int, (a34.ev e).int, (a35.ev e).int, (a36.ev e).int, (a37.ev e).int, (a38.ev e).int, (a39.ev e).int] (a40.ev e).int (a41.ev e).int (a42.ev e).int (a43.ev e).int)) ∧ (e (b + 1)).int = (0) ∧ (e (b + 2)).int = (0) ∧ (e (b + 3)).int = (0) ∧ (e (b + 4)).int = (0) ∧ (e (b + 5)).int = (0) ∧ (e (b + 6)).int = (0) ∧ (e (b + 7)).int = (0) ∧ (e (b + 8)).int = (0) ∧ (e (b + 9)).int = (0) ∧ (e (b + 10)).int = (0) ∧ (e (b + 11)).int = (0) ∧ (e (b + 12)).int = (0) ∧ (e (b + 13)).int = (0) ∧ (e (b + 14)).bool = (false) ∧ (e (b + 15)).int = (0) ∧ (e (b + 16)).int = (((Day.tickN (a13.ev e).int (Day.HB.mk [(a32.ev e).int, (a33.ev e).int, (a34.ev e).int, (a35.ev e).int, (a36.ev e).int, (a37.ev e).int, (a38.ev e).int, (a39.ev e).int] (a40.ev e).int (a41.ev e).int (a42.ev e).int (a43.ev e).int) (2 * (a13.ev e).int - (a16.ev e).int).toNat)).a 0) ∧ (e (b + 17)).int = (((Day.tickN (a13.ev e).int (Day.HB.mk [(a32.ev e).int, (a33.ev e).int, (a34.ev e).int, (a35.ev e).int, (a36.ev e).int, (a37.ev e).int, (a38.ev e).int, (a39.ev e).int] (a40.ev e).int (a41.ev e).int (a42.ev e).int (a43.ev e).int) (2 * (a13.ev e).int - (a16.ev e).int).toNat)).a 1) ∧ (e (b + 18)).int = (((Day.tickN (a13.ev e).int (Day.HB.mk [(a32.ev e).int, (a33.ev e).int, (a34.ev e).int, (a35.ev e).int, (a36.ev e).int, (a37.ev e).int, (a38.ev e).int, (a39.ev e).int] (a40.ev e).int (a41.ev e).int (a42.ev e).int (a43.ev e).int) (2 * (a13.ev e).int - (a16.ev e).int).toNat)).a 2) ∧ (e (b + 19)).int = (((Day.tickN (a13.ev e).int (Day.HB.mk [(a32.ev e).int, (a33.ev e).int, (a34.ev e).int, (a35.ev e).int, (a36.ev e).int, (a37.ev e).int, (a38.ev e).int, (a39.ev e).int] (a40.ev e).int (a41.ev e).int (a42.ev e).int (a43.ev e).int) (2 * (a13.ev e).int - (a16.ev e).int).toNat)).a 3) ∧ (e (b + 20)).int = (((Day.tickN (a13.ev e).int (Day.HB.mk [(a32.ev e).int, (a33.ev e).int, (a34.ev e).int, (a35.ev e).int, (a36.ev e).int, (a37.ev e).int, (a38.ev e).int, (a39.ev e).int] (a40.ev e).int (a41.ev e).int (a42.ev e).int (a43.ev e).int) (2 * (a13.ev e).int - (a16.ev e).int).toNat)).a 4) ∧ (e (b + 21)).int = (((Day.tickN (a13.ev e).int (Day.HB.mk [(a32.ev e).int, (a33.ev e).int, (a34.ev e).int, (a35.ev e).int, (a36.ev e).int, (a37.ev e).int, (a38.ev e).int, (a39.ev e).int] (a40.ev e).int (a41.ev e).int (a42.ev e).int (a43.ev e).int) (2 * (a13.ev e).int - (a16.ev e).int).toNat)).a 5) ∧ (e (b + 22)).int = (((Day.tickN (a13.ev e).int (Day.HB.mk [(a32.ev e).int, (a33.ev e).int, (a34.ev e).int, (a35.ev e).int, (a36.ev e).int, (a37.ev e).int, (a38.ev e).int, (a39.ev e).int] (a40.ev e).int (a41.ev e).int (a42.ev e).int (a43.ev e).int) (2 * (a13.ev e).int - (a16.ev e).int).toNat)).a 6) ∧ (e (b + 23)).int = (((Day.tickN (a13.ev e).int (Day.HB.mk [(a32.ev e).int, (a33.ev e).int, (a34.ev e).int, (a35.ev e).int, (a36.ev e).int, (a37.ev e).int, (a38.ev e).int, (a39.ev e).int] (a40.ev e).int (a41.ev e).int (a42.ev e).int (a43.ev e).int) (2 * (a13.ev e).int - (a16.ev e).int).toNat)).a 7) ∧ (e (b + 24)).int = (((Day.tickN (a13.ev e).int (Day.HB.mk [(a32.ev e).int, (a33.ev e).int, (a34.ev e).int, (a35.ev e).int, (a36.ev e).int, (a37.ev e).int, (a38.ev e).int, (a39.ev e).int] (a40.ev e).int (a41.ev e).int (a42.ev e).int (a43.ev e).int) (2 * (a13.ev e).int - (a16.ev e).int).toNat)).port) ∧ (e (b + 25)).int = (((Day.tickN (a13.ev e).int (Day.HB.mk [(a32.ev e).int, (a33.ev e).int, (a34.ev e).int, (a35.ev e).int, (a36.ev e).int, (a37.ev e).int, (a38.ev e).int, (a39.ev e).int] (a40.ev e).int (a41.ev e).int (a42.ev e).int (a43.ev e).int) (2 * (a13.ev e).int - (a16.ev e).int).toNat)).age) ∧ (e (b + 26)).int = (((Day.tickN (a13.ev e).int (Day.HB.mk [(a32.ev e).int, (a33.ev e).int, (a34.ev e).int, (a35.ev e).int, (a36.ev e).int, (a37.ev e).int, (a38.ev e).int, (a39.ev e).int] (a40.ev e).int (a41.ev e).int (a42.ev e).int (a43.ev e).int) (2 * (a13.ev e).int - (a16.ev e).int).toNat)).hold) ∧ (e (b + 27)).int = (((Day.tickN (a13.ev e).int (Day.HB.mk [(a32.ev e).int, (a33.ev e).int, (a34.ev e).int, (a35.ev e).int, (a36.ev e).int, (a37.ev e).int, (a38.ev e).int, (a39.ev e).int] (a40.ev e).int (a41.ev e).int (a42.ev e).int (a43.ev e).int) (2 * (a13.ev e).int - (a16.ev e).int).toNat)).pos) ∧ (e (b + 28)).bool = (true) := by
  have hp := q_pre T_1590 h
  have ho := fun j a => q_out (a := a) T_1590 j h
  simp only [t_1590, gi, gb, gs, gv, ge, List.map_cons, List.map_nil, List.getD_cons_zero, List.getD_cons_succ, L.ev_n, A.int_i] at hp ho
  exact ⟨hp, (congrArg A.int (ho 0 _ rfl) :), (congrArg A.int (ho 1 _ rfl) :), (congrArg A.int (ho 2 _ rfl) :), (congrArg A.int (ho 3 _ rfl) :), (congrArg A.int (ho 4 _ rfl) :), (congrArg A.int (ho 5 _ rfl) :), (congrArg A.int (ho 6 _ rfl) :), (congrArg A.int (ho 7 _ rfl) :), (congrArg A.int (ho 8 _ rfl) :), (congrArg A.int (ho 9 _ rfl) :), (congrArg A.int (ho 10 _ rfl) :), (congrArg A.int (ho 11 _ rfl) :), (congrArg A.int (ho 12 _ rfl) :), (congrArg A.bool (ho 13 _ rfl) :), (congrArg A.int (ho 14 _ rfl) :), (congrArg A.int (ho 15 _ rfl) :), (congrArg A.int (ho 16 _ rfl) :), (congrArg A.int (ho 17 _ rfl) :), (congrArg A.int (ho 18 _ rfl) :), (congrArg A.int (ho 19 _ rfl) :), (congrArg A.int (ho 20 _ rfl) :), (congrArg A.int (ho 21 _ rfl) :), (congrArg A.int (ho 22 _ rfl) :), (congrArg A.int (ho 23 _ rfl) :), (congrArg A.int (ho 24 _ rfl) :), (congrArg A.int (ho 25 _ rfl) :), (congrArg A.int (ho 26 _ rfl) :), (congrArg A.bool (ho 27 _ rfl) :)⟩
theorem out_L1600 {e : Nat → A} {b : Nat} {a0 a1 a2 a3 a4 a5 a6 a7 a8 a9 a10 a11 a12 a13 a14 a15 a16 a17 a18 a19 a20 a21 a22 a23 a24 a25 a26 a27 a28 a29 a30 a31 a32 a33 a34 a35 a36 a37 a38 a39 a40 a41 a42 a43 a44 a45 a46 a47 : L} (h : Def.holds T e ⟨b, .call 1600, [a0, a1, a2, a3, a4, a5, a6, a7, a8, a9, a10, a11, a12, a13, a14, a15, a16, a17, a18, a19, a20, a21, a22, a23, a24, a25, a26, a27, a28, a29, a30, a31, a32, a33, a34, a35, a36, a37, a38, a39, a40, a41, a42, a43, a44, a45, a46, a47]⟩) :
    (e b).bool = (Day.fewP (a13.ev e).int (Day.HB.mk [(a20.ev e).int, (a21.ev e).int, (a22.ev e).int, (a23.ev e).int, (a24.ev e).int, (a25.ev e).int, (a26.ev e).int, (a27.ev e).int] (a28.ev e).int (a29.ev e).int (a30.ev e).int (a31.ev e).int) (Day.HB.mk [(a32.ev e).int, (a33.ev e).int, (a34.ev e).int, (a35.ev e).int, (a36.ev e).int, (a37.ev e).int, (a38.ev e).int, (a39.ev e).int] (a40.ev e).int (a41.ev e).int (a42.ev e).int (a43.ev e).int) (a17.ev e).int (a16.ev e).int) ∧ (e (b + 1)).int = (0) ∧ (e (b + 2)).bool = (false) ∧ (e (b + 3)).int = ((a16.ev e).int + Day.sumF (a13.ev e).int (Day.HB.mk [(a20.ev e).int, (a21.ev e).int, (a22.ev e).int, (a23.ev e).int, (a24.ev e).int, (a25.ev e).int, (a26.ev e).int, (a27.ev e).int] (a28.ev e).int (a29.ev e).int (a30.ev e).int (a31.ev e).int) (a17.ev e).int) ∧ (e (b + 4)).bool = (true) := by
  have hp := q_pre T_1600 h
  have ho := fun j a => q_out (a := a) T_1600 j h
  simp only [t_1600, gi, gb, gs, gv, ge, List.map_cons, List.map_nil, List.getD_cons_zero, List.getD_cons_succ, L.ev_n, A.int_i] at hp ho
  exact ⟨hp, (congrArg A.int (ho 0 _ rfl) :), (congrArg A.bool (ho 1 _ rfl) :), (congrArg A.int (ho 2 _ rfl) :), (congrArg A.bool (ho 3 _ rfl) :)⟩
end Rx.S
