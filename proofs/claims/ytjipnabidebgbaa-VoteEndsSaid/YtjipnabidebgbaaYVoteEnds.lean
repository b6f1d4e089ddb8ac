import Derived.Test.YtjipnabidebgbaaXc
import Derived.Test.YtjipnabidebgbaaXt
set_option linter.unusedVariables false
set_option linter.unusedSimpArgs false
namespace Rx.S
open Go Rx
set_option maxRecDepth 100000
set_option maxHeartbeats 1000000
set_option linter.unusedVariables false
set_option linter.unusedSimpArgs false
def lp_1590 : Lp := ⟨14, [false, true, false, true, true, true, true, true], 1590, 44, 28, 2, ⟨frS 62 [(0, .pv (.one (.k (.int .u8 (V 0))))), (1, .pv (.agg [.k (.int .i64 (V 1)), .k (.int .i64 (V 2)), .k (.int .i64 (V 3)), .k (.int .i64 (V 4)), .k (.int .i64 (V 5)), .k (.int .i64 (V 6)), .k (.int .i64 (V 7)), .k (.int .i64 (V 8)), .k (.int .i64 (V 9)), .k (.int .i64 (V 10)), .k (.int .i64 (V 11)), .k (.int .i64 (V 12))])), (3, .pv (.one (.k (.ptr 0 0)))), (4, .pv (.one (.k (.bool (B false))))), (5, .pv (.one (.k (.int .i64 (V 13))))), (6, .pv (.one (.k (.ptr 1 0)))), (7, .pv (.one (.k (.int .i64 (V 14))))), (8, .pv (.one (.k (.int .i64 (V 15))))), (9, .pv (.one (.k (.int .i64 (V 16))))), (12, .pv (.one (.k (.int .u8 (V 0))))), (13, .pv (.one (.k (.int .u8 (V 17))))), (14, .pv (.one (.k (.int .i64 (V 18))))), (15, .pv (.one (.k (.int .i64 (V 13))))), (16, .tup [.agg [.k (.int .i64 (V 19)), .k (.int .i64 (V 20)), .k (.int .i64 (V 21)), .k (.int .i64 (V 22)), .k (.int .i64 (V 23)), .k (.int .i64 (V 24)), .k (.int .i64 (V 25)), .k (.int .i64 (V 26)), .k (.int .i64 (V 27)), .k (.int .i64 (V 28)), .k (.int .i64 (V 29)), .k (.int .i64 (V 15))], .one (.k (.int .i64 (V 30)))]), (17, .pv (.one (.k (.int .i64 (V 13))))), (18, .pv (.agg [.k (.int .i64 (V 1)), .k (.int .i64 (V 2)), .k (.int .i64 (V 3)), .k (.int .i64 (V 4)), .k (.int .i64 (V 5)), .k (.int .i64 (V 6)), .k (.int .i64 (V 7)), .k (.int .i64 (V 8)), .k (.int .i64 (V 9)), .k (.int .i64 (V 10)), .k (.int .i64 (V 11)), .k (.int .i64 (V 12))])), (19, .tup [.agg [.k (.int .i64 (V 19)), .k (.int .i64 (V 20)), .k (.int .i64 (V 21)), .k (.int .i64 (V 22)), .k (.int .i64 (V 23)), .k (.int .i64 (V 24)), .k (.int .i64 (V 25)), .k (.int .i64 (V 26)), .k (.int .i64 (V 27)), .k (.int .i64 (V 28)), .k (.int .i64 (V 29)), .k (.int .i64 (V 15))], .one (.k (.int .i64 (V 30)))]), (20, .pv (.agg [.k (.int .i64 (V 19)), .k (.int .i64 (V 20)), .k (.int .i64 (V 21)), .k (.int .i64 (V 22)), .k (.int .i64 (V 23)), .k (.int .i64 (V 24)), .k (.int .i64 (V 25)), .k (.int .i64 (V 26)), .k (.int .i64 (V 27)), .k (.int .i64 (V 28)), .k (.int .i64 (V 29)), .k (.int .i64 (V 15))])), (21, .pv (.one (.k (.int .i64 (V 30))))), (22, .pv (.one (.k (.int .i64 (V 30))))), (23, .pv (.one (.k (.bool (V 31))))), (24, .pv (.one (.k (.ptr 1 11)))), (25, .pv (.one (.k (.int .i64 (V 15)))))], [⟨true, 77, 12, [.k (.int .i64 (V 1)), .k (.int .i64 (V 2)), .k (.int .i64 (V 3)), .k (.int .i64 (V 4)), .k (.int .i64 (V 5)), .k (.int .i64 (V 6)), .k (.int .i64 (V 7)), .k (.int .i64 (V 8)), .k (.int .i64 (V 9)), .k (.int .i64 (V 10)), .k (.int .i64 (V 11)), .k (.int .i64 (V 12))], none⟩, ⟨true, 77, 12, [.k (.int .i64 (V 32)), .k (.int .i64 (V 33)), .k (.int .i64 (V 34)), .k (.int .i64 (V 35)), .k (.int .i64 (V 36)), .k (.int .i64 (V 37)), .k (.int .i64 (V 38)), .k (.int .i64 (V 39)), .k (.int .i64 (V 40)), .k (.int .i64 (V 41)), .k (.int .i64 (V 42)), .k (.int .i64 (V 43))], none⟩], B true⟩, [(.ret, ⟨frS 62 [(0, .pv (.one (.k (.int .u8 (V 0))))), (1, .pv (.agg [.k (.int .i64 (V 1)), .k (.int .i64 (V 2)), .k (.int .i64 (V 3)), .k (.int .i64 (V 4)), .k (.int .i64 (V 5)), .k (.int .i64 (V 6)), .k (.int .i64 (V 7)), .k (.int .i64 (V 8)), .k (.int .i64 (V 9)), .k (.int .i64 (V 10)), .k (.int .i64 (V 11)), .k (.int .i64 (V 12))])), (3, .pv (.one (.k (.ptr 0 0)))), (4, .pv (.one (.k (.bool (B false))))), (5, .pv (.one (.k (.int .i64 (V 13))))), (6, .pv (.one (.k (.ptr 1 0)))), (7, .pv (.one (.k (.int .i64 (V 44))))), (8, .pv (.one (.k (.int .i64 (V 15))))), (12, .pv (.one (.k (.int .u8 (V 0))))), (13, .pv (.one (.k (.int .u8 (V 17))))), (14, .pv (.one (.k (.int .i64 (V 18))))), (15, .pv (.one (.k (.int .i64 (V 13))))), (16, .tup [.agg [.k (.int .i64 (V 19)), .k (.int .i64 (V 20)), .k (.int .i64 (V 21)), .k (.int .i64 (V 22)), .k (.int .i64 (V 23)), .k (.int .i64 (V 24)), .k (.int .i64 (V 25)), .k (.int .i64 (V 26)), .k (.int .i64 (V 27)), .k (.int .i64 (V 28)), .k (.int .i64 (V 29)), .k (.int .i64 (V 15))], .one (.k (.int .i64 (V 30)))]), (17, .pv (.one (.k (.int .i64 (V 13))))), (18, .pv (.agg [.k (.int .i64 (V 1)), .k (.int .i64 (V 2)), .k (.int .i64 (V 3)), .k (.int .i64 (V 4)), .k (.int .i64 (V 5)), .k (.int .i64 (V 6)), .k (.int .i64 (V 7)), .k (.int .i64 (V 8)), .k (.int .i64 (V 9)), .k (.int .i64 (V 10)), .k (.int .i64 (V 11)), .k (.int .i64 (V 12))])), (19, .tup [.agg [.k (.int .i64 (V 19)), .k (.int .i64 (V 20)), .k (.int .i64 (V 21)), .k (.int .i64 (V 22)), .k (.int .i64 (V 23)), .k (.int .i64 (V 24)), .k (.int .i64 (V 25)), .k (.int .i64 (V 26)), .k (.int .i64 (V 27)), .k (.int .i64 (V 28)), .k (.int .i64 (V 29)), .k (.int .i64 (V 15))], .one (.k (.int .i64 (V 30)))]), (20, .pv (.agg [.k (.int .i64 (V 19)), .k (.int .i64 (V 20)), .k (.int .i64 (V 21)), .k (.int .i64 (V 22)), .k (.int .i64 (V 23)), .k (.int .i64 (V 24)), .k (.int .i64 (V 25)), .k (.int .i64 (V 26)), .k (.int .i64 (V 27)), .k (.int .i64 (V 28)), .k (.int .i64 (V 29)), .k (.int .i64 (V 15))])), (21, .pv (.one (.k (.int .i64 (V 30))))), (22, .pv (.one (.k (.int .i64 (V 30))))), (23, .pv (.one (.k (.bool (V 31))))), (24, .pv (.one (.k (.ptr 1 11)))), (25, .pv (.one (.k (.int .i64 (V 15)))))], [⟨true, 77, 12, [.k (.int .i64 (V 1)), .k (.int .i64 (V 2)), .k (.int .i64 (V 3)), .k (.int .i64 (V 4)), .k (.int .i64 (V 5)), .k (.int .i64 (V 6)), .k (.int .i64 (V 7)), .k (.int .i64 (V 8)), .k (.int .i64 (V 9)), .k (.int .i64 (V 10)), .k (.int .i64 (V 11)), .k (.int .i64 (V 12))], none⟩, ⟨true, 77, 12, [.k (.int .i64 (V 45)), .k (.int .i64 (V 46)), .k (.int .i64 (V 47)), .k (.int .i64 (V 48)), .k (.int .i64 (V 49)), .k (.int .i64 (V 50)), .k (.int .i64 (V 51)), .k (.int .i64 (V 52)), .k (.int .i64 (V 53)), .k (.int .i64 (V 54)), .k (.int .i64 (V 55)), .k (.int .i64 (V 56))], none⟩], V 57⟩), (.exit 0, ⟨frS 62 [(0, .pv (.one (.k (.int .u8 (V 0))))), (1, .pv (.agg [.k (.int .i64 (V 1)), .k (.int .i64 (V 2)), .k (.int .i64 (V 3)), .k (.int .i64 (V 4)), .k (.int .i64 (V 5)), .k (.int .i64 (V 6)), .k (.int .i64 (V 7)), .k (.int .i64 (V 8)), .k (.int .i64 (V 9)), .k (.int .i64 (V 10)), .k (.int .i64 (V 11)), .k (.int .i64 (V 12))])), (3, .pv (.one (.k (.ptr 0 0)))), (4, .pv (.one (.k (.bool (B false))))), (5, .pv (.one (.k (.int .i64 (V 13))))), (6, .pv (.one (.k (.ptr 1 0)))), (7, .pv (.one (.k (.int .i64 (V 58))))), (8, .pv (.one (.k (.int .i64 (V 15))))), (12, .pv (.one (.k (.int .u8 (V 0))))), (13, .pv (.one (.k (.int .u8 (V 17))))), (14, .pv (.one (.k (.int .i64 (V 18))))), (15, .pv (.one (.k (.int .i64 (V 13))))), (16, .tup [.agg [.k (.int .i64 (V 19)), .k (.int .i64 (V 20)), .k (.int .i64 (V 21)), .k (.int .i64 (V 22)), .k (.int .i64 (V 23)), .k (.int .i64 (V 24)), .k (.int .i64 (V 25)), .k (.int .i64 (V 26)), .k (.int .i64 (V 27)), .k (.int .i64 (V 28)), .k (.int .i64 (V 29)), .k (.int .i64 (V 15))], .one (.k (.int .i64 (V 30)))]), (17, .pv (.one (.k (.int .i64 (V 13))))), (18, .pv (.agg [.k (.int .i64 (V 1)), .k (.int .i64 (V 2)), .k (.int .i64 (V 3)), .k (.int .i64 (V 4)), .k (.int .i64 (V 5)), .k (.int .i64 (V 6)), .k (.int .i64 (V 7)), .k (.int .i64 (V 8)), .k (.int .i64 (V 9)), .k (.int .i64 (V 10)), .k (.int .i64 (V 11)), .k (.int .i64 (V 12))])), (19, .tup [.agg [.k (.int .i64 (V 19)), .k (.int .i64 (V 20)), .k (.int .i64 (V 21)), .k (.int .i64 (V 22)), .k (.int .i64 (V 23)), .k (.int .i64 (V 24)), .k (.int .i64 (V 25)), .k (.int .i64 (V 26)), .k (.int .i64 (V 27)), .k (.int .i64 (V 28)), .k (.int .i64 (V 29)), .k (.int .i64 (V 15))], .one (.k (.int .i64 (V 30)))]), (20, .pv (.agg [.k (.int .i64 (V 19)), .k (.int .i64 (V 20)), .k (.int .i64 (V 21)), .k (.int .i64 (V 22)), .k (.int .i64 (V 23)), .k (.int .i64 (V 24)), .k (.int .i64 (V 25)), .k (.int .i64 (V 26)), .k (.int .i64 (V 27)), .k (.int .i64 (V 28)), .k (.int .i64 (V 29)), .k (.int .i64 (V 15))])), (21, .pv (.one (.k (.int .i64 (V 30))))), (22, .pv (.one (.k (.int .i64 (V 30))))), (23, .pv (.one (.k (.bool (V 31))))), (24, .pv (.one (.k (.ptr 1 11)))), (25, .pv (.one (.k (.int .i64 (V 15)))))], [⟨true, 77, 12, [.k (.int .i64 (V 1)), .k (.int .i64 (V 2)), .k (.int .i64 (V 3)), .k (.int .i64 (V 4)), .k (.int .i64 (V 5)), .k (.int .i64 (V 6)), .k (.int .i64 (V 7)), .k (.int .i64 (V 8)), .k (.int .i64 (V 9)), .k (.int .i64 (V 10)), .k (.int .i64 (V 11)), .k (.int .i64 (V 12))], none⟩, ⟨true, 77, 12, [.k (.int .i64 (V 59)), .k (.int .i64 (V 60)), .k (.int .i64 (V 61)), .k (.int .i64 (V 62)), .k (.int .i64 (V 63)), .k (.int .i64 (V 64)), .k (.int .i64 (V 65)), .k (.int .i64 (V 66)), .k (.int .i64 (V 67)), .k (.int .i64 (V 68)), .k (.int .i64 (V 69)), .k (.int .i64 (V 70))], none⟩], V 71⟩)], [true, true, true, true, true, true, true, true, true, true, true, true, true, true, false, true, false, true, true, true, true, true, true, true, true, true, true, true, true, true, true, true, false, false, false, false, false, false, false, false, false, false, false, false], [.i, .i, .i, .i, .i, .i, .i, .i, .i, .i, .i, .i, .i, .b, .i, .i, .i, .i, .i, .i, .i, .i, .i, .i, .i, .i, .i, .b]⟩
def g_L1590 : G := ⟨73, [⟨72, .and, [V 45, V 70]⟩, ⟨71, .and, [V 45, V 67]⟩, ⟨70, .and, [V 69, V 66]⟩, ⟨69, .not, [V 67]⟩, ⟨68, (.ar .add .i64), [V 16, N 1]⟩, ⟨67, .and, [V 63, V 65]⟩, ⟨66, .and, [V 62, V 64]⟩, ⟨65, .and, [V 45, V 63]⟩, ⟨64, .and, [V 45, V 62]⟩, ⟨63, .not, [V 62]⟩, ⟨62, (.cmp .neq), [V 60, N 0]⟩, ⟨61, .imp, [V 45, V 47]⟩, ⟨47, (.call 90), [V 13, V 32, V 33, V 34, V 35, V 36, V 37, V 38, V 39, V 40, V 41, V 42, V 43]⟩, ⟨46, .not, [V 45]⟩, ⟨45, (.cmp .lss), [V 16, V 44]⟩, ⟨44, (.ar .mul .i64), [N 2, V 13]⟩], [V 61], []⟩
def m_1590 (al : List A) : Nat := (2 * (gi al 13) - (gi al 16)).toNat
theorem lpureQ_1590 (e : Nat → A) (H : FactsQ T e g_L1590.defs) (hp : (Day.endsP (e 13).int (e 14).int (e 16).int (Day.HB.mk [(e 32).int, (e 33).int, (e 34).int, (e 35).int, (e 36).int, (e 37).int, (e 38).int, (e 39).int] (e 40).int (e 41).int (e 42).int (e 43).int)) = true) :
    ((e 61).bool = true) ∧ ((e 71).bool = true → (Day.endsP (e 13).int (e 60).int (e 68).int (Day.HB.mk [(e 48).int, (e 49).int, (e 50).int, (e 51).int, (e 52).int, (e 53).int, (e 54).int, (e 55).int] (e 56).int (e 57).int (e 58).int (e 59).int)) = true ∧ (0 = 0 ∧ 0 = 0 ∧ 0 = 0 ∧ 0 = 0 ∧ 0 = 0 ∧ 0 = 0 ∧ 0 = 0 ∧ 0 = 0 ∧ 0 = 0 ∧ 0 = 0 ∧ 0 = 0 ∧ 0 = 0 ∧ 0 = 0 ∧ false = false ∧ 0 = 0 ∧ ((Day.tickN (e 13).int (Day.HB.mk [(e 48).int, (e 49).int, (e 50).int, (e 51).int, (e 52).int, (e 53).int, (e 54).int, (e 55).int] (e 56).int (e 57).int (e 58).int (e 59).int) (2 * (e 13).int - (e 68).int).toNat)).a 0 = ((Day.tickN (e 13).int (Day.HB.mk [(e 32).int, (e 33).int, (e 34).int, (e 35).int, (e 36).int, (e 37).int, (e 38).int, (e 39).int] (e 40).int (e 41).int (e 42).int (e 43).int) (2 * (e 13).int - (e 16).int).toNat)).a 0 ∧ ((Day.tickN (e 13).int (Day.HB.mk [(e 48).int, (e 49).int, (e 50).int, (e 51).int, (e 52).int, (e 53).int, (e 54).int, (e 55).int] (e 56).int (e 57).int (e 58).int (e 59).int) (2 * (e 13).int - (e 68).int).toNat)).a 1 = ((Day.tickN (e 13).int (Day.HB.mk [(e 32).int, (e 33).int, (e 34).int, (e 35).int, (e 36).int, (e 37).int, (e 38).int, (e 39).int] (e 40).int (e 41).int (e 42).int (e 43).int) (2 * (e 13).int - (e 16).int).toNat)).a 1 ∧ ((Day.tickN (e 13).int (Day.HB.mk [(e 48).int, (e 49).int, (e 50).int, (e 51).int, (e 52).int, (e 53).int, (e 54).int, (e 55).int] (e 56).int (e 57).int (e 58).int (e 59).int) (2 * (e 13).int - (e 68).int).toNat)).a 2 = ((Day.tickN (e 13).int (Day.HB.mk [(e 32).int, (e 33).int, (e 34).int, (e 35).int, (e 36).int, (e 37).int, (e 38).int, (e 39).int] (e 40).int (e 41).int (e 42).int (e 43).int) (2 * (e 13).int - (e 16).int).toNat)).a 2 ∧ ((Day.tickN (e 13).int (Day.HB.mk [(e 48).int, (e 49).int, (e 50).int, (e 51).int, (e 52).int, (e 53).int, (e 54).int, (e 55).int] (e 56).int (e 57).int (e 58).int (e 59).int) (2 * (e 13).int - (e 68).int).toNat)).a 3 = ((Day.tickN (e 13).int (Day.HB.mk [(e 32).int, (e 33).int, (e 34).int, (e 35).int, (e 36).int, (e 37).int, (e 38).int, (e 39).int] (e 40).int (e 41).int (e 42).int (e 43).int) (2 * (e 13).int - (e 16).int).toNat)).a 3 ∧ ((Day.tickN (e 13).int (Day.HB.mk [(e 48).int, (e 49).int, (e 50).int, (e 51).int, (e 52).int, (e 53).int, (e 54).int, (e 55).int] (e 56).int (e 57).int (e 58).int (e 59).int) (2 * (e 13).int - (e 68).int).toNat)).a 4 = ((Day.tickN (e 13).int (Day.HB.mk [(e 32).int, (e 33).int, (e 34).int, (e 35).int, (e 36).int, (e 37).int, (e 38).int, (e 39).int] (e 40).int (e 41).int (e 42).int (e 43).int) (2 * (e 13).int - (e 16).int).toNat)).a 4 ∧ ((Day.tickN (e 13).int (Day.HB.mk [(e 48).int, (e 49).int, (e 50).int, (e 51).int, (e 52).int, (e 53).int, (e 54).int, (e 55).int] (e 56).int (e 57).int (e 58).int (e 59).int) (2 * (e 13).int - (e 68).int).toNat)).a 5 = ((Day.tickN (e 13).int (Day.HB.mk [(e 32).int, (e 33).int, (e 34).int, (e 35).int, (e 36).int, (e 37).int, (e 38).int, (e 39).int] (e 40).int (e 41).int (e 42).int (e 43).int) (2 * (e 13).int - (e 16).int).toNat)).a 5 ∧ ((Day.tickN (e 13).int (Day.HB.mk [(e 48).int, (e 49).int, (e 50).int, (e 51).int, (e 52).int, (e 53).int, (e 54).int, (e 55).int] (e 56).int (e 57).int (e 58).int (e 59).int) (2 * (e 13).int - (e 68).int).toNat)).a 6 = ((Day.tickN (e 13).int (Day.HB.mk [(e 32).int, (e 33).int, (e 34).int, (e 35).int, (e 36).int, (e 37).int, (e 38).int, (e 39).int] (e 40).int (e 41).int (e 42).int (e 43).int) (2 * (e 13).int - (e 16).int).toNat)).a 6 ∧ ((Day.tickN (e 13).int (Day.HB.mk [(e 48).int, (e 49).int, (e 50).int, (e 51).int, (e 52).int, (e 53).int, (e 54).int, (e 55).int] (e 56).int (e 57).int (e 58).int (e 59).int) (2 * (e 13).int - (e 68).int).toNat)).a 7 = ((Day.tickN (e 13).int (Day.HB.mk [(e 32).int, (e 33).int, (e 34).int, (e 35).int, (e 36).int, (e 37).int, (e 38).int, (e 39).int] (e 40).int (e 41).int (e 42).int (e 43).int) (2 * (e 13).int - (e 16).int).toNat)).a 7 ∧ ((Day.tickN (e 13).int (Day.HB.mk [(e 48).int, (e 49).int, (e 50).int, (e 51).int, (e 52).int, (e 53).int, (e 54).int, (e 55).int] (e 56).int (e 57).int (e 58).int (e 59).int) (2 * (e 13).int - (e 68).int).toNat)).port = ((Day.tickN (e 13).int (Day.HB.mk [(e 32).int, (e 33).int, (e 34).int, (e 35).int, (e 36).int, (e 37).int, (e 38).int, (e 39).int] (e 40).int (e 41).int (e 42).int (e 43).int) (2 * (e 13).int - (e 16).int).toNat)).port ∧ ((Day.tickN (e 13).int (Day.HB.mk [(e 48).int, (e 49).int, (e 50).int, (e 51).int, (e 52).int, (e 53).int, (e 54).int, (e 55).int] (e 56).int (e 57).int (e 58).int (e 59).int) (2 * (e 13).int - (e 68).int).toNat)).age = ((Day.tickN (e 13).int (Day.HB.mk [(e 32).int, (e 33).int, (e 34).int, (e 35).int, (e 36).int, (e 37).int, (e 38).int, (e 39).int] (e 40).int (e 41).int (e 42).int (e 43).int) (2 * (e 13).int - (e 16).int).toNat)).age ∧ ((Day.tickN (e 13).int (Day.HB.mk [(e 48).int, (e 49).int, (e 50).int, (e 51).int, (e 52).int, (e 53).int, (e 54).int, (e 55).int] (e 56).int (e 57).int (e 58).int (e 59).int) (2 * (e 13).int - (e 68).int).toNat)).hold = ((Day.tickN (e 13).int (Day.HB.mk [(e 32).int, (e 33).int, (e 34).int, (e 35).int, (e 36).int, (e 37).int, (e 38).int, (e 39).int] (e 40).int (e 41).int (e 42).int (e 43).int) (2 * (e 13).int - (e 16).int).toNat)).hold ∧ ((Day.tickN (e 13).int (Day.HB.mk [(e 48).int, (e 49).int, (e 50).int, (e 51).int, (e 52).int, (e 53).int, (e 54).int, (e 55).int] (e 56).int (e 57).int (e 58).int (e 59).int) (2 * (e 13).int - (e 68).int).toNat)).pos = ((Day.tickN (e 13).int (Day.HB.mk [(e 32).int, (e 33).int, (e 34).int, (e 35).int, (e 36).int, (e 37).int, (e 38).int, (e 39).int] (e 40).int (e 41).int (e 42).int (e 43).int) (2 * (e 13).int - (e 16).int).toNat)).pos ∧ true = true) ∧ (2 * (e 13).int - (e 68).int).toNat < (2 * (e 13).int - (e 16).int).toNat) ∧ ((e 72).bool = true → (e 60).int = 0 ∧ (e 48).int = 0 ∧ (e 49).int = 0 ∧ (e 50).int = 0 ∧ (e 51).int = 0 ∧ (e 52).int = 0 ∧ (e 53).int = 0 ∧ (e 54).int = 0 ∧ (e 55).int = 0 ∧ (e 56).int = 0 ∧ (e 57).int = 0 ∧ (e 58).int = 0 ∧ (e 59).int = 0 ∧ true = false) ∧ ((e 46).bool = true → (e 14).int = 0 ∧ (e 32).int = ((Day.tickN (e 13).int (Day.HB.mk [(e 32).int, (e 33).int, (e 34).int, (e 35).int, (e 36).int, (e 37).int, (e 38).int, (e 39).int] (e 40).int (e 41).int (e 42).int (e 43).int) (2 * (e 13).int - (e 16).int).toNat)).a 0 ∧ (e 33).int = ((Day.tickN (e 13).int (Day.HB.mk [(e 32).int, (e 33).int, (e 34).int, (e 35).int, (e 36).int, (e 37).int, (e 38).int, (e 39).int] (e 40).int (e 41).int (e 42).int (e 43).int) (2 * (e 13).int - (e 16).int).toNat)).a 1 ∧ (e 34).int = ((Day.tickN (e 13).int (Day.HB.mk [(e 32).int, (e 33).int, (e 34).int, (e 35).int, (e 36).int, (e 37).int, (e 38).int, (e 39).int] (e 40).int (e 41).int (e 42).int (e 43).int) (2 * (e 13).int - (e 16).int).toNat)).a 2 ∧ (e 35).int = ((Day.tickN (e 13).int (Day.HB.mk [(e 32).int, (e 33).int, (e 34).int, (e 35).int, (e 36).int, (e 37).int, (e 38).int, (e 39).int] (e 40).int (e 41).int (e 42).int (e 43).int) (2 * (e 13).int - (e 16).int).toNat)).a 3 ∧ (e 36).int = ((Day.tickN (e 13).int (Day.HB.mk [(e 32).int, (e 33).int, (e 34).int, (e 35).int, (e 36).int, (e 37).int, (e 38).int, (e 39).int] (e 40).int (e 41).int (e 42).int (e 43).int) (2 * (e 13).int - (e 16).int).toNat)).a 4 ∧ (e 37).int = ((Day.tickN (e 13).int (Day.HB.mk [(e 32).int, (e 33).int, (e 34).int, (e 35).int, (e 36).int, (e 37).int, (e 38).int, (e 39).int] (e 40).int (e 41).int (e 42).int (e 43).int) (2 * (e 13).int - (e 16).int).toNat)).a 5 ∧ (e 38).int = ((Day.tickN (e 13).int (Day.HB.mk [(e 32).int, (e 33).int, (e 34).int, (e 35).int, (e 36).int, (e 37).int, (e 38).int, (e 39).int] (e 40).int (e 41).int (e 42).int (e 43).int) (2 * (e 13).int - (e 16).int).toNat)).a 6 ∧ (e 39).int = ((Day.tickN (e 13).int (Day.HB.mk [(e 32).int, (e 33).int, (e 34).int, (e 35).int, (e 36).int, (e 37).int, (e 38).int, (e 39).int] (e 40).int (e 41).int (e 42).int (e 43).int) (2 * (e 13).int - (e 16).int).toNat)).a 7 ∧ (e 40).int = ((Day.tickN (e 13).int (Day.HB.mk [(e 32).int, (e 33).int, (e 34).int, (e 35).int, (e 36).int, (e 37).int, (e 38).int, (e 39).int] (e 40).int (e 41).int (e 42).int (e 43).int) (2 * (e 13).int - (e 16).int).toNat)).port ∧ (e 41).int = ((Day.tickN (e 13).int (Day.HB.mk [(e 32).int, (e 33).int, (e 34).int, (e 35).int, (e 36).int, (e 37).int, (e 38).int, (e 39).int] (e 40).int (e 41).int (e 42).int (e 43).int) (2 * (e 13).int - (e 16).int).toNat)).age ∧ (e 42).int = ((Day.tickN (e 13).int (Day.HB.mk [(e 32).int, (e 33).int, (e 34).int, (e 35).int, (e 36).int, (e 37).int, (e 38).int, (e 39).int] (e 40).int (e 41).int (e 42).int (e 43).int) (2 * (e 13).int - (e 16).int).toNat)).hold ∧ (e 43).int = ((Day.tickN (e 13).int (Day.HB.mk [(e 32).int, (e 33).int, (e 34).int, (e 35).int, (e 36).int, (e 37).int, (e 38).int, (e 39).int] (e 40).int (e 41).int (e 42).int (e 43).int) (2 * (e 13).int - (e 16).int).toNat)).pos ∧ true = true) := by
  simp only [g_L1590, FactsQ, Def.q, updQ, L.ev_var, L.ev_n, L.ev_t, L.ev_e, L.ev, A.int_i, A.bool_b, A.str_v, A.els_l, List.map_cons, List.map_nil, Nat.zero_add, Nat.add_zero, and_true, true_and, Nat.reduceAdd, Nat.one_mul] at H
  simp only [arI, dvI, btI, cmpI, ifQ, updV, ltQ, and_true, true_and] at H
  obtain ⟨q72, q71, q70, q69, ⟨q68, -⟩, q67, q66, q65, q64, q63, q62, q61, q47, q46, q45, ⟨q44, -⟩⟩ := H
  replace q47 := out_vote_Tick q47
  obtain ⟨q47, q48, q49, q50, q51, q52, q53, q54, q55, q56, q57, q58, q59, q60⟩ := q47
  simp only [L.ev_var, L.ev_n, L.ev_t, L.ev_e, L.ev, A.int_i, A.bool_b, A.str_v] at q47 q48 q49 q50 q51 q52 q53 q54 q55 q56 q57 q58 q59 q60
  generalize (e 0).int = x0 at *
  generalize (e 1).int = x1 at *
  generalize (e 2).int = x2 at *
  generalize (e 3).int = x3 at *
  generalize (e 4).int = x4 at *
  generalize (e 5).int = x5 at *
  generalize (e 6).int = x6 at *
  generalize (e 7).int = x7 at *
  generalize (e 8).int = x8 at *
  generalize (e 9).int = x9 at *
  generalize (e 10).int = x10 at *
  generalize (e 11).int = x11 at *
  generalize (e 12).int = x12 at *
  generalize (e 13).int = x13 at *
  generalize (e 14).int = x14 at *
  generalize (e 15).int = x15 at *
  generalize (e 16).int = x16 at *
  generalize (e 17).int = x17 at *
  generalize (e 18).int = x18 at *
  generalize (e 19).int = x19 at *
  generalize (e 20).int = x20 at *
  generalize (e 21).int = x21 at *
  generalize (e 22).int = x22 at *
  generalize (e 23).int = x23 at *
  generalize (e 24).int = x24 at *
  generalize (e 25).int = x25 at *
  generalize (e 26).int = x26 at *
  generalize (e 27).int = x27 at *
  generalize (e 28).int = x28 at *
  generalize (e 29).int = x29 at *
  generalize (e 30).int = x30 at *
  generalize (e 31).int = x31 at *
  generalize (e 32).int = x32 at *
  generalize (e 33).int = x33 at *
  generalize (e 34).int = x34 at *
  generalize (e 35).int = x35 at *
  generalize (e 36).int = x36 at *
  generalize (e 37).int = x37 at *
  generalize (e 38).int = x38 at *
  generalize (e 39).int = x39 at *
  generalize (e 40).int = x40 at *
  generalize (e 41).int = x41 at *
  generalize (e 42).int = x42 at *
  generalize (e 43).int = x43 at *
  generalize (e 44).int = v44 at *
  generalize (e 45).bool = v45 at *
  generalize (e 46).bool = v46 at *
  generalize (e 47).bool = v47 at *
  generalize (e 48).int = v48 at *
  generalize (e 49).int = v49 at *
  generalize (e 50).int = v50 at *
  generalize (e 51).int = v51 at *
  generalize (e 52).int = v52 at *
  generalize (e 53).int = v53 at *
  generalize (e 54).int = v54 at *
  generalize (e 55).int = v55 at *
  generalize (e 56).int = v56 at *
  generalize (e 57).int = v57 at *
  generalize (e 58).int = v58 at *
  generalize (e 59).int = v59 at *
  generalize (e 60).int = v60 at *
  generalize (e 61).bool = v61 at *
  generalize (e 62).bool = v62 at *
  generalize (e 63).bool = v63 at *
  generalize (e 64).bool = v64 at *
  generalize (e 65).bool = v65 at *
  generalize (e 66).bool = v66 at *
  generalize (e 67).bool = v67 at *
  generalize (e 68).int = v68 at *
  generalize (e 69).bool = v69 at *
  generalize (e 70).bool = v70 at *
  generalize (e 71).bool = v71 at *
  generalize (e 72).bool = v72 at *
  generalize hH : (Day.HB.mk [x32, x33, x34, x35, x36, x37, x38, x39] x40 x41 x42 x43) = h at *
  have g0 : x32 = h.a 0 ∧ x33 = h.a 1 ∧ x34 = h.a 2 ∧ x35 = h.a 3 ∧ x36 = h.a 4 ∧ x37 = h.a 5 ∧ x38 = h.a 6 ∧ x39 = h.a 7 ∧ x40 = h.port ∧ x41 = h.age ∧ x42 = h.hold ∧ x43 = h.pos := by subst hH; simp [Day.HB.a]
  simp only [Day.endsP, Bool.and_eq_true, Day.inR_iff, decide_eq_true_eq] at hp
  obtain ⟨⟨hr, h0⟩, hi⟩ := hp
  have hn := Day.right_le hr
  have w1 : IntKind.wrap .i64 (2 * x13) = 2 * x13 := wrap64 (by omega) (by omega)
  have w2 : IntKind.wrap .i64 (x16 + 1) = x16 + 1 := wrap64 (by omega) (by omega)
  have e60 : v60 = 0 := by rw [q60, Day.argH_right hr]
  have hm := Day.mk_tickH x13 h
  rw [← q48, ← q49, ← q50, ← q51, ← q52, ← q53, ← q54, ← q55, ← q56, ← q57, ← q58, ← q59] at hm
  have o61 : v61 = true := by rw [q61, q47, Day.right_i64 hr]; simp
  have e62 : v62 = false := by rw [q62, e60]; rfl
  refine ⟨o61, fun hb => ?_, fun hb => ?_, fun hb => ?_⟩
  · rw [q71, q45, q44, w1] at hb
    simp only [Bool.and_eq_true, decide_eq_true_eq] at hb
    have hk : (2 * x13 - x16).toNat = (2 * x13 - (x16 + 1)).toNat + 1 := by omega
    rw [hm, q68, w2, hk, Day.tickN_front]
    refine ⟨?_, by simp only [and_self], by omega⟩
    simp only [Day.endsP, Bool.and_eq_true, Day.inR_iff, decide_eq_true_eq]
    exact ⟨⟨Day.tick_right hr, e60⟩, by omega⟩
  · rw [q72, q70, q66, e62] at hb
    simp at hb
  · rw [q46, q45, q44, w1] at hb
    simp only [Bool.not_eq_true', decide_eq_false_iff_not] at hb
    have hk : (2 * x13 - x16).toNat = 0 := by omega
    rw [hk]
    simp only [Day.tickN]
    obtain ⟨a1, a2, a3, a4, a5, a6, a7, a8, a9, a10, a11, a12⟩ := g0
    exact ⟨h0, a1, a2, a3, a4, a5, a6, a7, a8, a9, a10, a11, a12, trivial⟩
theorem lpure_1590 (as : List A) (e : Nat → A) (h1 : as = (List.range 44).map e) (h2 : (t_1590 as).1 = true) (H : FactsQ T e g_L1590.defs) : ObsAll e g_L1590.obs ∧
      (∀ pc ls, some (V 71, [V 0, V 1, V 2, V 3, V 4, V 5, V 6, V 7, V 8, V 9, V 10, V 11, V 12, V 13, V 60, V 15, V 68, V 17, V 18, V 19, V 20, V 21, V 22, V 23, V 24, V 25, V 26, V 27, V 28, V 29, V 30, V 31, V 48, V 49, V 50, V 51, V 52, V 53, V 54, V 55, V 56, V 57, V 58, V 59]) = some (pc, ls) → (pc.ev e).bool = true → (t_1590 (ls.map (L.ev e))).1 = true ∧ (t_1590 (ls.map (L.ev e))).2 = (t_1590 as).2 ∧ m_1590 (ls.map (L.ev e)) < m_1590 as) ∧
      ∀ x ∈ ([(V 72, [some (V 60), some (V 48), some (V 49), some (V 50), some (V 51), some (V 52), some (V 53), some (V 54), some (V 55), some (V 56), some (V 57), some (V 58), some (V 59), some (B true), none, none, none, none, none, none, none, none, none, none, none, none, none, none]), (V 46, [none, none, none, none, none, none, none, none, none, none, none, none, none, none, some (V 14), some (V 32), some (V 33), some (V 34), some (V 35), some (V 36), some (V 37), some (V 38), some (V 39), some (V 40), some (V 41), some (V 42), some (V 43), some (B true)])] : List (L × List (Option L))), (x.1.ev e).bool = true → ∀ (j : Nat) l, x.2[j]? = some (some l) → Teq (lp_1590.tags.getD j .any) (l.ev e) ((t_1590 as).2.getD j (.i 0)) := by
  subst h1
  obtain ⟨ho, h⟩ := lpureQ_1590 e H h2
  refine ⟨⟨ho, trivial⟩, fun pc ls hb hpc => ?_, ?_⟩
  · injection hb with hb
    injection hb with h3 h4
    subst h3 h4
    have h := h.1 hpc
    refine ⟨h.1, ?_, h.2.2⟩
    have h5 := h.2.1
    show ([.i (0), .i (0), .i (0), .i (0), .i (0), .i (0), .i (0), .i (0), .i (0), .i (0), .i (0), .i (0), .i (0), .b (false), .i (0), .i (((Day.tickN (e 13).int (Day.HB.mk [(e 48).int, (e 49).int, (e 50).int, (e 51).int, (e 52).int, (e 53).int, (e 54).int, (e 55).int] (e 56).int (e 57).int (e 58).int (e 59).int) (2 * (e 13).int - (e 68).int).toNat)).a 0), .i (((Day.tickN (e 13).int (Day.HB.mk [(e 48).int, (e 49).int, (e 50).int, (e 51).int, (e 52).int, (e 53).int, (e 54).int, (e 55).int] (e 56).int (e 57).int (e 58).int (e 59).int) (2 * (e 13).int - (e 68).int).toNat)).a 1), .i (((Day.tickN (e 13).int (Day.HB.mk [(e 48).int, (e 49).int, (e 50).int, (e 51).int, (e 52).int, (e 53).int, (e 54).int, (e 55).int] (e 56).int (e 57).int (e 58).int (e 59).int) (2 * (e 13).int - (e 68).int).toNat)).a 2), .i (((Day.tickN (e 13).int (Day.HB.mk [(e 48).int, (e 49).int, (e 50).int, (e 51).int, (e 52).int, (e 53).int, (e 54).int, (e 55).int] (e 56).int (e 57).int (e 58).int (e 59).int) (2 * (e 13).int - (e 68).int).toNat)).a 3), .i (((Day.tickN (e 13).int (Day.HB.mk [(e 48).int, (e 49).int, (e 50).int, (e 51).int, (e 52).int, (e 53).int, (e 54).int, (e 55).int] (e 56).int (e 57).int (e 58).int (e 59).int) (2 * (e 13).int - (e 68).int).toNat)).a 4), .i (((Day.tickN (e 13).int (Day.HB.mk [(e 48).int, (e 49).int, (e 50).int, (e 51).int, (e 52).int, (e 53).int, (e 54).int, (e 55).int] (e 56).int (e 57).int (e 58).int (e 59).int) (2 * (e 13).int - (e 68).int).toNat)).a 5), .i (((Day.tickN (e 13).int (Day.HB.mk [(e 48).int, (e 49).int, (e 50).int, (e 51).int, (e 52).int, (e 53).int, (e 54).int, (e 55).int] (e 56).int (e 57).int (e 58).int (e 59).int) (2 * (e 13).int - (e 68).int).toNat)).a 6), .i (((Day.tickN (e 13).int (Day.HB.mk [(e 48).int, (e 49).int, (e 50).int, (e 51).int, (e 52).int, (e 53).int, (e 54).int, (e 55).int] (e 56).int (e 57).int (e 58).int (e 59).int) (2 * (e 13).int - (e 68).int).toNat)).a 7), .i (((Day.tickN (e 13).int (Day.HB.mk [(e 48).int, (e 49).int, (e 50).int, (e 51).int, (e 52).int, (e 53).int, (e 54).int, (e 55).int] (e 56).int (e 57).int (e 58).int (e 59).int) (2 * (e 13).int - (e 68).int).toNat)).port), .i (((Day.tickN (e 13).int (Day.HB.mk [(e 48).int, (e 49).int, (e 50).int, (e 51).int, (e 52).int, (e 53).int, (e 54).int, (e 55).int] (e 56).int (e 57).int (e 58).int (e 59).int) (2 * (e 13).int - (e 68).int).toNat)).age), .i (((Day.tickN (e 13).int (Day.HB.mk [(e 48).int, (e 49).int, (e 50).int, (e 51).int, (e 52).int, (e 53).int, (e 54).int, (e 55).int] (e 56).int (e 57).int (e 58).int (e 59).int) (2 * (e 13).int - (e 68).int).toNat)).hold), .i (((Day.tickN (e 13).int (Day.HB.mk [(e 48).int, (e 49).int, (e 50).int, (e 51).int, (e 52).int, (e 53).int, (e 54).int, (e 55).int] (e 56).int (e 57).int (e 58).int (e 59).int) (2 * (e 13).int - (e 68).int).toNat)).pos), .b (true)] : List A) = [.i (0), .i (0), .i (0), .i (0), .i (0), .i (0), .i (0), .i (0), .i (0), .i (0), .i (0), .i (0), .i (0), .b (false), .i (0), .i (((Day.tickN (e 13).int (Day.HB.mk [(e 32).int, (e 33).int, (e 34).int, (e 35).int, (e 36).int, (e 37).int, (e 38).int, (e 39).int] (e 40).int (e 41).int (e 42).int (e 43).int) (2 * (e 13).int - (e 16).int).toNat)).a 0), .i (((Day.tickN (e 13).int (Day.HB.mk [(e 32).int, (e 33).int, (e 34).int, (e 35).int, (e 36).int, (e 37).int, (e 38).int, (e 39).int] (e 40).int (e 41).int (e 42).int (e 43).int) (2 * (e 13).int - (e 16).int).toNat)).a 1), .i (((Day.tickN (e 13).int (Day.HB.mk [(e 32).int, (e 33).int, (e 34).int, (e 35).int, (e 36).int, (e 37).int, (e 38).int, (e 39).int] (e 40).int (e 41).int (e 42).int (e 43).int) (2 * (e 13).int - (e 16).int).toNat)).a 2), .i (((Day.tickN (e 13).int (Day.HB.mk [(e 32).int, (e 33).int, (e 34).int, (e 35).int, (e 36).int, (e 37).int, (e 38).int, (e 39).int] (e 40).int (e 41).int (e 42).int (e 43).int) (2 * (e 13).int - (e 16).int).toNat)).a 3), .i (((Day.tickN (e 13).int (Day.HB.mk [(e 32).int, (e 33).int, (e 34).int, (e 35).int, (e 36).int, (e 37).int, (e 38).int, (e 39).int] (e 40).int (e 41).int (e 42).int (e 43).int) (2 * (e 13).int - (e 16).int).toNat)).a 4), .i (((Day.tickN (e 13).int (Day.HB.mk [(e 32).int, (e 33).int, (e 34).int, (e 35).int, (e 36).int, (e 37).int, (e 38).int, (e 39).int] (e 40).int (e 41).int (e 42).int (e 43).int) (2 * (e 13).int - (e 16).int).toNat)).a 5), .i (((Day.tickN (e 13).int (Day.HB.mk [(e 32).int, (e 33).int, (e 34).int, (e 35).int, (e 36).int, (e 37).int, (e 38).int, (e 39).int] (e 40).int (e 41).int (e 42).int (e 43).int) (2 * (e 13).int - (e 16).int).toNat)).a 6), .i (((Day.tickN (e 13).int (Day.HB.mk [(e 32).int, (e 33).int, (e 34).int, (e 35).int, (e 36).int, (e 37).int, (e 38).int, (e 39).int] (e 40).int (e 41).int (e 42).int (e 43).int) (2 * (e 13).int - (e 16).int).toNat)).a 7), .i (((Day.tickN (e 13).int (Day.HB.mk [(e 32).int, (e 33).int, (e 34).int, (e 35).int, (e 36).int, (e 37).int, (e 38).int, (e 39).int] (e 40).int (e 41).int (e 42).int (e 43).int) (2 * (e 13).int - (e 16).int).toNat)).port), .i (((Day.tickN (e 13).int (Day.HB.mk [(e 32).int, (e 33).int, (e 34).int, (e 35).int, (e 36).int, (e 37).int, (e 38).int, (e 39).int] (e 40).int (e 41).int (e 42).int (e 43).int) (2 * (e 13).int - (e 16).int).toNat)).age), .i (((Day.tickN (e 13).int (Day.HB.mk [(e 32).int, (e 33).int, (e 34).int, (e 35).int, (e 36).int, (e 37).int, (e 38).int, (e 39).int] (e 40).int (e 41).int (e 42).int (e 43).int) (2 * (e 13).int - (e 16).int).toNat)).hold), .i (((Day.tickN (e 13).int (Day.HB.mk [(e 32).int, (e 33).int, (e 34).int, (e 35).int, (e 36).int, (e 37).int, (e 38).int, (e 39).int] (e 40).int (e 41).int (e 42).int (e 43).int) (2 * (e 13).int - (e 16).int).toNat)).pos), .b (true)]
    obtain ⟨z0, z1, z2, z3, z4, z5, z6, z7, z8, z9, z10, z11, z12, z13, z14, z15, z16, z17, z18, z19, z20, z21, z22, z23, z24, z25, z26, z27⟩ := h5
    simp only [z0, z1, z2, z3, z4, z5, z6, z7, z8, z9, z10, z11, z12, z13, z14, z15, z16, z17, z18, z19, z20, z21, z22, z23, z24, z25, z26, z27]
  · intro x hx hpc j l hj
    simp only [List.mem_cons, List.not_mem_nil, or_false] at hx
    rcases hx with rfl | rfl
    · have h := h.2.1 hpc
      obtain ⟨z0, z1, z2, z3, z4, z5, z6, z7, z8, z9, z10, z11, z12, z13⟩ := h
      match j, hj with
      | 0, hj => injection hj with hj; injection hj with hj; subst hj; exact z0
      | 1, hj => injection hj with hj; injection hj with hj; subst hj; exact z1
      | 2, hj => injection hj with hj; injection hj with hj; subst hj; exact z2
      | 3, hj => injection hj with hj; injection hj with hj; subst hj; exact z3
      | 4, hj => injection hj with hj; injection hj with hj; subst hj; exact z4
      | 5, hj => injection hj with hj; injection hj with hj; subst hj; exact z5
      | 6, hj => injection hj with hj; injection hj with hj; subst hj; exact z6
      | 7, hj => injection hj with hj; injection hj with hj; subst hj; exact z7
      | 8, hj => injection hj with hj; injection hj with hj; subst hj; exact z8
      | 9, hj => injection hj with hj; injection hj with hj; subst hj; exact z9
      | 10, hj => injection hj with hj; injection hj with hj; subst hj; exact z10
      | 11, hj => injection hj with hj; injection hj with hj; subst hj; exact z11
      | 12, hj => injection hj with hj; injection hj with hj; subst hj; exact z12
      | 13, hj => injection hj with hj; injection hj with hj; subst hj; exact z13
      | 14, hj => injection hj with hj; cases hj
      | 15, hj => injection hj with hj; cases hj
      | 16, hj => injection hj with hj; cases hj
      | 17, hj => injection hj with hj; cases hj
      | 18, hj => injection hj with hj; cases hj
      | 19, hj => injection hj with hj; cases hj
      | 20, hj => injection hj with hj; cases hj
      | 21, hj => injection hj with hj; cases hj
      | 22, hj => injection hj with hj; cases hj
      | 23, hj => injection hj with hj; cases hj
      | 24, hj => injection hj with hj; cases hj
      | 25, hj => injection hj with hj; cases hj
      | 26, hj => injection hj with hj; cases hj
      | 27, hj => injection hj with hj; cases hj
      | _ + 28, hj => cases hj
    · have h := h.2.2 hpc
      obtain ⟨z14, z15, z16, z17, z18, z19, z20, z21, z22, z23, z24, z25, z26, z27⟩ := h
      match j, hj with
      | 0, hj => injection hj with hj; cases hj
      | 1, hj => injection hj with hj; cases hj
      | 2, hj => injection hj with hj; cases hj
      | 3, hj => injection hj with hj; cases hj
      | 4, hj => injection hj with hj; cases hj
      | 5, hj => injection hj with hj; cases hj
      | 6, hj => injection hj with hj; cases hj
      | 7, hj => injection hj with hj; cases hj
      | 8, hj => injection hj with hj; cases hj
      | 9, hj => injection hj with hj; cases hj
      | 10, hj => injection hj with hj; cases hj
      | 11, hj => injection hj with hj; cases hj
      | 12, hj => injection hj with hj; cases hj
      | 13, hj => injection hj with hj; cases hj
      | 14, hj => injection hj with hj; injection hj with hj; subst hj; exact z14
      | 15, hj => injection hj with hj; injection hj with hj; subst hj; exact z15
      | 16, hj => injection hj with hj; injection hj with hj; subst hj; exact z16
      | 17, hj => injection hj with hj; injection hj with hj; subst hj; exact z17
      | 18, hj => injection hj with hj; injection hj with hj; subst hj; exact z18
      | 19, hj => injection hj with hj; injection hj with hj; subst hj; exact z19
      | 20, hj => injection hj with hj; injection hj with hj; subst hj; exact z20
      | 21, hj => injection hj with hj; injection hj with hj; subst hj; exact z21
      | 22, hj => injection hj with hj; injection hj with hj; subst hj; exact z22
      | 23, hj => injection hj with hj; injection hj with hj; subst hj; exact z23
      | 24, hj => injection hj with hj; injection hj with hj; subst hj; exact z24
      | 25, hj => injection hj with hj; injection hj with hj; subst hj; exact z25
      | 26, hj => injection hj with hj; injection hj with hj; subst hj; exact z26
      | 27, hj => injection hj with hj; injection hj with hj; subst hj; exact z27
      | _ + 28, hj => cases hj
def g_law11_VoteEnds : G := ⟨115, [⟨114, .iteB, [V 31, V 98, V 30]⟩, ⟨113, .iteI, [V 31, V 97, V 28]⟩, ⟨112, .iteI, [V 31, V 96, V 27]⟩, ⟨111, .iteI, [V 31, V 95, V 26]⟩, ⟨110, .iteI, [V 31, V 94, V 25]⟩, ⟨109, .iteI, [V 31, V 93, V 24]⟩, ⟨108, .iteI, [V 31, V 92, V 23]⟩, ⟨107, .iteI, [V 31, V 91, V 22]⟩, ⟨106, .iteI, [V 31, V 90, V 21]⟩, ⟨105, .iteI, [V 31, V 89, V 20]⟩, ⟨104, .iteI, [V 31, V 88, V 19]⟩, ⟨103, .iteI, [V 31, V 87, V 18]⟩, ⟨102, .iteI, [V 31, V 86, V 17]⟩, ⟨101, .iteI, [V 31, V 85, V 29]⟩, ⟨100, .iteB, [V 31, V 84, B false]⟩, ⟨99, .not, [V 31]⟩, ⟨98, .iteB, [V 66, V 66, V 65]⟩, ⟨97, .iteI, [V 66, V 59, V 45]⟩, ⟨96, .iteI, [V 66, V 58, V 44]⟩, ⟨95, .iteI, [V 66, V 57, V 43]⟩, ⟨94, .iteI, [V 66, V 56, V 42]⟩, ⟨93, .iteI, [V 66, V 55, V 41]⟩, ⟨92, .iteI, [V 66, V 54, V 40]⟩, ⟨91, .iteI, [V 66, V 53, V 39]⟩, ⟨90, .iteI, [V 66, V 52, V 38]⟩, ⟨89, .iteI, [V 66, V 51, V 37]⟩, ⟨88, .iteI, [V 66, V 50, V 36]⟩, ⟨87, .iteI, [V 66, V 49, V 35]⟩, ⟨86, .iteI, [V 66, V 48, V 34]⟩, ⟨85, .iteI, [V 66, V 47, V 33]⟩, ⟨84, .iteB, [V 66, V 82, B false]⟩, ⟨83, .not, [V 66]⟩, ⟨82, .iteB, [V 79, V 81, B false]⟩, ⟨81, (.cmp .eql), [V 59, V 28]⟩, ⟨80, .and, [V 66, V 79]⟩, ⟨79, .iteB, [V 76, V 78, B false]⟩, ⟨78, (.cmp .eql), [V 58, N 0]⟩, ⟨77, .and, [V 66, V 76]⟩, ⟨76, .iteB, [V 72, V 75, B false]⟩, ⟨75, (.cmp .eql), [V 69, N 0]⟩, ⟨74, .and, [V 66, V 72]⟩, ⟨73, .imp, [V 66, V 71]⟩, ⟨71, (.call 92), []⟩, ⟨70, .imp, [V 66, V 67]⟩, ⟨67, (.call 91), [V 15, V 48, V 49, V 50, V 51, V 52, V 53, V 54, V 55, V 56, V 57, V 58, V 59]⟩, ⟨66, .and, [V 31, V 60]⟩, ⟨65, .and, [V 31, V 46]⟩, ⟨64, .imp, [V 31, V 63]⟩, ⟨63, .not, [V 62]⟩, ⟨62, .and, [V 46, V 60]⟩, ⟨61, .imp, [V 31, V 32]⟩, ⟨32, (.call 1590), [V 0, V 1, V 2, V 3, V 4, V 5, V 6, V 7, V 8, V 9, V 10, V 11, V 12, V 15, V 29, V 28, N 0, V 13, V 14, V 17, V 18, V 19, V 20, V 21, V 22, V 23, V 24, V 25, V 26, V 27, V 29, V 30, V 17, V 18, V 19, V 20, V 21, V 22, V 23, V 24, V 25, V 26, V 27, V 28]⟩, ⟨31, .not, [V 30]⟩, ⟨30, (.cmp .neq), [V 29, N 0]⟩, ⟨16, (.call 89), [V 15, V 1, V 2, V 3, V 4, V 5, V 6, V 7, V 8, V 9, V 10, V 11, V 12]⟩, ⟨15, (.ar .add .i64), [N 3, V 14]⟩, ⟨14, (.conv .i64), [V 13]⟩, ⟨13, (.dv .rem .u8), [V 0, N 6]⟩], [V 73, V 70, V 64, V 61, V 16], []⟩
theorem pure_law11_VoteEnds (e : Nat → A) (H : FactsQ T e g_law11_VoteEnds.defs) (hp : (Day.u8 (e 0).int && Day.HB.i64 (Day.HB.mk [(e 1).int, (e 2).int, (e 3).int, (e 4).int, (e 5).int, (e 6).int, (e 7).int, (e 8).int] (e 9).int (e 10).int (e 11).int (e 12).int)) = true) :
    ((e 73).bool = true ∧ (e 70).bool = true ∧ (e 64).bool = true ∧ (e 61).bool = true ∧ (e 16).bool = true) ∧ (true = (e 100).bool) := by
  simp only [g_law11_VoteEnds, FactsQ, Def.q, updQ, L.ev_var, L.ev_n, L.ev_t, L.ev_e, L.ev, A.int_i, A.bool_b, A.str_v, A.els_l, List.map_cons, List.map_nil, Nat.zero_add, Nat.add_zero, and_true, true_and, Nat.reduceAdd, Nat.one_mul] at H
  simp only [arI, dvI, btI, cmpI, ifQ, updV, ltQ, and_true, true_and] at H
  obtain ⟨q114, ⟨q113, -⟩, ⟨q112, -⟩, ⟨q111, -⟩, ⟨q110, -⟩, ⟨q109, -⟩, ⟨q108, -⟩, ⟨q107, -⟩, ⟨q106, -⟩, ⟨q105, -⟩, ⟨q104, -⟩, ⟨q103, -⟩, ⟨q102, -⟩, ⟨q101, -⟩, q100, q99, q98, ⟨q97, -⟩, ⟨q96, -⟩, ⟨q95, -⟩, ⟨q94, -⟩, ⟨q93, -⟩, ⟨q92, -⟩, ⟨q91, -⟩, ⟨q90, -⟩, ⟨q89, -⟩, ⟨q88, -⟩, ⟨q87, -⟩, ⟨q86, -⟩, ⟨q85, -⟩, q84, q83, q82, q81, q80, q79, q78, q77, q76, q75, q74, q73, q71, q70, q67, q66, q65, q64, q63, q62, q61, q32, q31, q30, q16, ⟨q15, -⟩, ⟨q14, -⟩, q13⟩ := H
  replace q71 := out_law11_awake q71
  obtain ⟨q71, q72⟩ := q71
  replace q67 := out_vote_Best q67
  obtain ⟨q67, q68, q69⟩ := q67
  replace q32 := out_L1590 q32
  obtain ⟨q32, q33, q34, q35, q36, q37, q38, q39, q40, q41, q42, q43, q44, q45, q46, q47, q48, q49, q50, q51, q52, q53, q54, q55, q56, q57, q58, q59, q60⟩ := q32
  replace q16 := out_vote_Clean q16
  obtain ⟨q16, q17, q18, q19, q20, q21, q22, q23, q24, q25, q26, q27, q28, q29⟩ := q16
  simp only [L.ev_var, L.ev_n, L.ev_t, L.ev_e, L.ev, A.int_i, A.bool_b, A.str_v] at q71 q72 q67 q68 q69 q32 q33 q34 q35 q36 q37 q38 q39 q40 q41 q42 q43 q44 q45 q46 q47 q48 q49 q50 q51 q52 q53 q54 q55 q56 q57 q58 q59 q60 q16 q17 q18 q19 q20 q21 q22 q23 q24 q25 q26 q27 q28 q29
  generalize (e 0).int = x0 at *
  generalize (e 1).int = x1 at *
  generalize (e 2).int = x2 at *
  generalize (e 3).int = x3 at *
  generalize (e 4).int = x4 at *
  generalize (e 5).int = x5 at *
  generalize (e 6).int = x6 at *
  generalize (e 7).int = x7 at *
  generalize (e 8).int = x8 at *
  generalize (e 9).int = x9 at *
  generalize (e 10).int = x10 at *
  generalize (e 11).int = x11 at *
  generalize (e 12).int = x12 at *
  generalize (e 13).int = v13 at *
  generalize (e 14).int = v14 at *
  generalize (e 15).int = v15 at *
  generalize (e 16).bool = v16 at *
  generalize (e 17).int = v17 at *
  generalize (e 18).int = v18 at *
  generalize (e 19).int = v19 at *
  generalize (e 20).int = v20 at *
  generalize (e 21).int = v21 at *
  generalize (e 22).int = v22 at *
  generalize (e 23).int = v23 at *
  generalize (e 24).int = v24 at *
  generalize (e 25).int = v25 at *
  generalize (e 26).int = v26 at *
  generalize (e 27).int = v27 at *
  generalize (e 28).int = v28 at *
  generalize (e 29).int = v29 at *
  generalize (e 30).bool = v30 at *
  generalize (e 31).bool = v31 at *
  generalize (e 32).bool = v32 at *
  generalize (e 33).int = v33 at *
  generalize (e 34).int = v34 at *
  generalize (e 35).int = v35 at *
  generalize (e 36).int = v36 at *
  generalize (e 37).int = v37 at *
  generalize (e 38).int = v38 at *
  generalize (e 39).int = v39 at *
  generalize (e 40).int = v40 at *
  generalize (e 41).int = v41 at *
  generalize (e 42).int = v42 at *
  generalize (e 43).int = v43 at *
  generalize (e 44).int = v44 at *
  generalize (e 45).int = v45 at *
  generalize (e 46).bool = v46 at *
  generalize (e 47).int = v47 at *
  generalize (e 48).int = v48 at *
  generalize (e 49).int = v49 at *
  generalize (e 50).int = v50 at *
  generalize (e 51).int = v51 at *
  generalize (e 52).int = v52 at *
  generalize (e 53).int = v53 at *
  generalize (e 54).int = v54 at *
  generalize (e 55).int = v55 at *
  generalize (e 56).int = v56 at *
  generalize (e 57).int = v57 at *
  generalize (e 58).int = v58 at *
  generalize (e 59).int = v59 at *
  generalize (e 60).bool = v60 at *
  generalize (e 61).bool = v61 at *
  generalize (e 62).bool = v62 at *
  generalize (e 63).bool = v63 at *
  generalize (e 64).bool = v64 at *
  generalize (e 65).bool = v65 at *
  generalize (e 66).bool = v66 at *
  generalize (e 67).bool = v67 at *
  generalize (e 68).int = v68 at *
  generalize (e 69).int = v69 at *
  generalize (e 70).bool = v70 at *
  generalize (e 71).bool = v71 at *
  generalize (e 72).bool = v72 at *
  generalize (e 73).bool = v73 at *
  generalize (e 74).bool = v74 at *
  generalize (e 75).bool = v75 at *
  generalize (e 76).bool = v76 at *
  generalize (e 77).bool = v77 at *
  generalize (e 78).bool = v78 at *
  generalize (e 79).bool = v79 at *
  generalize (e 80).bool = v80 at *
  generalize (e 81).bool = v81 at *
  generalize (e 82).bool = v82 at *
  generalize (e 83).bool = v83 at *
  generalize (e 84).bool = v84 at *
  generalize (e 85).int = v85 at *
  generalize (e 86).int = v86 at *
  generalize (e 87).int = v87 at *
  generalize (e 88).int = v88 at *
  generalize (e 89).int = v89 at *
  generalize (e 90).int = v90 at *
  generalize (e 91).int = v91 at *
  generalize (e 92).int = v92 at *
  generalize (e 93).int = v93 at *
  generalize (e 94).int = v94 at *
  generalize (e 95).int = v95 at *
  generalize (e 96).int = v96 at *
  generalize (e 97).int = v97 at *
  generalize (e 98).bool = v98 at *
  generalize (e 99).bool = v99 at *
  generalize (e 100).bool = v100 at *
  generalize (e 101).int = v101 at *
  generalize (e 102).int = v102 at *
  generalize (e 103).int = v103 at *
  generalize (e 104).int = v104 at *
  generalize (e 105).int = v105 at *
  generalize (e 106).int = v106 at *
  generalize (e 107).int = v107 at *
  generalize (e 108).int = v108 at *
  generalize (e 109).int = v109 at *
  generalize (e 110).int = v110 at *
  generalize (e 111).int = v111 at *
  generalize (e 112).int = v112 at *
  generalize (e 113).int = v113 at *
  generalize (e 114).bool = v114 at *
  simp only [Bool.and_eq_true] at hp
  obtain ⟨hx, hi⟩ := hp
  obtain ⟨em, hR⟩ := Day.u8m_eq hx q13 q14 q15
  clear q13 q14 q15 em
  generalize (Day.HB.mk [x1, x2, x3, x4, x5, x6, x7, x8] x9 x10 x11 x12) = h at *
  have hm := Day.mk_cleanH v15 h
  rw [← q17, ← q18, ← q19, ← q20, ← q21, ← q22, ← q23, ← q24, ← q25, ← q26, ← q27, ← q28] at hm
  have hr := Day.clean_right h hR
  have hn := Day.right_le hr
  obtain ⟨t1, t2, t3, t4⟩ := Day.ends hr
  have hmt := Day.mk_tickN v15 (Day.mk_cleanH v15 h) (2 * v15).toNat
  simp only [hm, Int.sub_zero] at q32 q48 q49 q50 q51 q52 q53 q54 q55 q56 q57 q58 q59
  rw [← q48, ← q49, ← q50, ← q51, ← q52, ← q53, ← q54, ← q55, ← q56, ← q57, ← q58, ← q59] at hmt
  rw [hmt] at q67 q69
  have e29 : v29 = 0 := by rw [q29]; simp [Day.argE, hR]
  have e30 : v30 = false := by rw [q30, e29]; rfl
  have e31 : v31 = true := by rw [q31, e30]; rfl
  have e32 : v32 = true := by rw [q32]; simp [Day.endsP, hr, e29, Day.inR]; omega
  have e61 : v61 = true := by rw [q61, e32]; simp
  have e64 : v64 = true := by rw [q64, q63, q62, q46]; simp
  have e70 : v70 = true := by rw [q70, q67, Day.right_i64 t4]; simp
  have e73 : v73 = true := by rw [q73, q71]; simp
  have e16 : v16 = true := by rw [q16]; exact hi
  have e58 : v58 = 0 := by rw [q58]; exact t2
  have e59 : v59 = v28 := by rw [q59, t3, q28]
  have e69 : v69 = 0 := by rw [q69]; exact t1
  have e66 : v66 = true := by rw [q66, e31, q60]; rfl
  have e100 : v100 = true := by
    rw [q100, e31, q84, e66, q82, q79, q76, q72, q81, q78, q75, e58, e59, e69]; simp
  simp only [e61, e64, e70, e73, e16, e100, and_self]
end Rx.S
