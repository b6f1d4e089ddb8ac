import Derived.Test.YtjipnabidebgbaaXc
import Derived.Test.YtjipnabidebgbaaXt
set_option linter.unusedVariables false
set_option linter.unusedSimpArgs false
namespace Rx.S
open Go Rx
set_option maxRecDepth 100000
set_option maxHeartbeats 1000000
set_option linter.unusedVariables false
set_option linter.unusedSimpArgs false
def lp_1600 : Lp := ⟨16, [false, true, false, true, true, true, true, true, true], 1600, 48, 4, 3, ⟨frS 93 [(0, .pv (.one (.k (.int .u8 (V 0))))), (1, .pv (.agg [.k (.int .i64 (V 1)), .k (.int .i64 (V 2)), .k (.int .i64 (V 3)), .k (.int .i64 (V 4)), .k (.int .i64 (V 5)), .k (.int .i64 (V 6)), .k (.int .i64 (V 7)), .k (.int .i64 (V 8)), .k (.int .i64 (V 9)), .k (.int .i64 (V 10)), .k (.int .i64 (V 11)), .k (.int .i64 (V 12))])), (3, .pv (.one (.k (.ptr 0 0)))), (4, .pv (.one (.k (.bool (B false))))), (5, .pv (.one (.k (.int .i64 (V 13))))), (6, .pv (.one (.k (.ptr 1 0)))), (7, .pv (.one (.k (.int .i64 (V 14))))), (8, .pv (.one (.k (.ptr 2 0)))), (9, .pv (.one (.k (.int .i64 (V 15))))), (10, .pv (.one (.k (.int .i64 (V 16))))), (11, .pv (.one (.k (.int .i64 (V 17))))), (15, .pv (.one (.k (.int .u8 (V 0))))), (16, .pv (.one (.k (.int .u8 (V 18))))), (17, .pv (.one (.k (.int .i64 (V 19))))), (18, .pv (.one (.k (.int .i64 (V 13))))), (19, .tup [.agg [.k (.int .i64 (V 20)), .k (.int .i64 (V 21)), .k (.int .i64 (V 22)), .k (.int .i64 (V 23)), .k (.int .i64 (V 24)), .k (.int .i64 (V 25)), .k (.int .i64 (V 26)), .k (.int .i64 (V 27)), .k (.int .i64 (V 28)), .k (.int .i64 (V 29)), .k (.int .i64 (V 30)), .k (.int .i64 (V 31))], .one (.k (.int .i64 (V 14)))]), (20, .pv (.one (.k (.int .i64 (V 13))))), (21, .pv (.agg [.k (.int .i64 (V 1)), .k (.int .i64 (V 2)), .k (.int .i64 (V 3)), .k (.int .i64 (V 4)), .k (.int .i64 (V 5)), .k (.int .i64 (V 6)), .k (.int .i64 (V 7)), .k (.int .i64 (V 8)), .k (.int .i64 (V 9)), .k (.int .i64 (V 10)), .k (.int .i64 (V 11)), .k (.int .i64 (V 12))])), (22, .tup [.agg [.k (.int .i64 (V 20)), .k (.int .i64 (V 21)), .k (.int .i64 (V 22)), .k (.int .i64 (V 23)), .k (.int .i64 (V 24)), .k (.int .i64 (V 25)), .k (.int .i64 (V 26)), .k (.int .i64 (V 27)), .k (.int .i64 (V 28)), .k (.int .i64 (V 29)), .k (.int .i64 (V 30)), .k (.int .i64 (V 31))], .one (.k (.int .i64 (V 14)))]), (23, .pv (.agg [.k (.int .i64 (V 20)), .k (.int .i64 (V 21)), .k (.int .i64 (V 22)), .k (.int .i64 (V 23)), .k (.int .i64 (V 24)), .k (.int .i64 (V 25)), .k (.int .i64 (V 26)), .k (.int .i64 (V 27)), .k (.int .i64 (V 28)), .k (.int .i64 (V 29)), .k (.int .i64 (V 30)), .k (.int .i64 (V 31))])), (24, .pv (.one (.k (.int .i64 (V 14))))), (25, .tup [.agg [.k (.int .i64 (V 32)), .k (.int .i64 (V 33)), .k (.int .i64 (V 34)), .k (.int .i64 (V 35)), .k (.int .i64 (V 36)), .k (.int .i64 (V 37)), .k (.int .i64 (V 38)), .k (.int .i64 (V 39)), .k (.int .i64 (V 40)), .k (.int .i64 (V 41)), .k (.int .i64 (V 42)), .k (.int .i64 (V 43))], .one (.k (.int .i64 (V 15)))]), (26, .pv (.one (.k (.int .i64 (V 13))))), (27, .pv (.agg [.k (.int .i64 (V 20)), .k (.int .i64 (V 21)), .k (.int .i64 (V 22)), .k (.int .i64 (V 23)), .k (.int .i64 (V 24)), .k (.int .i64 (V 25)), .k (.int .i64 (V 26)), .k (.int .i64 (V 27)), .k (.int .i64 (V 28)), .k (.int .i64 (V 29)), .k (.int .i64 (V 30)), .k (.int .i64 (V 31))])), (28, .tup [.agg [.k (.int .i64 (V 32)), .k (.int .i64 (V 33)), .k (.int .i64 (V 34)), .k (.int .i64 (V 35)), .k (.int .i64 (V 36)), .k (.int .i64 (V 37)), .k (.int .i64 (V 38)), .k (.int .i64 (V 39)), .k (.int .i64 (V 40)), .k (.int .i64 (V 41)), .k (.int .i64 (V 42)), .k (.int .i64 (V 43))], .one (.k (.int .i64 (V 15)))]), (29, .pv (.agg [.k (.int .i64 (V 32)), .k (.int .i64 (V 33)), .k (.int .i64 (V 34)), .k (.int .i64 (V 35)), .k (.int .i64 (V 36)), .k (.int .i64 (V 37)), .k (.int .i64 (V 38)), .k (.int .i64 (V 39)), .k (.int .i64 (V 40)), .k (.int .i64 (V 41)), .k (.int .i64 (V 42)), .k (.int .i64 (V 43))])), (30, .pv (.one (.k (.int .i64 (V 15))))), (31, .pv (.one (.k (.int .i64 (V 14))))), (32, .pv (.one (.k (.bool (V 44))))), (33, .pv (.one (.k (.bool (V 44))))), (36, .pv (.one (.k (.bool (V 45))))), (37, .pv (.one (.k (.bool (V 45))))), (42, .pv (.one (.k (.bool (V 46))))), (43, .pv (.one (.k (.bool (V 46))))), (48, .pv (.one (.k (.bool (V 47)))))], [⟨true, 77, 12, [.k (.int .i64 (V 1)), .k (.int .i64 (V 2)), .k (.int .i64 (V 3)), .k (.int .i64 (V 4)), .k (.int .i64 (V 5)), .k (.int .i64 (V 6)), .k (.int .i64 (V 7)), .k (.int .i64 (V 8)), .k (.int .i64 (V 9)), .k (.int .i64 (V 10)), .k (.int .i64 (V 11)), .k (.int .i64 (V 12))], none⟩, ⟨true, 77, 12, [.k (.int .i64 (V 20)), .k (.int .i64 (V 21)), .k (.int .i64 (V 22)), .k (.int .i64 (V 23)), .k (.int .i64 (V 24)), .k (.int .i64 (V 25)), .k (.int .i64 (V 26)), .k (.int .i64 (V 27)), .k (.int .i64 (V 28)), .k (.int .i64 (V 29)), .k (.int .i64 (V 30)), .k (.int .i64 (V 31))], none⟩, ⟨true, 77, 12, [.k (.int .i64 (V 32)), .k (.int .i64 (V 33)), .k (.int .i64 (V 34)), .k (.int .i64 (V 35)), .k (.int .i64 (V 36)), .k (.int .i64 (V 37)), .k (.int .i64 (V 38)), .k (.int .i64 (V 39)), .k (.int .i64 (V 40)), .k (.int .i64 (V 41)), .k (.int .i64 (V 42)), .k (.int .i64 (V 43))], none⟩], B true⟩, [(.ret, ⟨frS 93 [(0, .pv (.one (.k (.int .u8 (V 0))))), (1, .pv (.agg [.k (.int .i64 (V 1)), .k (.int .i64 (V 2)), .k (.int .i64 (V 3)), .k (.int .i64 (V 4)), .k (.int .i64 (V 5)), .k (.int .i64 (V 6)), .k (.int .i64 (V 7)), .k (.int .i64 (V 8)), .k (.int .i64 (V 9)), .k (.int .i64 (V 10)), .k (.int .i64 (V 11)), .k (.int .i64 (V 12))])), (3, .pv (.one (.k (.ptr 0 0)))), (4, .pv (.one (.k (.bool (B false))))), (5, .pv (.one (.k (.int .i64 (V 13))))), (6, .pv (.one (.k (.ptr 1 0)))), (7, .pv (.one (.k (.int .i64 (V 14))))), (8, .pv (.one (.k (.ptr 2 0)))), (9, .pv (.one (.k (.int .i64 (V 15))))), (10, .pv (.one (.k (.int .i64 (V 48))))), (15, .pv (.one (.k (.int .u8 (V 0))))), (16, .pv (.one (.k (.int .u8 (V 18))))), (17, .pv (.one (.k (.int .i64 (V 19))))), (18, .pv (.one (.k (.int .i64 (V 13))))), (19, .tup [.agg [.k (.int .i64 (V 20)), .k (.int .i64 (V 21)), .k (.int .i64 (V 22)), .k (.int .i64 (V 23)), .k (.int .i64 (V 24)), .k (.int .i64 (V 25)), .k (.int .i64 (V 26)), .k (.int .i64 (V 27)), .k (.int .i64 (V 28)), .k (.int .i64 (V 29)), .k (.int .i64 (V 30)), .k (.int .i64 (V 31))], .one (.k (.int .i64 (V 14)))]), (20, .pv (.one (.k (.int .i64 (V 13))))), (21, .pv (.agg [.k (.int .i64 (V 1)), .k (.int .i64 (V 2)), .k (.int .i64 (V 3)), .k (.int .i64 (V 4)), .k (.int .i64 (V 5)), .k (.int .i64 (V 6)), .k (.int .i64 (V 7)), .k (.int .i64 (V 8)), .k (.int .i64 (V 9)), .k (.int .i64 (V 10)), .k (.int .i64 (V 11)), .k (.int .i64 (V 12))])), (22, .tup [.agg [.k (.int .i64 (V 20)), .k (.int .i64 (V 21)), .k (.int .i64 (V 22)), .k (.int .i64 (V 23)), .k (.int .i64 (V 24)), .k (.int .i64 (V 25)), .k (.int .i64 (V 26)), .k (.int .i64 (V 27)), .k (.int .i64 (V 28)), .k (.int .i64 (V 29)), .k (.int .i64 (V 30)), .k (.int .i64 (V 31))], .one (.k (.int .i64 (V 14)))]), (23, .pv (.agg [.k (.int .i64 (V 20)), .k (.int .i64 (V 21)), .k (.int .i64 (V 22)), .k (.int .i64 (V 23)), .k (.int .i64 (V 24)), .k (.int .i64 (V 25)), .k (.int .i64 (V 26)), .k (.int .i64 (V 27)), .k (.int .i64 (V 28)), .k (.int .i64 (V 29)), .k (.int .i64 (V 30)), .k (.int .i64 (V 31))])), (24, .pv (.one (.k (.int .i64 (V 14))))), (25, .tup [.agg [.k (.int .i64 (V 32)), .k (.int .i64 (V 33)), .k (.int .i64 (V 34)), .k (.int .i64 (V 35)), .k (.int .i64 (V 36)), .k (.int .i64 (V 37)), .k (.int .i64 (V 38)), .k (.int .i64 (V 39)), .k (.int .i64 (V 40)), .k (.int .i64 (V 41)), .k (.int .i64 (V 42)), .k (.int .i64 (V 43))], .one (.k (.int .i64 (V 15)))]), (26, .pv (.one (.k (.int .i64 (V 13))))), (27, .pv (.agg [.k (.int .i64 (V 20)), .k (.int .i64 (V 21)), .k (.int .i64 (V 22)), .k (.int .i64 (V 23)), .k (.int .i64 (V 24)), .k (.int .i64 (V 25)), .k (.int .i64 (V 26)), .k (.int .i64 (V 27)), .k (.int .i64 (V 28)), .k (.int .i64 (V 29)), .k (.int .i64 (V 30)), .k (.int .i64 (V 31))])), (28, .tup [.agg [.k (.int .i64 (V 32)), .k (.int .i64 (V 33)), .k (.int .i64 (V 34)), .k (.int .i64 (V 35)), .k (.int .i64 (V 36)), .k (.int .i64 (V 37)), .k (.int .i64 (V 38)), .k (.int .i64 (V 39)), .k (.int .i64 (V 40)), .k (.int .i64 (V 41)), .k (.int .i64 (V 42)), .k (.int .i64 (V 43))], .one (.k (.int .i64 (V 15)))]), (29, .pv (.agg [.k (.int .i64 (V 32)), .k (.int .i64 (V 33)), .k (.int .i64 (V 34)), .k (.int .i64 (V 35)), .k (.int .i64 (V 36)), .k (.int .i64 (V 37)), .k (.int .i64 (V 38)), .k (.int .i64 (V 39)), .k (.int .i64 (V 40)), .k (.int .i64 (V 41)), .k (.int .i64 (V 42)), .k (.int .i64 (V 43))])), (30, .pv (.one (.k (.int .i64 (V 15))))), (31, .pv (.one (.k (.int .i64 (V 14))))), (32, .pv (.one (.k (.bool (V 44))))), (33, .pv (.one (.k (.bool (V 44))))), (36, .pv (.one (.k (.bool (V 45))))), (37, .pv (.one (.k (.bool (V 45))))), (42, .pv (.one (.k (.bool (V 46))))), (43, .pv (.one (.k (.bool (V 46))))), (48, .pv (.one (.k (.bool (V 47)))))], [⟨true, 77, 12, [.k (.int .i64 (V 1)), .k (.int .i64 (V 2)), .k (.int .i64 (V 3)), .k (.int .i64 (V 4)), .k (.int .i64 (V 5)), .k (.int .i64 (V 6)), .k (.int .i64 (V 7)), .k (.int .i64 (V 8)), .k (.int .i64 (V 9)), .k (.int .i64 (V 10)), .k (.int .i64 (V 11)), .k (.int .i64 (V 12))], none⟩, ⟨true, 77, 12, [.k (.int .i64 (V 20)), .k (.int .i64 (V 21)), .k (.int .i64 (V 22)), .k (.int .i64 (V 23)), .k (.int .i64 (V 24)), .k (.int .i64 (V 25)), .k (.int .i64 (V 26)), .k (.int .i64 (V 27)), .k (.int .i64 (V 28)), .k (.int .i64 (V 29)), .k (.int .i64 (V 30)), .k (.int .i64 (V 31))], none⟩, ⟨true, 77, 12, [.k (.int .i64 (V 32)), .k (.int .i64 (V 33)), .k (.int .i64 (V 34)), .k (.int .i64 (V 35)), .k (.int .i64 (V 36)), .k (.int .i64 (V 37)), .k (.int .i64 (V 38)), .k (.int .i64 (V 39)), .k (.int .i64 (V 40)), .k (.int .i64 (V 41)), .k (.int .i64 (V 42)), .k (.int .i64 (V 43))], none⟩], V 49⟩), (.exit 0, ⟨frS 93 [(0, .pv (.one (.k (.int .u8 (V 0))))), (1, .pv (.agg [.k (.int .i64 (V 1)), .k (.int .i64 (V 2)), .k (.int .i64 (V 3)), .k (.int .i64 (V 4)), .k (.int .i64 (V 5)), .k (.int .i64 (V 6)), .k (.int .i64 (V 7)), .k (.int .i64 (V 8)), .k (.int .i64 (V 9)), .k (.int .i64 (V 10)), .k (.int .i64 (V 11)), .k (.int .i64 (V 12))])), (3, .pv (.one (.k (.ptr 0 0)))), (4, .pv (.one (.k (.bool (B false))))), (5, .pv (.one (.k (.int .i64 (V 13))))), (6, .pv (.one (.k (.ptr 1 0)))), (7, .pv (.one (.k (.int .i64 (V 14))))), (8, .pv (.one (.k (.ptr 2 0)))), (9, .pv (.one (.k (.int .i64 (V 15))))), (10, .pv (.one (.k (.int .i64 (V 50))))), (15, .pv (.one (.k (.int .u8 (V 0))))), (16, .pv (.one (.k (.int .u8 (V 18))))), (17, .pv (.one (.k (.int .i64 (V 19))))), (18, .pv (.one (.k (.int .i64 (V 13))))), (19, .tup [.agg [.k (.int .i64 (V 20)), .k (.int .i64 (V 21)), .k (.int .i64 (V 22)), .k (.int .i64 (V 23)), .k (.int .i64 (V 24)), .k (.int .i64 (V 25)), .k (.int .i64 (V 26)), .k (.int .i64 (V 27)), .k (.int .i64 (V 28)), .k (.int .i64 (V 29)), .k (.int .i64 (V 30)), .k (.int .i64 (V 31))], .one (.k (.int .i64 (V 14)))]), (20, .pv (.one (.k (.int .i64 (V 13))))), (21, .pv (.agg [.k (.int .i64 (V 1)), .k (.int .i64 (V 2)), .k (.int .i64 (V 3)), .k (.int .i64 (V 4)), .k (.int .i64 (V 5)), .k (.int .i64 (V 6)), .k (.int .i64 (V 7)), .k (.int .i64 (V 8)), .k (.int .i64 (V 9)), .k (.int .i64 (V 10)), .k (.int .i64 (V 11)), .k (.int .i64 (V 12))])), (22, .tup [.agg [.k (.int .i64 (V 20)), .k (.int .i64 (V 21)), .k (.int .i64 (V 22)), .k (.int .i64 (V 23)), .k (.int .i64 (V 24)), .k (.int .i64 (V 25)), .k (.int .i64 (V 26)), .k (.int .i64 (V 27)), .k (.int .i64 (V 28)), .k (.int .i64 (V 29)), .k (.int .i64 (V 30)), .k (.int .i64 (V 31))], .one (.k (.int .i64 (V 14)))]), (23, .pv (.agg [.k (.int .i64 (V 20)), .k (.int .i64 (V 21)), .k (.int .i64 (V 22)), .k (.int .i64 (V 23)), .k (.int .i64 (V 24)), .k (.int .i64 (V 25)), .k (.int .i64 (V 26)), .k (.int .i64 (V 27)), .k (.int .i64 (V 28)), .k (.int .i64 (V 29)), .k (.int .i64 (V 30)), .k (.int .i64 (V 31))])), (24, .pv (.one (.k (.int .i64 (V 14))))), (25, .tup [.agg [.k (.int .i64 (V 32)), .k (.int .i64 (V 33)), .k (.int .i64 (V 34)), .k (.int .i64 (V 35)), .k (.int .i64 (V 36)), .k (.int .i64 (V 37)), .k (.int .i64 (V 38)), .k (.int .i64 (V 39)), .k (.int .i64 (V 40)), .k (.int .i64 (V 41)), .k (.int .i64 (V 42)), .k (.int .i64 (V 43))], .one (.k (.int .i64 (V 15)))]), (26, .pv (.one (.k (.int .i64 (V 13))))), (27, .pv (.agg [.k (.int .i64 (V 20)), .k (.int .i64 (V 21)), .k (.int .i64 (V 22)), .k (.int .i64 (V 23)), .k (.int .i64 (V 24)), .k (.int .i64 (V 25)), .k (.int .i64 (V 26)), .k (.int .i64 (V 27)), .k (.int .i64 (V 28)), .k (.int .i64 (V 29)), .k (.int .i64 (V 30)), .k (.int .i64 (V 31))])), (28, .tup [.agg [.k (.int .i64 (V 32)), .k (.int .i64 (V 33)), .k (.int .i64 (V 34)), .k (.int .i64 (V 35)), .k (.int .i64 (V 36)), .k (.int .i64 (V 37)), .k (.int .i64 (V 38)), .k (.int .i64 (V 39)), .k (.int .i64 (V 40)), .k (.int .i64 (V 41)), .k (.int .i64 (V 42)), .k (.int .i64 (V 43))], .one (.k (.int .i64 (V 15)))]), (29, .pv (.agg [.k (.int .i64 (V 32)), .k (.int .i64 (V 33)), .k (.int .i64 (V 34)), .k (.int .i64 (V 35)), .k (.int .i64 (V 36)), .k (.int .i64 (V 37)), .k (.int .i64 (V 38)), .k (.int .i64 (V 39)), .k (.int .i64 (V 40)), .k (.int .i64 (V 41)), .k (.int .i64 (V 42)), .k (.int .i64 (V 43))])), (30, .pv (.one (.k (.int .i64 (V 15))))), (31, .pv (.one (.k (.int .i64 (V 14))))), (32, .pv (.one (.k (.bool (V 44))))), (33, .pv (.one (.k (.bool (V 44))))), (36, .pv (.one (.k (.bool (V 45))))), (37, .pv (.one (.k (.bool (V 45))))), (42, .pv (.one (.k (.bool (V 46))))), (43, .pv (.one (.k (.bool (V 46))))), (48, .pv (.one (.k (.bool (V 47)))))], [⟨true, 77, 12, [.k (.int .i64 (V 1)), .k (.int .i64 (V 2)), .k (.int .i64 (V 3)), .k (.int .i64 (V 4)), .k (.int .i64 (V 5)), .k (.int .i64 (V 6)), .k (.int .i64 (V 7)), .k (.int .i64 (V 8)), .k (.int .i64 (V 9)), .k (.int .i64 (V 10)), .k (.int .i64 (V 11)), .k (.int .i64 (V 12))], none⟩, ⟨true, 77, 12, [.k (.int .i64 (V 20)), .k (.int .i64 (V 21)), .k (.int .i64 (V 22)), .k (.int .i64 (V 23)), .k (.int .i64 (V 24)), .k (.int .i64 (V 25)), .k (.int .i64 (V 26)), .k (.int .i64 (V 27)), .k (.int .i64 (V 28)), .k (.int .i64 (V 29)), .k (.int .i64 (V 30)), .k (.int .i64 (V 31))], none⟩, ⟨true, 77, 12, [.k (.int .i64 (V 32)), .k (.int .i64 (V 33)), .k (.int .i64 (V 34)), .k (.int .i64 (V 35)), .k (.int .i64 (V 36)), .k (.int .i64 (V 37)), .k (.int .i64 (V 38)), .k (.int .i64 (V 39)), .k (.int .i64 (V 40)), .k (.int .i64 (V 41)), .k (.int .i64 (V 42)), .k (.int .i64 (V 43))], none⟩], V 51⟩)], [true, true, true, true, true, true, true, true, true, true, true, true, true, true, true, true, false, false, true, true, true, true, true, true, true, true, true, true, true, true, true, true, true, true, true, true, true, true, true, true, true, true, true, true, true, true, true, true], [.i, .b, .i, .b]⟩
def g_L1600 : G := ⟨71, [⟨70, .and, [V 48, V 68]⟩, ⟨69, .and, [V 48, V 66]⟩, ⟨68, .and, [V 67, V 65]⟩, ⟨67, .not, [V 66]⟩, ⟨66, .and, [V 62, V 64]⟩, ⟨65, .and, [V 61, V 63]⟩, ⟨64, .and, [V 48, V 62]⟩, ⟨63, .and, [V 48, V 61]⟩, ⟨62, .not, [V 61]⟩, ⟨61, (.cmp .gtr), [V 59, V 51]⟩, ⟨60, .imp, [V 48, V 58]⟩, ⟨58, (.call 100), [V 13, V 32, V 33, V 34, V 35, V 36, V 37, V 38, V 39, V 40, V 41, V 42, V 43, V 57]⟩, ⟨57, (.dv .rem .i64), [V 54, V 13]⟩, ⟨56, .imp, [V 48, V 55]⟩, ⟨55, (.cmp .neq), [V 13, N 0]⟩, ⟨54, (.ar .add .i64), [V 17, N 1]⟩, ⟨53, (.ar .add .i64), [V 16, V 51]⟩, ⟨52, .imp, [V 48, V 50]⟩, ⟨50, (.call 100), [V 13, V 20, V 21, V 22, V 23, V 24, V 25, V 26, V 27, V 28, V 29, V 30, V 31, V 17]⟩, ⟨49, .not, [V 48]⟩, ⟨48, (.cmp .lss), [V 17, V 13]⟩], [V 60, V 56, V 52], []⟩
def m_1600 (al : List A) : Nat := ((gi al 13) - (gi al 17)).toNat
theorem lpureQ_1600 (e : Nat → A) (H : FactsQ T e g_L1600.defs) (hp : (Day.fewP (e 13).int (Day.HB.mk [(e 20).int, (e 21).int, (e 22).int, (e 23).int, (e 24).int, (e 25).int, (e 26).int, (e 27).int] (e 28).int (e 29).int (e 30).int (e 31).int) (Day.HB.mk [(e 32).int, (e 33).int, (e 34).int, (e 35).int, (e 36).int, (e 37).int, (e 38).int, (e 39).int] (e 40).int (e 41).int (e 42).int (e 43).int) (e 17).int (e 16).int) = true) :
    ((e 60).bool = true ∧ (e 56).bool = true ∧ (e 52).bool = true) ∧ ((e 69).bool = true → (Day.fewP (e 13).int (Day.HB.mk [(e 20).int, (e 21).int, (e 22).int, (e 23).int, (e 24).int, (e 25).int, (e 26).int, (e 27).int] (e 28).int (e 29).int (e 30).int (e 31).int) (Day.HB.mk [(e 32).int, (e 33).int, (e 34).int, (e 35).int, (e 36).int, (e 37).int, (e 38).int, (e 39).int] (e 40).int (e 41).int (e 42).int (e 43).int) (e 54).int (e 53).int) = true ∧ (0 = 0 ∧ false = false ∧ (e 53).int + Day.sumF (e 13).int (Day.HB.mk [(e 20).int, (e 21).int, (e 22).int, (e 23).int, (e 24).int, (e 25).int, (e 26).int, (e 27).int] (e 28).int (e 29).int (e 30).int (e 31).int) (e 54).int = (e 16).int + Day.sumF (e 13).int (Day.HB.mk [(e 20).int, (e 21).int, (e 22).int, (e 23).int, (e 24).int, (e 25).int, (e 26).int, (e 27).int] (e 28).int (e 29).int (e 30).int (e 31).int) (e 17).int ∧ true = true) ∧ ((e 13).int - (e 54).int).toNat < ((e 13).int - (e 17).int).toNat) ∧ ((e 70).bool = true → (e 53).int = 0 ∧ true = false) ∧ ((e 49).bool = true → (e 16).int = (e 16).int + Day.sumF (e 13).int (Day.HB.mk [(e 20).int, (e 21).int, (e 22).int, (e 23).int, (e 24).int, (e 25).int, (e 26).int, (e 27).int] (e 28).int (e 29).int (e 30).int (e 31).int) (e 17).int ∧ true = true) := by
  simp only [g_L1600, FactsQ, Def.q, updQ, L.ev_var, L.ev_n, L.ev_t, L.ev_e, L.ev, A.int_i, A.bool_b, A.str_v, A.els_l, List.map_cons, List.map_nil, Nat.zero_add, Nat.add_zero, and_true, true_and, Nat.reduceAdd, Nat.one_mul] at H
  simp only [arI, dvI, btI, cmpI, ifQ, updV, ltQ, and_true, true_and] at H
  obtain ⟨q70, q69, q68, q67, q66, q65, q64, q63, q62, q61, q60, q58, q57, q56, q55, ⟨q54, -⟩, ⟨q53, -⟩, q52, q50, q49, q48⟩ := H
  replace q58 := out_vote_Votes q58
  obtain ⟨q58, q59⟩ := q58
  replace q50 := out_vote_Votes q50
  obtain ⟨q50, q51⟩ := q50
  simp only [L.ev_var, L.ev_n, L.ev_t, L.ev_e, L.ev, A.int_i, A.bool_b, A.str_v] at q58 q59 q50 q51
  generalize (e 0).int = x0 at *
  generalize (e 1).int = x1 at *
  generalize (e 2).int = x2 at *
  generalize (e 3).int = x3 at *
  generalize (e 4).int = x4 at *
  generalize (e 5).int = x5 at *
  generalize (e 6).int = x6 at *
  generalize (e 7).int = x7 at *
  generalize (e 8).int = x8 at *
  generalize (e 9).int = x9 at *
  generalize (e 10).int = x10 at *
  generalize (e 11).int = x11 at *
  generalize (e 12).int = x12 at *
  generalize (e 13).int = x13 at *
  generalize (e 14).int = x14 at *
  generalize (e 15).int = x15 at *
  generalize (e 16).int = x16 at *
  generalize (e 17).int = x17 at *
  generalize (e 18).int = x18 at *
  generalize (e 19).int = x19 at *
  generalize (e 20).int = x20 at *
  generalize (e 21).int = x21 at *
  generalize (e 22).int = x22 at *
  generalize (e 23).int = x23 at *
  generalize (e 24).int = x24 at *
  generalize (e 25).int = x25 at *
  generalize (e 26).int = x26 at *
  generalize (e 27).int = x27 at *
  generalize (e 28).int = x28 at *
  generalize (e 29).int = x29 at *
  generalize (e 30).int = x30 at *
  generalize (e 31).int = x31 at *
  generalize (e 32).int = x32 at *
  generalize (e 33).int = x33 at *
  generalize (e 34).int = x34 at *
  generalize (e 35).int = x35 at *
  generalize (e 36).int = x36 at *
  generalize (e 37).int = x37 at *
  generalize (e 38).int = x38 at *
  generalize (e 39).int = x39 at *
  generalize (e 40).int = x40 at *
  generalize (e 41).int = x41 at *
  generalize (e 42).int = x42 at *
  generalize (e 43).int = x43 at *
  generalize (e 44).int = x44 at *
  generalize (e 45).int = x45 at *
  generalize (e 46).int = x46 at *
  generalize (e 47).int = x47 at *
  generalize (e 48).bool = v48 at *
  generalize (e 49).bool = v49 at *
  generalize (e 50).bool = v50 at *
  generalize (e 51).int = v51 at *
  generalize (e 52).bool = v52 at *
  generalize (e 53).int = v53 at *
  generalize (e 54).int = v54 at *
  generalize (e 55).bool = v55 at *
  generalize (e 56).bool = v56 at *
  generalize (e 57).int = v57 at *
  generalize (e 58).bool = v58 at *
  generalize (e 59).int = v59 at *
  generalize (e 60).bool = v60 at *
  generalize (e 61).bool = v61 at *
  generalize (e 62).bool = v62 at *
  generalize (e 63).bool = v63 at *
  generalize (e 64).bool = v64 at *
  generalize (e 65).bool = v65 at *
  generalize (e 66).bool = v66 at *
  generalize (e 67).bool = v67 at *
  generalize (e 68).bool = v68 at *
  generalize (e 69).bool = v69 at *
  generalize (e 70).bool = v70 at *
  generalize (Day.HB.mk [x20, x21, x22, x23, x24, x25, x26, x27] x28 x29 x30 x31) = c at *
  generalize (Day.HB.mk [x32, x33, x34, x35, x36, x37, x38, x39] x40 x41 x42 x43) = d at *
  by_cases hlt : x17 < x13
  · have hat := Day.fewP_at hp hlt
    obtain ⟨hnx, b1, b2, b3, b4, b5, b6, hr, hd⟩ := Day.fewP_next hp hlt
    have hn := Day.right_le hr
    have w1 : IntKind.wrap .i64 (x17 + 1) = x17 + 1 := wrap64 (by omega) (by omega)
    have e51 : v51 = Day.cntH x13 c x17 := by rw [q51, Day.votesH, if_pos hr]
    have w2 : IntKind.wrap .i64 (x16 + v51) = x16 + v51 := wrap64 (by omega) (by omega)
    have e57 : v57 = (x17 + 1) % x13 := by rw [q57, q54, w1, Int.tmod_eq_emod_of_nonneg (by omega)]
    have e59 : v59 = Day.cntH x13 d ((x17 + 1) % x13) := by rw [q59, Day.votesH, if_pos hd, e57]
    have e61 : v61 = false := by rw [q61, e59, e51]; simp; omega
    have st := Day.sumF_step c ⟨b5, hlt⟩ hn.2
    refine ⟨?_, fun hb => ⟨?_, ?_, ?_⟩, fun hb => ?_, fun hb => ?_⟩
    · rw [q60, q58, q56, q55, q52, q50, Day.right_i64 hr, Day.right_i64 hd]
      simp
      omega
    · rw [q54, w1, q53, w2, e51]; exact hnx
    · rw [q54, w1, q53, w2, e51]
      simp only [st, true_and, and_true]
      omega
    · rw [q54, w1]; omega
    · rw [q70, q68, q65, e61] at hb; simp at hb
    · rw [q49, q48] at hb; simp [hlt] at hb
  · have e48 : v48 = false := by rw [q48]; simp [hlt]
    have st := Day.sumF_end c (show x13 ≤ x17 by omega)
    refine ⟨?_, fun hb => ?_, fun hb => ?_, fun hb => ?_⟩
    · rw [q60, q56, q52, e48]; simp
    · rw [q69, e48] at hb; simp at hb
    · rw [q70, e48] at hb; simp at hb
    · rw [st]; simp
theorem lpure_1600 (as : List A) (e : Nat → A) (h1 : as = (List.range 48).map e) (h2 : (t_1600 as).1 = true) (H : FactsQ T e g_L1600.defs) : ObsAll e g_L1600.obs ∧
      (∀ pc ls, some (V 69, [V 0, V 1, V 2, V 3, V 4, V 5, V 6, V 7, V 8, V 9, V 10, V 11, V 12, V 13, V 14, V 15, V 53, V 54, V 18, V 19, V 20, V 21, V 22, V 23, V 24, V 25, V 26, V 27, V 28, V 29, V 30, V 31, V 32, V 33, V 34, V 35, V 36, V 37, V 38, V 39, V 40, V 41, V 42, V 43, V 44, V 45, V 46, V 47]) = some (pc, ls) → (pc.ev e).bool = true → (t_1600 (ls.map (L.ev e))).1 = true ∧ (t_1600 (ls.map (L.ev e))).2 = (t_1600 as).2 ∧ m_1600 (ls.map (L.ev e)) < m_1600 as) ∧
      ∀ x ∈ ([(V 70, [some (V 53), some (B true), none, none]), (V 49, [none, none, some (V 16), some (B true)])] : List (L × List (Option L))), (x.1.ev e).bool = true → ∀ (j : Nat) l, x.2[j]? = some (some l) → Teq (lp_1600.tags.getD j .any) (l.ev e) ((t_1600 as).2.getD j (.i 0)) := by
  subst h1
  obtain ⟨ho, h⟩ := lpureQ_1600 e H h2
  refine ⟨⟨ho.1, ho.2.1, ho.2.2, trivial⟩, fun pc ls hb hpc => ?_, ?_⟩
  · injection hb with hb
    injection hb with h3 h4
    subst h3 h4
    have h := h.1 hpc
    refine ⟨h.1, ?_, h.2.2⟩
    have h5 := h.2.1
    show ([.i (0), .b (false), .i ((e 53).int + Day.sumF (e 13).int (Day.HB.mk [(e 20).int, (e 21).int, (e 22).int, (e 23).int, (e 24).int, (e 25).int, (e 26).int, (e 27).int] (e 28).int (e 29).int (e 30).int (e 31).int) (e 54).int), .b (true)] : List A) = [.i (0), .b (false), .i ((e 16).int + Day.sumF (e 13).int (Day.HB.mk [(e 20).int, (e 21).int, (e 22).int, (e 23).int, (e 24).int, (e 25).int, (e 26).int, (e 27).int] (e 28).int (e 29).int (e 30).int (e 31).int) (e 17).int), .b (true)]
    obtain ⟨z0, z1, z2, z3⟩ := h5
    simp only [z0, z1, z2, z3]
  · intro x hx hpc j l hj
    simp only [List.mem_cons, List.not_mem_nil, or_false] at hx
    rcases hx with rfl | rfl
    · have h := h.2.1 hpc
      obtain ⟨z0, z1⟩ := h
      match j, hj with
      | 0, hj => injection hj with hj; injection hj with hj; subst hj; exact z0
      | 1, hj => injection hj with hj; injection hj with hj; subst hj; exact z1
      | 2, hj => injection hj with hj; cases hj
      | 3, hj => injection hj with hj; cases hj
      | _ + 4, hj => cases hj
    · have h := h.2.2 hpc
      obtain ⟨z2, z3⟩ := h
      match j, hj with
      | 0, hj => injection hj with hj; cases hj
      | 1, hj => injection hj with hj; cases hj
      | 2, hj => injection hj with hj; injection hj with hj; subst hj; exact z2
      | 3, hj => injection hj with hj; injection hj with hj; subst hj; exact z3
      | _ + 4, hj => cases hj
def g_law11_VoteFew : G := ⟨96, [⟨95, .iteB, [V 60, V 92, V 59]⟩, ⟨94, .iteB, [V 60, V 90, B false]⟩, ⟨93, .not, [V 60]⟩, ⟨92, .iteB, [V 71, V 71, V 70]⟩, ⟨91, .iteI, [V 71, V 64, V 62]⟩, ⟨90, .iteB, [V 71, V 88, B false]⟩, ⟨89, .not, [V 71]⟩, ⟨88, .iteB, [V 85, V 87, B false]⟩, ⟨87, (.cmp .leq), [V 74, V 64]⟩, ⟨86, .and, [V 71, V 85]⟩, ⟨85, .iteB, [V 82, V 84, B false]⟩, ⟨84, (.cmp .leq), [V 74, V 15]⟩, ⟨83, .and, [V 71, V 82]⟩, ⟨82, .iteB, [V 77, V 81, B false]⟩, ⟨81, (.cmp .leq), [V 64, V 80]⟩, ⟨80, (.ar .add .i64), [V 15, N 1]⟩, ⟨79, .and, [V 71, V 77]⟩, ⟨78, .imp, [V 71, V 76]⟩, ⟨76, (.call 92), []⟩, ⟨75, .imp, [V 71, V 72]⟩, ⟨72, (.call 91), [V 15, V 17, V 18, V 19, V 20, V 21, V 22, V 23, V 24, V 25, V 26, V 27, V 28]⟩, ⟨71, .and, [V 60, V 65]⟩, ⟨70, .and, [V 60, V 63]⟩, ⟨69, .imp, [V 60, V 68]⟩, ⟨68, .not, [V 67]⟩, ⟨67, .and, [V 63, V 65]⟩, ⟨66, .imp, [V 60, V 61]⟩, ⟨61, (.call 1600), [V 0, V 1, V 2, V 3, V 4, V 5, V 6, V 7, V 8, V 9, V 10, V 11, V 12, V 15, V 29, V 43, N 0, N 0, V 13, V 14, V 17, V 18, V 19, V 20, V 21, V 22, V 23, V 24, V 25, V 26, V 27, V 28, V 31, V 32, V 33, V 34, V 35, V 36, V 37, V 38, V 39, V 40, V 41, V 42, V 44, V 47, V 53, V 59]⟩, ⟨60, .not, [V 59]⟩, ⟨59, .iteB, [V 53, B true, V 58]⟩, ⟨58, .not, [V 56]⟩, ⟨57, .imp, [V 54, V 55]⟩, ⟨55, (.call 96), [V 15, V 31, V 32, V 33, V 34, V 35, V 36, V 37, V 38, V 39, V 40, V 41, V 42]⟩, ⟨54, .not, [V 53]⟩, ⟨53, .iteB, [V 47, B true, V 52]⟩, ⟨52, .not, [V 50]⟩, ⟨51, .imp, [V 48, V 49]⟩, ⟨49, (.call 96), [V 15, V 17, V 18, V 19, V 20, V 21, V 22, V 23, V 24, V 25, V 26, V 27, V 28]⟩, ⟨48, .not, [V 47]⟩, ⟨47, .iteB, [V 44, B true, V 46]⟩, ⟨46, (.cmp .neq), [V 43, N 0]⟩, ⟨45, .not, [V 44]⟩, ⟨44, (.cmp .neq), [V 29, N 0]⟩, ⟨30, (.call 90), [V 15, V 17, V 18, V 19, V 20, V 21, V 22, V 23, V 24, V 25, V 26, V 27, V 28]⟩, ⟨16, (.call 89), [V 15, V 1, V 2, V 3, V 4, V 5, V 6, V 7, V 8, V 9, V 10, V 11, V 12]⟩, ⟨15, (.ar .add .i64), [N 3, V 14]⟩, ⟨14, (.conv .i64), [V 13]⟩, ⟨13, (.dv .rem .u8), [V 0, N 6]⟩], [V 78, V 75, V 69, V 66, V 57, V 51, V 30, V 16], []⟩
theorem pure_law11_VoteFew (e : Nat → A) (H : FactsQ T e g_law11_VoteFew.defs) (hp : (Day.u8 (e 0).int && Day.HB.i64 (Day.HB.mk [(e 1).int, (e 2).int, (e 3).int, (e 4).int, (e 5).int, (e 6).int, (e 7).int, (e 8).int] (e 9).int (e 10).int (e 11).int (e 12).int)) = true) :
    ((e 78).bool = true ∧ (e 75).bool = true ∧ (e 69).bool = true ∧ (e 66).bool = true ∧ (e 57).bool = true ∧ (e 51).bool = true ∧ (e 30).bool = true ∧ (e 16).bool = true) ∧ (true = (e 94).bool) := by
  simp only [g_law11_VoteFew, FactsQ, Def.q, updQ, L.ev_var, L.ev_n, L.ev_t, L.ev_e, L.ev, A.int_i, A.bool_b, A.str_v, A.els_l, List.map_cons, List.map_nil, Nat.zero_add, Nat.add_zero, and_true, true_and, Nat.reduceAdd, Nat.one_mul] at H
  simp only [arI, dvI, btI, cmpI, ifQ, updV, ltQ, and_true, true_and] at H
  obtain ⟨q95, q94, q93, q92, ⟨q91, -⟩, q90, q89, q88, q87, q86, q85, q84, q83, q82, q81, ⟨q80, -⟩, q79, q78, q76, q75, q72, q71, q70, q69, q68, q67, q66, q61, q60, q59, q58, q57, q55, q54, q53, q52, q51, q49, q48, q47, q46, q45, q44, q30, q16, ⟨q15, -⟩, ⟨q14, -⟩, q13⟩ := H
  replace q76 := out_law11_awake q76
  obtain ⟨q76, q77⟩ := q76
  replace q72 := out_vote_Best q72
  obtain ⟨q72, q73, q74⟩ := q72
  replace q61 := out_L1600 q61
  obtain ⟨q61, q62, q63, q64, q65⟩ := q61
  replace q55 := out_vote_Right q55
  obtain ⟨q55, q56⟩ := q55
  replace q49 := out_vote_Right q49
  obtain ⟨q49, q50⟩ := q49
  replace q30 := out_vote_Tick q30
  obtain ⟨q30, q31, q32, q33, q34, q35, q36, q37, q38, q39, q40, q41, q42, q43⟩ := q30
  replace q16 := out_vote_Clean q16
  obtain ⟨q16, q17, q18, q19, q20, q21, q22, q23, q24, q25, q26, q27, q28, q29⟩ := q16
  simp only [L.ev_var, L.ev_n, L.ev_t, L.ev_e, L.ev, A.int_i, A.bool_b, A.str_v] at q76 q77 q72 q73 q74 q61 q62 q63 q64 q65 q55 q56 q49 q50 q30 q31 q32 q33 q34 q35 q36 q37 q38 q39 q40 q41 q42 q43 q16 q17 q18 q19 q20 q21 q22 q23 q24 q25 q26 q27 q28 q29
  generalize (e 0).int = x0 at *
  generalize (e 1).int = x1 at *
  generalize (e 2).int = x2 at *
  generalize (e 3).int = x3 at *
  generalize (e 4).int = x4 at *
  generalize (e 5).int = x5 at *
  generalize (e 6).int = x6 at *
  generalize (e 7).int = x7 at *
  generalize (e 8).int = x8 at *
  generalize (e 9).int = x9 at *
  generalize (e 10).int = x10 at *
  generalize (e 11).int = x11 at *
  generalize (e 12).int = x12 at *
  generalize (e 13).int = v13 at *
  generalize (e 14).int = v14 at *
  generalize (e 15).int = v15 at *
  generalize (e 16).bool = v16 at *
  generalize (e 17).int = v17 at *
  generalize (e 18).int = v18 at *
  generalize (e 19).int = v19 at *
  generalize (e 20).int = v20 at *
  generalize (e 21).int = v21 at *
  generalize (e 22).int = v22 at *
  generalize (e 23).int = v23 at *
  generalize (e 24).int = v24 at *
  generalize (e 25).int = v25 at *
  generalize (e 26).int = v26 at *
  generalize (e 27).int = v27 at *
  generalize (e 28).int = v28 at *
  generalize (e 29).int = v29 at *
  generalize (e 30).bool = v30 at *
  generalize (e 31).int = v31 at *
  generalize (e 32).int = v32 at *
  generalize (e 33).int = v33 at *
  generalize (e 34).int = v34 at *
  generalize (e 35).int = v35 at *
  generalize (e 36).int = v36 at *
  generalize (e 37).int = v37 at *
  generalize (e 38).int = v38 at *
  generalize (e 39).int = v39 at *
  generalize (e 40).int = v40 at *
  generalize (e 41).int = v41 at *
  generalize (e 42).int = v42 at *
  generalize (e 43).int = v43 at *
  generalize (e 44).bool = v44 at *
  generalize (e 45).bool = v45 at *
  generalize (e 46).bool = v46 at *
  generalize (e 47).bool = v47 at *
  generalize (e 48).bool = v48 at *
  generalize (e 49).bool = v49 at *
  generalize (e 50).bool = v50 at *
  generalize (e 51).bool = v51 at *
  generalize (e 52).bool = v52 at *
  generalize (e 53).bool = v53 at *
  generalize (e 54).bool = v54 at *
  generalize (e 55).bool = v55 at *
  generalize (e 56).bool = v56 at *
  generalize (e 57).bool = v57 at *
  generalize (e 58).bool = v58 at *
  generalize (e 59).bool = v59 at *
  generalize (e 60).bool = v60 at *
  generalize (e 61).bool = v61 at *
  generalize (e 62).int = v62 at *
  generalize (e 63).bool = v63 at *
  generalize (e 64).int = v64 at *
  generalize (e 65).bool = v65 at *
  generalize (e 66).bool = v66 at *
  generalize (e 67).bool = v67 at *
  generalize (e 68).bool = v68 at *
  generalize (e 69).bool = v69 at *
  generalize (e 70).bool = v70 at *
  generalize (e 71).bool = v71 at *
  generalize (e 72).bool = v72 at *
  generalize (e 73).int = v73 at *
  generalize (e 74).int = v74 at *
  generalize (e 75).bool = v75 at *
  generalize (e 76).bool = v76 at *
  generalize (e 77).bool = v77 at *
  generalize (e 78).bool = v78 at *
  generalize (e 79).bool = v79 at *
  generalize (e 80).int = v80 at *
  generalize (e 81).bool = v81 at *
  generalize (e 82).bool = v82 at *
  generalize (e 83).bool = v83 at *
  generalize (e 84).bool = v84 at *
  generalize (e 85).bool = v85 at *
  generalize (e 86).bool = v86 at *
  generalize (e 87).bool = v87 at *
  generalize (e 88).bool = v88 at *
  generalize (e 89).bool = v89 at *
  generalize (e 90).bool = v90 at *
  generalize (e 91).int = v91 at *
  generalize (e 92).bool = v92 at *
  generalize (e 93).bool = v93 at *
  generalize (e 94).bool = v94 at *
  generalize (e 95).bool = v95 at *
  simp only [Bool.and_eq_true] at hp
  obtain ⟨hx, hi⟩ := hp
  obtain ⟨em, hR⟩ := Day.u8m_eq hx q13 q14 q15
  clear q13 q14 q15 em
  generalize (Day.HB.mk [x1, x2, x3, x4, x5, x6, x7, x8] x9 x10 x11 x12) = h at *
  have hm := Day.mk_cleanH v15 h
  rw [← q17, ← q18, ← q19, ← q20, ← q21, ← q22, ← q23, ← q24, ← q25, ← q26, ← q27, ← q28] at hm
  have hr := Day.clean_right h hR
  have hn := Day.right_le hr
  simp only [hm] at q30 q31 q32 q33 q34 q35 q36 q37 q38 q39 q40 q41 q42 q43 q49 q50 q61 q64 q72 q74
  generalize Day.cleanH v15 h = c at *
  have hmt := Day.mk_tickH v15 c
  rw [← q31, ← q32, ← q33, ← q34, ← q35, ← q36, ← q37, ← q38, ← q39, ← q40, ← q41, ← q42] at hmt
  simp only [hmt] at q55 q56 q61
  have hd := Day.tick_right hr
  obtain ⟨f1, f2, f3⟩ := Day.few hr
  have e29 : v29 = 0 := by rw [q29]; simp [Day.argE, hR]
  have e43 : v43 = 0 := by rw [q43]; exact Day.argH_right hr
  have e44 : v44 = false := by rw [q44, e29]; rfl
  have e46 : v46 = false := by rw [q46, e43]; rfl
  have e47 : v47 = false := by rw [q47, e44, e46]; rfl
  have e50 : v50 = true := by rw [q50]; exact hr
  have e53 : v53 = false := by rw [q53, e47, q52, e50]; rfl
  have e56 : v56 = true := by rw [q56]; exact hd
  have e59 : v59 = false := by rw [q59, e53, q58, e56]; rfl
  have e60 : v60 = true := by rw [q60, e59]; rfl
  have e64 : v64 = Day.sumF v15 c 0 := by rw [q64]; omega
  have w : IntKind.wrap .i64 (v15 + 1) = v15 + 1 := wrap64 (by omega) (by omega)
  have o16 : v16 = true := by rw [q16]; exact hi
  have o30 : v30 = true := by rw [q30]; exact Day.right_i64 hr
  have o51 : v51 = true := by rw [q51, q49, Day.right_i64 hr]; simp
  have o57 : v57 = true := by rw [q57, q55, Day.right_i64 hd]; simp
  have o66 : v66 = true := by rw [q66, q61, Day.fewP_start hr]; simp
  have o69 : v69 = true := by rw [q69, q68, q67, q63]; simp
  have o75 : v75 = true := by rw [q75, q72, Day.right_i64 hr]; simp
  have o78 : v78 = true := by rw [q78, q76]; simp
  have e71 : v71 = true := by rw [q71, e60, q65]; rfl
  have e94 : v94 = true := by
    rw [q94, e60, q90, e71, q88, q85, q82, q77, q81, q84, q87, q80, w, e64, q74]
    simp [f1, f2, f3]
  simp only [o16, o30, o51, o57, o66, o69, o75, o78, e94, and_self]
end Rx.S
