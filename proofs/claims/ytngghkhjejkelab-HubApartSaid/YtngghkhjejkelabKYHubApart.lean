import Derived.Test.YtngghkhjejkelabKXc
import Derived.Test.YtngghkhjejkelabKXt
set_option linter.unusedVariables false
set_option linter.unusedSimpArgs false
namespace Rx.S
open Go Rx
set_option maxRecDepth 100000
set_option maxHeartbeats 1000000
def lp_2000 : Lp := ⟨3, [false, true, false, false, true, false, true, true, true, false, false, true, false, false, true, false, true, true, true, true], 2000, 62, 2, 7, ⟨frS 120 [(0, .pv (.one (.k (.int .u8 (V 0))))), (1, .pv (.agg [.k (.int .i64 (V 1)), .k (.int .i64 (V 2)), .k (.int .i64 (V 3)), .k (.int .i64 (V 4)), .k (.int .i64 (V 5)), .k (.int .i64 (V 6)), .k (.int .i64 (V 7)), .k (.int .i64 (V 8)), .k (.int .i64 (V 9)), .k (.int .i64 (V 10)), .k (.int .i64 (V 11)), .k (.int .i64 (V 12))])), (2, .pv (.one (.k (.fsl 0 (V 13))))), (4, .pv (.one (.k (.ptr 1 0)))), (6, .pv (.one (.k (.bool (B false))))), (7, .pv (.one (.k (.int .i64 (V 14))))), (8, .pv (.one (.k (.int .i64 (V 15))))), (9, .pv (.one (.k (.int .i64 (V 16))))), (10, .pv (.one (.k (.ptr 4 0)))), (11, .pv (.one (.k (.ptr 5 0)))), (12, .pv (.one (.k (.int .i64 (V 17))))), (13, .pv (.one (.k (.int .i64 (V 18))))), (14, .pv (.one (.k (.int .u8 (V 0))))), (15, .pv (.one (.k (.int .u8 (V 19))))), (16, .pv (.one (.k (.int .i64 (V 20))))), (17, .pv (.one (.k (.int .i64 (V 14))))), (18, .pv (.one (.k (.fsl 0 (V 13))))), (19, .pv (.one (.k (.bool (V 21))))), (20, .pv (.one (.k (.bool (V 22))))), (21, .pv (.one (.k (.bool (V 22))))), (26, .pv (.one (.k (.bool (V 23))))), (28, .pv (.one (.k (.int .i64 (V 16))))), (29, .pv (.one (.k (.fsl 0 (V 13))))), (30, .pv (.one (.k (.int .i64 (V 13))))), (31, .pv (.one (.k (.bool (V 24))))), (34, .pv (.one (.k (.int .i64 (V 14))))), (35, .pv (.one (.k (.fsl 0 (V 13))))), (36, .pv (.one (.k (.int .i64 (V 16))))), (37, .pv (.one (.k (.lptr 0 0 1 (V 16) (V 13))))), (38, .pv (.one (.k (.fsl 2 (V 25))))), (39, .pv (.one (.k (.bool (V 26))))), (40, .pv (.one (.k (.bool (V 27))))), (42, .tup [.agg [.k (.int .i64 (V 28)), .k (.int .i64 (V 29)), .k (.int .i64 (V 30)), .k (.int .i64 (V 31)), .k (.int .i64 (V 32)), .k (.int .i64 (V 33)), .k (.int .i64 (V 34)), .k (.int .i64 (V 35)), .k (.int .i64 (V 36)), .k (.int .i64 (V 37)), .k (.int .i64 (V 38)), .k (.int .i64 (V 39))], .agg [.k (.int .i64 (V 40)), .k (.int .i64 (V 41))], .one (.k (.int .i64 (V 17)))]), (43, .pv (.one (.k (.int .i64 (V 14))))), (44, .pv (.agg [.k (.int .i64 (V 42)), .k (.int .i64 (V 43)), .k (.int .i64 (V 44)), .k (.int .i64 (V 45)), .k (.int .i64 (V 46)), .k (.int .i64 (V 47)), .k (.int .i64 (V 48)), .k (.int .i64 (V 49)), .k (.int .i64 (V 50)), .k (.int .i64 (V 51)), .k (.int .i64 (V 52)), .k (.int .i64 (V 53))])), (45, .pv (.one (.k (.fsl 0 (V 13))))), (46, .pv (.one (.k (.int .i64 (V 16))))), (47, .pv (.one (.k (.lptr 0 0 1 (V 16) (V 13))))), (48, .pv (.one (.k (.fsl 3 (V 25))))), (49, .tup [.agg [.k (.int .i64 (V 28)), .k (.int .i64 (V 29)), .k (.int .i64 (V 30)), .k (.int .i64 (V 31)), .k (.int .i64 (V 32)), .k (.int .i64 (V 33)), .k (.int .i64 (V 34)), .k (.int .i64 (V 35)), .k (.int .i64 (V 36)), .k (.int .i64 (V 37)), .k (.int .i64 (V 38)), .k (.int .i64 (V 39))], .agg [.k (.int .i64 (V 40)), .k (.int .i64 (V 41))], .one (.k (.int .i64 (V 17)))]), (50, .pv (.agg [.k (.int .i64 (V 28)), .k (.int .i64 (V 29)), .k (.int .i64 (V 30)), .k (.int .i64 (V 31)), .k (.int .i64 (V 32)), .k (.int .i64 (V 33)), .k (.int .i64 (V 34)), .k (.int .i64 (V 35)), .k (.int .i64 (V 36)), .k (.int .i64 (V 37)), .k (.int .i64 (V 38)), .k (.int .i64 (V 39))])), (51, .pv (.agg [.k (.int .i64 (V 40)), .k (.int .i64 (V 41))])), (52, .pv (.one (.k (.int .i64 (V 17))))), (53, .pv (.one (.k (.int .i64 (V 17))))), (54, .pv (.one (.k (.bool (V 54))))), (55, .pv (.one (.k (.bool (V 54))))), (60, .pv (.one (.k (.bool (V 55))))), (61, .pv (.one (.k (.bool (V 55))))), (88, .pv (.one (.k (.bool (V 56))))), (89, .pv (.one (.k (.ptr 5 0)))), (90, .pv (.one (.k (.int .i64 (V 40))))), (91, .pv (.one (.k (.bool (V 57)))))], [⟨false, 0, 0, [], some ⟨false, 0, [.sl [.int .i64, .int .i64]], V 58, V 13⟩⟩, ⟨true, 24, 12, [.k (.int .i64 (V 42)), .k (.int .i64 (V 43)), .k (.int .i64 (V 44)), .k (.int .i64 (V 45)), .k (.int .i64 (V 46)), .k (.int .i64 (V 47)), .k (.int .i64 (V 48)), .k (.int .i64 (V 49)), .k (.int .i64 (V 50)), .k (.int .i64 (V 51)), .k (.int .i64 (V 52)), .k (.int .i64 (V 53))], none⟩, ⟨false, 0, 0, [], some ⟨false, 0, [.int .i64, .int .i64], V 59, V 25⟩⟩, ⟨false, 0, 0, [], some ⟨false, 0, [.int .i64, .int .i64], V 59, V 25⟩⟩, ⟨true, 24, 12, [.k (.int .i64 (V 28)), .k (.int .i64 (V 29)), .k (.int .i64 (V 30)), .k (.int .i64 (V 31)), .k (.int .i64 (V 32)), .k (.int .i64 (V 33)), .k (.int .i64 (V 34)), .k (.int .i64 (V 35)), .k (.int .i64 (V 36)), .k (.int .i64 (V 37)), .k (.int .i64 (V 38)), .k (.int .i64 (V 39))], none⟩, ⟨true, 32, 2, [.k (.int .i64 (V 40)), .k (.int .i64 (V 41))], none⟩, ⟨false, 0, 0, [], some ⟨false, 0, [.int .i64, .int .i64], V 60, V 61⟩⟩], B true⟩, [(.ret, ⟨frS 120 [(0, .pv (.one (.k (.int .u8 (V 0))))), (1, .pv (.agg [.k (.int .i64 (V 1)), .k (.int .i64 (V 2)), .k (.int .i64 (V 3)), .k (.int .i64 (V 4)), .k (.int .i64 (V 5)), .k (.int .i64 (V 6)), .k (.int .i64 (V 7)), .k (.int .i64 (V 8)), .k (.int .i64 (V 9)), .k (.int .i64 (V 10)), .k (.int .i64 (V 11)), .k (.int .i64 (V 12))])), (2, .pv (.one (.k (.fsl 0 (V 13))))), (4, .pv (.one (.k (.ptr 1 0)))), (6, .pv (.one (.k (.bool (B false))))), (7, .pv (.one (.k (.int .i64 (V 14))))), (8, .pv (.one (.k (.int .i64 (V 15))))), (9, .pv (.one (.k (.int .i64 (V 16))))), (10, .pv (.one (.k (.ptr 4 0)))), (11, .pv (.one (.k (.ptr 5 0)))), (12, .pv (.one (.k (.int .i64 (V 17))))), (14, .pv (.one (.k (.int .u8 (V 0))))), (15, .pv (.one (.k (.int .u8 (V 19))))), (16, .pv (.one (.k (.int .i64 (V 20))))), (17, .pv (.one (.k (.int .i64 (V 14))))), (18, .pv (.one (.k (.fsl 0 (V 13))))), (19, .pv (.one (.k (.bool (V 21))))), (20, .pv (.one (.k (.bool (V 22))))), (21, .pv (.one (.k (.bool (V 22))))), (26, .pv (.one (.k (.bool (V 23))))), (28, .pv (.one (.k (.int .i64 (V 16))))), (29, .pv (.one (.k (.fsl 0 (V 13))))), (30, .pv (.one (.k (.int .i64 (V 13))))), (31, .pv (.one (.k (.bool (V 24))))), (34, .pv (.one (.k (.int .i64 (V 14))))), (35, .pv (.one (.k (.fsl 0 (V 13))))), (36, .pv (.one (.k (.int .i64 (V 16))))), (37, .pv (.one (.k (.lptr 0 0 1 (V 16) (V 13))))), (38, .pv (.one (.k (.fsl 2 (V 25))))), (39, .pv (.one (.k (.bool (V 26))))), (40, .pv (.one (.k (.bool (V 27))))), (42, .tup [.agg [.k (.int .i64 (V 28)), .k (.int .i64 (V 29)), .k (.int .i64 (V 30)), .k (.int .i64 (V 31)), .k (.int .i64 (V 32)), .k (.int .i64 (V 33)), .k (.int .i64 (V 34)), .k (.int .i64 (V 35)), .k (.int .i64 (V 36)), .k (.int .i64 (V 37)), .k (.int .i64 (V 38)), .k (.int .i64 (V 39))], .agg [.k (.int .i64 (V 40)), .k (.int .i64 (V 41))], .one (.k (.int .i64 (V 17)))]), (43, .pv (.one (.k (.int .i64 (V 14))))), (44, .pv (.agg [.k (.int .i64 (V 42)), .k (.int .i64 (V 43)), .k (.int .i64 (V 44)), .k (.int .i64 (V 45)), .k (.int .i64 (V 46)), .k (.int .i64 (V 47)), .k (.int .i64 (V 48)), .k (.int .i64 (V 49)), .k (.int .i64 (V 50)), .k (.int .i64 (V 51)), .k (.int .i64 (V 52)), .k (.int .i64 (V 53))])), (45, .pv (.one (.k (.fsl 0 (V 13))))), (46, .pv (.one (.k (.int .i64 (V 16))))), (47, .pv (.one (.k (.lptr 0 0 1 (V 16) (V 13))))), (48, .pv (.one (.k (.fsl 3 (V 25))))), (49, .tup [.agg [.k (.int .i64 (V 28)), .k (.int .i64 (V 29)), .k (.int .i64 (V 30)), .k (.int .i64 (V 31)), .k (.int .i64 (V 32)), .k (.int .i64 (V 33)), .k (.int .i64 (V 34)), .k (.int .i64 (V 35)), .k (.int .i64 (V 36)), .k (.int .i64 (V 37)), .k (.int .i64 (V 38)), .k (.int .i64 (V 39))], .agg [.k (.int .i64 (V 40)), .k (.int .i64 (V 41))], .one (.k (.int .i64 (V 17)))]), (50, .pv (.agg [.k (.int .i64 (V 28)), .k (.int .i64 (V 29)), .k (.int .i64 (V 30)), .k (.int .i64 (V 31)), .k (.int .i64 (V 32)), .k (.int .i64 (V 33)), .k (.int .i64 (V 34)), .k (.int .i64 (V 35)), .k (.int .i64 (V 36)), .k (.int .i64 (V 37)), .k (.int .i64 (V 38)), .k (.int .i64 (V 39))])), (51, .pv (.agg [.k (.int .i64 (V 40)), .k (.int .i64 (V 41))])), (52, .pv (.one (.k (.int .i64 (V 17))))), (53, .pv (.one (.k (.int .i64 (V 17))))), (54, .pv (.one (.k (.bool (V 54))))), (55, .pv (.one (.k (.bool (V 54))))), (60, .pv (.one (.k (.bool (V 55))))), (61, .pv (.one (.k (.bool (V 55))))), (88, .pv (.one (.k (.bool (V 56))))), (89, .pv (.one (.k (.ptr 5 0)))), (90, .pv (.one (.k (.int .i64 (V 40))))), (91, .pv (.one (.k (.bool (V 57)))))], [⟨false, 0, 0, [], some ⟨false, 0, [.sl [.int .i64, .int .i64]], V 58, V 13⟩⟩, ⟨true, 24, 12, [.k (.int .i64 (V 42)), .k (.int .i64 (V 43)), .k (.int .i64 (V 44)), .k (.int .i64 (V 45)), .k (.int .i64 (V 46)), .k (.int .i64 (V 47)), .k (.int .i64 (V 48)), .k (.int .i64 (V 49)), .k (.int .i64 (V 50)), .k (.int .i64 (V 51)), .k (.int .i64 (V 52)), .k (.int .i64 (V 53))], none⟩, ⟨false, 0, 0, [], some ⟨false, 0, [.int .i64, .int .i64], V 59, V 25⟩⟩, ⟨false, 0, 0, [], some ⟨false, 0, [.int .i64, .int .i64], V 59, V 25⟩⟩, ⟨true, 24, 12, [.k (.int .i64 (V 28)), .k (.int .i64 (V 29)), .k (.int .i64 (V 30)), .k (.int .i64 (V 31)), .k (.int .i64 (V 32)), .k (.int .i64 (V 33)), .k (.int .i64 (V 34)), .k (.int .i64 (V 35)), .k (.int .i64 (V 36)), .k (.int .i64 (V 37)), .k (.int .i64 (V 38)), .k (.int .i64 (V 39))], none⟩, ⟨true, 32, 2, [.k (.int .i64 (V 40)), .k (.int .i64 (V 41))], none⟩, ⟨false, 0, 0, [], some ⟨false, 0, [.int .i64, .int .i64], V 60, V 61⟩⟩], V 62⟩), (.exit 2, ⟨frS 120 [(0, .pv (.one (.k (.int .u8 (V 0))))), (1, .pv (.agg [.k (.int .i64 (V 1)), .k (.int .i64 (V 2)), .k (.int .i64 (V 3)), .k (.int .i64 (V 4)), .k (.int .i64 (V 5)), .k (.int .i64 (V 6)), .k (.int .i64 (V 7)), .k (.int .i64 (V 8)), .k (.int .i64 (V 9)), .k (.int .i64 (V 10)), .k (.int .i64 (V 11)), .k (.int .i64 (V 12))])), (2, .pv (.one (.k (.fsl 0 (V 13))))), (4, .pv (.one (.k (.ptr 1 0)))), (6, .pv (.one (.k (.bool (B false))))), (7, .pv (.one (.k (.int .i64 (V 14))))), (8, .pv (.one (.k (.int .i64 (V 15))))), (9, .pv (.one (.k (.int .i64 (V 16))))), (10, .pv (.one (.k (.ptr 4 0)))), (11, .pv (.one (.k (.ptr 5 0)))), (12, .pv (.one (.k (.int .i64 (V 17))))), (14, .pv (.one (.k (.int .u8 (V 0))))), (15, .pv (.one (.k (.int .u8 (V 19))))), (16, .pv (.one (.k (.int .i64 (V 20))))), (17, .pv (.one (.k (.int .i64 (V 14))))), (18, .pv (.one (.k (.fsl 0 (V 13))))), (19, .pv (.one (.k (.bool (V 21))))), (20, .pv (.one (.k (.bool (V 22))))), (21, .pv (.one (.k (.bool (V 22))))), (26, .pv (.one (.k (.bool (V 23))))), (28, .pv (.one (.k (.int .i64 (V 16))))), (29, .pv (.one (.k (.fsl 0 (V 13))))), (30, .pv (.one (.k (.int .i64 (V 13))))), (31, .pv (.one (.k (.bool (V 24))))), (34, .pv (.one (.k (.int .i64 (V 14))))), (35, .pv (.one (.k (.fsl 0 (V 13))))), (36, .pv (.one (.k (.int .i64 (V 16))))), (37, .pv (.one (.k (.lptr 0 0 1 (V 16) (V 13))))), (38, .pv (.one (.k (.fsl 2 (V 25))))), (39, .pv (.one (.k (.bool (V 26))))), (40, .pv (.one (.k (.bool (V 27))))), (42, .tup [.agg [.k (.int .i64 (V 28)), .k (.int .i64 (V 29)), .k (.int .i64 (V 30)), .k (.int .i64 (V 31)), .k (.int .i64 (V 32)), .k (.int .i64 (V 33)), .k (.int .i64 (V 34)), .k (.int .i64 (V 35)), .k (.int .i64 (V 36)), .k (.int .i64 (V 37)), .k (.int .i64 (V 38)), .k (.int .i64 (V 39))], .agg [.k (.int .i64 (V 40)), .k (.int .i64 (V 41))], .one (.k (.int .i64 (V 17)))]), (43, .pv (.one (.k (.int .i64 (V 14))))), (44, .pv (.agg [.k (.int .i64 (V 42)), .k (.int .i64 (V 43)), .k (.int .i64 (V 44)), .k (.int .i64 (V 45)), .k (.int .i64 (V 46)), .k (.int .i64 (V 47)), .k (.int .i64 (V 48)), .k (.int .i64 (V 49)), .k (.int .i64 (V 50)), .k (.int .i64 (V 51)), .k (.int .i64 (V 52)), .k (.int .i64 (V 53))])), (45, .pv (.one (.k (.fsl 0 (V 13))))), (46, .pv (.one (.k (.int .i64 (V 16))))), (47, .pv (.one (.k (.lptr 0 0 1 (V 16) (V 13))))), (48, .pv (.one (.k (.fsl 3 (V 25))))), (49, .tup [.agg [.k (.int .i64 (V 28)), .k (.int .i64 (V 29)), .k (.int .i64 (V 30)), .k (.int .i64 (V 31)), .k (.int .i64 (V 32)), .k (.int .i64 (V 33)), .k (.int .i64 (V 34)), .k (.int .i64 (V 35)), .k (.int .i64 (V 36)), .k (.int .i64 (V 37)), .k (.int .i64 (V 38)), .k (.int .i64 (V 39))], .agg [.k (.int .i64 (V 40)), .k (.int .i64 (V 41))], .one (.k (.int .i64 (V 17)))]), (50, .pv (.agg [.k (.int .i64 (V 28)), .k (.int .i64 (V 29)), .k (.int .i64 (V 30)), .k (.int .i64 (V 31)), .k (.int .i64 (V 32)), .k (.int .i64 (V 33)), .k (.int .i64 (V 34)), .k (.int .i64 (V 35)), .k (.int .i64 (V 36)), .k (.int .i64 (V 37)), .k (.int .i64 (V 38)), .k (.int .i64 (V 39))])), (51, .pv (.agg [.k (.int .i64 (V 40)), .k (.int .i64 (V 41))])), (52, .pv (.one (.k (.int .i64 (V 17))))), (53, .pv (.one (.k (.int .i64 (V 17))))), (54, .pv (.one (.k (.bool (V 54))))), (55, .pv (.one (.k (.bool (V 54))))), (60, .pv (.one (.k (.bool (V 55))))), (61, .pv (.one (.k (.bool (V 55))))), (88, .pv (.one (.k (.bool (V 56))))), (89, .pv (.one (.k (.ptr 5 0)))), (90, .pv (.one (.k (.int .i64 (V 40))))), (91, .pv (.one (.k (.bool (V 57)))))], [⟨false, 0, 0, [], some ⟨false, 0, [.sl [.int .i64, .int .i64]], V 58, V 13⟩⟩, ⟨true, 24, 12, [.k (.int .i64 (V 42)), .k (.int .i64 (V 43)), .k (.int .i64 (V 44)), .k (.int .i64 (V 45)), .k (.int .i64 (V 46)), .k (.int .i64 (V 47)), .k (.int .i64 (V 48)), .k (.int .i64 (V 49)), .k (.int .i64 (V 50)), .k (.int .i64 (V 51)), .k (.int .i64 (V 52)), .k (.int .i64 (V 53))], none⟩, ⟨false, 0, 0, [], some ⟨false, 0, [.int .i64, .int .i64], V 59, V 25⟩⟩, ⟨false, 0, 0, [], some ⟨false, 0, [.int .i64, .int .i64], V 59, V 25⟩⟩, ⟨true, 24, 12, [.k (.int .i64 (V 28)), .k (.int .i64 (V 29)), .k (.int .i64 (V 30)), .k (.int .i64 (V 31)), .k (.int .i64 (V 32)), .k (.int .i64 (V 33)), .k (.int .i64 (V 34)), .k (.int .i64 (V 35)), .k (.int .i64 (V 36)), .k (.int .i64 (V 37)), .k (.int .i64 (V 38)), .k (.int .i64 (V 39))], none⟩, ⟨true, 32, 2, [.k (.int .i64 (V 40)), .k (.int .i64 (V 41))], none⟩, ⟨false, 0, 0, [], some ⟨false, 0, [.int .i64, .int .i64], V 60, V 61⟩⟩], V 63⟩)], [true, true, true, true, true, true, true, true, true, true, true, true, true, true, true, true, true, true, false, true, true, true, true, true, true, true, true, true, true, true, true, true, true, true, true, true, true, true, true, true, true, true, true, true, true, true, true, true, true, true, true, true, true, true, true, true, true, true, true, true, true, true], [.b, .b]⟩
def g_L2000 : G := ⟨86, [⟨85, .and, [V 62, V 83]⟩, ⟨84, .and, [V 62, V 80]⟩, ⟨83, .and, [V 82, V 79]⟩, ⟨82, .not, [V 80]⟩, ⟨81, (.ar .add .i64), [V 18, N 1]⟩, ⟨80, .and, [V 76, V 78]⟩, ⟨79, .and, [V 75, V 77]⟩, ⟨78, .and, [V 62, V 76]⟩, ⟨77, .and, [V 62, V 75]⟩, ⟨76, .not, [V 75]⟩, ⟨75, (.cmp .eql), [V 74, N 1]⟩, ⟨74, (.pix 0 2), [V 68, V 18]⟩, ⟨73, .imp, [V 62, V 72]⟩, ⟨72, .and, [V 70, V 71]⟩, ⟨71, (.cmp .lss), [V 18, V 69]⟩, ⟨70, (.cmp .leq), [N 0, V 18]⟩, ⟨69, (.lln 2), [V 68]⟩, ⟨68, (.pix 0 1), [V 58, V 16]⟩, ⟨67, .imp, [V 62, V 66]⟩, ⟨66, .and, [V 64, V 65]⟩, ⟨65, (.cmp .lss), [V 16, V 13]⟩, ⟨64, (.cmp .leq), [N 0, V 16]⟩, ⟨63, .not, [V 62]⟩, ⟨62, (.cmp .lss), [V 18, V 41]⟩], [V 73, V 67], []⟩
def m_2000 (al : List A) : Nat := ((gi al 41) - (gi al 18)).toNat
theorem lpureQ_2000 (e : Nat → A) (H : FactsQ T e g_L2000.defs) (hp : (Day.inR (e 16).int (((Day.Ts.mk (e 58) (e 13).int)).n - 1) && (Day.inR (e 18).int (e 41).int && (Day.leB (e 41).int (((Day.Ts.mk (e 58) (e 13).int)).at (e 16).int).n && (Day.leB (e 41).int 8 && Day.allF (Day.notCs (((Day.Ts.mk (e 58) (e 13).int)).at (e 16).int)) (e 18).int (e 41).int)))) = true) :
  ((e 73).bool = true ∧ (e 67).bool = true) ∧ ((e 84).bool = true → (Day.inR (e 16).int (((Day.Ts.mk (e 58) (e 13).int)).n - 1) && (Day.inR (e 81).int (e 41).int && (Day.leB (e 41).int (((Day.Ts.mk (e 58) (e 13).int)).at (e 16).int).n && (Day.leB (e 41).int 8 && Day.allF (Day.notCs (((Day.Ts.mk (e 58) (e 13).int)).at (e 16).int)) (e 81).int (e 41).int)))) = true ∧ (false = false ∧ true = true) ∧ ((e 41).int - (e 81).int).toNat < ((e 41).int - (e 18).int).toNat) ∧ ((e 85).bool = true → true = false) ∧ ((e 63).bool = true → true = true) := by
 simp only [g_L2000, FactsQ, Def.q, updQ, L.ev_var, L.ev_n, L.ev_t, L.ev_e, L.ev, A.int_i, A.bool_b, A.str_v, A.els_l, List.map_cons, List.map_nil, Nat.zero_add, Nat.add_zero, and_true, true_and, Nat.reduceAdd, Nat.one_mul] at H
 simp only [arI, dvI, btI, cmpI, shI, ifQ, updV, ltQ, and_true, true_and] at H
 obtain ⟨q85, q84, q83, q82, ⟨q81, -⟩, q80, q79, q78, q77, q76, q75, q74, q73, q72, q71, q70, q69, q68, q67, q66, q65, q64, q63, q62⟩ := H
 generalize (e 0).int = x0, (e 1).int = x1, (e 2).int = x2, (e 3).int = x3, (e 4).int = x4, (e 5).int = x5, (e 6).int = x6, (e 7).int = x7, (e 8).int = x8, (e 9).int = x9, (e 10).int = x10, (e 11).int = x11, (e 12).int = x12, (e 13).int = x13, (e 14).int = x14, (e 15).int = x15, (e 16).int = x16, (e 17).int = x17, (e 18).int = x18, (e 19).int = x19, (e 20).int = x20, (e 21).int = x21, (e 22).int = x22, (e 23).int = x23, (e 24).int = x24, (e 25).int = x25, (e 26).int = x26, (e 27).int = x27, (e 28).int = x28, (e 29).int = x29, (e 30).int = x30, (e 31).int = x31, (e 32).int = x32, (e 33).int = x33, (e 34).int = x34, (e 35).int = x35, (e 36).int = x36, (e 37).int = x37, (e 38).int = x38, (e 39).int = x39, (e 40).int = x40, (e 41).int = x41, (e 42).int = x42, (e 43).int = x43, (e 44).int = x44, (e 45).int = x45, (e 46).int = x46, (e 47).int = x47, (e 48).int = x48, (e 49).int = x49, (e 50).int = x50, (e 51).int = x51, (e 52).int = x52, (e 53).int = x53, (e 54).int = x54, (e 55).int = x55, (e 56).int = x56, (e 57).int = x57, e 58 = x58, (e 59).int = x59, (e 60).int = x60, (e 61).int = x61, (e 62).bool = v62, (e 63).bool = v63, (e 64).bool = v64, (e 65).bool = v65, (e 66).bool = v66, (e 67).bool = v67, (e 69).int = v69, (e 70).bool = v70, (e 71).bool = v71, (e 72).bool = v72, (e 73).bool = v73, (e 75).bool = v75, (e 76).bool = v76, (e 77).bool = v77, (e 78).bool = v78, (e 79).bool = v79, (e 80).bool = v80, (e 81).int = v81, (e 82).bool = v82, (e 83).bool = v83, (e 84).bool = v84, (e 85).bool = v85, e 68 = v68 at *
 replace q74 := congrArg A.int q74
 generalize (e 74).int = v74 at *
 generalize hT : Day.Ts.mk x58 x13 = T at *
 have hn : x13 = T.n := by rw [← hT]
 have hat : v69 = (T.at x16).n := by rw [q69, q68, ← hT]; rfl
 have hk : v74 = (T.at x16).k x18 := by rw [q74, q68, ← hT]; rfl
 clear hT q68 q69 q74
 simp only [Bool.and_eq_true, Day.inR_iff, Day.leB_iff] at hp ⊢
 obtain ⟨h1, h2, h3, h4, h5⟩ := hp
 by_cases hlt : x18 < x41
 ·have st := Day.allF_step (f := Day.notCs (T.at x16)) hlt
  rw [h5] at st
  have w : IntKind.wrap .i64 (x18 + 1) = x18 + 1 := wrap64 (by omega) (by omega)
  have st2 := (Bool.and_eq_true _ _ ▸ st.symm : Day.notCs (T.at x16) x18 = true ∧ Day.allF (Day.notCs (T.at x16)) (x18 + 1) x41 = true)
  have e75 : v75 = false := by
   have := st2.1
   rw [q75, hk]
   simpa [Day.notCs, Day.isCs] using this
  have e85 : v85 = false := by rw [q85, q83, q79, e75]; simp
  have e62 : v62 = true := by rw [q62]; simp [hlt]
  refine ⟨⟨?_, ?_⟩, fun _ => ⟨⟨h1, ?_, h3, h4, ?_⟩, by simp, ?_⟩, fun h => ?_, fun _ => trivial⟩
  ·rw [q73, q72, q71, q70, hat]; simp; omega
  ·rw [q67, q66, q65, q64, hn]; simp; omega
  ·rw [q81, w]; omega
  ·rw [q81, w]; exact st2.2
  ·rw [q81, w]; omega
  ·rw [e85] at h; cases h
 ·have e62 : v62 = false := by rw [q62]; simp [hlt]
  refine ⟨⟨?_, ?_⟩, fun h => ?_, fun h => ?_, fun _ => trivial⟩
  ·rw [q73, e62]; rfl
  ·rw [q67, e62]; rfl
  ·rw [q84, e62] at h; simp at h
  ·rw [q85, e62] at h; simp at h
theorem lpure_2000 (as : List A) (e : Nat → A) (h1 : as = (List.range 62).map e) (h2 : (t_2000 as).1 = true) (H : FactsQ T e g_L2000.defs) : ObsAll e g_L2000.obs ∧
   (∀ pc ls, some (V 84, [V 0, V 1, V 2, V 3, V 4, V 5, V 6, V 7, V 8, V 9, V 10, V 11, V 12, V 13, V 14, V 15, V 16, V 17, V 81, V 19, V 20, V 21, V 22, V 23, V 24, V 25, V 26, V 27, V 28, V 29, V 30, V 31, V 32, V 33, V 34, V 35, V 36, V 37, V 38, V 39, V 40, V 41, V 42, V 43, V 44, V 45, V 46, V 47, V 48, V 49, V 50, V 51, V 52, V 53, V 54, V 55, V 56, V 57, V 58, V 59, V 60, V 61]) = some (pc, ls) → (pc.ev e).bool = true → (t_2000 (ls.map (L.ev e))).1 = true ∧ (t_2000 (ls.map (L.ev e))).2 = (t_2000 as).2 ∧ m_2000 (ls.map (L.ev e)) < m_2000 as) ∧
   ∀ x ∈ ([(V 85, [some (B true), none]), (V 63, [none, some (B true)])] : List (L × List (Option L))), (x.1.ev e).bool = true → ∀ (j : Nat) l, x.2[j]? = some (some l) → Teq (lp_2000.tags.getD j .any) (l.ev e) ((t_2000 as).2.getD j (.i 0)) := by
 subst h1
 obtain ⟨ho, h⟩ := lpureQ_2000 e H h2
 refine ⟨⟨ho.1, ho.2, trivial⟩, fun pc ls hb hpc => ?_, ?_⟩
 ·injection hb with hb
  injection hb with h3 h4
  subst h3 h4
  have h := h.1 hpc
  refine ⟨h.1, ?_, h.2.2⟩
  have h5 := h.2.1
  obtain ⟨z0, z1⟩ := h5
  exact (consB z0 (consB z1 rfl))
 ·intro x hx hpc j l hj
  simp only [List.mem_cons, List.not_mem_nil, or_false] at hx
  rcases hx with rfl | rfl
  ·have h := h.2.1 hpc
   have z0 := h
   match j, hj with
   | 0, hj => cases hj; exact z0
   | 1, hj => cases hj
   | _ + 2, hj => cases hj
  ·have h := h.2.2 hpc
   have z1 := h
   match j, hj with
   | 0, hj => cases hj
   | 1, hj => cases hj; exact z1
   | _ + 2, hj => cases hj
def lp_2001 : Lp := ⟨3, [false, true, false, true, true, true, true], 2001, 35, 27, 2, ⟨frS 120 [(0, .pv (.one (.k (.int .u8 (V 0))))), (1, .pv (.agg [.k (.int .i64 (V 1)), .k (.int .i64 (V 2)), .k (.int .i64 (V 3)), .k (.int .i64 (V 4)), .k (.int .i64 (V 5)), .k (.int .i64 (V 6)), .k (.int .i64 (V 7)), .k (.int .i64 (V 8)), .k (.int .i64 (V 9)), .k (.int .i64 (V 10)), .k (.int .i64 (V 11)), .k (.int .i64 (V 12))])), (2, .pv (.one (.k (.fsl 0 (V 13))))), (4, .pv (.one (.k (.ptr 1 0)))), (6, .pv (.one (.k (.bool (B false))))), (7, .pv (.one (.k (.int .i64 (V 14))))), (8, .pv (.one (.k (.int .i64 (V 15))))), (9, .pv (.one (.k (.int .i64 (V 16))))), (14, .pv (.one (.k (.int .u8 (V 0))))), (15, .pv (.one (.k (.int .u8 (V 17))))), (16, .pv (.one (.k (.int .i64 (V 18))))), (17, .pv (.one (.k (.int .i64 (V 14))))), (18, .pv (.one (.k (.fsl 0 (V 13))))), (19, .pv (.one (.k (.bool (V 19))))), (20, .pv (.one (.k (.bool (V 20))))), (21, .pv (.one (.k (.bool (V 20))))), (26, .pv (.one (.k (.bool (V 21)))))], [⟨false, 0, 0, [], some ⟨false, 0, [.sl [.int .i64, .int .i64]], V 22, V 13⟩⟩, ⟨true, 24, 12, [.k (.int .i64 (V 23)), .k (.int .i64 (V 24)), .k (.int .i64 (V 25)), .k (.int .i64 (V 26)), .k (.int .i64 (V 27)), .k (.int .i64 (V 28)), .k (.int .i64 (V 29)), .k (.int .i64 (V 30)), .k (.int .i64 (V 31)), .k (.int .i64 (V 32)), .k (.int .i64 (V 33)), .k (.int .i64 (V 34))], none⟩], B true⟩, [(.ret, ⟨frS 120 [(0, .pv (.one (.k (.int .u8 (V 0))))), (1, .pv (.agg [.k (.int .i64 (V 1)), .k (.int .i64 (V 2)), .k (.int .i64 (V 3)), .k (.int .i64 (V 4)), .k (.int .i64 (V 5)), .k (.int .i64 (V 6)), .k (.int .i64 (V 7)), .k (.int .i64 (V 8)), .k (.int .i64 (V 9)), .k (.int .i64 (V 10)), .k (.int .i64 (V 11)), .k (.int .i64 (V 12))])), (2, .pv (.one (.k (.fsl 0 (V 13))))), (4, .pv (.one (.k (.ptr 1 0)))), (6, .pv (.one (.k (.bool (V 35))))), (7, .pv (.one (.k (.int .i64 (V 14))))), (14, .pv (.one (.k (.int .u8 (V 0))))), (15, .pv (.one (.k (.int .u8 (V 17))))), (16, .pv (.one (.k (.int .i64 (V 18))))), (17, .pv (.one (.k (.int .i64 (V 14))))), (18, .pv (.one (.k (.fsl 0 (V 13))))), (19, .pv (.one (.k (.bool (V 19))))), (20, .pv (.one (.k (.bool (V 20))))), (21, .pv (.one (.k (.bool (V 20))))), (26, .pv (.one (.k (.bool (V 21)))))], [⟨false, 0, 0, [], some ⟨false, 0, [.sl [.int .i64, .int .i64]], V 22, V 13⟩⟩, ⟨true, 24, 12, [.k (.int .i64 (V 36)), .k (.int .i64 (V 37)), .k (.int .i64 (V 38)), .k (.int .i64 (V 39)), .k (.int .i64 (V 40)), .k (.int .i64 (V 41)), .k (.int .i64 (V 42)), .k (.int .i64 (V 43)), .k (.int .i64 (V 44)), .k (.int .i64 (V 45)), .k (.int .i64 (V 46)), .k (.int .i64 (V 47))], none⟩], V 48⟩), (.exit 0, ⟨frS 120 [(0, .pv (.one (.k (.int .u8 (V 0))))), (1, .pv (.agg [.k (.int .i64 (V 1)), .k (.int .i64 (V 2)), .k (.int .i64 (V 3)), .k (.int .i64 (V 4)), .k (.int .i64 (V 5)), .k (.int .i64 (V 6)), .k (.int .i64 (V 7)), .k (.int .i64 (V 8)), .k (.int .i64 (V 9)), .k (.int .i64 (V 10)), .k (.int .i64 (V 11)), .k (.int .i64 (V 12))])), (2, .pv (.one (.k (.fsl 0 (V 13))))), (4, .pv (.one (.k (.ptr 1 0)))), (6, .pv (.one (.k (.bool (B false))))), (7, .pv (.one (.k (.int .i64 (V 14))))), (14, .pv (.one (.k (.int .u8 (V 0))))), (15, .pv (.one (.k (.int .u8 (V 17))))), (16, .pv (.one (.k (.int .i64 (V 18))))), (17, .pv (.one (.k (.int .i64 (V 14))))), (18, .pv (.one (.k (.fsl 0 (V 13))))), (19, .pv (.one (.k (.bool (V 19))))), (20, .pv (.one (.k (.bool (V 20))))), (21, .pv (.one (.k (.bool (V 20))))), (26, .pv (.one (.k (.bool (V 21)))))], [⟨false, 0, 0, [], some ⟨false, 0, [.sl [.int .i64, .int .i64]], V 22, V 13⟩⟩, ⟨true, 24, 12, [.k (.int .i64 (V 49)), .k (.int .i64 (V 50)), .k (.int .i64 (V 51)), .k (.int .i64 (V 52)), .k (.int .i64 (V 53)), .k (.int .i64 (V 54)), .k (.int .i64 (V 55)), .k (.int .i64 (V 56)), .k (.int .i64 (V 57)), .k (.int .i64 (V 58)), .k (.int .i64 (V 59)), .k (.int .i64 (V 60))], none⟩], V 61⟩)], [true, true, true, true, true, true, true, true, true, true, true, true, true, true, true, false, false, true, true, true, true, true, true, false, false, false, false, false, false, false, false, false, false, false, false], [.b, .i, .i, .i, .i, .i, .i, .i, .i, .i, .i, .i, .i, .b, .i, .i, .i, .i, .i, .i, .i, .i, .i, .i, .i, .i, .b]⟩
def g_L2001 : G := ⟨175, [⟨174, .and, [V 171, V 36]⟩, ⟨173, .and, [V 35, V 170]⟩, ⟨172, .and, [V 35, V 165]⟩, ⟨171, .not, [V 35]⟩, ⟨170, .and, [V 169, V 167]⟩, ⟨169, .not, [V 165]⟩, ⟨168, (.ar .add .i64), [V 16, N 1]⟩, ⟨167, .iteB, [V 53, V 163, V 52]⟩, ⟨166, .iteB, [V 53, B false, V 50]⟩, ⟨165, .and, [V 53, V 162]⟩, ⟨164, .not, [V 53]⟩, ⟨163, .iteB, [V 126, V 160, V 125]⟩, ⟨162, .and, [V 126, V 157]⟩, ⟨161, .not, [V 126]⟩, ⟨160, .and, [V 159, V 158]⟩, ⟨159, .not, [V 157]⟩, ⟨158, .and, [V 127, V 155]⟩, ⟨157, .iteB, [V 127, V 154, V 130]⟩, ⟨156, .iteI, [V 127, V 16, V 15]⟩, ⟨155, .iteB, [V 139, V 152, V 138]⟩, ⟨154, .and, [V 139, V 150]⟩, ⟨153, .not, [V 139]⟩, ⟨152, .and, [V 151, V 149]⟩, ⟨151, .not, [V 150]⟩, ⟨150, .and, [V 146, V 148]⟩, ⟨149, .and, [V 145, V 147]⟩, ⟨148, .and, [V 139, V 146]⟩, ⟨147, .and, [V 139, V 145]⟩, ⟨146, .not, [V 145]⟩, ⟨145, .iteB, [V 140, V 144, B false]⟩, ⟨144, (.cmp .leq), [V 142, V 143]⟩, ⟨143, (.ar .mul .i64), [N 2, V 14]⟩, ⟨142, (.ar .sub .i64), [V 16, V 15]⟩, ⟨141, .and, [V 139, V 140]⟩, ⟨140, (.cmp .geq), [V 15, N 0]⟩, ⟨139, .and, [V 129, V 133]⟩, ⟨138, .and, [V 129, V 132]⟩, ⟨137, .imp, [V 129, V 136]⟩, ⟨136, .not, [V 135]⟩, ⟨135, .and, [V 132, V 133]⟩, ⟨134, .imp, [V 129, V 131]⟩, ⟨131, (.call 2000), [V 0, V 1, V 2, V 3, V 4, V 5, V 6, V 7, V 8, V 9, V 10, V 11, V 12, V 13, V 14, V 15, V 16, V 70, N 0, V 17, V 18, V 19, V 20, V 21, V 35, V 41, V 43, V 45, V 56, V 57, V 58, V 59, V 60, V 61, V 62, V 63, V 64, V 65, V 66, V 67, V 68, V 69, V 23, V 24, V 25, V 26, V 27, V 28, V 29, V 30, V 31, V 32, V 33, V 34, V 72, V 79, V 121, V 127, V 22, V 40, V 107, V 108]⟩, ⟨130, .and, [V 126, V 128]⟩, ⟨129, .and, [V 126, V 127]⟩, ⟨128, .not, [V 127]⟩, ⟨127, (.cmp .eql), [V 68, N 1]⟩, ⟨126, .and, [V 122, V 124]⟩, ⟨125, .and, [V 121, V 123]⟩, ⟨124, .and, [V 53, V 122]⟩, ⟨123, .and, [V 53, V 121]⟩, ⟨122, .not, [V 121]⟩, ⟨121, .iteB, [V 79, B true, V 120]⟩, ⟨120, .iteB, [V 85, V 119, B false]⟩, ⟨119, .iteB, [V 94, B true, V 118]⟩, ⟨118, .not, [V 117]⟩, ⟨117, .and, [V 116, V 115]⟩, ⟨116, (.cmp .eql), [V 113, V 68]⟩, ⟨115, (.cmp .eql), [V 114, V 69]⟩, ⟨114, (.pix 1 2), [V 107, V 69]⟩, ⟨113, (.pix 0 2), [V 107, V 69]⟩, ⟨112, .imp, [V 98, V 111]⟩, ⟨111, .and, [V 109, V 110]⟩, ⟨110, (.cmp .lss), [V 69, V 108]⟩, ⟨109, (.cmp .leq), [N 0, V 69]⟩, ⟨108, .iteI, [V 106, V 104, N 0]⟩, ⟨107, .iteA, [V 106, V 103, .e]⟩, ⟨106, .and, [V 105, V 80]⟩, ⟨105, .and, [V 95, V 85]⟩, ⟨104, (.lln 2), [V 103]⟩, ⟨103, (.pix 0 1), [V 22, V 16]⟩, ⟨102, .imp, [V 98, V 101]⟩, ⟨101, .and, [V 99, V 100]⟩, ⟨100, (.cmp .lss), [V 16, V 13]⟩, ⟨99, (.cmp .leq), [N 0, V 16]⟩, ⟨98, .and, [V 97, V 80]⟩, ⟨97, .and, [V 96, V 85]⟩, ⟨96, .and, [V 53, V 95]⟩, ⟨95, .not, [V 94]⟩, ⟨94, .iteB, [V 88, B true, V 93]⟩, ⟨93, (.cmp .geq), [V 69, V 14]⟩, ⟨92, .and, [V 91, V 80]⟩, ⟨91, .and, [V 90, V 85]⟩, ⟨90, .and, [V 53, V 89]⟩, ⟨89, .not, [V 88]⟩, ⟨88, (.cmp .lss), [V 69, N 0]⟩, ⟨87, .and, [V 86, V 80]⟩, ⟨86, .and, [V 53, V 85]⟩, ⟨85, .not, [V 84]⟩, ⟨84, .and, [V 83, V 82]⟩, ⟨83, (.cmp .eql), [V 68, N 0]⟩, ⟨82, (.cmp .eql), [V 69, N 0]⟩, ⟨81, .and, [V 53, V 80]⟩, ⟨80, .not, [V 79]⟩, ⟨79, .iteB, [V 72, B true, V 78]⟩, ⟨78, .not, [V 76]⟩, ⟨77, .imp, [V 74, V 75]⟩, ⟨75, (.call 8), [V 14, V 56, V 57, V 58, V 59, V 60, V 61, V 62, V 63, V 64, V 65, V 66, V 67]⟩, ⟨74, .and, [V 53, V 73]⟩, ⟨73, .not, [V 72]⟩, ⟨72, (.cmp .neq), [V 70, N 0]⟩, ⟨71, .imp, [V 53, V 55]⟩, ⟨55, (.call 11), [V 14, V 23, V 24, V 25, V 26, V 27, V 28, V 29, V 30, V 31, V 32, V 33, V 34, V 40, V 41]⟩, ⟨54, .imp, [V 53, V 38]⟩, ⟨53, .and, [V 46, V 48]⟩, ⟨52, .and, [V 45, V 47]⟩, ⟨51, .imp, [V 47, V 49]⟩, ⟨49, (.call 9), []⟩, ⟨48, .and, [V 35, V 46]⟩, ⟨47, .and, [V 35, V 45]⟩, ⟨46, .not, [V 45]⟩, ⟨45, .not, [V 43]⟩, ⟨44, .imp, [V 35, V 42]⟩, ⟨42, (.call 10), [V 14, V 40, V 41]⟩, ⟨41, (.lln 2), [V 40]⟩, ⟨40, (.pix 0 1), [V 22, V 16]⟩, ⟨39, .imp, [V 35, V 38]⟩, ⟨38, .and, [V 37, V 35]⟩, ⟨37, (.cmp .leq), [N 0, V 16]⟩, ⟨36, .not, [V 35]⟩, ⟨35, (.cmp .lss), [V 16, V 13]⟩], [V 137, V 134, V 112, V 102, V 77, V 71, V 54, V 51, V 44, V 39], []⟩
def m_2001 (al : List A) : Nat := (((Day.Ts.mk (ge al 22) (gi al 13))).n - (gi al 16)).toNat
theorem lpureQ_2001 (e : Nat → A) (H : FactsQ T e g_L2001.defs) : ∀ z0, z0 = (Day.HB.mk [(e 23).int, (e 24).int, (e 25).int, (e 26).int, (e 27).int, (e 28).int, (e 29).int, (e 30).int] (e 31).int (e 32).int (e 33).int (e 34).int) → ∀ r1, r1 = (Day.apartGo (e 14).int (Day.Ts.mk (e 22) (e 13).int) (e 16).int z0).1 → ∀ y0, y0 = (Day.HB.mk [(e 56).int, (e 57).int, (e 58).int, (e 59).int, (e 60).int, (e 61).int, (e 62).int, (e 63).int] (e 64).int (e 65).int (e 66).int (e 67).int) → ∀ s1, s1 = (Day.apartGo (e 14).int (Day.Ts.mk (e 22) (e 13).int) (e 168).int y0).1 → (Day.apartI (e 14).int (e 15).int (Day.Ts.mk (e 22) (e 13).int) (e 16).int z0) = true →
  ((e 137).bool = true ∧ (e 134).bool = true ∧ (e 112).bool = true ∧ (e 102).bool = true ∧ (e 77).bool = true ∧ (e 71).bool = true ∧ (e 54).bool = true ∧ (e 51).bool = true ∧ (e 44).bool = true ∧ (e 39).bool = true) ∧ ((e 172).bool = true → (Day.apartI (e 14).int (e 156).int (Day.Ts.mk (e 22) (e 13).int) (e 168).int y0) = true ∧ (true = true ∧ ((s1)).a 0 = ((r1)).a 0 ∧ ((s1)).a 1 = ((r1)).a 1 ∧ ((s1)).a 2 = ((r1)).a 2 ∧ ((s1)).a 3 = ((r1)).a 3 ∧ ((s1)).a 4 = ((r1)).a 4 ∧ ((s1)).a 5 = ((r1)).a 5 ∧ ((s1)).a 6 = ((r1)).a 6 ∧ ((s1)).a 7 = ((r1)).a 7 ∧ ((s1)).port = ((r1)).port ∧ ((s1)).age = ((r1)).age ∧ ((s1)).hold = ((r1)).hold ∧ ((s1)).pos = ((r1)).pos ∧ (Day.apartGo (e 14).int (Day.Ts.mk (e 22) (e 13).int) (e 168).int y0).2 = (Day.apartGo (e 14).int (Day.Ts.mk (e 22) (e 13).int) (e 16).int z0).2 ∧ ((s1)).a 0 = ((r1)).a 0 ∧ ((s1)).a 1 = ((r1)).a 1 ∧ ((s1)).a 2 = ((r1)).a 2 ∧ ((s1)).a 3 = ((r1)).a 3 ∧ ((s1)).a 4 = ((r1)).a 4 ∧ ((s1)).a 5 = ((r1)).a 5 ∧ ((s1)).a 6 = ((r1)).a 6 ∧ ((s1)).a 7 = ((r1)).a 7 ∧ ((s1)).port = ((r1)).port ∧ ((s1)).age = ((r1)).age ∧ ((s1)).hold = ((r1)).hold ∧ ((s1)).pos = ((r1)).pos ∧ (!(Day.apartGo (e 14).int (Day.Ts.mk (e 22) (e 13).int) (e 168).int y0).2) = (!(Day.apartGo (e 14).int (Day.Ts.mk (e 22) (e 13).int) (e 16).int z0).2)) ∧ (((Day.Ts.mk (e 22) (e 13).int)).n - (e 168).int).toNat < (((Day.Ts.mk (e 22) (e 13).int)).n - (e 16).int).toNat) ∧ ((e 173).bool = true → (e 166).bool = true ∧ (e 23).int = ((r1)).a 0 ∧ (e 24).int = ((r1)).a 1 ∧ (e 25).int = ((r1)).a 2 ∧ (e 26).int = ((r1)).a 3 ∧ (e 27).int = ((r1)).a 4 ∧ (e 28).int = ((r1)).a 5 ∧ (e 29).int = ((r1)).a 6 ∧ (e 30).int = ((r1)).a 7 ∧ (e 31).int = ((r1)).port ∧ (e 32).int = ((r1)).age ∧ (e 33).int = ((r1)).hold ∧ (e 34).int = ((r1)).pos ∧ true = (Day.apartGo (e 14).int (Day.Ts.mk (e 22) (e 13).int) (e 16).int z0).2) ∧ ((e 174).bool = true → (e 23).int = ((r1)).a 0 ∧ (e 24).int = ((r1)).a 1 ∧ (e 25).int = ((r1)).a 2 ∧ (e 26).int = ((r1)).a 3 ∧ (e 27).int = ((r1)).a 4 ∧ (e 28).int = ((r1)).a 5 ∧ (e 29).int = ((r1)).a 6 ∧ (e 30).int = ((r1)).a 7 ∧ (e 31).int = ((r1)).port ∧ (e 32).int = ((r1)).age ∧ (e 33).int = ((r1)).hold ∧ (e 34).int = ((r1)).pos ∧ true = (!(Day.apartGo (e 14).int (Day.Ts.mk (e 22) (e 13).int) (e 16).int z0).2)) := by
 intro z0 hz0 r1 hr1 y0 hy0 s1 hs1 hp
 subst hz0 hr1 hy0 hs1
 simp only [g_L2001, FactsQ, Def.q, updQ, L.ev_var, L.ev_n, L.ev_t, L.ev_e, L.ev, A.int_i, A.bool_b, A.str_v, A.els_l, List.map_cons, List.map_nil, Nat.zero_add, Nat.add_zero, and_true, true_and, Nat.reduceAdd, Nat.one_mul] at H
 simp only [arI, dvI, btI, cmpI, shI, ifQ, updV, ltQ, and_true, true_and] at H
 obtain ⟨q174, q173, q172, q171, q170, q169, ⟨q168, -⟩, q167, q166, q165, q164, q163, q162, q161, q160, q159, q158, q157, ⟨q156, -⟩, q155, q154, q153, q152, q151, q150, q149, q148, q147, q146, q145, q144, ⟨q143, -⟩, ⟨q142, -⟩, q141, q140, q139, q138, q137, q136, q135, q134, q131, q130, q129, q128, q127, q126, q125, q124, q123, q122, q121, q120, q119, q118, q117, q116, q115, q114, q113, q112, q111, q110, q109, ⟨q108, -⟩, q107, q106, q105, q104, q103, q102, q101, q100, q99, q98, q97, q96, q95, q94, q93, q92, q91, q90, q89, q88, q87, q86, q85, q84, q83, q82, q81, q80, q79, q78, q77, q75, q74, q73, q72, q71, q55, q54, q53, q52, q51, q49, q48, q47, q46, q45, q44, q42, q41, q40, q39, q38, q37, q36, q35⟩ := H
 replace q131 := out_L2000 q131
 obtain ⟨q131, q132, q133⟩ := q131
 replace q75 := out_ref11_Right q75 _ rfl
 obtain ⟨q75, q76⟩ := q75
 replace q55 := out_hub_Step q55 _ rfl _ rfl
 obtain ⟨q55, q56, q57, q58, q59, q60, q61, q62, q63, q64, q65, q66, q67, q68, q69, q70⟩ := q55
 replace q49 := out_law13_awake q49
 obtain ⟨q49, q50⟩ := q49
 replace q42 := out_ref12_Fits q42
 obtain ⟨q42, q43⟩ := q42
 simp only [L.ev_var, L.ev_n, L.ev_t, L.ev_e, L.ev, A.int_i, A.bool_b, A.str_v] at q131 q132 q133 q75 q76 q55 q56 q57 q58 q59 q60 q61 q62 q63 q64 q65 q66 q67 q68 q69 q70 q49 q50 q42 q43
 generalize (e 0).int = x0, (e 1).int = x1, (e 2).int = x2, (e 3).int = x3, (e 4).int = x4, (e 5).int = x5, (e 6).int = x6, (e 7).int = x7, (e 8).int = x8, (e 9).int = x9, (e 10).int = x10, (e 11).int = x11, (e 12).int = x12, (e 13).int = x13, (e 14).int = x14, (e 15).int = x15, (e 16).int = x16, (e 17).int = x17, (e 18).int = x18, (e 19).int = x19, (e 20).int = x20, (e 21).int = x21, e 22 = x22, (e 23).int = x23, (e 24).int = x24, (e 25).int = x25, (e 26).int = x26, (e 27).int = x27, (e 28).int = x28, (e 29).int = x29, (e 30).int = x30, (e 31).int = x31, (e 32).int = x32, (e 33).int = x33, (e 34).int = x34, (e 35).bool = v35, (e 36).bool = v36, (e 37).bool = v37, (e 38).bool = v38, (e 39).bool = v39, (e 41).int = v41, (e 42).bool = v42, (e 43).bool = v43, (e 44).bool = v44, (e 45).bool = v45, (e 46).bool = v46, (e 47).bool = v47, (e 48).bool = v48, (e 49).bool = v49, (e 50).bool = v50, (e 51).bool = v51, (e 52).bool = v52, (e 53).bool = v53, (e 54).bool = v54, (e 55).bool = v55, (e 56).int = v56, (e 57).int = v57, (e 58).int = v58, (e 59).int = v59, (e 60).int = v60, (e 61).int = v61, (e 62).int = v62, (e 63).int = v63, (e 64).int = v64, (e 65).int = v65, (e 66).int = v66, (e 67).int = v67, (e 68).int = v68, (e 69).int = v69, (e 70).int = v70, (e 71).bool = v71, (e 72).bool = v72, (e 73).bool = v73, (e 74).bool = v74, (e 75).bool = v75, (e 76).bool = v76, (e 77).bool = v77, (e 78).bool = v78, (e 79).bool = v79, (e 80).bool = v80, (e 81).bool = v81, (e 82).bool = v82, (e 83).bool = v83, (e 84).bool = v84, (e 85).bool = v85, (e 86).bool = v86, (e 87).bool = v87, (e 88).bool = v88, (e 89).bool = v89, (e 90).bool = v90, (e 91).bool = v91, (e 92).bool = v92, (e 93).bool = v93, (e 94).bool = v94, (e 95).bool = v95, (e 96).bool = v96, (e 97).bool = v97, (e 98).bool = v98, (e 99).bool = v99, (e 100).bool = v100, (e 101).bool = v101, (e 102).bool = v102, (e 104).int = v104, (e 105).bool = v105, (e 106).bool = v106, e 107 = v107, (e 108).int = v108, (e 109).bool = v109, (e 110).bool = v110, (e 111).bool = v111, (e 112).bool = v112, (e 115).bool = v115, (e 116).bool = v116, (e 117).bool = v117, (e 118).bool = v118, (e 119).bool = v119, (e 120).bool = v120, (e 121).bool = v121, (e 122).bool = v122, (e 123).bool = v123, (e 124).bool = v124, (e 125).bool = v125, (e 126).bool = v126, (e 127).bool = v127, (e 128).bool = v128, (e 129).bool = v129, (e 130).bool = v130, (e 131).bool = v131, (e 132).bool = v132, (e 133).bool = v133, (e 134).bool = v134, (e 135).bool = v135, (e 136).bool = v136, (e 137).bool = v137, (e 138).bool = v138, (e 139).bool = v139, (e 140).bool = v140, (e 141).bool = v141, (e 142).int = v142, (e 143).int = v143, (e 144).bool = v144, (e 145).bool = v145, (e 146).bool = v146, (e 147).bool = v147, (e 148).bool = v148, (e 149).bool = v149, (e 150).bool = v150, (e 151).bool = v151, (e 152).bool = v152, (e 153).bool = v153, (e 154).bool = v154, (e 155).bool = v155, (e 156).int = v156, (e 157).bool = v157, (e 158).bool = v158, (e 159).bool = v159, (e 160).bool = v160, (e 161).bool = v161, (e 162).bool = v162, (e 163).bool = v163, (e 164).bool = v164, (e 165).bool = v165, (e 166).bool = v166, (e 167).bool = v167, (e 168).int = v168, (e 169).bool = v169, (e 170).bool = v170, (e 171).bool = v171, (e 172).bool = v172, (e 173).bool = v173, (e 174).bool = v174, e 40 = v40, e 103 = v103 at *
 replace q113 := congrArg A.int q113
 generalize (e 113).int = v113 at *
 replace q114 := congrArg A.int q114
 generalize (e 114).int = v114 at *
 generalize hH : (Day.HB.mk [x23, x24, x25, x26, x27, x28, x29, x30] x31 x32 x33 x34) = h at *
 have g0 : x23 = h.a 0 ∧ x24 = h.a 1 ∧ x25 = h.a 2 ∧ x26 = h.a 3 ∧ x27 = h.a 4 ∧ x28 = h.a 5 ∧ x29 = h.a 6 ∧ x30 = h.a 7 ∧ x31 = h.port ∧ x32 = h.age ∧ x33 = h.hold ∧ x34 = h.pos := by subst hH; simp [Day.HB.a]
 obtain ⟨a1, a2, a3, a4, a5, a6, a7, a8, a9, a10, a11, a12⟩ := g0
 clear hH
 generalize hT : Day.Ts.mk x22 x13 = T at *
 have hn : x13 = T.n := by rw [← hT]
 have hat : Day.Ls.mk v40 v41 = T.at x16 := by rw [q41, q40, ← hT]; rfl
 have hx : v103 = (T.at x16).x := by rw [q103, ← hT]; rfl
 have hxn : v104 = (T.at x16).n := by rw [q104, q103, ← hT]; rfl
 clear hT q40 q41 q103 q104
 simp only [hat] at q42 q43 q55 q56 q57 q58 q59 q60 q61 q62 q63 q64 q65 q66 q67 q68 q69 q70
 by_cases hlt : x16 < T.n
 ·obtain ⟨hok, h100, hm, hi64⟩ := Day.apart_all hp hlt
  obtain ⟨hr, hF, hir, hl1, hl2, hgap⟩ := Day.apartI_iff.1 hp
  have w : IntKind.wrap .i64 (x16 + 1) = x16 + 1 := wrap64 (by omega) (by omega)
  have e35 : v35 = true := by rw [q35]; simp; omega
  have e38 : v38 = true := by rw [q38, q37, e35]; simp; omega
  have o39 : v39 = true := by rw [q39, e38]; simp
  have o44 : v44 = true := by rw [q44, q42, hok]; simp
  have o51 : v51 = true := by rw [q51, q49]; simp
  have o54 : v54 = true := by rw [q54, e38]; simp
  have o71 : v71 = true := by rw [q71, q55, hi64, hok]; simp
  have o77 : v77 = true := by rw [q77, q75]; simp
  have e101 : v101 = true := by rw [q101, q100, q99]; simp; omega
  have o102 : v102 = true := by rw [q102, e101]; simp
  have e174 : v174 = false := by rw [q174, q171, e35]; rfl
  cases hf : Day.fitsR x14 (T.at x16) with
  | false =>
   have st := Day.apartGo_bad (h := h) hlt hf
   rw [st]
   have e53 : v53 = false := by rw [q53, q46, q45, q43, hf]; rfl
   have e165 : v165 = false := by rw [q165, e53]; rfl
   have e166 : v166 = true := by rw [q166, e53, q50]; rfl
   have o112 : v112 = true := by rw [q112, q98, q97, q96, e53]; simp
   have e129 : v129 = false := by rw [q129, q126, q124, e53]; simp
   have o134 : v134 = true := by rw [q134, e129]; rfl
   have o137 : v137 = true := by rw [q137, e129]; rfl
   refine ⟨⟨o137, o134, o112, o102, o77, o71, o54, o51, o44, o39⟩, fun h => ?_, fun _ => ?_, fun h => ?_⟩
   ·rw [q172, e165] at h; simp at h
   ·exact ⟨e166, a1, a2, a3, a4, a5, a6, a7, a8, a9, a10, a11, a12, rfl⟩
   ·rw [e174] at h; cases h
  | true =>
   obtain ⟨n1, n2, n3, n4, n5, n6⟩ := Day.apart_next hp hlt hf
   have st := Day.apartGo_step (h := h) hlt hf
   have hmk := Day.mk_HB (Day.hubH x14 h (T.at x16)) (Day.len_hub _ _ _)
   rw [← q56, ← q57, ← q58, ← q59, ← q60, ← q61, ← q62, ← q63, ← q64, ← q65, ← q66, ← q67] at hmk
   have f1 : v68 = (Day.hubF x14 h (T.at x16)).kind := q68
   have f2 : v69 = (Day.hubF x14 h (T.at x16)).id := q69
   have e70 : v70 = 0 := by rw [q70]; exact n2
   have e76 : v76 = true := by rw [q76, hmk]; exact n1
   have e79 : v79 = false := by rw [q79, q78, q72, e76, e70]; rfl
   have e53 : v53 = true := by rw [q53, q48, q46, q45, q43, hf, e35]; rfl
   have e85 : v85 = true → (0 ≤ v69 ∧ v69 < x14) ∧ (T.at x16).k v69 = v68 ∧ (T.at x16).d v69 = v69 := fun h => by
    rw [f1, f2]
    refine n4 fun h0 => ?_
    rw [q85, q84, q83, q82, f1, f2, h0] at h
    simp [Day.noFr] at h
   have e94 : v85 = true → v94 = false := fun h => by
    have := (e85 h).1
    rw [q94, q93, q88]
    simp
    omega
   have e106 : v85 = true → v106 = true := fun h => by rw [q106, q105, q95, q80, e94 h, h, e79]; rfl
   have e107 : v85 = true → Day.Ls.mk v107 v108 = T.at x16 := fun h => by
    rw [q107, q108, e106 h, hx, hxn]; rfl
   have e120 : v120 = false := by
    cases hv : v85
    ·rw [q120, hv]; rfl
    ·have hg := e85 hv
     have hk : v113 = (T.at x16).k v69 := by rw [q113, ← e107 hv]; rfl
     have hd : v114 = (T.at x16).d v69 := by rw [q114, ← e107 hv]; rfl
     rw [q120, q119, q118, q117, q116, q115, e94 hv, hk, hd, hg.2.1, hg.2.2]
     simp
   have e121 : v121 = false := by rw [q121, e79, e120]; rfl
   have e126 : v126 = true := by rw [q126, q124, q122, e53, e121]; rfl
   have o112 : v112 = true := by
    cases hv : v85
    ·rw [q112, q98, q97, hv]; simp
    ·have hg := (e85 hv).1
     have : v108 = x14 := by rw [q108, e106 hv, hxn, n3]; rfl
     rw [q112, q111, q110, q109, this]
     simp
     omega
   have e131 : v127 = true → v131 = true := fun h => by
    have hk : v68 = 1 := by rw [q127] at h; simpa using h
    have hv : v85 = true := by rw [q85, q84, q83, hk]; rfl
    have hg := (e85 hv).1
    have hnn := n5 (by rw [← f1]; exact hk)
    rw [← f2] at hnn
    rw [q131]
    simp only [Bool.and_eq_true, Day.inR_iff, Day.leB_iff]
    exact ⟨by omega, by omega, by rw [n3]; omega, by omega, hnn.1⟩
   have o134 : v134 = true := by
    cases hv : v127
    ·rw [q134, q129, hv]; simp
    ·rw [q134, e131 hv]; simp
   have o137 : v137 = true := by rw [q137, q136, q135, q132]; simp
   have e145 : v127 = true → v145 = false := fun h => by
    have hk : v68 = 1 := by rw [q127] at h; simpa using h
    have hnn := (n5 (by rw [← f1]; exact hk)).2
    have w1 : v142 = x16 - x15 := q142.trans (wrap64 (by omega) (by omega))
    have w2 : v143 = 2 * x14 := q143.trans (wrap64 (by omega) (by omega))
    by_cases h0 : 0 ≤ x15
    ·have := hnn h0
     rw [q145, q144, q140, w1, w2]
     simp
     omega
    ·rw [q145, q140]
     simp [h0]
   have e139 : v139 = v129 := by rw [q139, q133]; simp
   have e138 : v138 = false := by rw [q138, q132]; simp
   have e157 : v157 = true := by
    cases hv : v127
    ·rw [q157, hv, q130, q128, hv, e126]; rfl
    ·have h129 : v129 = true := by rw [q129, hv, e126]; rfl
     rw [q157, hv, q154, q150, q148, q146, e145 hv, e139, h129]; rfl
   have e158 : v158 = false := by
    cases hv : v127
    ·rw [q158, hv]; rfl
    ·have h129 : v129 = true := by rw [q129, hv, e126]; rfl
     rw [q158, q155, q152, q149, q147, e145 hv, e139, h129]; simp
   have e165 : v165 = true := by rw [q165, q162, e157, e126, e53]; rfl
   have e170 : v170 = false := by rw [q170, q169, e165]; rfl
   have e156 : v156 = if (Day.hubF x14 h (T.at x16)).kind = 1 then x16 else x15 := by
    rw [q156, q127, f1]
    simp
   rw [← e156, ← w] at n6
   rw [← q168, ← hmk] at n6
   rw [st, ← w, ← q168, ← hmk]
   refine ⟨⟨o137, o134, o112, o102, o77, o71, o54, o51, o44, o39⟩, fun _ => ⟨n6, ?_, by rw [q168, w]; omega⟩, fun h => ?_, fun h => ?_⟩
   ·simp only [and_self]
   ·rw [q173, e170] at h; simp at h
   ·rw [e174] at h; cases h
 ·have st := Day.apartGo_end (m := x14) (h := h) hlt
  rw [st]
  have e35 : v35 = false := by rw [q35]; simp; omega
  have e53 : v53 = false := by rw [q53, q48, e35]; simp
  have e129 : v129 = false := by rw [q129, q126, q124, e53]; simp
  refine ⟨⟨?_, ?_, ?_, ?_, ?_, ?_, ?_, ?_, ?_, ?_⟩, fun h => ?_, fun h => ?_, fun _ => ?_⟩
  ·rw [q137, e129]; rfl
  ·rw [q134, e129]; rfl
  ·rw [q112, q98, q97, q96, e53]; simp
  ·rw [q102, q98, q97, q96, e53]; simp
  ·rw [q77, q75]; simp
  ·rw [q71, e53]; rfl
  ·rw [q54, e53]; rfl
  ·rw [q51, q49]; simp
  ·rw [q44, e35]; rfl
  ·rw [q39, e35]; rfl
  ·rw [q172, e35] at h; simp at h
  ·rw [q173, e35] at h; simp at h
  ·exact ⟨a1, a2, a3, a4, a5, a6, a7, a8, a9, a10, a11, a12, rfl⟩
theorem lpure_2001 (as : List A) (e : Nat → A) (h1 : as = (List.range 35).map e) (h2 : (t_2001 as).1 = true) (H : FactsQ T e g_L2001.defs) : ObsAll e g_L2001.obs ∧
   (∀ pc ls, some (V 172, [V 0, V 1, V 2, V 3, V 4, V 5, V 6, V 7, V 8, V 9, V 10, V 11, V 12, V 13, V 14, V 156, V 168, V 17, V 18, V 19, V 20, V 21, V 22, V 56, V 57, V 58, V 59, V 60, V 61, V 62, V 63, V 64, V 65, V 66, V 67]) = some (pc, ls) → (pc.ev e).bool = true → (t_2001 (ls.map (L.ev e))).1 = true ∧ (t_2001 (ls.map (L.ev e))).2 = (t_2001 as).2 ∧ m_2001 (ls.map (L.ev e)) < m_2001 as) ∧
   ∀ x ∈ ([(V 173, [some (V 166), some (V 23), some (V 24), some (V 25), some (V 26), some (V 27), some (V 28), some (V 29), some (V 30), some (V 31), some (V 32), some (V 33), some (V 34), some (B true), none, none, none, none, none, none, none, none, none, none, none, none, none]), (V 174, [none, none, none, none, none, none, none, none, none, none, none, none, none, none, some (V 23), some (V 24), some (V 25), some (V 26), some (V 27), some (V 28), some (V 29), some (V 30), some (V 31), some (V 32), some (V 33), some (V 34), some (B true)])] : List (L × List (Option L))), (x.1.ev e).bool = true → ∀ (j : Nat) l, x.2[j]? = some (some l) → Teq (lp_2001.tags.getD j .any) (l.ev e) ((t_2001 as).2.getD j (.i 0)) := by
 subst h1
 obtain ⟨ho, h⟩ := lpureQ_2001 e H _ rfl _ rfl _ rfl _ rfl h2
 refine ⟨⟨ho.1, ho.2.1, ho.2.2.1, ho.2.2.2.1, ho.2.2.2.2.1, ho.2.2.2.2.2.1, ho.2.2.2.2.2.2.1, ho.2.2.2.2.2.2.2.1, ho.2.2.2.2.2.2.2.2.1, ho.2.2.2.2.2.2.2.2.2, trivial⟩, fun pc ls hb hpc => ?_, ?_⟩
 ·injection hb with hb
  injection hb with h3 h4
  subst h3 h4
  have h := h.1 hpc
  refine ⟨h.1, ?_, h.2.2⟩
  have h5 := h.2.1
  obtain ⟨z0, z1, z2, z3, z4, z5, z6, z7, z8, z9, z10, z11, z12, z13, z14, z15, z16, z17, z18, z19, z20, z21, z22, z23, z24, z25, z26⟩ := h5
  exact (consB z0 (consI z1 (consI z2 (consI z3 (consI z4 (consI z5 (consI z6 (consI z7 (consI z8 (consI z9 (consI z10 (consI z11 (consI z12 (consB z13 (consI z14 (consI z15 (consI z16 (consI z17 (consI z18 (consI z19 (consI z20 (consI z21 (consI z22 (consI z23 (consI z24 (consI z25 (consB z26 rfl)))))))))))))))))))))))))))
 ·intro x hx hpc j l hj
  simp only [List.mem_cons, List.not_mem_nil, or_false] at hx
  rcases hx with rfl | rfl
  ·have h := h.2.1 hpc
   obtain ⟨z0, z1, z2, z3, z4, z5, z6, z7, z8, z9, z10, z11, z12, z13⟩ := h
   match j, hj with
   | 0, hj => cases hj; exact z0
   | 1, hj => cases hj; exact z1
   | 2, hj => cases hj; exact z2
   | 3, hj => cases hj; exact z3
   | 4, hj => cases hj; exact z4
   | 5, hj => cases hj; exact z5
   | 6, hj => cases hj; exact z6
   | 7, hj => cases hj; exact z7
   | 8, hj => cases hj; exact z8
   | 9, hj => cases hj; exact z9
   | 10, hj => cases hj; exact z10
   | 11, hj => cases hj; exact z11
   | 12, hj => cases hj; exact z12
   | 13, hj => cases hj; exact z13
   | 14, hj => cases hj
   | 15, hj => cases hj
   | 16, hj => cases hj
   | 17, hj => cases hj
   | 18, hj => cases hj
   | 19, hj => cases hj
   | 20, hj => cases hj
   | 21, hj => cases hj
   | 22, hj => cases hj
   | 23, hj => cases hj
   | 24, hj => cases hj
   | 25, hj => cases hj
   | 26, hj => cases hj
   | _ + 27, hj => cases hj
  ·have h := h.2.2 hpc
   obtain ⟨z14, z15, z16, z17, z18, z19, z20, z21, z22, z23, z24, z25, z26⟩ := h
   match j, hj with
   | 0, hj => cases hj
   | 1, hj => cases hj
   | 2, hj => cases hj
   | 3, hj => cases hj
   | 4, hj => cases hj
   | 5, hj => cases hj
   | 6, hj => cases hj
   | 7, hj => cases hj
   | 8, hj => cases hj
   | 9, hj => cases hj
   | 10, hj => cases hj
   | 11, hj => cases hj
   | 12, hj => cases hj
   | 13, hj => cases hj
   | 14, hj => cases hj; exact z14
   | 15, hj => cases hj; exact z15
   | 16, hj => cases hj; exact z16
   | 17, hj => cases hj; exact z17
   | 18, hj => cases hj; exact z18
   | 19, hj => cases hj; exact z19
   | 20, hj => cases hj; exact z20
   | 21, hj => cases hj; exact z21
   | 22, hj => cases hj; exact z22
   | 23, hj => cases hj; exact z23
   | 24, hj => cases hj; exact z24
   | 25, hj => cases hj; exact z25
   | 26, hj => cases hj; exact z26
   | _ + 27, hj => cases hj
def g_law13_HubApart : G := ⟨98, [⟨97, .iteB, [V 27, V 82, V 26]⟩, ⟨96, .iteI, [V 27, V 81, V 12]⟩, ⟨95, .iteI, [V 27, V 80, V 11]⟩, ⟨94, .iteI, [V 27, V 79, V 10]⟩, ⟨93, .iteI, [V 27, V 78, V 9]⟩, ⟨92, .iteI, [V 27, V 77, V 8]⟩, ⟨91, .iteI, [V 27, V 76, V 7]⟩, ⟨90, .iteI, [V 27, V 75, V 6]⟩, ⟨89, .iteI, [V 27, V 74, V 5]⟩, ⟨88, .iteI, [V 27, V 73, V 4]⟩, ⟨87, .iteI, [V 27, V 72, V 3]⟩, ⟨86, .iteI, [V 27, V 71, V 2]⟩, ⟨85, .iteI, [V 27, V 70, V 1]⟩, ⟨84, .iteB, [V 27, V 69, V 29]⟩, ⟨83, .not, [V 27]⟩, ⟨82, .iteB, [V 64, V 64, V 63]⟩, ⟨81, .iteI, [V 64, V 57, V 44]⟩, ⟨80, .iteI, [V 64, V 56, V 43]⟩, ⟨79, .iteI, [V 64, V 55, V 42]⟩, ⟨78, .iteI, [V 64, V 54, V 41]⟩, ⟨77, .iteI, [V 64, V 53, V 40]⟩, ⟨76, .iteI, [V 64, V 52, V 39]⟩, ⟨75, .iteI, [V 64, V 51, V 38]⟩, ⟨74, .iteI, [V 64, V 50, V 37]⟩, ⟨73, .iteI, [V 64, V 49, V 36]⟩, ⟨72, .iteI, [V 64, V 48, V 35]⟩, ⟨71, .iteI, [V 64, V 47, V 34]⟩, ⟨70, .iteI, [V 64, V 46, V 33]⟩, ⟨69, .iteB, [V 64, V 66, V 32]⟩, ⟨68, .not, [V 64]⟩, ⟨67, .imp, [V 64, V 65]⟩, ⟨65, (.call 9), []⟩, ⟨64, .and, [V 27, V 58]⟩, ⟨63, .and, [V 27, V 45]⟩, ⟨62, .imp, [V 27, V 61]⟩, ⟨61, .not, [V 60]⟩, ⟨60, .and, [V 45, V 58]⟩, ⟨59, .imp, [V 27, V 31]⟩, ⟨31, (.call 2001), [V 0, V 1, V 2, V 3, V 4, V 5, V 6, V 7, V 8, V 9, V 10, V 11, V 12, V 14, V 17, N (-1), N 0, V 15, V 16, V 19, V 20, V 26, V 13, V 1, V 2, V 3, V 4, V 5, V 6, V 7, V 8, V 9, V 10, V 11, V 12]⟩, ⟨30, .imp, [V 26, V 28]⟩, ⟨28, (.call 9), []⟩, ⟨27, .not, [V 26]⟩, ⟨26, .iteB, [V 20, B true, V 25]⟩, ⟨25, .not, [V 23]⟩, ⟨24, .imp, [V 21, V 22]⟩, ⟨22, (.call 8), [V 17, V 1, V 2, V 3, V 4, V 5, V 6, V 7, V 8, V 9, V 10, V 11, V 12]⟩, ⟨21, .not, [V 20]⟩, ⟨20, .not, [V 19]⟩, ⟨18, (.call 7), [V 13, V 14, N 100]⟩, ⟨17, (.ar .add .i64), [N 3, V 16]⟩, ⟨16, (.conv .i64), [V 15]⟩, ⟨15, (.dv .rem .u8), [V 0, N 6]⟩], [V 67, V 62, V 59, V 30, V 24, V 18], []⟩
theorem pure_law13_HubApart (e : Nat → A) (H : FactsQ T e g_law13_HubApart.defs) : ∀ z0, z0 = (Day.HB.mk [(e 1).int, (e 2).int, (e 3).int, (e 4).int, (e 5).int, (e 6).int, (e 7).int, (e 8).int] (e 9).int (e 10).int (e 11).int (e 12).int) → (Day.u8 (e 0).int && Day.HB.i64 z0 && Day.Ts.ok (Day.Ts.mk (e 13) (e 14).int)) = true →
  ((e 67).bool = true ∧ (e 62).bool = true ∧ (e 59).bool = true ∧ (e 30).bool = true ∧ (e 24).bool = true ∧ (e 18).bool = true) ∧ (true = (e 84).bool) := by
 intro z0 hz0 hp
 subst hz0
 simp only [g_law13_HubApart, FactsQ, Def.q, updQ, L.ev_var, L.ev_n, L.ev_t, L.ev_e, L.ev, A.int_i, A.bool_b, A.str_v, A.els_l, List.map_cons, List.map_nil, Nat.zero_add, Nat.add_zero, and_true, true_and, Nat.reduceAdd, Nat.one_mul] at H
 simp only [arI, dvI, btI, cmpI, shI, ifQ, updV, ltQ, and_true, true_and] at H
 obtain ⟨q97, ⟨q96, -⟩, ⟨q95, -⟩, ⟨q94, -⟩, ⟨q93, -⟩, ⟨q92, -⟩, ⟨q91, -⟩, ⟨q90, -⟩, ⟨q89, -⟩, ⟨q88, -⟩, ⟨q87, -⟩, ⟨q86, -⟩, ⟨q85, -⟩, q84, q83, q82, ⟨q81, -⟩, ⟨q80, -⟩, ⟨q79, -⟩, ⟨q78, -⟩, ⟨q77, -⟩, ⟨q76, -⟩, ⟨q75, -⟩, ⟨q74, -⟩, ⟨q73, -⟩, ⟨q72, -⟩, ⟨q71, -⟩, ⟨q70, -⟩, q69, q68, q67, q65, q64, q63, q62, q61, q60, q59, q31, q30, q28, q27, q26, q25, q24, q22, q21, q20, q18, ⟨q17, -⟩, ⟨q16, -⟩, ⟨q15, -⟩⟩ := H
 replace q65 := out_law13_awake q65
 obtain ⟨q65, q66⟩ := q65
 replace q31 := out_L2001 q31 _ rfl _ rfl
 obtain ⟨q31, q32, q33, q34, q35, q36, q37, q38, q39, q40, q41, q42, q43, q44, q45, q46, q47, q48, q49, q50, q51, q52, q53, q54, q55, q56, q57, q58⟩ := q31
 replace q28 := out_law13_awake q28
 obtain ⟨q28, q29⟩ := q28
 replace q22 := out_ref11_Right q22 _ rfl
 obtain ⟨q22, q23⟩ := q22
 replace q18 := out_ref13_Few q18
 obtain ⟨q18, q19⟩ := q18
 simp only [L.ev_var, L.ev_n, L.ev_t, L.ev_e, L.ev, A.int_i, A.bool_b, A.str_v] at q65 q66 q31 q32 q33 q34 q35 q36 q37 q38 q39 q40 q41 q42 q43 q44 q45 q46 q47 q48 q49 q50 q51 q52 q53 q54 q55 q56 q57 q58 q28 q29 q22 q23 q18 q19
 generalize (e 0).int = x0, (e 1).int = x1, (e 2).int = x2, (e 3).int = x3, (e 4).int = x4, (e 5).int = x5, (e 6).int = x6, (e 7).int = x7, (e 8).int = x8, (e 9).int = x9, (e 10).int = x10, (e 11).int = x11, (e 12).int = x12, e 13 = x13, (e 14).int = x14, (e 15).int = v15, (e 16).int = v16, (e 17).int = v17, (e 18).bool = v18, (e 19).bool = v19, (e 20).bool = v20, (e 21).bool = v21, (e 22).bool = v22, (e 23).bool = v23, (e 24).bool = v24, (e 25).bool = v25, (e 26).bool = v26, (e 27).bool = v27, (e 28).bool = v28, (e 29).bool = v29, (e 30).bool = v30, (e 31).bool = v31, (e 32).bool = v32, (e 33).int = v33, (e 34).int = v34, (e 35).int = v35, (e 36).int = v36, (e 37).int = v37, (e 38).int = v38, (e 39).int = v39, (e 40).int = v40, (e 41).int = v41, (e 42).int = v42, (e 43).int = v43, (e 44).int = v44, (e 45).bool = v45, (e 46).int = v46, (e 47).int = v47, (e 48).int = v48, (e 49).int = v49, (e 50).int = v50, (e 51).int = v51, (e 52).int = v52, (e 53).int = v53, (e 54).int = v54, (e 55).int = v55, (e 56).int = v56, (e 57).int = v57, (e 58).bool = v58, (e 59).bool = v59, (e 60).bool = v60, (e 61).bool = v61, (e 62).bool = v62, (e 63).bool = v63, (e 64).bool = v64, (e 65).bool = v65, (e 66).bool = v66, (e 67).bool = v67, (e 68).bool = v68, (e 69).bool = v69, (e 70).int = v70, (e 71).int = v71, (e 72).int = v72, (e 73).int = v73, (e 74).int = v74, (e 75).int = v75, (e 76).int = v76, (e 77).int = v77, (e 78).int = v78, (e 79).int = v79, (e 80).int = v80, (e 81).int = v81, (e 82).bool = v82, (e 83).bool = v83, (e 84).bool = v84, (e 85).int = v85, (e 86).int = v86, (e 87).int = v87, (e 88).int = v88, (e 89).int = v89, (e 90).int = v90, (e 91).int = v91, (e 92).int = v92, (e 93).int = v93, (e 94).int = v94, (e 95).int = v95, (e 96).int = v96, (e 97).bool = v97 at *
 simp only [Bool.and_eq_true] at hp
 obtain ⟨⟨hx, hi⟩, hok⟩ := hp
 obtain ⟨em, hR⟩ := Day.u8m_eq hx q15 q16 q17
 clear q15 q16 q17 em
 generalize hH : (Day.HB.mk [x1, x2, x3, x4, x5, x6, x7, x8] x9 x10 x11 x12) = h at *
 have g0 : x1 = h.a 0 ∧ x2 = h.a 1 ∧ x3 = h.a 2 ∧ x4 = h.a 3 ∧ x5 = h.a 4 ∧ x6 = h.a 5 ∧ x7 = h.a 6 ∧ x8 = h.a 7 ∧ x9 = h.port ∧ x10 = h.age ∧ x11 = h.hold ∧ x12 = h.pos := by subst hH; simp [Day.HB.a]
 obtain ⟨a1, a2, a3, a4, a5, a6, a7, a8, a9, a10, a11, a12⟩ := g0
 clear hH
 generalize hT : Day.Ts.mk x13 x14 = T at *
 have hn : x14 = T.n := by rw [← hT]
 clear hT
 have hok2 : 0 ≤ T.n := by
  simp only [Day.Ts.ok, Bool.and_eq_true, decide_eq_true_eq] at hok
  exact hok.1
 cases hF : Day.fewR T 100 with
 | false =>
  rw [hF] at q19
  clear q32 q33 q34 q35 q36 q37 q38 q39 q40 q41 q42 q43 q44 q45 q46 q47 q48 q49 q50 q51 q52 q53 q54 q55 q56 q57 q58
  subst_vars
  simp [hok]
 | true =>
  rw [hF] at q19
  cases hr : Day.rightH v17 h with
  | false =>
   rw [hr] at q23
   clear q32 q33 q34 q35 q36 q37 q38 q39 q40 q41 q42 q43 q44 q45 q46 q47 q48 q49 q50 q51 q52 q53 q54 q55 q56 q57 q58
   subst_vars
   simp [hok]
  | true =>
   rw [hr] at q23
   have hI : Day.apartI v17 (-1) T 0 h = true := by
    rw [Day.apartI_iff]
    exact ⟨hr, hF, by omega, by omega, by omega, .inl (by omega)⟩
   rw [hI] at q31
   generalize Day.apartGo v17 T 0 h = X at *
   obtain ⟨X1, X2⟩ := X
   clear q33 q34 q35 q36 q37 q38 q39 q40 q41 q42 q43 q44 q46 q47 q48 q49 q50 q51 q52 q53 q54 q55 q56 q57 q70 q71 q72 q73 q74 q75 q76 q77 q78 q79 q80 q81 q85 q86 q87 q88 q89 q90 q91 q92 q93 q94 q95 q96
   subst_vars
   cases X2 <;> simp [hok]
end Rx.S
