import Derived.Test.YtjipnabidebgbaaHXc
import Derived.Test.YtjipnabidebgbaaJXt
set_option linter.unusedVariables false
set_option linter.unusedSimpArgs false
namespace Rx.S
open Go Rx
set_option maxRecDepth 100000
set_option maxHeartbeats 1000000
def lp_1870 : Lp := ⟨26, [false, true, false, true, true, true, true, true, true], 1870, 39, 26, 3, ⟨frS 129 [(0, .pv (.agg [.k (.int .u8 (V 0)), .k (.int .i64 (V 1)), .k (.int .i64 (V 2)), .k (.int .i64 (V 3)), .k (.int .i64 (V 4)), .k (.int .i64 (V 5)), .k (.int .i64 (V 6)), .k (.int .i64 (V 7)), .k (.int .i64 (V 8)), .k (.int .i64 (V 9)), .k (.int .i64 (V 10)), .k (.int .i64 (V 11)), .k (.int .i64 (V 12)), .k (.int .u8 (V 13)), .k (.fsl 0 (V 14))])), (1, .pv (.one (.k (.ptr 1 0)))), (2, .pv (.one (.k (.bool (B false))))), (3, .pv (.one (.k (.int .u8 (V 0))))), (4, .pv (.one (.k (.ptr 2 0)))), (5, .pv (.one (.k (.int .u8 (V 13))))), (6, .pv (.one (.k (.fsl 0 (V 14))))), (7, .pv (.one (.k (.int .i64 (V 15))))), (8, .pv (.one (.k (.int .i64 (V 16))))), (9, .pv (.one (.k (.int .i64 (V 17))))), (15, .pv (.one (.k (.ptr 1 0)))), (16, .pv (.one (.k (.int .u8 (V 0))))), (17, .pv (.one (.k (.ptr 1 1)))), (18, .pv (.agg [.k (.int .i64 (V 1)), .k (.int .i64 (V 2)), .k (.int .i64 (V 3)), .k (.int .i64 (V 4)), .k (.int .i64 (V 5)), .k (.int .i64 (V 6)), .k (.int .i64 (V 7)), .k (.int .i64 (V 8)), .k (.int .i64 (V 9)), .k (.int .i64 (V 10)), .k (.int .i64 (V 11)), .k (.int .i64 (V 12))])), (19, .pv (.one (.k (.ptr 1 13)))), (20, .pv (.one (.k (.int .u8 (V 13))))), (21, .pv (.one (.k (.ptr 1 14)))), (22, .pv (.one (.k (.fsl 0 (V 14))))), (23, .pv (.one (.k (.int .u8 (V 0))))), (24, .pv (.one (.k (.int .u8 (V 18))))), (25, .pv (.one (.k (.int .i64 (V 19))))), (26, .pv (.one (.k (.int .i64 (V 15))))), (27, .pv (.one (.k (.int .i64 (V 15))))), (28, .pv (.agg [.k (.int .i64 (V 1)), .k (.int .i64 (V 2)), .k (.int .i64 (V 3)), .k (.int .i64 (V 4)), .k (.int .i64 (V 5)), .k (.int .i64 (V 6)), .k (.int .i64 (V 7)), .k (.int .i64 (V 8)), .k (.int .i64 (V 9)), .k (.int .i64 (V 10)), .k (.int .i64 (V 11)), .k (.int .i64 (V 12))])), (29, .pv (.one (.k (.bool (V 20))))), (30, .pv (.one (.k (.bool (V 21))))), (31, .pv (.one (.k (.bool (V 21))))), (35, .pv (.one (.k (.bool (V 22))))), (36, .pv (.one (.k (.bool (V 22))))), (40, .pv (.one (.k (.bool (V 23))))), (42, .pv (.one (.k (.int .i64 (V 15))))), (43, .pv (.one (.k (.int .i64 (V 24))))), (44, .pv (.one (.k (.ptr 2 10)))), (45, .pv (.one (.k (.int .u8 (V 13))))), (46, .pv (.one (.k (.int .i64 (V 25))))), (47, .pv (.one (.k (.int .i64 (V 15))))), (48, .pv (.one (.k (.int .i64 (V 16)))))], [⟨false, 0, 0, [], some ⟨false, 0, [.int .u8], V 26, V 14⟩⟩, ⟨true, 113, 15, [.k (.int .u8 (V 0)), .k (.int .i64 (V 1)), .k (.int .i64 (V 2)), .k (.int .i64 (V 3)), .k (.int .i64 (V 4)), .k (.int .i64 (V 5)), .k (.int .i64 (V 6)), .k (.int .i64 (V 7)), .k (.int .i64 (V 8)), .k (.int .i64 (V 9)), .k (.int .i64 (V 10)), .k (.int .i64 (V 11)), .k (.int .i64 (V 12)), .k (.int .u8 (V 13)), .k (.fsl 0 (V 14))], none⟩, ⟨true, 77, 12, [.k (.int .i64 (V 27)), .k (.int .i64 (V 28)), .k (.int .i64 (V 29)), .k (.int .i64 (V 30)), .k (.int .i64 (V 31)), .k (.int .i64 (V 32)), .k (.int .i64 (V 33)), .k (.int .i64 (V 34)), .k (.int .i64 (V 35)), .k (.int .i64 (V 36)), .k (.int .i64 (V 37)), .k (.int .i64 (V 38))], none⟩], B true⟩, [(.ret, ⟨frS 129 [(0, .pv (.agg [.k (.int .u8 (V 0)), .k (.int .i64 (V 1)), .k (.int .i64 (V 2)), .k (.int .i64 (V 3)), .k (.int .i64 (V 4)), .k (.int .i64 (V 5)), .k (.int .i64 (V 6)), .k (.int .i64 (V 7)), .k (.int .i64 (V 8)), .k (.int .i64 (V 9)), .k (.int .i64 (V 10)), .k (.int .i64 (V 11)), .k (.int .i64 (V 12)), .k (.int .u8 (V 13)), .k (.fsl 0 (V 14))])), (1, .pv (.one (.k (.ptr 1 0)))), (2, .pv (.one (.k (.bool (B false))))), (3, .pv (.one (.k (.int .u8 (V 0))))), (4, .pv (.one (.k (.ptr 2 0)))), (5, .pv (.one (.k (.int .u8 (V 13))))), (6, .pv (.one (.k (.fsl 0 (V 14))))), (7, .pv (.one (.k (.int .i64 (V 15))))), (15, .pv (.one (.k (.ptr 1 0)))), (16, .pv (.one (.k (.int .u8 (V 0))))), (17, .pv (.one (.k (.ptr 1 1)))), (18, .pv (.agg [.k (.int .i64 (V 1)), .k (.int .i64 (V 2)), .k (.int .i64 (V 3)), .k (.int .i64 (V 4)), .k (.int .i64 (V 5)), .k (.int .i64 (V 6)), .k (.int .i64 (V 7)), .k (.int .i64 (V 8)), .k (.int .i64 (V 9)), .k (.int .i64 (V 10)), .k (.int .i64 (V 11)), .k (.int .i64 (V 12))])), (19, .pv (.one (.k (.ptr 1 13)))), (20, .pv (.one (.k (.int .u8 (V 13))))), (21, .pv (.one (.k (.ptr 1 14)))), (22, .pv (.one (.k (.fsl 0 (V 14))))), (23, .pv (.one (.k (.int .u8 (V 0))))), (24, .pv (.one (.k (.int .u8 (V 18))))), (25, .pv (.one (.k (.int .i64 (V 19))))), (26, .pv (.one (.k (.int .i64 (V 15))))), (27, .pv (.one (.k (.int .i64 (V 15))))), (28, .pv (.agg [.k (.int .i64 (V 1)), .k (.int .i64 (V 2)), .k (.int .i64 (V 3)), .k (.int .i64 (V 4)), .k (.int .i64 (V 5)), .k (.int .i64 (V 6)), .k (.int .i64 (V 7)), .k (.int .i64 (V 8)), .k (.int .i64 (V 9)), .k (.int .i64 (V 10)), .k (.int .i64 (V 11)), .k (.int .i64 (V 12))])), (29, .pv (.one (.k (.bool (V 20))))), (30, .pv (.one (.k (.bool (V 21))))), (31, .pv (.one (.k (.bool (V 21))))), (35, .pv (.one (.k (.bool (V 22))))), (36, .pv (.one (.k (.bool (V 22))))), (40, .pv (.one (.k (.bool (V 23))))), (42, .pv (.one (.k (.int .i64 (V 15))))), (43, .pv (.one (.k (.int .i64 (V 24))))), (44, .pv (.one (.k (.ptr 2 10)))), (45, .pv (.one (.k (.int .u8 (V 13))))), (46, .pv (.one (.k (.int .i64 (V 25))))), (47, .pv (.one (.k (.int .i64 (V 15))))), (48, .pv (.one (.k (.int .i64 (V 16)))))], [⟨false, 0, 0, [], some ⟨false, 0, [.int .u8], V 26, V 14⟩⟩, ⟨true, 113, 15, [.k (.int .u8 (V 0)), .k (.int .i64 (V 1)), .k (.int .i64 (V 2)), .k (.int .i64 (V 3)), .k (.int .i64 (V 4)), .k (.int .i64 (V 5)), .k (.int .i64 (V 6)), .k (.int .i64 (V 7)), .k (.int .i64 (V 8)), .k (.int .i64 (V 9)), .k (.int .i64 (V 10)), .k (.int .i64 (V 11)), .k (.int .i64 (V 12)), .k (.int .u8 (V 13)), .k (.fsl 0 (V 14))], none⟩, ⟨true, 77, 12, [.k (.int .i64 (V 39)), .k (.int .i64 (V 40)), .k (.int .i64 (V 41)), .k (.int .i64 (V 42)), .k (.int .i64 (V 43)), .k (.int .i64 (V 44)), .k (.int .i64 (V 45)), .k (.int .i64 (V 46)), .k (.int .i64 (V 47)), .k (.int .i64 (V 48)), .k (.int .i64 (V 49)), .k (.int .i64 (V 50))], none⟩], V 51⟩), (.exit 0, ⟨frS 129 [(0, .pv (.agg [.k (.int .u8 (V 0)), .k (.int .i64 (V 1)), .k (.int .i64 (V 2)), .k (.int .i64 (V 3)), .k (.int .i64 (V 4)), .k (.int .i64 (V 5)), .k (.int .i64 (V 6)), .k (.int .i64 (V 7)), .k (.int .i64 (V 8)), .k (.int .i64 (V 9)), .k (.int .i64 (V 10)), .k (.int .i64 (V 11)), .k (.int .i64 (V 12)), .k (.int .u8 (V 13)), .k (.fsl 0 (V 14))])), (1, .pv (.one (.k (.ptr 1 0)))), (2, .pv (.one (.k (.bool (B false))))), (3, .pv (.one (.k (.int .u8 (V 0))))), (4, .pv (.one (.k (.ptr 2 0)))), (5, .pv (.one (.k (.int .u8 (V 13))))), (6, .pv (.one (.k (.fsl 0 (V 14))))), (7, .pv (.one (.k (.int .i64 (V 15))))), (15, .pv (.one (.k (.ptr 1 0)))), (16, .pv (.one (.k (.int .u8 (V 0))))), (17, .pv (.one (.k (.ptr 1 1)))), (18, .pv (.agg [.k (.int .i64 (V 1)), .k (.int .i64 (V 2)), .k (.int .i64 (V 3)), .k (.int .i64 (V 4)), .k (.int .i64 (V 5)), .k (.int .i64 (V 6)), .k (.int .i64 (V 7)), .k (.int .i64 (V 8)), .k (.int .i64 (V 9)), .k (.int .i64 (V 10)), .k (.int .i64 (V 11)), .k (.int .i64 (V 12))])), (19, .pv (.one (.k (.ptr 1 13)))), (20, .pv (.one (.k (.int .u8 (V 13))))), (21, .pv (.one (.k (.ptr 1 14)))), (22, .pv (.one (.k (.fsl 0 (V 14))))), (23, .pv (.one (.k (.int .u8 (V 0))))), (24, .pv (.one (.k (.int .u8 (V 18))))), (25, .pv (.one (.k (.int .i64 (V 19))))), (26, .pv (.one (.k (.int .i64 (V 15))))), (27, .pv (.one (.k (.int .i64 (V 15))))), (28, .pv (.agg [.k (.int .i64 (V 1)), .k (.int .i64 (V 2)), .k (.int .i64 (V 3)), .k (.int .i64 (V 4)), .k (.int .i64 (V 5)), .k (.int .i64 (V 6)), .k (.int .i64 (V 7)), .k (.int .i64 (V 8)), .k (.int .i64 (V 9)), .k (.int .i64 (V 10)), .k (.int .i64 (V 11)), .k (.int .i64 (V 12))])), (29, .pv (.one (.k (.bool (V 20))))), (30, .pv (.one (.k (.bool (V 21))))), (31, .pv (.one (.k (.bool (V 21))))), (35, .pv (.one (.k (.bool (V 22))))), (36, .pv (.one (.k (.bool (V 22))))), (40, .pv (.one (.k (.bool (V 23))))), (42, .pv (.one (.k (.int .i64 (V 15))))), (43, .pv (.one (.k (.int .i64 (V 24))))), (44, .pv (.one (.k (.ptr 2 10)))), (45, .pv (.one (.k (.int .u8 (V 13))))), (46, .pv (.one (.k (.int .i64 (V 25))))), (47, .pv (.one (.k (.int .i64 (V 15))))), (48, .pv (.one (.k (.int .i64 (V 16)))))], [⟨false, 0, 0, [], some ⟨false, 0, [.int .u8], V 26, V 14⟩⟩, ⟨true, 113, 15, [.k (.int .u8 (V 0)), .k (.int .i64 (V 1)), .k (.int .i64 (V 2)), .k (.int .i64 (V 3)), .k (.int .i64 (V 4)), .k (.int .i64 (V 5)), .k (.int .i64 (V 6)), .k (.int .i64 (V 7)), .k (.int .i64 (V 8)), .k (.int .i64 (V 9)), .k (.int .i64 (V 10)), .k (.int .i64 (V 11)), .k (.int .i64 (V 12)), .k (.int .u8 (V 13)), .k (.fsl 0 (V 14))], none⟩, ⟨true, 77, 12, [.k (.int .i64 (V 52)), .k (.int .i64 (V 53)), .k (.int .i64 (V 54)), .k (.int .i64 (V 55)), .k (.int .i64 (V 56)), .k (.int .i64 (V 57)), .k (.int .i64 (V 58)), .k (.int .i64 (V 59)), .k (.int .i64 (V 60)), .k (.int .i64 (V 61)), .k (.int .i64 (V 62)), .k (.int .i64 (V 63))], none⟩], V 64⟩)], [true, true, true, true, true, true, true, true, true, true, true, true, true, true, true, true, true, false, true, true, true, true, true, true, true, true, true, false, false, false, false, false, false, false, false, false, false, false, false], [.i, .i, .i, .i, .i, .i, .i, .i, .i, .i, .i, .i, .b, .i, .i, .i, .i, .i, .i, .i, .i, .i, .i, .i, .i, .b]⟩
def g_L1870 : G := ⟨137, [⟨136, .and, [V 133, V 40]⟩, ⟨135, .and, [V 39, V 132]⟩, ⟨134, .and, [V 39, V 128]⟩, ⟨133, .not, [V 39]⟩, ⟨132, .and, [V 129, V 130]⟩, ⟨131, (.ar .add .i64), [V 17, N 1]⟩, ⟨130, .and, [V 129, V 127]⟩, ⟨129, .not, [V 128]⟩, ⟨128, .and, [V 124, V 126]⟩, ⟨127, .and, [V 123, V 125]⟩, ⟨126, .and, [V 39, V 124]⟩, ⟨125, .and, [V 39, V 123]⟩, ⟨124, .not, [V 123]⟩, ⟨123, .iteB, [V 119, B true, V 122]⟩, ⟨122, (.cmp .eql), [V 90, N 1]⟩, ⟨121, .and, [V 39, V 120]⟩, ⟨120, .not, [V 119]⟩, ⟨119, .iteB, [V 102, B true, V 118]⟩, ⟨118, .iteB, [V 105, V 117, B false]⟩, ⟨117, .not, [V 116]⟩, ⟨116, .and, [V 115, V 114]⟩, ⟨115, (.cmp .eql), [V 90, V 112]⟩, ⟨114, (.cmp .eql), [V 91, V 113]⟩, ⟨113, (.pix 1 2), [V 76, V 44]⟩, ⟨112, (.pix 0 2), [V 76, V 44]⟩, ⟨111, .imp, [V 107, V 110]⟩, ⟨110, .and, [V 108, V 109]⟩, ⟨109, (.cmp .lss), [V 44, V 15]⟩, ⟨108, (.cmp .leq), [N 0, V 44]⟩, ⟨107, .and, [V 106, V 103]⟩, ⟨106, .and, [V 39, V 105]⟩, ⟨105, (.cmp .neq), [V 44, V 16]⟩, ⟨104, .and, [V 39, V 103]⟩, ⟨103, .not, [V 102]⟩, ⟨102, .iteB, [V 98, B true, V 101]⟩, ⟨101, (.cmp .neq), [V 89, V 44]⟩, ⟨100, .and, [V 39, V 99]⟩, ⟨99, .not, [V 98]⟩, ⟨98, .iteB, [V 94, B true, V 97]⟩, ⟨97, (.cmp .lss), [V 88, N 1]⟩, ⟨96, .and, [V 39, V 95]⟩, ⟨95, .not, [V 94]⟩, ⟨94, (.cmp .neq), [V 92, N 0]⟩, ⟨93, .imp, [V 39, V 77]⟩, ⟨77, (.call 119), [V 15, V 27, V 28, V 29, V 30, V 31, V 32, V 33, V 34, V 35, V 36, V 37, V 38, V 76, V 15]⟩, ⟨76, .iteA, [V 67, V 75, V 61]⟩, ⟨75, (.pset 1 2), [V 74, V 16, V 16]⟩, ⟨74, (.pset 0 2), [V 61, V 16, V 72]⟩, ⟨73, .imp, [V 69, V 58]⟩, ⟨72, (.conv .i64), [V 66]⟩, ⟨71, .imp, [V 69, V 63]⟩, ⟨70, .and, [V 39, V 68]⟩, ⟨69, .and, [V 39, V 67]⟩, ⟨68, .not, [V 67]⟩, ⟨67, (.cmp .gtr), [V 66, N 0]⟩, ⟨66, (.dv .rem .u8), [V 65, N 3]⟩, ⟨65, (.pix 0 1), [V 26, V 17]⟩, ⟨64, .imp, [V 39, V 63]⟩, ⟨63, .and, [V 62, V 39]⟩, ⟨62, (.cmp .leq), [N 0, V 17]⟩, ⟨61, (.pset 1 2), [V 60, V 16, N 0]⟩, ⟨60, (.pset 0 2), [V 55, V 16, N 0]⟩, ⟨59, .imp, [V 39, V 58]⟩, ⟨58, .and, [V 56, V 57]⟩, ⟨57, (.cmp .lss), [V 16, V 15]⟩, ⟨56, (.cmp .leq), [N 0, V 16]⟩, ⟨55, (.pset 1 2), [V 54, V 44, V 44]⟩, ⟨54, (.pset 0 2), [V 49, V 44, N 2]⟩, ⟨53, .imp, [V 39, V 52]⟩, ⟨52, .and, [V 50, V 51]⟩, ⟨51, (.cmp .lss), [V 44, V 15]⟩, ⟨50, (.cmp .leq), [N 0, V 44]⟩, ⟨49, .rep, [V 15, N 0, N 0]⟩, ⟨48, .imp, [V 39, V 47]⟩, ⟨47, .and, [V 45, V 46]⟩, ⟨46, (.cmp .lss), [V 15, N 1000001]⟩, ⟨45, (.cmp .leq), [N 0, V 15]⟩, ⟨44, (.dv .rem .i64), [V 41, V 15]⟩, ⟨43, .imp, [V 39, V 42]⟩, ⟨42, (.cmp .neq), [V 15, N 0]⟩, ⟨41, (.ar .add .i64), [V 38, N 1]⟩, ⟨40, .not, [V 39]⟩, ⟨39, (.cmp .lss), [V 17, V 14]⟩], [V 111, V 93, V 73, V 71, V 64, V 59, V 53, V 48, V 43], []⟩
def m_1870 (al : List A) : Nat := ((gi al 14) - (gi al 17)).toNat
theorem lpureQ_1870 (e : Nat → A) (H : FactsQ T e g_L1870.defs) : ∀ z0, z0 = (Day.HB.mk [(e 27).int, (e 28).int, (e 29).int, (e 30).int, (e 31).int, (e 32).int, (e 33).int, (e 34).int] (e 35).int (e 36).int (e 37).int (e 38).int) → ∀ r1, r1 = (Day.holdGo (e 15).int (e 16) (e 26) (e 14).int (e 17).int z0) → ∀ y0, y0 = (Day.HB.mk [(e 78).int, (e 79).int, (e 80).int, (e 81).int, (e 82).int, (e 83).int, (e 84).int, (e 85).int] (e 86).int (e 87).int (e 88).int (e 89).int) → ∀ s1, s1 = (Day.holdGo (e 15).int (e 16) (e 26) (e 14).int (e 131).int y0) → (Day.holdP (e 15).int ((e 16)).int z0 && (Day.inR (e 17).int (e 14).int && (Day.inR ((e 16)).int ((e 15).int - 1) && Day.leB (e 14).int 100))) = true →
  ((e 111).bool = true ∧ (e 93).bool = true ∧ (e 73).bool = true ∧ (e 71).bool = true ∧ (e 64).bool = true ∧ (e 59).bool = true ∧ (e 53).bool = true ∧ (e 48).bool = true ∧ (e 43).bool = true) ∧ ((e 134).bool = true → (Day.holdP (e 15).int ((e 16)).int y0 && (Day.inR (e 131).int (e 14).int && (Day.inR ((e 16)).int ((e 15).int - 1) && Day.leB (e 14).int 100))) = true ∧ (((Day.noHB)).a 0 = ((Day.noHB)).a 0 ∧ ((Day.noHB)).a 1 = ((Day.noHB)).a 1 ∧ ((Day.noHB)).a 2 = ((Day.noHB)).a 2 ∧ ((Day.noHB)).a 3 = ((Day.noHB)).a 3 ∧ ((Day.noHB)).a 4 = ((Day.noHB)).a 4 ∧ ((Day.noHB)).a 5 = ((Day.noHB)).a 5 ∧ ((Day.noHB)).a 6 = ((Day.noHB)).a 6 ∧ ((Day.noHB)).a 7 = ((Day.noHB)).a 7 ∧ ((Day.noHB)).port = ((Day.noHB)).port ∧ ((Day.noHB)).age = ((Day.noHB)).age ∧ ((Day.noHB)).hold = ((Day.noHB)).hold ∧ ((Day.noHB)).pos = ((Day.noHB)).pos ∧ false = false ∧ ((s1)).a 0 = ((r1)).a 0 ∧ ((s1)).a 1 = ((r1)).a 1 ∧ ((s1)).a 2 = ((r1)).a 2 ∧ ((s1)).a 3 = ((r1)).a 3 ∧ ((s1)).a 4 = ((r1)).a 4 ∧ ((s1)).a 5 = ((r1)).a 5 ∧ ((s1)).a 6 = ((r1)).a 6 ∧ ((s1)).a 7 = ((r1)).a 7 ∧ ((s1)).port = ((r1)).port ∧ ((s1)).age = ((r1)).age ∧ ((s1)).hold = ((r1)).hold ∧ ((s1)).pos = ((r1)).pos ∧ true = true) ∧ ((e 14).int - (e 131).int).toNat < ((e 14).int - (e 17).int).toNat) ∧ ((e 135).bool = true → (e 27).int = ((Day.noHB)).a 0 ∧ (e 28).int = ((Day.noHB)).a 1 ∧ (e 29).int = ((Day.noHB)).a 2 ∧ (e 30).int = ((Day.noHB)).a 3 ∧ (e 31).int = ((Day.noHB)).a 4 ∧ (e 32).int = ((Day.noHB)).a 5 ∧ (e 33).int = ((Day.noHB)).a 6 ∧ (e 34).int = ((Day.noHB)).a 7 ∧ (e 35).int = ((Day.noHB)).port ∧ (e 36).int = ((Day.noHB)).age ∧ (e 37).int = ((Day.noHB)).hold ∧ (e 38).int = ((Day.noHB)).pos ∧ true = false) ∧ ((e 136).bool = true → (e 27).int = ((r1)).a 0 ∧ (e 28).int = ((r1)).a 1 ∧ (e 29).int = ((r1)).a 2 ∧ (e 30).int = ((r1)).a 3 ∧ (e 31).int = ((r1)).a 4 ∧ (e 32).int = ((r1)).a 5 ∧ (e 33).int = ((r1)).a 6 ∧ (e 34).int = ((r1)).a 7 ∧ (e 35).int = ((r1)).port ∧ (e 36).int = ((r1)).age ∧ (e 37).int = ((r1)).hold ∧ (e 38).int = ((r1)).pos ∧ true = true) := by
 intro z0 hz0 r1 hr1 y0 hy0 s1 hs1 hp
 subst hz0 hr1 hy0 hs1
 simp only [g_L1870, FactsQ, Def.q, updQ, L.ev_var, L.ev_n, L.ev_t, L.ev_e, L.ev, A.int_i, A.bool_b, A.str_v, A.els_l, List.map_cons, List.map_nil, Nat.zero_add, Nat.add_zero, and_true, true_and, Nat.reduceAdd, Nat.one_mul] at H
 simp only [arI, dvI, btI, cmpI, shI, ifQ, updV, ltQ, and_true, true_and] at H
 obtain ⟨q136, q135, q134, q133, q132, ⟨q131, -⟩, q130, q129, q128, q127, q126, q125, q124, q123, q122, q121, q120, q119, q118, q117, q116, q115, q114, q113, q112, q111, q110, q109, q108, q107, q106, q105, q104, q103, q102, q101, q100, q99, q98, q97, q96, q95, q94, q93, q77, q76, q75, q74, q73, ⟨q72, k72⟩, q71, q70, q69, q68, q67, ⟨q66, -⟩, q65, q64, q63, q62, q61, q60, q59, q58, q57, q56, q55, q54, q53, q52, q51, q50, q49, q48, q47, q46, q45, ⟨q44, k44⟩, q43, q42, ⟨q41, -⟩, q40, q39⟩ := H
 replace q77 := out_hub_Step q77 _ rfl _ rfl
 obtain ⟨q77, q78, q79, q80, q81, q82, q83, q84, q85, q86, q87, q88, q89, q90, q91, q92⟩ := q77
 unfold isI at k44 k72
 simp only [L.ev_var, L.ev_n, L.ev_t, L.ev_e, L.ev, A.int_i, A.bool_b, A.str_v] at q77 q78 q79 q80 q81 q82 q83 q84 q85 q86 q87 q88 q89 q90 q91 q92
 generalize (e 0).int = x0, (e 1).int = x1, (e 2).int = x2, (e 3).int = x3, (e 4).int = x4, (e 5).int = x5, (e 6).int = x6, (e 7).int = x7, (e 8).int = x8, (e 9).int = x9, (e 10).int = x10, (e 11).int = x11, (e 12).int = x12, (e 13).int = x13, (e 14).int = x14, (e 15).int = x15, e 16 = x16, (e 17).int = x17, (e 18).int = x18, (e 19).int = x19, (e 20).int = x20, (e 21).int = x21, (e 22).int = x22, (e 23).int = x23, (e 24).int = x24, (e 25).int = x25, e 26 = x26, (e 27).int = x27, (e 28).int = x28, (e 29).int = x29, (e 30).int = x30, (e 31).int = x31, (e 32).int = x32, (e 33).int = x33, (e 34).int = x34, (e 35).int = x35, (e 36).int = x36, (e 37).int = x37, (e 38).int = x38, (e 39).bool = v39, (e 40).bool = v40, (e 41).int = v41, (e 42).bool = v42, (e 43).bool = v43, (e 44).int = v44, (e 45).bool = v45, (e 46).bool = v46, (e 47).bool = v47, (e 48).bool = v48, e 49 = v49, (e 50).bool = v50, (e 51).bool = v51, (e 52).bool = v52, (e 53).bool = v53, e 54 = v54, e 55 = v55, (e 56).bool = v56, (e 57).bool = v57, (e 58).bool = v58, (e 59).bool = v59, e 60 = v60, e 61 = v61, (e 62).bool = v62, (e 63).bool = v63, (e 64).bool = v64, (e 66).int = v66, (e 67).bool = v67, (e 68).bool = v68, (e 69).bool = v69, (e 70).bool = v70, (e 71).bool = v71, (e 72).int = v72, (e 73).bool = v73, e 74 = v74, e 75 = v75, e 76 = v76, (e 77).bool = v77, (e 78).int = v78, (e 79).int = v79, (e 80).int = v80, (e 81).int = v81, (e 82).int = v82, (e 83).int = v83, (e 84).int = v84, (e 85).int = v85, (e 86).int = v86, (e 87).int = v87, (e 88).int = v88, (e 89).int = v89, (e 90).int = v90, (e 91).int = v91, (e 92).int = v92, (e 93).bool = v93, (e 94).bool = v94, (e 95).bool = v95, (e 96).bool = v96, (e 97).bool = v97, (e 98).bool = v98, (e 99).bool = v99, (e 100).bool = v100, (e 101).bool = v101, (e 102).bool = v102, (e 103).bool = v103, (e 104).bool = v104, (e 105).bool = v105, (e 106).bool = v106, (e 107).bool = v107, (e 108).bool = v108, (e 109).bool = v109, (e 110).bool = v110, (e 111).bool = v111, (e 114).bool = v114, (e 115).bool = v115, (e 116).bool = v116, (e 117).bool = v117, (e 118).bool = v118, (e 119).bool = v119, (e 120).bool = v120, (e 121).bool = v121, (e 122).bool = v122, (e 123).bool = v123, (e 124).bool = v124, (e 125).bool = v125, (e 126).bool = v126, (e 127).bool = v127, (e 128).bool = v128, (e 129).bool = v129, (e 130).bool = v130, (e 131).int = v131, (e 132).bool = v132, (e 133).bool = v133, (e 134).bool = v134, (e 135).bool = v135, (e 136).bool = v136 at *
 rw [k72] at q74
 rw [k44] at q55
 replace q65 := congrArg A.int q65
 generalize (e 65).int = v65 at *
 replace q112 := congrArg A.int q112
 generalize (e 112).int = v112 at *
 replace q113 := congrArg A.int q113
 generalize (e 113).int = v113 at *
 generalize hH : (Day.HB.mk [x27, x28, x29, x30, x31, x32, x33, x34] x35 x36 x37 x38) = h at *
 have g0 : x27 = h.a 0 ∧ x28 = h.a 1 ∧ x29 = h.a 2 ∧ x30 = h.a 3 ∧ x31 = h.a 4 ∧ x32 = h.a 5 ∧ x33 = h.a 6 ∧ x34 = h.a 7 ∧ x35 = h.port ∧ x36 = h.age ∧ x37 = h.hold ∧ x38 = h.pos := by subst hH; simp [Day.HB.a]
 obtain ⟨a1, a2, a3, a4, a5, a6, a7, a8, a9, a10, a11, a12⟩ := g0
 clear hH
 simp only [Bool.and_eq_true, Day.inR_iff, Day.leB_iff] at hp
 obtain ⟨hp, hi, hb, hc⟩ := hp
 have hr : Day.rightH x15 h = true := by
  have := hp
  simp only [Day.holdP, Bool.and_eq_true] at this
  exact this.1
 have hn := Day.right_le hr
 have hR : Day.right x15 = true := by simp [Day.right, hn]
 have hi64 := Day.right_i64 hr
 have hb2 : 0 ≤ x16.int ∧ x16.int < x15 := by omega
 by_cases hlt : x17 < x14
 ·obtain ⟨s1, s2, s3⟩ := Day.slot_eq (p := h.pos) hn (Day.right_all hr).2.2.2.2.2
  have h44 : v44 = (h.pos + 1) % x15 := by rw [q44, q41, a12]; exact s1
  rw [← h44] at s2 s3
  have h66 : v66 = Day.sayK x26 x17 := by rw [q66, q65]; rfl
  have hx : v76 = Day.roundA x15 v44 x16 (Day.sayK x26 x17) := by
   rw [q76, q67, q75, q74, q72, q61, q60, q55, q54, q49, h66]
   unfold Day.roundA
   by_cases c : 0 < Day.sayK x26 x17
   ·simp only [c, if_true, decide_true]; rfl
   ·simp only [c, if_false, decide_false]; rfl
  have hrd := Day.round_ok (x := x26) (i := x17) ⟨s2, s3⟩ hb2
  rw [← hx] at hrd
  have hf := Day.round_fits hR hrd
  have ho := Day.round_owner hrd ⟨s2, s3⟩
  obtain ⟨f1, f2, f3, f4, f5, f6⟩ := Day.hold_next hp hf h44 fun hne => (ho hne).1
  have st := Day.holdGo_step (n := x15) (b := x16) (x := x26) (h := h) hlt
  rw [← h44, ← hx] at st
  have hok := Day.fits_ok hf
  have w : IntKind.wrap .i64 (x17 + 1) = x17 + 1 := wrap64 (by omega) (by omega)
  rw [w] at q131
  have hmk := Day.mk_HB (Day.hubH x15 h ⟨v76, x15⟩) (Day.len_hub _ _ _)
  rw [← q78, ← q79, ← q80, ← q81, ← q82, ← q83, ← q84, ← q85, ← q86, ← q87, ← q88, ← q89] at hmk
  rw [f1] at q92
  have e88 : 1 ≤ v88 := by rw [q88]; exact f4
  have e89 : v89 = v44 := by rw [q89]; exact f3
  have e90 : v90 ≠ 1 := by rw [q90]; exact f6
  have e66 : v67 = decide (0 < v66) := q67
  have e114 : v105 = true → v116 = true := fun hne => by
   have hne2 : v44 ≠ x16.int := by rw [q105] at hne; simpa using hne
   obtain ⟨o1, o2⟩ := ho hne2
   have hF := f5 hne2
   have g1 : v112 = 2 := by rw [q112]; exact o1
   have g2 : v113 = v44 := by rw [q113]; exact o2
   rw [hF] at q90 q91
   rw [q116, q115, q114, q90, q91, g1, g2]
   simp
  have e39 : v39 = true := by rw [q39]; simp [hlt]
  have e97 : v97 = false := by rw [q97]; simp; omega
  have e101 : v101 = false := by rw [q101, e89]; simp
  have e122 : v122 = false := by rw [q122]; simpa using e90
  have e117 : v118 = false := by
   rw [q118, q117]
   cases hv : v105
   ·rfl
   ·rw [e114 hv]; rfl
  have e94 : v94 = false := by rw [q94, q92]; rfl
  have e123 : v123 = false := by rw [q123, q119, q102, q98, e94, e97, e101, e117, e122]; rfl
  have e42 : v42 = true := by rw [q42]; simp; omega
  have e47 : v47 = true := by rw [q47, q45, q46]; simp; omega
  have e52 : v52 = true := by rw [q52, q50, q51]; simp; omega
  have e58 : v58 = true := by rw [q58, q56, q57]; simp; omega
  have e63 : v63 = true := by rw [q63, q62, e39]; simp; omega
  have e77 : v77 = true := by rw [q77]; simp [hi64, hok]
  have e110 : v110 = true := by rw [q110, q108, q109]; simp; omega
  have hI : Day.inR (x17 + 1) x14 = true := by rw [Day.inR_iff]; omega
  have hB : Day.inR x16.int (x15 - 1) = true := by rw [Day.inR_iff]; omega
  have hC : Day.leB x14 100 = true := by rw [Day.leB_iff]; omega
  have e128 : v128 = true := by rw [q128, q126, q124, e123, e39]; rfl
  have e135 : v135 = false := by rw [q135, q132, q130, q129, q127, e123, e128]; simp
  have e136 : v136 = false := by rw [q136, q133, e39]; rfl
  have e134 : v134 = true := by rw [q134, e39, e128]; rfl
  rw [hmk, q131, ← st]
  refine ⟨?_, fun _ => ⟨by simp [f2, hI, hB, hC], by simp, by omega⟩, fun h => by (rw [e135] at h; cases h), fun h => by (rw [e136] at h; cases h)⟩
  simp [q111, q93, q73, q71, q64, q59, q53, q48, q43, e42, e47, e52, e58, e63, e77, e110]
 ·have st := Day.holdGo_end (n := x15) (b := x16) (x := x26) (h := h) hlt
  rw [st]
  clear q78 q79 q80 q81 q82 q83 q84 q85 q86 q87 q88 q89 q90 q91
  subst_vars
  simp [hlt]
theorem lpure_1870 (as : List A) (e : Nat → A) (h1 : as = (List.range 39).map e) (h2 : (t_1870 as).1 = true) (H : FactsQ T e g_L1870.defs) : ObsAll e g_L1870.obs ∧
   (∀ pc ls, some (V 134, [V 0, V 1, V 2, V 3, V 4, V 5, V 6, V 7, V 8, V 9, V 10, V 11, V 12, V 13, V 14, V 15, V 16, V 131, V 18, V 19, V 20, V 21, V 22, V 23, V 24, V 25, V 26, V 78, V 79, V 80, V 81, V 82, V 83, V 84, V 85, V 86, V 87, V 88, V 89]) = some (pc, ls) → (pc.ev e).bool = true → (t_1870 (ls.map (L.ev e))).1 = true ∧ (t_1870 (ls.map (L.ev e))).2 = (t_1870 as).2 ∧ m_1870 (ls.map (L.ev e)) < m_1870 as) ∧
   ∀ x ∈ ([(V 135, [some (V 27), some (V 28), some (V 29), some (V 30), some (V 31), some (V 32), some (V 33), some (V 34), some (V 35), some (V 36), some (V 37), some (V 38), some (B true), none, none, none, none, none, none, none, none, none, none, none, none, none]), (V 136, [none, none, none, none, none, none, none, none, none, none, none, none, none, some (V 27), some (V 28), some (V 29), some (V 30), some (V 31), some (V 32), some (V 33), some (V 34), some (V 35), some (V 36), some (V 37), some (V 38), some (B true)])] : List (L × List (Option L))), (x.1.ev e).bool = true → ∀ (j : Nat) l, x.2[j]? = some (some l) → Teq (lp_1870.tags.getD j .any) (l.ev e) ((t_1870 as).2.getD j (.i 0)) := by
 subst h1
 obtain ⟨ho, h⟩ := lpureQ_1870 e H _ rfl _ rfl _ rfl _ rfl h2
 refine ⟨⟨ho.1, ho.2.1, ho.2.2.1, ho.2.2.2.1, ho.2.2.2.2.1, ho.2.2.2.2.2.1, ho.2.2.2.2.2.2.1, ho.2.2.2.2.2.2.2.1, ho.2.2.2.2.2.2.2.2, trivial⟩, fun pc ls hb hpc => ?_, ?_⟩
 ·injection hb with hb
  injection hb with h3 h4
  subst h3 h4
  have h := h.1 hpc
  refine ⟨h.1, ?_, h.2.2⟩
  have h5 := h.2.1
  obtain ⟨z0, z1, z2, z3, z4, z5, z6, z7, z8, z9, z10, z11, z12, z13, z14, z15, z16, z17, z18, z19, z20, z21, z22, z23, z24, z25⟩ := h5
  exact (consI z0 (consI z1 (consI z2 (consI z3 (consI z4 (consI z5 (consI z6 (consI z7 (consI z8 (consI z9 (consI z10 (consI z11 (consB z12 (consI z13 (consI z14 (consI z15 (consI z16 (consI z17 (consI z18 (consI z19 (consI z20 (consI z21 (consI z22 (consI z23 (consI z24 (consB z25 rfl))))))))))))))))))))))))))
 ·intro x hx hpc j l hj
  simp only [List.mem_cons, List.not_mem_nil, or_false] at hx
  rcases hx with rfl | rfl
  ·have h := h.2.1 hpc
   obtain ⟨z0, z1, z2, z3, z4, z5, z6, z7, z8, z9, z10, z11, z12⟩ := h
   match j, hj with
   | 0, hj => cases hj; exact z0
   | 1, hj => cases hj; exact z1
   | 2, hj => cases hj; exact z2
   | 3, hj => cases hj; exact z3
   | 4, hj => cases hj; exact z4
   | 5, hj => cases hj; exact z5
   | 6, hj => cases hj; exact z6
   | 7, hj => cases hj; exact z7
   | 8, hj => cases hj; exact z8
   | 9, hj => cases hj; exact z9
   | 10, hj => cases hj; exact z10
   | 11, hj => cases hj; exact z11
   | 12, hj => cases hj; exact z12
   | 13, hj => cases hj
   | 14, hj => cases hj
   | 15, hj => cases hj
   | 16, hj => cases hj
   | 17, hj => cases hj
   | 18, hj => cases hj
   | 19, hj => cases hj
   | 20, hj => cases hj
   | 21, hj => cases hj
   | 22, hj => cases hj
   | 23, hj => cases hj
   | 24, hj => cases hj
   | 25, hj => cases hj
   | _ + 26, hj => cases hj
  ·have h := h.2.2 hpc
   obtain ⟨z13, z14, z15, z16, z17, z18, z19, z20, z21, z22, z23, z24, z25⟩ := h
   match j, hj with
   | 0, hj => cases hj
   | 1, hj => cases hj
   | 2, hj => cases hj
   | 3, hj => cases hj
   | 4, hj => cases hj
   | 5, hj => cases hj
   | 6, hj => cases hj
   | 7, hj => cases hj
   | 8, hj => cases hj
   | 9, hj => cases hj
   | 10, hj => cases hj
   | 11, hj => cases hj
   | 12, hj => cases hj
   | 13, hj => cases hj; exact z13
   | 14, hj => cases hj; exact z14
   | 15, hj => cases hj; exact z15
   | 16, hj => cases hj; exact z16
   | 17, hj => cases hj; exact z17
   | 18, hj => cases hj; exact z18
   | 19, hj => cases hj; exact z19
   | 20, hj => cases hj; exact z20
   | 21, hj => cases hj; exact z21
   | 22, hj => cases hj; exact z22
   | 23, hj => cases hj; exact z23
   | 24, hj => cases hj; exact z24
   | 25, hj => cases hj; exact z25
   | _ + 26, hj => cases hj
def g_law13_HubHolds : G := ⟨103, [⟨102, .iteB, [V 28, V 87, V 27]⟩, ⟨101, .iteI, [V 28, V 86, V 12]⟩, ⟨100, .iteI, [V 28, V 85, V 11]⟩, ⟨99, .iteI, [V 28, V 84, V 10]⟩, ⟨98, .iteI, [V 28, V 83, V 9]⟩, ⟨97, .iteI, [V 28, V 82, V 8]⟩, ⟨96, .iteI, [V 28, V 81, V 7]⟩, ⟨95, .iteI, [V 28, V 80, V 6]⟩, ⟨94, .iteI, [V 28, V 79, V 5]⟩, ⟨93, .iteI, [V 28, V 78, V 4]⟩, ⟨92, .iteI, [V 28, V 77, V 3]⟩, ⟨91, .iteI, [V 28, V 76, V 2]⟩, ⟨90, .iteI, [V 28, V 75, V 1]⟩, ⟨89, .iteB, [V 28, V 74, V 30]⟩, ⟨88, .not, [V 28]⟩, ⟨87, .iteB, [V 69, V 69, V 68]⟩, ⟨86, .iteI, [V 69, V 62, V 49]⟩, ⟨85, .iteI, [V 69, V 61, V 48]⟩, ⟨84, .iteI, [V 69, V 60, V 47]⟩, ⟨83, .iteI, [V 69, V 59, V 46]⟩, ⟨82, .iteI, [V 69, V 58, V 45]⟩, ⟨81, .iteI, [V 69, V 57, V 44]⟩, ⟨80, .iteI, [V 69, V 56, V 43]⟩, ⟨79, .iteI, [V 69, V 55, V 42]⟩, ⟨78, .iteI, [V 69, V 54, V 41]⟩, ⟨77, .iteI, [V 69, V 53, V 40]⟩, ⟨76, .iteI, [V 69, V 52, V 39]⟩, ⟨75, .iteI, [V 69, V 51, V 38]⟩, ⟨74, .iteB, [V 69, V 71, B false]⟩, ⟨73, .not, [V 69]⟩, ⟨72, .imp, [V 69, V 70]⟩, ⟨70, (.call 118), []⟩, ⟨69, .and, [V 28, V 63]⟩, ⟨68, .and, [V 28, V 50]⟩, ⟨67, .imp, [V 28, V 66]⟩, ⟨66, .not, [V 65]⟩, ⟨65, .and, [V 50, V 63]⟩, ⟨64, .imp, [V 28, V 37]⟩, ⟨37, (.call 1870), [V 0, V 1, V 2, V 3, V 4, V 5, V 6, V 7, V 8, V 9, V 10, V 11, V 12, V 13, V 15, V 18, V 36, N 0, V 16, V 17, V 20, V 21, V 24, V 27, V 32, V 33, V 14, V 1, V 2, V 3, V 4, V 5, V 6, V 7, V 8, V 9, V 10, V 32, V 12]⟩, ⟨36, (.dv .rem .i64), [V 33, V 18]⟩, ⟨35, .imp, [V 28, V 34]⟩, ⟨34, (.cmp .neq), [V 18, N 0]⟩, ⟨33, (.conv .i64), [V 13]⟩, ⟨32, (.ar .mul .i64), [N 2, V 18]⟩, ⟨31, .imp, [V 27, V 29]⟩, ⟨29, (.call 118), []⟩, ⟨28, .not, [V 27]⟩, ⟨27, .iteB, [V 24, B true, V 26]⟩, ⟨26, (.cmp .gtr), [V 15, N 100]⟩, ⟨25, .not, [V 24]⟩, ⟨24, .iteB, [V 21, B true, V 23]⟩, ⟨23, (.cmp .lss), [V 11, N 1]⟩, ⟨22, .not, [V 21]⟩, ⟨21, .not, [V 20]⟩, ⟨19, (.call 97), [V 18, V 1, V 2, V 3, V 4, V 5, V 6, V 7, V 8, V 9, V 10, V 11, V 12]⟩, ⟨18, (.ar .add .i64), [N 3, V 17]⟩, ⟨17, (.conv .i64), [V 16]⟩, ⟨16, (.dv .rem .u8), [V 0, N 6]⟩], [V 72, V 67, V 64, V 35, V 31, V 19], []⟩
theorem pure_law13_HubHolds (e : Nat → A) (H : FactsQ T e g_law13_HubHolds.defs) : ∀ z0, z0 = (Day.HB.mk [(e 1).int, (e 2).int, (e 3).int, (e 4).int, (e 5).int, (e 6).int, (e 7).int, (e 8).int] (e 9).int (e 10).int (e 11).int (e 12).int) → (Day.u8 (e 0).int && Day.HB.i64 z0 && Day.u8 (e 13).int && Day.Ls.ok (Day.Ls.mk (e 14) (e 15).int)) = true →
  ((e 72).bool = true ∧ (e 67).bool = true ∧ (e 64).bool = true ∧ (e 35).bool = true ∧ (e 31).bool = true ∧ (e 19).bool = true) ∧ (true = (e 89).bool) := by
 intro z0 hz0 hp
 subst hz0
 simp only [g_law13_HubHolds, FactsQ, Def.q, updQ, L.ev_var, L.ev_n, L.ev_t, L.ev_e, L.ev, A.int_i, A.bool_b, A.str_v, A.els_l, List.map_cons, List.map_nil, Nat.zero_add, Nat.add_zero, and_true, true_and, Nat.reduceAdd, Nat.one_mul] at H
 simp only [arI, dvI, btI, cmpI, shI, ifQ, updV, ltQ, and_true, true_and] at H
 obtain ⟨q102, ⟨q101, -⟩, ⟨q100, -⟩, ⟨q99, -⟩, ⟨q98, -⟩, ⟨q97, -⟩, ⟨q96, -⟩, ⟨q95, -⟩, ⟨q94, -⟩, ⟨q93, -⟩, ⟨q92, -⟩, ⟨q91, -⟩, ⟨q90, -⟩, q89, q88, q87, ⟨q86, -⟩, ⟨q85, -⟩, ⟨q84, -⟩, ⟨q83, -⟩, ⟨q82, -⟩, ⟨q81, -⟩, ⟨q80, -⟩, ⟨q79, -⟩, ⟨q78, -⟩, ⟨q77, -⟩, ⟨q76, -⟩, ⟨q75, -⟩, q74, q73, q72, q70, q69, q68, q67, q66, q65, q64, q37, ⟨q36, -⟩, q35, q34, ⟨q33, -⟩, ⟨q32, -⟩, q31, q29, q28, q27, q26, q25, q24, q23, q22, q21, q19, ⟨q18, -⟩, ⟨q17, -⟩, ⟨q16, -⟩⟩ := H
 replace q70 := out_law13_awake q70
 obtain ⟨q70, q71⟩ := q70
 replace q37 := out_L1870 q37 _ rfl _ rfl
 obtain ⟨q37, q38, q39, q40, q41, q42, q43, q44, q45, q46, q47, q48, q49, q50, q51, q52, q53, q54, q55, q56, q57, q58, q59, q60, q61, q62, q63⟩ := q37
 replace q29 := out_law13_awake q29
 obtain ⟨q29, q30⟩ := q29
 replace q19 := out_ref11_Right q19 _ rfl
 obtain ⟨q19, q20⟩ := q19
 simp only [L.ev_var, L.ev_n, L.ev_t, L.ev_e, L.ev, A.int_i, A.bool_b, A.str_v] at q70 q71 q37 q38 q39 q40 q41 q42 q43 q44 q45 q46 q47 q48 q49 q50 q51 q52 q53 q54 q55 q56 q57 q58 q59 q60 q61 q62 q63 q29 q30 q19 q20
 generalize (e 0).int = x0, (e 1).int = x1, (e 2).int = x2, (e 3).int = x3, (e 4).int = x4, (e 5).int = x5, (e 6).int = x6, (e 7).int = x7, (e 8).int = x8, (e 9).int = x9, (e 10).int = x10, (e 11).int = x11, (e 12).int = x12, (e 13).int = x13, e 14 = x14, (e 15).int = x15, (e 16).int = v16, (e 17).int = v17, (e 18).int = v18, (e 19).bool = v19, (e 20).bool = v20, (e 21).bool = v21, (e 22).bool = v22, (e 23).bool = v23, (e 24).bool = v24, (e 25).bool = v25, (e 26).bool = v26, (e 27).bool = v27, (e 28).bool = v28, (e 29).bool = v29, (e 30).bool = v30, (e 31).bool = v31, (e 32).int = v32, (e 33).int = v33, (e 34).bool = v34, (e 35).bool = v35, (e 36).int = v36, (e 37).bool = v37, (e 38).int = v38, (e 39).int = v39, (e 40).int = v40, (e 41).int = v41, (e 42).int = v42, (e 43).int = v43, (e 44).int = v44, (e 45).int = v45, (e 46).int = v46, (e 47).int = v47, (e 48).int = v48, (e 49).int = v49, (e 50).bool = v50, (e 51).int = v51, (e 52).int = v52, (e 53).int = v53, (e 54).int = v54, (e 55).int = v55, (e 56).int = v56, (e 57).int = v57, (e 58).int = v58, (e 59).int = v59, (e 60).int = v60, (e 61).int = v61, (e 62).int = v62, (e 63).bool = v63, (e 64).bool = v64, (e 65).bool = v65, (e 66).bool = v66, (e 67).bool = v67, (e 68).bool = v68, (e 69).bool = v69, (e 70).bool = v70, (e 71).bool = v71, (e 72).bool = v72, (e 73).bool = v73, (e 74).bool = v74, (e 75).int = v75, (e 76).int = v76, (e 77).int = v77, (e 78).int = v78, (e 79).int = v79, (e 80).int = v80, (e 81).int = v81, (e 82).int = v82, (e 83).int = v83, (e 84).int = v84, (e 85).int = v85, (e 86).int = v86, (e 87).bool = v87, (e 88).bool = v88, (e 89).bool = v89, (e 90).int = v90, (e 91).int = v91, (e 92).int = v92, (e 93).int = v93, (e 94).int = v94, (e 95).int = v95, (e 96).int = v96, (e 97).int = v97, (e 98).int = v98, (e 99).int = v99, (e 100).int = v100, (e 101).int = v101, (e 102).bool = v102 at *
 simp only [Bool.and_eq_true] at hp
 obtain ⟨⟨⟨hx, hi⟩, hw⟩, hok⟩ := hp
 obtain ⟨em, hR⟩ := Day.u8m_eq hx q16 q17 q18
 clear q16 q17 q18 em
 have hok2 : 0 ≤ x15 := by simp only [Day.Ls.ok, Bool.and_eq_true, decide_eq_true_eq] at hok; exact hok.1
 generalize hH : (Day.HB.mk [x1, x2, x3, x4, x5, x6, x7, x8] x9 x10 x11 x12) = h at *
 have g0 : x1 = h.a 0 ∧ x2 = h.a 1 ∧ x3 = h.a 2 ∧ x4 = h.a 3 ∧ x5 = h.a 4 ∧ x6 = h.a 5 ∧ x7 = h.a 6 ∧ x8 = h.a 7 ∧ x9 = h.port ∧ x10 = h.age ∧ x11 = h.hold ∧ x12 = h.pos := by subst hH; simp [Day.HB.a]
 obtain ⟨a1, a2, a3, a4, a5, a6, a7, a8, a9, a10, a11, a12⟩ := g0
 clear hH
 cases hr : Day.rightH v18 h with
 | false =>
  rw [hr] at q20
  subst_vars
  simp
 | true =>
  rw [hr] at q20
  have hn := Day.right_le hr
  by_cases c : x11 < 1
  ·subst_vars
   simp [c]
  ·by_cases c2 : 100 < x15
   ·subst_vars
    simp [c, c2]
   ·have h13 : 0 ≤ x13 ∧ x13 ≤ 255 := by simpa only [Day.u8, Bool.and_eq_true, decide_eq_true_eq] using hw
    have h33 : v33 = x13 := q33.trans (wrap64 (by omega) (by omega))
    have h36 : 0 ≤ v36 ∧ v36 < v18 := by
     rw [q36, h33]
     exact Day.rem_range h13.1 (by omega)
    have h32 : v32 = 2 * v18 := q32.trans (wrap64 (by omega) (by omega))
    have hs := Day.holdP_start (b := v36) hr
    rw [← a1, ← a2, ← a3, ← a4, ← a5, ← a6, ← a7, ← a8, ← a9, ← a10, ← a12, ← h32] at hs
    have hI : Day.inR 0 x15 = true := by rw [Day.inR_iff]; omega
    have hB : Day.inR v36 (v18 - 1) = true := by rw [Day.inR_iff]; omega
    have hC : Day.leB x15 100 = true := by rw [Day.leB_iff]; omega
    have h34 : v34 = true := by rw [q34]; simp; omega
    have h37 : v37 = true := by rw [q37, hs, hI, hB, hC]; rfl
    have h27 : v27 = false := by rw [q27, q26, q24, q23, q21, q20]; simp [c, c2]
    rw [h37] at q64
    rw [h34] at q35
    rw [h27] at q28
    clear q36 q33 q32 q37 q34 q27 q38 q39 q40 q41 q42 q43 q44 q45 q46 q47 q48 q49 q51 q52 q53 q54 q55 q56 q57 q58 q59 q60 q61 q62 hs
    subst_vars
    simp
end Rx.S
