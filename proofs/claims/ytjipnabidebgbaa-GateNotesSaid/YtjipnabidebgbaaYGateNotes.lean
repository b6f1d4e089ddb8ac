import Derived.Test.YtjipnabidebgbaaXc
import Derived.Test.YtjipnabidebgbaaXt
set_option linter.unusedVariables false
set_option linter.unusedSimpArgs false
namespace Rx.S
open Go Rx
set_option maxRecDepth 100000
set_option maxHeartbeats 1000000
set_option linter.unusedVariables false
set_option linter.unusedSimpArgs false
def lp_1770 : Lp := ⟨20, [false, true, false, true, true, true, true, true], 1770, 36, 2, 3, ⟨frS 93 [(0, .pv (.one (.k (.int .u8 (V 0))))), (1, .pv (.agg [.k (.int .i64 (V 1)), .k (.int .i64 (V 2)), .k (.int .i64 (V 3)), .k (.int .i64 (V 4)), .k (.int .i64 (V 5)), .k (.int .i64 (V 6)), .k (.int .i64 (V 7)), .k (.int .i64 (V 8)), .k (.int .i64 (V 9)), .k (.int .i64 (V 10)), .k (.int .i64 (V 11)), .k (.int .i64 (V 12))])), (2, .pv (.one (.k (.fsl 0 (V 13))))), (4, .pv (.one (.k (.ptr 1 0)))), (6, .pv (.one (.k (.bool (B false))))), (7, .pv (.one (.k (.int .i64 (V 14))))), (8, .pv (.one (.k (.ptr 2 0)))), (9, .pv (.one (.k (.int .i64 (V 15))))), (10, .pv (.one (.k (.int .i64 (V 16))))), (11, .pv (.one (.k (.int .u8 (V 0))))), (12, .pv (.one (.k (.int .u8 (V 17))))), (13, .pv (.one (.k (.int .i64 (V 18))))), (14, .pv (.one (.k (.int .i64 (V 14))))), (15, .pv (.one (.k (.fsl 0 (V 13))))), (16, .pv (.one (.k (.int .i64 (V 13))))), (17, .pv (.one (.k (.bool (V 19))))), (18, .pv (.one (.k (.bool (V 19))))), (23, .pv (.one (.k (.bool (V 20))))), (24, .pv (.one (.k (.bool (V 20))))), (29, .pv (.one (.k (.bool (V 21))))), (31, .tup [.agg [.k (.int .i64 (V 22)), .k (.int .i64 (V 23)), .k (.int .i64 (V 24)), .k (.int .i64 (V 25)), .k (.int .i64 (V 26)), .k (.int .i64 (V 27)), .k (.int .i64 (V 28)), .k (.int .i64 (V 29)), .k (.int .i64 (V 30)), .k (.int .i64 (V 31)), .k (.int .i64 (V 32)), .k (.int .i64 (V 33))], .one (.k (.int .i64 (V 15)))]), (32, .pv (.one (.k (.int .i64 (V 14))))), (33, .pv (.agg [.k (.int .i64 (V 1)), .k (.int .i64 (V 2)), .k (.int .i64 (V 3)), .k (.int .i64 (V 4)), .k (.int .i64 (V 5)), .k (.int .i64 (V 6)), .k (.int .i64 (V 7)), .k (.int .i64 (V 8)), .k (.int .i64 (V 9)), .k (.int .i64 (V 10)), .k (.int .i64 (V 11)), .k (.int .i64 (V 12))])), (34, .pv (.one (.k (.fsl 0 (V 13))))), (35, .tup [.agg [.k (.int .i64 (V 22)), .k (.int .i64 (V 23)), .k (.int .i64 (V 24)), .k (.int .i64 (V 25)), .k (.int .i64 (V 26)), .k (.int .i64 (V 27)), .k (.int .i64 (V 28)), .k (.int .i64 (V 29)), .k (.int .i64 (V 30)), .k (.int .i64 (V 31)), .k (.int .i64 (V 32)), .k (.int .i64 (V 33))], .one (.k (.int .i64 (V 15)))]), (36, .pv (.agg [.k (.int .i64 (V 22)), .k (.int .i64 (V 23)), .k (.int .i64 (V 24)), .k (.int .i64 (V 25)), .k (.int .i64 (V 26)), .k (.int .i64 (V 27)), .k (.int .i64 (V 28)), .k (.int .i64 (V 29)), .k (.int .i64 (V 30)), .k (.int .i64 (V 31)), .k (.int .i64 (V 32)), .k (.int .i64 (V 33))])), (37, .pv (.one (.k (.int .i64 (V 15))))), (38, .pv (.one (.k (.int .i64 (V 15))))), (39, .pv (.one (.k (.bool (V 34)))))], [⟨false, 0, 0, [], some ⟨false, 0, [.int .i64, .int .i64], V 35, V 13⟩⟩, ⟨true, 77, 12, [.k (.int .i64 (V 1)), .k (.int .i64 (V 2)), .k (.int .i64 (V 3)), .k (.int .i64 (V 4)), .k (.int .i64 (V 5)), .k (.int .i64 (V 6)), .k (.int .i64 (V 7)), .k (.int .i64 (V 8)), .k (.int .i64 (V 9)), .k (.int .i64 (V 10)), .k (.int .i64 (V 11)), .k (.int .i64 (V 12))], none⟩, ⟨true, 77, 12, [.k (.int .i64 (V 22)), .k (.int .i64 (V 23)), .k (.int .i64 (V 24)), .k (.int .i64 (V 25)), .k (.int .i64 (V 26)), .k (.int .i64 (V 27)), .k (.int .i64 (V 28)), .k (.int .i64 (V 29)), .k (.int .i64 (V 30)), .k (.int .i64 (V 31)), .k (.int .i64 (V 32)), .k (.int .i64 (V 33))], none⟩], B true⟩, [(.ret, ⟨frS 93 [(0, .pv (.one (.k (.int .u8 (V 0))))), (1, .pv (.agg [.k (.int .i64 (V 1)), .k (.int .i64 (V 2)), .k (.int .i64 (V 3)), .k (.int .i64 (V 4)), .k (.int .i64 (V 5)), .k (.int .i64 (V 6)), .k (.int .i64 (V 7)), .k (.int .i64 (V 8)), .k (.int .i64 (V 9)), .k (.int .i64 (V 10)), .k (.int .i64 (V 11)), .k (.int .i64 (V 12))])), (2, .pv (.one (.k (.fsl 0 (V 13))))), (4, .pv (.one (.k (.ptr 1 0)))), (6, .pv (.one (.k (.bool (B false))))), (7, .pv (.one (.k (.int .i64 (V 14))))), (8, .pv (.one (.k (.ptr 2 0)))), (9, .pv (.one (.k (.int .i64 (V 15))))), (11, .pv (.one (.k (.int .u8 (V 0))))), (12, .pv (.one (.k (.int .u8 (V 17))))), (13, .pv (.one (.k (.int .i64 (V 18))))), (14, .pv (.one (.k (.int .i64 (V 14))))), (15, .pv (.one (.k (.fsl 0 (V 13))))), (16, .pv (.one (.k (.int .i64 (V 13))))), (17, .pv (.one (.k (.bool (V 19))))), (18, .pv (.one (.k (.bool (V 19))))), (23, .pv (.one (.k (.bool (V 20))))), (24, .pv (.one (.k (.bool (V 20))))), (29, .pv (.one (.k (.bool (V 21))))), (31, .tup [.agg [.k (.int .i64 (V 22)), .k (.int .i64 (V 23)), .k (.int .i64 (V 24)), .k (.int .i64 (V 25)), .k (.int .i64 (V 26)), .k (.int .i64 (V 27)), .k (.int .i64 (V 28)), .k (.int .i64 (V 29)), .k (.int .i64 (V 30)), .k (.int .i64 (V 31)), .k (.int .i64 (V 32)), .k (.int .i64 (V 33))], .one (.k (.int .i64 (V 15)))]), (32, .pv (.one (.k (.int .i64 (V 14))))), (33, .pv (.agg [.k (.int .i64 (V 1)), .k (.int .i64 (V 2)), .k (.int .i64 (V 3)), .k (.int .i64 (V 4)), .k (.int .i64 (V 5)), .k (.int .i64 (V 6)), .k (.int .i64 (V 7)), .k (.int .i64 (V 8)), .k (.int .i64 (V 9)), .k (.int .i64 (V 10)), .k (.int .i64 (V 11)), .k (.int .i64 (V 12))])), (34, .pv (.one (.k (.fsl 0 (V 13))))), (35, .tup [.agg [.k (.int .i64 (V 22)), .k (.int .i64 (V 23)), .k (.int .i64 (V 24)), .k (.int .i64 (V 25)), .k (.int .i64 (V 26)), .k (.int .i64 (V 27)), .k (.int .i64 (V 28)), .k (.int .i64 (V 29)), .k (.int .i64 (V 30)), .k (.int .i64 (V 31)), .k (.int .i64 (V 32)), .k (.int .i64 (V 33))], .one (.k (.int .i64 (V 15)))]), (36, .pv (.agg [.k (.int .i64 (V 22)), .k (.int .i64 (V 23)), .k (.int .i64 (V 24)), .k (.int .i64 (V 25)), .k (.int .i64 (V 26)), .k (.int .i64 (V 27)), .k (.int .i64 (V 28)), .k (.int .i64 (V 29)), .k (.int .i64 (V 30)), .k (.int .i64 (V 31)), .k (.int .i64 (V 32)), .k (.int .i64 (V 33))])), (37, .pv (.one (.k (.int .i64 (V 15))))), (38, .pv (.one (.k (.int .i64 (V 15))))), (39, .pv (.one (.k (.bool (V 34)))))], [⟨false, 0, 0, [], some ⟨false, 0, [.int .i64, .int .i64], V 35, V 13⟩⟩, ⟨true, 77, 12, [.k (.int .i64 (V 1)), .k (.int .i64 (V 2)), .k (.int .i64 (V 3)), .k (.int .i64 (V 4)), .k (.int .i64 (V 5)), .k (.int .i64 (V 6)), .k (.int .i64 (V 7)), .k (.int .i64 (V 8)), .k (.int .i64 (V 9)), .k (.int .i64 (V 10)), .k (.int .i64 (V 11)), .k (.int .i64 (V 12))], none⟩, ⟨true, 77, 12, [.k (.int .i64 (V 22)), .k (.int .i64 (V 23)), .k (.int .i64 (V 24)), .k (.int .i64 (V 25)), .k (.int .i64 (V 26)), .k (.int .i64 (V 27)), .k (.int .i64 (V 28)), .k (.int .i64 (V 29)), .k (.int .i64 (V 30)), .k (.int .i64 (V 31)), .k (.int .i64 (V 32)), .k (.int .i64 (V 33))], none⟩], V 36⟩), (.exit 0, ⟨frS 93 [(0, .pv (.one (.k (.int .u8 (V 0))))), (1, .pv (.agg [.k (.int .i64 (V 1)), .k (.int .i64 (V 2)), .k (.int .i64 (V 3)), .k (.int .i64 (V 4)), .k (.int .i64 (V 5)), .k (.int .i64 (V 6)), .k (.int .i64 (V 7)), .k (.int .i64 (V 8)), .k (.int .i64 (V 9)), .k (.int .i64 (V 10)), .k (.int .i64 (V 11)), .k (.int .i64 (V 12))])), (2, .pv (.one (.k (.fsl 0 (V 13))))), (4, .pv (.one (.k (.ptr 1 0)))), (6, .pv (.one (.k (.bool (B false))))), (7, .pv (.one (.k (.int .i64 (V 14))))), (8, .pv (.one (.k (.ptr 2 0)))), (9, .pv (.one (.k (.int .i64 (V 15))))), (11, .pv (.one (.k (.int .u8 (V 0))))), (12, .pv (.one (.k (.int .u8 (V 17))))), (13, .pv (.one (.k (.int .i64 (V 18))))), (14, .pv (.one (.k (.int .i64 (V 14))))), (15, .pv (.one (.k (.fsl 0 (V 13))))), (16, .pv (.one (.k (.int .i64 (V 13))))), (17, .pv (.one (.k (.bool (V 19))))), (18, .pv (.one (.k (.bool (V 19))))), (23, .pv (.one (.k (.bool (V 20))))), (24, .pv (.one (.k (.bool (V 20))))), (29, .pv (.one (.k (.bool (V 21))))), (31, .tup [.agg [.k (.int .i64 (V 22)), .k (.int .i64 (V 23)), .k (.int .i64 (V 24)), .k (.int .i64 (V 25)), .k (.int .i64 (V 26)), .k (.int .i64 (V 27)), .k (.int .i64 (V 28)), .k (.int .i64 (V 29)), .k (.int .i64 (V 30)), .k (.int .i64 (V 31)), .k (.int .i64 (V 32)), .k (.int .i64 (V 33))], .one (.k (.int .i64 (V 15)))]), (32, .pv (.one (.k (.int .i64 (V 14))))), (33, .pv (.agg [.k (.int .i64 (V 1)), .k (.int .i64 (V 2)), .k (.int .i64 (V 3)), .k (.int .i64 (V 4)), .k (.int .i64 (V 5)), .k (.int .i64 (V 6)), .k (.int .i64 (V 7)), .k (.int .i64 (V 8)), .k (.int .i64 (V 9)), .k (.int .i64 (V 10)), .k (.int .i64 (V 11)), .k (.int .i64 (V 12))])), (34, .pv (.one (.k (.fsl 0 (V 13))))), (35, .tup [.agg [.k (.int .i64 (V 22)), .k (.int .i64 (V 23)), .k (.int .i64 (V 24)), .k (.int .i64 (V 25)), .k (.int .i64 (V 26)), .k (.int .i64 (V 27)), .k (.int .i64 (V 28)), .k (.int .i64 (V 29)), .k (.int .i64 (V 30)), .k (.int .i64 (V 31)), .k (.int .i64 (V 32)), .k (.int .i64 (V 33))], .one (.k (.int .i64 (V 15)))]), (36, .pv (.agg [.k (.int .i64 (V 22)), .k (.int .i64 (V 23)), .k (.int .i64 (V 24)), .k (.int .i64 (V 25)), .k (.int .i64 (V 26)), .k (.int .i64 (V 27)), .k (.int .i64 (V 28)), .k (.int .i64 (V 29)), .k (.int .i64 (V 30)), .k (.int .i64 (V 31)), .k (.int .i64 (V 32)), .k (.int .i64 (V 33))])), (37, .pv (.one (.k (.int .i64 (V 15))))), (38, .pv (.one (.k (.int .i64 (V 15))))), (39, .pv (.one (.k (.bool (V 34)))))], [⟨false, 0, 0, [], some ⟨false, 0, [.int .i64, .int .i64], V 35, V 13⟩⟩, ⟨true, 77, 12, [.k (.int .i64 (V 1)), .k (.int .i64 (V 2)), .k (.int .i64 (V 3)), .k (.int .i64 (V 4)), .k (.int .i64 (V 5)), .k (.int .i64 (V 6)), .k (.int .i64 (V 7)), .k (.int .i64 (V 8)), .k (.int .i64 (V 9)), .k (.int .i64 (V 10)), .k (.int .i64 (V 11)), .k (.int .i64 (V 12))], none⟩, ⟨true, 77, 12, [.k (.int .i64 (V 22)), .k (.int .i64 (V 23)), .k (.int .i64 (V 24)), .k (.int .i64 (V 25)), .k (.int .i64 (V 26)), .k (.int .i64 (V 27)), .k (.int .i64 (V 28)), .k (.int .i64 (V 29)), .k (.int .i64 (V 30)), .k (.int .i64 (V 31)), .k (.int .i64 (V 32)), .k (.int .i64 (V 33))], none⟩], V 37⟩)], [true, true, true, true, true, true, true, true, true, true, true, true, true, true, true, true, false, true, true, true, true, true, true, true, true, true, true, true, true, true, true, true, true, true, true, true], [.b, .b]⟩
def g_L1770 : G := ⟨80, [⟨79, .and, [V 36, V 77]⟩, ⟨78, .and, [V 36, V 74]⟩, ⟨77, .and, [V 76, V 73]⟩, ⟨76, .not, [V 74]⟩, ⟨75, (.ar .add .i64), [V 16, N 1]⟩, ⟨74, .and, [V 70, V 72]⟩, ⟨73, .and, [V 69, V 71]⟩, ⟨72, .and, [V 36, V 70]⟩, ⟨71, .and, [V 36, V 69]⟩, ⟨70, .not, [V 69]⟩, ⟨69, .iteB, [V 58, B true, V 68]⟩, ⟨68, .iteB, [V 62, V 67, B false]⟩, ⟨67, (.cmp .neq), [V 48, V 66]⟩, ⟨66, .sel, [V 16, V 1, V 2, V 3, V 4, V 5, V 6, V 7, V 8]⟩, ⟨65, .imp, [V 64, V 46]⟩, ⟨64, .and, [V 63, V 59]⟩, ⟨63, .and, [V 36, V 62]⟩, ⟨62, (.cmp .neq), [V 42, N 2]⟩, ⟨61, .imp, [V 60, V 40]⟩, ⟨60, .and, [V 36, V 59]⟩, ⟨59, .not, [V 58]⟩, ⟨58, .iteB, [V 43, V 57, B false]⟩, ⟨57, .iteB, [V 49, B true, V 56]⟩, ⟨56, (.cmp .lss), [V 54, N 1]⟩, ⟨55, .imp, [V 52, V 53]⟩, ⟨53, (.call 101), [V 14, V 22, V 23, V 24, V 25, V 26, V 27, V 28, V 29, V 30, V 31, V 32, V 33, V 16]⟩, ⟨52, .and, [V 51, V 43]⟩, ⟨51, .and, [V 36, V 50]⟩, ⟨50, .not, [V 49]⟩, ⟨49, (.cmp .neq), [V 48, N 0]⟩, ⟨48, .sel, [V 16, V 22, V 23, V 24, V 25, V 26, V 27, V 28, V 29]⟩, ⟨47, .imp, [V 44, V 46]⟩, ⟨46, .and, [V 38, V 45]⟩, ⟨45, (.cmp .lss), [V 16, N 8]⟩, ⟨44, .and, [V 36, V 43]⟩, ⟨43, (.cmp .eql), [V 42, N 2]⟩, ⟨42, (.pix 0 2), [V 35, V 16]⟩, ⟨41, .imp, [V 36, V 40]⟩, ⟨40, .and, [V 38, V 39]⟩, ⟨39, (.cmp .lss), [V 16, V 13]⟩, ⟨38, (.cmp .leq), [N 0, V 16]⟩, ⟨37, .not, [V 36]⟩, ⟨36, (.cmp .lss), [V 16, V 14]⟩], [V 65, V 65, V 61, V 55, V 47, V 41], []⟩
def m_1770 (al : List A) : Nat := ((gi al 14) - (gi al 16)).toNat
theorem lpureQ_1770 (e : Nat → A) (H : FactsQ T e g_L1770.defs) (hp : (Day.notesP (e 14).int (Day.HB.mk [(e 1).int, (e 2).int, (e 3).int, (e 4).int, (e 5).int, (e 6).int, (e 7).int, (e 8).int] (e 9).int (e 10).int (e 11).int (e 12).int) (Day.Ls.mk (e 35) (e 13).int) (Day.HB.mk [(e 22).int, (e 23).int, (e 24).int, (e 25).int, (e 26).int, (e 27).int, (e 28).int, (e 29).int] (e 30).int (e 31).int (e 32).int (e 33).int) (e 16).int) = true) :
    ((e 65).bool = true ∧ (e 65).bool = true ∧ (e 61).bool = true ∧ (e 55).bool = true ∧ (e 47).bool = true ∧ (e 41).bool = true) ∧ ((e 78).bool = true → (Day.notesP (e 14).int (Day.HB.mk [(e 1).int, (e 2).int, (e 3).int, (e 4).int, (e 5).int, (e 6).int, (e 7).int, (e 8).int] (e 9).int (e 10).int (e 11).int (e 12).int) (Day.Ls.mk (e 35) (e 13).int) (Day.HB.mk [(e 22).int, (e 23).int, (e 24).int, (e 25).int, (e 26).int, (e 27).int, (e 28).int, (e 29).int] (e 30).int (e 31).int (e 32).int (e 33).int) (e 75).int) = true ∧ (false = false ∧ true = true) ∧ ((e 14).int - (e 75).int).toNat < ((e 14).int - (e 16).int).toNat) ∧ ((e 79).bool = true → true = false) ∧ ((e 37).bool = true → true = true) := by
  simp only [g_L1770, FactsQ, Def.q, updQ, L.ev_var, L.ev_n, L.ev_t, L.ev_e, L.ev, A.int_i, A.bool_b, A.str_v, A.els_l, List.map_cons, List.map_nil, Nat.zero_add, Nat.add_zero, and_true, true_and, Nat.reduceAdd, Nat.one_mul] at H
  simp only [arI, dvI, btI, cmpI, shI, ifQ, updV, ltQ, and_true, true_and] at H
  obtain ⟨q79, q78, q77, q76, ⟨q75, -⟩, q74, q73, q72, q71, q70, q69, q68, q67, q66, q65, q64, q63, q62, q61, q60, q59, q58, q57, q56, q55, q53, q52, q51, q50, q49, q48, q47, q46, q45, q44, q43, q42, q41, q40, q39, q38, q37, q36⟩ := H
  replace q53 := out_ref11_Votes q53
  obtain ⟨q53, q54⟩ := q53
  simp only [L.ev_var, L.ev_n, L.ev_t, L.ev_e, L.ev, A.int_i, A.bool_b, A.str_v] at q53 q54
  generalize (e 0).int = x0, (e 1).int = x1, (e 2).int = x2, (e 3).int = x3, (e 4).int = x4, (e 5).int = x5, (e 6).int = x6, (e 7).int = x7, (e 8).int = x8, (e 9).int = x9, (e 10).int = x10, (e 11).int = x11, (e 12).int = x12, (e 13).int = x13, (e 14).int = x14, (e 15).int = x15, (e 16).int = x16, (e 17).int = x17, (e 18).int = x18, (e 19).int = x19, (e 20).int = x20, (e 21).int = x21, (e 22).int = x22, (e 23).int = x23, (e 24).int = x24, (e 25).int = x25, (e 26).int = x26, (e 27).int = x27, (e 28).int = x28, (e 29).int = x29, (e 30).int = x30, (e 31).int = x31, (e 32).int = x32, (e 33).int = x33, (e 34).int = x34, e 35 = x35, (e 36).bool = v36, (e 37).bool = v37, (e 38).bool = v38, (e 39).bool = v39, (e 40).bool = v40, (e 41).bool = v41, (e 43).bool = v43, (e 44).bool = v44, (e 45).bool = v45, (e 46).bool = v46, (e 47).bool = v47, (e 48).int = v48, (e 49).bool = v49, (e 50).bool = v50, (e 51).bool = v51, (e 52).bool = v52, (e 53).bool = v53, (e 54).int = v54, (e 55).bool = v55, (e 56).bool = v56, (e 57).bool = v57, (e 58).bool = v58, (e 59).bool = v59, (e 60).bool = v60, (e 61).bool = v61, (e 62).bool = v62, (e 63).bool = v63, (e 64).bool = v64, (e 65).bool = v65, (e 66).int = v66, (e 67).bool = v67, (e 68).bool = v68, (e 69).bool = v69, (e 70).bool = v70, (e 71).bool = v71, (e 72).bool = v72, (e 73).bool = v73, (e 74).bool = v74, (e 75).int = v75, (e 76).bool = v76, (e 77).bool = v77, (e 78).bool = v78, (e 79).bool = v79 at *
  replace q42 := congrArg A.int q42
  generalize (e 42).int = v42 at *
  replace q48 : v48 = ((Day.HB.mk [x22, x23, x24, x25, x26, x27, x28, x29] x30 x31 x32 x33)).a x16.toNat := q48
  replace q66 : v66 = ((Day.HB.mk [x1, x2, x3, x4, x5, x6, x7, x8] x9 x10 x11 x12)).a x16.toNat := q66
  generalize (Day.HB.mk [x22, x23, x24, x25, x26, x27, x28, x29] x30 x31 x32 x33) = x at *
  generalize (Day.HB.mk [x1, x2, x3, x4, x5, x6, x7, x8] x9 x10 x11 x12) = h at *
  generalize hq : Day.Ls.mk x35 x13 = q at *
  have hn0 : x13 = q.n := by rw [← hq]
  have hk : ∀ p, q.k p = (x35.els.getD (2 * p.toNat) (.i 0)).int := fun p => by rw [← hq]; rfl
  have hd : ∀ p, q.d p = (x35.els.getD (1 + 2 * p.toNat) (.i 0)).int := fun p => by rw [← hq]; rfl
  clear hq
  rw [← hk] at q42
  clear hk hd
  have hn := Day.notes_n hp
  by_cases hlt : x16 < x14
  · obtain ⟨z1, z2, z3, z4, z5, z6, z7⟩ := Day.notes_at hp hlt
    have w : IntKind.wrap .i64 (x16 + 1) = x16 + 1 := wrap64 (by omega) (by omega)
    have hx13 : x13 = x14 := hn0.trans z1
    clear hn0
    have e58 : v58 = false := by
      rw [q58, q57, q56, q54, q49, q48, q43, q42, z6]
      by_cases ck : q.k x16 = 2
      · have := z7 ck
        simp [ck]; omega
      · simp [ck]
    have e68 : v68 = false := by
      rw [q68, q67, q66, q62, q48, q42, z6]
      by_cases ck : q.k x16 = 2
      · simp [ck]
      · simp [ck]
    clear q58 q68
    subst_vars
    simp [hlt, w, z2, z3, z4]
    omega
  · subst_vars
    simp [hlt]
theorem lpure_1770 (as : List A) (e : Nat → A) (h1 : as = (List.range 36).map e) (h2 : (t_1770 as).1 = true) (H : FactsQ T e g_L1770.defs) : ObsAll e g_L1770.obs ∧
      (∀ pc ls, some (V 78, [V 0, V 1, V 2, V 3, V 4, V 5, V 6, V 7, V 8, V 9, V 10, V 11, V 12, V 13, V 14, V 15, V 75, V 17, V 18, V 19, V 20, V 21, V 22, V 23, V 24, V 25, V 26, V 27, V 28, V 29, V 30, V 31, V 32, V 33, V 34, V 35]) = some (pc, ls) → (pc.ev e).bool = true → (t_1770 (ls.map (L.ev e))).1 = true ∧ (t_1770 (ls.map (L.ev e))).2 = (t_1770 as).2 ∧ m_1770 (ls.map (L.ev e)) < m_1770 as) ∧
      ∀ x ∈ ([(V 79, [some (B true), none]), (V 37, [none, some (B true)])] : List (L × List (Option L))), (x.1.ev e).bool = true → ∀ (j : Nat) l, x.2[j]? = some (some l) → Teq (lp_1770.tags.getD j .any) (l.ev e) ((t_1770 as).2.getD j (.i 0)) := by
  subst h1
  obtain ⟨ho, h⟩ := lpureQ_1770 e H h2
  refine ⟨⟨ho.1, ho.2.1, ho.2.2.1, ho.2.2.2.1, ho.2.2.2.2.1, ho.2.2.2.2.2, trivial⟩, fun pc ls hb hpc => ?_, ?_⟩
  · injection hb with hb
    injection hb with h3 h4
    subst h3 h4
    have h := h.1 hpc
    refine ⟨h.1, ?_, h.2.2⟩
    have h5 := h.2.1
    show ([.b (false), .b (true)] : List A) = [.b (false), .b (true)]
    obtain ⟨z0, z1⟩ := h5
    simp only [z0, z1]
  · intro x hx hpc j l hj
    simp only [List.mem_cons, List.not_mem_nil, or_false] at hx
    rcases hx with rfl | rfl
    · have h := h.2.1 hpc
      have z0 := h
      match j, hj with
      | 0, hj => injection hj with hj; injection hj with hj; subst hj; exact z0
      | 1, hj => injection hj with hj; cases hj
      | _ + 2, hj => cases hj
    · have h := h.2.2 hpc
      have z1 := h
      match j, hj with
      | 0, hj => injection hj with hj; cases hj
      | 1, hj => injection hj with hj; injection hj with hj; subst hj; exact z1
      | _ + 2, hj => cases hj
def g_law12_GateNotes : G := ⟨118, [⟨117, .iteB, [V 31, V 114, V 30]⟩, ⟨116, .iteB, [V 31, V 105, V 33]⟩, ⟨115, .not, [V 31]⟩, ⟨114, .iteB, [V 55, V 103, V 54]⟩, ⟨113, .iteI, [V 55, V 102, V 43]⟩, ⟨112, .iteI, [V 55, V 101, V 42]⟩, ⟨111, .iteI, [V 55, V 100, V 41]⟩, ⟨110, .iteI, [V 55, V 99, V 40]⟩, ⟨109, .iteI, [V 55, V 98, V 39]⟩, ⟨108, .iteI, [V 55, V 97, V 38]⟩, ⟨107, .iteI, [V 55, V 96, V 37]⟩, ⟨106, .iteI, [V 55, V 95, V 36]⟩, ⟨105, .iteB, [V 55, V 94, B false]⟩, ⟨104, .not, [V 55]⟩, ⟨103, .iteB, [V 64, V 64, V 63]⟩, ⟨102, .iteI, [V 64, V 8, V 43]⟩, ⟨101, .iteI, [V 64, V 7, V 42]⟩, ⟨100, .iteI, [V 64, V 6, V 41]⟩, ⟨99, .iteI, [V 64, V 5, V 40]⟩, ⟨98, .iteI, [V 64, V 4, V 39]⟩, ⟨97, .iteI, [V 64, V 3, V 38]⟩, ⟨96, .iteI, [V 64, V 2, V 37]⟩, ⟨95, .iteI, [V 64, V 1, V 36]⟩, ⟨94, .iteB, [V 64, V 92, B false]⟩, ⟨93, .not, [V 64]⟩, ⟨92, .iteB, [V 66, V 91, B false]⟩, ⟨91, .and, [V 90, V 89]⟩, ⟨90, (.cmp .eql), [V 1, V 1]⟩, ⟨89, .and, [V 88, V 87]⟩, ⟨88, (.cmp .eql), [V 2, V 2]⟩, ⟨87, .and, [V 86, V 85]⟩, ⟨86, (.cmp .eql), [V 3, V 3]⟩, ⟨85, .and, [V 84, V 83]⟩, ⟨84, (.cmp .eql), [V 4, V 4]⟩, ⟨83, .and, [V 82, V 81]⟩, ⟨82, (.cmp .eql), [V 5, V 5]⟩, ⟨81, .and, [V 80, V 79]⟩, ⟨80, (.cmp .eql), [V 6, V 6]⟩, ⟨79, .and, [V 78, V 77]⟩, ⟨78, (.cmp .eql), [V 7, V 7]⟩, ⟨77, .and, [V 76, V 75]⟩, ⟨76, (.cmp .eql), [V 8, V 8]⟩, ⟨75, .and, [V 74, V 73]⟩, ⟨74, (.cmp .eql), [V 44, V 9]⟩, ⟨73, .and, [V 72, V 71]⟩, ⟨72, (.cmp .eql), [V 45, V 10]⟩, ⟨71, .and, [V 70, V 69]⟩, ⟨70, (.cmp .eql), [V 46, V 11]⟩, ⟨69, (.cmp .eql), [V 47, V 12]⟩, ⟨68, .and, [V 64, V 66]⟩, ⟨67, .imp, [V 64, V 65]⟩, ⟨65, (.call 103), []⟩, ⟨64, .and, [V 55, V 58]⟩, ⟨63, .and, [V 55, V 57]⟩, ⟨62, .imp, [V 55, V 61]⟩, ⟨61, .not, [V 60]⟩, ⟨60, .and, [V 57, V 58]⟩, ⟨59, .imp, [V 55, V 56]⟩, ⟨56, (.call 1770), [V 0, V 1, V 2, V 3, V 4, V 5, V 6, V 7, V 8, V 9, V 10, V 11, V 12, V 14, V 17, V 48, N 0, V 15, V 16, V 18, V 24, V 30, V 36, V 37, V 38, V 39, V 40, V 41, V 42, V 43, V 44, V 45, V 46, V 47, V 50, V 13]⟩, ⟨55, .and, [V 51, V 53]⟩, ⟨54, .and, [V 50, V 52]⟩, ⟨53, .and, [V 31, V 51]⟩, ⟨52, .and, [V 31, V 50]⟩, ⟨51, .not, [V 50]⟩, ⟨50, (.cmp .neq), [V 48, N 0]⟩, ⟨49, .imp, [V 31, V 35]⟩, ⟨35, (.call 106), [V 17, V 1, V 2, V 3, V 4, V 5, V 6, V 7, V 8, V 9, V 10, V 11, V 12, V 13, V 14]⟩, ⟨34, .imp, [V 30, V 32]⟩, ⟨32, (.call 103), []⟩, ⟨31, .not, [V 30]⟩, ⟨30, .iteB, [V 24, B true, V 29]⟩, ⟨29, .not, [V 27]⟩, ⟨28, .imp, [V 25, V 26]⟩, ⟨26, (.call 102), [V 17, V 13, V 14]⟩, ⟨25, .not, [V 24]⟩, ⟨24, .iteB, [V 18, B true, V 23]⟩, ⟨23, .not, [V 21]⟩, ⟨22, .imp, [V 19, V 20]⟩, ⟨20, (.call 97), [V 17, V 1, V 2, V 3, V 4, V 5, V 6, V 7, V 8, V 9, V 10, V 11, V 12]⟩, ⟨19, .not, [V 18]⟩, ⟨18, (.cmp .gtr), [V 14, N 20]⟩, ⟨17, (.ar .add .i64), [N 3, V 16]⟩, ⟨16, (.conv .i64), [V 15]⟩, ⟨15, (.dv .rem .u8), [V 0, N 6]⟩], [V 67, V 62, V 59, V 49, V 34, V 28, V 22], []⟩
theorem pure_law12_GateNotes (e : Nat → A) (H : FactsQ T e g_law12_GateNotes.defs) (hp : (Day.u8 (e 0).int && Day.HB.i64 (Day.HB.mk [(e 1).int, (e 2).int, (e 3).int, (e 4).int, (e 5).int, (e 6).int, (e 7).int, (e 8).int] (e 9).int (e 10).int (e 11).int (e 12).int) && Day.Ls.ok (Day.Ls.mk (e 13) (e 14).int)) = true) :
    ((e 67).bool = true ∧ (e 62).bool = true ∧ (e 59).bool = true ∧ (e 49).bool = true ∧ (e 34).bool = true ∧ (e 28).bool = true ∧ (e 22).bool = true) ∧ (true = (e 116).bool) := by
  simp only [g_law12_GateNotes, FactsQ, Def.q, updQ, L.ev_var, L.ev_n, L.ev_t, L.ev_e, L.ev, A.int_i, A.bool_b, A.str_v, A.els_l, List.map_cons, List.map_nil, Nat.zero_add, Nat.add_zero, and_true, true_and, Nat.reduceAdd, Nat.one_mul] at H
  simp only [arI, dvI, btI, cmpI, shI, ifQ, updV, ltQ, and_true, true_and] at H
  obtain ⟨q117, q116, q115, q114, ⟨q113, -⟩, ⟨q112, -⟩, ⟨q111, -⟩, ⟨q110, -⟩, ⟨q109, -⟩, ⟨q108, -⟩, ⟨q107, -⟩, ⟨q106, -⟩, q105, q104, q103, ⟨q102, -⟩, ⟨q101, -⟩, ⟨q100, -⟩, ⟨q99, -⟩, ⟨q98, -⟩, ⟨q97, -⟩, ⟨q96, -⟩, ⟨q95, -⟩, q94, q93, q92, q91, q90, q89, q88, q87, q86, q85, q84, q83, q82, q81, q80, q79, q78, q77, q76, q75, q74, q73, q72, q71, q70, q69, q68, q67, q65, q64, q63, q62, q61, q60, q59, q56, q55, q54, q53, q52, q51, q50, q49, q35, q34, q32, q31, q30, q29, q28, q26, q25, q24, q23, q22, q20, q19, q18, ⟨q17, -⟩, ⟨q16, -⟩, q15⟩ := H
  replace q65 := out_law12_awake q65
  obtain ⟨q65, q66⟩ := q65
  replace q56 := out_L1770 q56
  obtain ⟨q56, q57, q58⟩ := q56
  replace q35 := out_gate_Note q35
  obtain ⟨q35, q36, q37, q38, q39, q40, q41, q42, q43, q44, q45, q46, q47, q48⟩ := q35
  replace q32 := out_law12_awake q32
  obtain ⟨q32, q33⟩ := q32
  replace q26 := out_ref12_Fits q26
  obtain ⟨q26, q27⟩ := q26
  replace q20 := out_ref11_Right q20
  obtain ⟨q20, q21⟩ := q20
  simp only [L.ev_var, L.ev_n, L.ev_t, L.ev_e, L.ev, A.int_i, A.bool_b, A.str_v] at q65 q66 q56 q57 q58 q35 q36 q37 q38 q39 q40 q41 q42 q43 q44 q45 q46 q47 q48 q32 q33 q26 q27 q20 q21
  generalize (e 0).int = x0, (e 1).int = x1, (e 2).int = x2, (e 3).int = x3, (e 4).int = x4, (e 5).int = x5, (e 6).int = x6, (e 7).int = x7, (e 8).int = x8, (e 9).int = x9, (e 10).int = x10, (e 11).int = x11, (e 12).int = x12, e 13 = x13, (e 14).int = x14, (e 15).int = v15, (e 16).int = v16, (e 17).int = v17, (e 18).bool = v18, (e 19).bool = v19, (e 20).bool = v20, (e 21).bool = v21, (e 22).bool = v22, (e 23).bool = v23, (e 24).bool = v24, (e 25).bool = v25, (e 26).bool = v26, (e 27).bool = v27, (e 28).bool = v28, (e 29).bool = v29, (e 30).bool = v30, (e 31).bool = v31, (e 32).bool = v32, (e 33).bool = v33, (e 34).bool = v34, (e 35).bool = v35, (e 36).int = v36, (e 37).int = v37, (e 38).int = v38, (e 39).int = v39, (e 40).int = v40, (e 41).int = v41, (e 42).int = v42, (e 43).int = v43, (e 44).int = v44, (e 45).int = v45, (e 46).int = v46, (e 47).int = v47, (e 48).int = v48, (e 49).bool = v49, (e 50).bool = v50, (e 51).bool = v51, (e 52).bool = v52, (e 53).bool = v53, (e 54).bool = v54, (e 55).bool = v55, (e 56).bool = v56, (e 57).bool = v57, (e 58).bool = v58, (e 59).bool = v59, (e 60).bool = v60, (e 61).bool = v61, (e 62).bool = v62, (e 63).bool = v63, (e 64).bool = v64, (e 65).bool = v65, (e 66).bool = v66, (e 67).bool = v67, (e 68).bool = v68, (e 69).bool = v69, (e 70).bool = v70, (e 71).bool = v71, (e 72).bool = v72, (e 73).bool = v73, (e 74).bool = v74, (e 75).bool = v75, (e 76).bool = v76, (e 77).bool = v77, (e 78).bool = v78, (e 79).bool = v79, (e 80).bool = v80, (e 81).bool = v81, (e 82).bool = v82, (e 83).bool = v83, (e 84).bool = v84, (e 85).bool = v85, (e 86).bool = v86, (e 87).bool = v87, (e 88).bool = v88, (e 89).bool = v89, (e 90).bool = v90, (e 91).bool = v91, (e 92).bool = v92, (e 93).bool = v93, (e 94).bool = v94, (e 95).int = v95, (e 96).int = v96, (e 97).int = v97, (e 98).int = v98, (e 99).int = v99, (e 100).int = v100, (e 101).int = v101, (e 102).int = v102, (e 103).bool = v103, (e 104).bool = v104, (e 105).bool = v105, (e 106).int = v106, (e 107).int = v107, (e 108).int = v108, (e 109).int = v109, (e 110).int = v110, (e 111).int = v111, (e 112).int = v112, (e 113).int = v113, (e 114).bool = v114, (e 115).bool = v115, (e 116).bool = v116, (e 117).bool = v117 at *
  simp only [Bool.and_eq_true] at hp
  obtain ⟨⟨hx, hi⟩, hok⟩ := hp
  obtain ⟨em, hR⟩ := Day.u8m_eq hx q15 q16 q17
  clear q15 q16 q17 em
  generalize hH : (Day.HB.mk [x1, x2, x3, x4, x5, x6, x7, x8] x9 x10 x11 x12) = h at *
  have g0 : x1 = h.a 0 ∧ x2 = h.a 1 ∧ x3 = h.a 2 ∧ x4 = h.a 3 ∧ x5 = h.a 4 ∧ x6 = h.a 5 ∧ x7 = h.a 6 ∧ x8 = h.a 7 ∧ x9 = h.port ∧ x10 = h.age ∧ x11 = h.hold ∧ x12 = h.pos := by subst hH; simp [Day.HB.a]
  obtain ⟨a1, a2, a3, a4, a5, a6, a7, a8, a9, a10, a11, a12⟩ := g0
  clear hH
  generalize hq : Day.Ls.mk x13 x14 = q at *
  have hn0 : x14 = q.n := by rw [← hq]
  have hk : ∀ p, q.k p = (x13.els.getD (2 * p.toNat) (.i 0)).int := fun p => by rw [← hq]; rfl
  have hd : ∀ p, q.d p = (x13.els.getD (1 + 2 * p.toNat) (.i 0)).int := fun p => by rw [← hq]; rfl
  clear hq
  clear hk hd
  cases hr : Day.rightH v17 h with
  | false =>
    rw [hr] at q21
    subst_vars
    simp
  | true =>
    rw [hr] at q21
    cases hf : Day.fitsR v17 q with
    | false =>
      rw [hf] at q27
      subst_vars
      simp [hok]
    | true =>
      rw [hf] at q27
      obtain ⟨f1, f2, f3⟩ := Day.fits_n hf
      have hmk := Day.mk_HB (Day.noteH v17 h q) (Day.len_note _ _ _)
      rw [← q36, ← q37, ← q38, ← q39, ← q40, ← q41, ← q42, ← q43, ← q44, ← q45, ← q46, ← q47] at hmk
      have hP := Day.notes_start hr hf
      simp only [hmk, hP] at q56
      clear hmk
      rw [Day.gateE_fits.2 ⟨hr, hf⟩] at q48
      have n20 : ¬ 20 < x14 := by omega
      have e18 : v18 = false := by rw [q18]; simp [n20]
      clear q18 n20 hn0
      rw [Day.note_eq hr hf] at q44 q45 q46 q47
      subst_vars
      simp [hi, hok]
end Rx.S
