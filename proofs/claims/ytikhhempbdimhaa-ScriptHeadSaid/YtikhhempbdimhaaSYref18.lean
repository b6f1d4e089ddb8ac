import Derived.Test.YtikhhempbdimhaaSXc
import Derived.Test.YtikhhempbdimhaaSXt
set_option linter.unusedVariables false
set_option linter.unusedSimpArgs false
namespace Rx.S
open Go Rx
set_option maxRecDepth 100000
set_option maxHeartbeats 1000000
def De : Lp := ⟨25, [false, true, false, true], 1180, 9, 3, 6, ⟨Ez 103 [(0, .pv (.one (.k (.str (V 0))))), (1, .pv (.one (.k (.int .i64 (V 1))))), (2, .pv (.agg [.k (.int .i64 (V 2)), .k (.nilslc), .k (.int .i64 (V 3)), .k (.int .i64 (V 4)), .k (.bool (V 5)), .k (.nilslc), .k (.int .i64 (N 0)), .k (.int .i64 (N 0)), .k (.int .i64 (N 0)), .k (.int .i64 (N 0)), .k (.int .i64 (N 0)), .k (.int .i64 (N 0)), .k (.int .i64 (N 0)), .k (.int .i64 (N 0)), .k (.int .i64 (N 0)), .k (.int .i64 (N 0)), .k (.int .i64 (N 0)), .k (.int .i64 (N 0)), .k (.int .i64 (N 0)), .k (.int .i64 (N 0)), .k (.int .i64 (N 0)), .k (.int .i64 (N 0)), .k (.int .i64 (N 0)), .k (.int .i64 (N 0)), .k (.int .i64 (N 0)), .k (.int .i64 (N 0)), .k (.int .i64 (N 0)), .k (.int .i64 (N 0)), .k (.int .i64 (N 0)), .k (.int .i64 (N 0)), .k (.nilslc)])), (5, .pv (.one (.k (.ptr 4 0)))), (6, .pv (.one (.k (.ptr 5 0)))), (7, .pv (.one (.k (.int .i64 (N 0))))), (8, .pv (.one (.k (.int .i64 (V 6)))))], [⟨true, 34, 31, [.k (.int .i64 (N 0)), .k (.nilslc), .k (.int .i64 (N 0)), .k (.int .i64 (N 0)), .k (.bool (B false)), .k (.nilslc), .k (.int .i64 (N 0)), .k (.int .i64 (N 0)), .k (.int .i64 (N 0)), .k (.int .i64 (N 0)), .k (.int .i64 (N 0)), .k (.int .i64 (N 0)), .k (.int .i64 (N 0)), .k (.int .i64 (N 0)), .k (.int .i64 (N 0)), .k (.int .i64 (N 0)), .k (.int .i64 (N 0)), .k (.int .i64 (N 0)), .k (.int .i64 (N 0)), .k (.int .i64 (N 0)), .k (.int .i64 (N 0)), .k (.int .i64 (N 0)), .k (.int .i64 (N 0)), .k (.int .i64 (N 0)), .k (.int .i64 (N 0)), .k (.int .i64 (N 0)), .k (.int .i64 (N 0)), .k (.int .i64 (N 0)), .k (.int .i64 (N 0)), .k (.int .i64 (N 0)), .k (.nilslc)], none⟩, ⟨true, 34, 31, [.k (.int .i64 (V 2)), .k (.nilslc), .k (.int .i64 (V 3)), .k (.int .i64 (V 4)), .k (.bool (V 5)), .k (.nilslc), .k (.int .i64 (N 0)), .k (.int .i64 (N 0)), .k (.int .i64 (N 0)), .k (.int .i64 (N 0)), .k (.int .i64 (N 0)), .k (.int .i64 (N 0)), .k (.int .i64 (N 0)), .k (.int .i64 (N 0)), .k (.int .i64 (N 0)), .k (.int .i64 (N 0)), .k (.int .i64 (N 0)), .k (.int .i64 (N 0)), .k (.int .i64 (N 0)), .k (.int .i64 (N 0)), .k (.int .i64 (N 0)), .k (.int .i64 (N 0)), .k (.int .i64 (N 0)), .k (.int .i64 (N 0)), .k (.int .i64 (N 0)), .k (.int .i64 (N 0)), .k (.int .i64 (N 0)), .k (.int .i64 (N 0)), .k (.int .i64 (N 0)), .k (.int .i64 (N 0)), .k (.nilslc)], none⟩, ⟨true, 34, 31, [.k (.int .i64 (V 2)), .k (.nilslc), .k (.int .i64 (V 3)), .k (.int .i64 (V 4)), .k (.bool (V 5)), .k (.nilslc), .k (.int .i64 (N 0)), .k (.int .i64 (N 0)), .k (.int .i64 (N 0)), .k (.int .i64 (N 0)), .k (.int .i64 (N 0)), .k (.int .i64 (N 0)), .k (.int .i64 (N 0)), .k (.int .i64 (N 0)), .k (.int .i64 (N 0)), .k (.int .i64 (N 0)), .k (.int .i64 (N 0)), .k (.int .i64 (N 0)), .k (.int .i64 (N 0)), .k (.int .i64 (N 0)), .k (.int .i64 (N 0)), .k (.int .i64 (N 0)), .k (.int .i64 (N 0)), .k (.int .i64 (N 0)), .k (.int .i64 (N 0)), .k (.int .i64 (N 0)), .k (.int .i64 (N 0)), .k (.int .i64 (N 0)), .k (.int .i64 (N 0)), .k (.int .i64 (N 0)), .k (.nilslc)], none⟩, ⟨true, 34, 31, [.k (.int .i64 (V 2)), .k (.nilslc), .k (.int .i64 (V 3)), .k (.int .i64 (V 4)), .k (.bool (V 5)), .k (.nilslc), .k (.int .i64 (N 0)), .k (.int .i64 (N 0)), .k (.int .i64 (N 0)), .k (.int .i64 (N 0)), .k (.int .i64 (N 0)), .k (.int .i64 (N 0)), .k (.int .i64 (N 0)), .k (.int .i64 (N 0)), .k (.int .i64 (N 0)), .k (.int .i64 (N 0)), .k (.int .i64 (N 0)), .k (.int .i64 (N 0)), .k (.int .i64 (N 0)), .k (.int .i64 (N 0)), .k (.int .i64 (N 0)), .k (.int .i64 (N 0)), .k (.int .i64 (N 0)), .k (.int .i64 (N 0)), .k (.int .i64 (N 0)), .k (.int .i64 (N 0)), .k (.int .i64 (N 0)), .k (.int .i64 (N 0)), .k (.int .i64 (N 0)), .k (.int .i64 (N 0)), .k (.nilslc)], none⟩, ⟨true, 34, 31, [.k (.int .i64 (V 2)), .k (.nilslc), .k (.int .i64 (V 3)), .k (.int .i64 (V 4)), .k (.bool (V 5)), .k (.lsl 6 (V 7)), .k (.int .i64 (N 0)), .k (.int .i64 (N 0)), .k (.int .i64 (N 0)), .k (.int .i64 (N 0)), .k (.int .i64 (N 0)), .k (.int .i64 (N 0)), .k (.int .i64 (N 0)), .k (.int .i64 (N 0)), .k (.int .i64 (N 0)), .k (.int .i64 (N 0)), .k (.int .i64 (N 0)), .k (.int .i64 (N 0)), .k (.int .i64 (N 0)), .k (.int .i64 (N 0)), .k (.int .i64 (N 0)), .k (.int .i64 (N 0)), .k (.int .i64 (N 0)), .k (.int .i64 (N 0)), .k (.int .i64 (N 0)), .k (.int .i64 (N 0)), .k (.int .i64 (N 0)), .k (.int .i64 (N 0)), .k (.int .i64 (N 0)), .k (.int .i64 (N 0)), .k (.nilslc)], none⟩, ⟨true, 34, 31, [.k (.int .i64 (N 0)), .k (.nilslc), .k (.int .i64 (N 0)), .k (.int .i64 (N 0)), .k (.bool (B false)), .k (.nilslc), .k (.int .i64 (N 0)), .k (.int .i64 (N 0)), .k (.int .i64 (N 0)), .k (.int .i64 (N 0)), .k (.int .i64 (N 0)), .k (.int .i64 (N 0)), .k (.int .i64 (N 0)), .k (.int .i64 (N 0)), .k (.int .i64 (N 0)), .k (.int .i64 (N 0)), .k (.int .i64 (N 0)), .k (.int .i64 (N 0)), .k (.int .i64 (N 0)), .k (.int .i64 (N 0)), .k (.int .i64 (N 0)), .k (.int .i64 (N 0)), .k (.int .i64 (N 0)), .k (.int .i64 (N 0)), .k (.int .i64 (N 0)), .k (.int .i64 (N 0)), .k (.int .i64 (N 0)), .k (.int .i64 (N 0)), .k (.int .i64 (N 0)), .k (.int .i64 (N 0)), .k (.nilslc)], none⟩, ⟨false, 0, 0, [], some ⟨true, 76, [.int .i64, .int .i64, .int .i64, .int .i64], V 8, V 7⟩⟩], B true⟩, [(.exit 0, ⟨Ez 103 [(0, .pv (.one (.k (.str (V 0))))), (1, .pv (.one (.k (.int .i64 (V 9))))), (2, .pv (.agg [.k (.int .i64 (V 2)), .k (.nilslc), .k (.int .i64 (V 3)), .k (.int .i64 (V 4)), .k (.bool (V 5)), .k (.nilslc), .k (.int .i64 (N 0)), .k (.int .i64 (N 0)), .k (.int .i64 (N 0)), .k (.int .i64 (N 0)), .k (.int .i64 (N 0)), .k (.int .i64 (N 0)), .k (.int .i64 (N 0)), .k (.int .i64 (N 0)), .k (.int .i64 (N 0)), .k (.int .i64 (N 0)), .k (.int .i64 (N 0)), .k (.int .i64 (N 0)), .k (.int .i64 (N 0)), .k (.int .i64 (N 0)), .k (.int .i64 (N 0)), .k (.int .i64 (N 0)), .k (.int .i64 (N 0)), .k (.int .i64 (N 0)), .k (.int .i64 (N 0)), .k (.int .i64 (N 0)), .k (.int .i64 (N 0)), .k (.int .i64 (N 0)), .k (.int .i64 (N 0)), .k (.int .i64 (N 0)), .k (.nilslc)])), (5, .pv (.one (.k (.ptr 4 0)))), (6, .pv (.one (.k (.ptr 5 0)))), (7, .pv (.one (.k (.int .i64 (N 0)))))], [⟨true, 34, 31, [.k (.int .i64 (N 0)), .k (.nilslc), .k (.int .i64 (N 0)), .k (.int .i64 (N 0)), .k (.bool (B false)), .k (.nilslc), .k (.int .i64 (N 0)), .k (.int .i64 (N 0)), .k (.int .i64 (N 0)), .k (.int .i64 (N 0)), .k (.int .i64 (N 0)), .k (.int .i64 (N 0)), .k (.int .i64 (N 0)), .k (.int .i64 (N 0)), .k (.int .i64 (N 0)), .k (.int .i64 (N 0)), .k (.int .i64 (N 0)), .k (.int .i64 (N 0)), .k (.int .i64 (N 0)), .k (.int .i64 (N 0)), .k (.int .i64 (N 0)), .k (.int .i64 (N 0)), .k (.int .i64 (N 0)), .k (.int .i64 (N 0)), .k (.int .i64 (N 0)), .k (.int .i64 (N 0)), .k (.int .i64 (N 0)), .k (.int .i64 (N 0)), .k (.int .i64 (N 0)), .k (.int .i64 (N 0)), .k (.nilslc)], none⟩, ⟨true, 34, 31, [.k (.int .i64 (V 2)), .k (.nilslc), .k (.int .i64 (V 3)), .k (.int .i64 (V 4)), .k (.bool (V 5)), .k (.nilslc), .k (.int .i64 (N 0)), .k (.int .i64 (N 0)), .k (.int .i64 (N 0)), .k (.int .i64 (N 0)), .k (.int .i64 (N 0)), .k (.int .i64 (N 0)), .k (.int .i64 (N 0)), .k (.int .i64 (N 0)), .k (.int .i64 (N 0)), .k (.int .i64 (N 0)), .k (.int .i64 (N 0)), .k (.int .i64 (N 0)), .k (.int .i64 (N 0)), .k (.int .i64 (N 0)), .k (.int .i64 (N 0)), .k (.int .i64 (N 0)), .k (.int .i64 (N 0)), .k (.int .i64 (N 0)), .k (.int .i64 (N 0)), .k (.int .i64 (N 0)), .k (.int .i64 (N 0)), .k (.int .i64 (N 0)), .k (.int .i64 (N 0)), .k (.int .i64 (N 0)), .k (.nilslc)], none⟩, ⟨true, 34, 31, [.k (.int .i64 (V 2)), .k (.nilslc), .k (.int .i64 (V 3)), .k (.int .i64 (V 4)), .k (.bool (V 5)), .k (.nilslc), .k (.int .i64 (N 0)), .k (.int .i64 (N 0)), .k (.int .i64 (N 0)), .k (.int .i64 (N 0)), .k (.int .i64 (N 0)), .k (.int .i64 (N 0)), .k (.int .i64 (N 0)), .k (.int .i64 (N 0)), .k (.int .i64 (N 0)), .k (.int .i64 (N 0)), .k (.int .i64 (N 0)), .k (.int .i64 (N 0)), .k (.int .i64 (N 0)), .k (.int .i64 (N 0)), .k (.int .i64 (N 0)), .k (.int .i64 (N 0)), .k (.int .i64 (N 0)), .k (.int .i64 (N 0)), .k (.int .i64 (N 0)), .k (.int .i64 (N 0)), .k (.int .i64 (N 0)), .k (.int .i64 (N 0)), .k (.int .i64 (N 0)), .k (.int .i64 (N 0)), .k (.nilslc)], none⟩, ⟨true, 34, 31, [.k (.int .i64 (V 2)), .k (.nilslc), .k (.int .i64 (V 3)), .k (.int .i64 (V 4)), .k (.bool (V 5)), .k (.nilslc), .k (.int .i64 (N 0)), .k (.int .i64 (N 0)), .k (.int .i64 (N 0)), .k (.int .i64 (N 0)), .k (.int .i64 (N 0)), .k (.int .i64 (N 0)), .k (.int .i64 (N 0)), .k (.int .i64 (N 0)), .k (.int .i64 (N 0)), .k (.int .i64 (N 0)), .k (.int .i64 (N 0)), .k (.int .i64 (N 0)), .k (.int .i64 (N 0)), .k (.int .i64 (N 0)), .k (.int .i64 (N 0)), .k (.int .i64 (N 0)), .k (.int .i64 (N 0)), .k (.int .i64 (N 0)), .k (.int .i64 (N 0)), .k (.int .i64 (N 0)), .k (.int .i64 (N 0)), .k (.int .i64 (N 0)), .k (.int .i64 (N 0)), .k (.int .i64 (N 0)), .k (.nilslc)], none⟩, ⟨true, 34, 31, [.k (.int .i64 (V 2)), .k (.nilslc), .k (.int .i64 (V 3)), .k (.int .i64 (V 4)), .k (.bool (V 5)), .k (.lsl 6 (V 10)), .k (.int .i64 (N 0)), .k (.int .i64 (N 0)), .k (.int .i64 (N 0)), .k (.int .i64 (N 0)), .k (.int .i64 (N 0)), .k (.int .i64 (N 0)), .k (.int .i64 (N 0)), .k (.int .i64 (N 0)), .k (.int .i64 (N 0)), .k (.int .i64 (N 0)), .k (.int .i64 (N 0)), .k (.int .i64 (N 0)), .k (.int .i64 (N 0)), .k (.int .i64 (N 0)), .k (.int .i64 (N 0)), .k (.int .i64 (N 0)), .k (.int .i64 (N 0)), .k (.int .i64 (N 0)), .k (.int .i64 (N 0)), .k (.int .i64 (N 0)), .k (.int .i64 (N 0)), .k (.int .i64 (N 0)), .k (.int .i64 (N 0)), .k (.int .i64 (N 0)), .k (.nilslc)], none⟩, ⟨true, 34, 31, [.k (.int .i64 (N 0)), .k (.nilslc), .k (.int .i64 (N 0)), .k (.int .i64 (N 0)), .k (.bool (B false)), .k (.nilslc), .k (.int .i64 (N 0)), .k (.int .i64 (N 0)), .k (.int .i64 (N 0)), .k (.int .i64 (N 0)), .k (.int .i64 (N 0)), .k (.int .i64 (N 0)), .k (.int .i64 (N 0)), .k (.int .i64 (N 0)), .k (.int .i64 (N 0)), .k (.int .i64 (N 0)), .k (.int .i64 (N 0)), .k (.int .i64 (N 0)), .k (.int .i64 (N 0)), .k (.int .i64 (N 0)), .k (.int .i64 (N 0)), .k (.int .i64 (N 0)), .k (.int .i64 (N 0)), .k (.int .i64 (N 0)), .k (.int .i64 (N 0)), .k (.int .i64 (N 0)), .k (.int .i64 (N 0)), .k (.int .i64 (N 0)), .k (.int .i64 (N 0)), .k (.int .i64 (N 0)), .k (.nilslc)], none⟩, ⟨false, 0, 0, [], some ⟨true, 76, [.int .i64, .int .i64, .int .i64, .int .i64], V 11, V 10⟩⟩], B true⟩)], [true, false, true, true, true, true, false, false, false], [.i, .i, .any]⟩
def LM : G := ⟨37, [⟨36, (.ar .add .i64), [V 6, N 1]⟩, ⟨35, (.ar .add .i64), [V 1, N 4]⟩, ⟨34, .imp, [V 9, V 33]⟩, ⟨33, .and, [V 31, V 32]⟩, ⟨32, (.cmp .lss), [V 30, N 1000001]⟩, ⟨31, (.cmp .leq), [N 0, V 30]⟩, ⟨30, (.lln 4), [V 29]⟩, ⟨29, .cat, [V 8, V 28]⟩, ⟨28, .mkl, [V 6, V 12, V 23, V 26]⟩, ⟨27, .imp, [V 9, V 25]⟩, ⟨25, (.call 26), [V 0, V 24]⟩, ⟨24, (.ar .add .i64), [V 1, N 3]⟩, ⟨23, (.ar .add .i64), [V 18, V 21]⟩, ⟨22, .imp, [V 9, V 20]⟩, ⟨20, (.call 26), [V 0, V 19]⟩, ⟨19, (.ar .add .i64), [V 1, N 2]⟩, ⟨18, (.ar .mul .i64), [N 256, V 16]⟩, ⟨17, .imp, [V 9, V 15]⟩, ⟨15, (.call 26), [V 0, V 14]⟩, ⟨14, (.ar .add .i64), [V 1, N 1]⟩, ⟨13, .imp, [V 9, V 11]⟩, ⟨11, (.call 26), [V 0, V 1]⟩, ⟨10, .not, [V 9]⟩, ⟨9, (.cmp .lss), [V 6, V 2]⟩], [V 34, V 27, V 22, V 17, V 13], []⟩
def VU (al : List A) : Nat := ((gi al 2) - ((ge al 6)).int).toNat
theorem Ut (e : Nat → A) (H : Ab T e LM.defs) (hp : (Day.ndQ (e 0).str (e 1).int (e 2).int (e 6) (Day.L1.mk (e 8) (e 7).int)) = true) :
  ((e 34).bool = true ∧ (e 27).bool = true ∧ (e 22).bool = true ∧ (e 17).bool = true ∧ (e 13).bool = true) ∧ ((e 9).bool = true → (Day.ndQ (e 0).str (e 35).int (e 2).int (e 36) (Day.L1.mk (e 29) (e 30).int)) = true ∧ (Day.ndI (e 35).int (e 2).int ((e 36)).int = Day.ndI (e 1).int (e 2).int ((e 6)).int ∧ (e 2).int = (e 2).int ∧ Day.Y1 (e 0).str (e 35).int (e 2).int ((e 36)).int (Day.L1.mk (e 29) (e 30).int) = Day.Y1 (e 0).str (e 1).int (e 2).int ((e 6)).int (Day.L1.mk (e 8) (e 7).int)) ∧ ((e 2).int - ((e 36)).int).toNat < ((e 2).int - ((e 6)).int).toNat) ∧ ((e 10).bool = true → (e 1).int = Day.ndI (e 1).int (e 2).int ((e 6)).int ∧ (e 7).int = (e 2).int ∧ (e 8) = Day.Y1 (e 0).str (e 1).int (e 2).int ((e 6)).int (Day.L1.mk (e 8) (e 7).int)) := by
 simp only [LM, Ab, Def.q, BI, L.Ak, L.Aw, L.AS, L.AV, L.ev, A.Ai, A.Ao, A.AF, A.AT, List.map_cons, List.map_nil, Nat.zero_add, Nat.add_zero, and_true, true_and, Nat.reduceAdd, Nat.one_mul] at H
 simp only [D0, Ee, CW, Bg, Ef, Ey, BV, Fq, and_true, true_and] at H
 obtain ⟨⟨q36, k36⟩, ⟨q35, -⟩, q34, q33, q32, q31, q30, q29, q28, q27, q25, ⟨q24, -⟩, ⟨q23, k23⟩, q22, q20, ⟨q19, -⟩, ⟨q18, -⟩, q17, q15, ⟨q14, -⟩, q13, q11, q10, q9⟩ := H
 obtain k26 := Gd q25
 unfold KW at k26
 obtain k12 := Gd q11
 unfold KW at k12
 replace q25 := Al q25
 obtain ⟨q25, q26⟩ := q25
 replace q20 := Al q20
 obtain ⟨q20, q21⟩ := q20
 replace q15 := Al q15
 obtain ⟨q15, q16⟩ := q15
 replace q11 := Al q11
 obtain ⟨q11, q12⟩ := q11
 unfold KW at k23 k36
 simp only [L.Ak, L.Aw, L.AS, L.AV, L.ev, A.Ai, A.Ao, A.AF] at q25 q26 q20 q21 q15 q16 q11 q12
 generalize (e 0).str = x0, (e 1).int = x1, (e 2).int = x2, (e 3).int = x3, (e 4).int = x4, (e 5).int = x5, e 6 = x6, (e 7).int = x7, e 8 = x8, (e 9).bool = v9, (e 10).bool = v10, (e 11).bool = v11, (e 12).int = v12, (e 13).bool = v13, (e 14).int = v14, (e 15).bool = v15, (e 16).int = v16, (e 17).bool = v17, (e 18).int = v18, (e 19).int = v19, (e 20).bool = v20, (e 21).int = v21, (e 22).bool = v22, (e 23).int = v23, (e 24).int = v24, (e 25).bool = v25, (e 26).int = v26, (e 27).bool = v27, e 28 = v28, e 29 = v29, (e 30).int = v30, (e 31).bool = v31, (e 32).bool = v32, (e 33).bool = v33, (e 34).bool = v34, (e 35).int = v35, (e 36).int = v36 at *
 rw [k23] at q28
 rw [k12] at q28
 rw [k26] at q28
 rw [k36]
 have hq := hp
 simp only [Day.ndQ, Bool.and_eq_true] at hq
 have hk := Day.Xw hq.1
 by_cases h : x6.int < x2
 ·obtain ⟨i0, i1, j0, n1, l1, st⟩ := Day.Ach hq.2 h
  have t9 : v9 = true := by rw [q9]; exact decide_eq_true h
  have w14 : v14 = x1 + 1 := by rw [q14]; exact wrap64 (by omega) (by omega)
  have w19 : v19 = x1 + 2 := by rw [q19]; exact wrap64 (by omega) (by omega)
  have w24 : v24 = x1 + 3 := by rw [q24]; exact wrap64 (by omega) (by omega)
  have w35 : v35 = x1 + 4 := by rw [q35]; exact wrap64 (by omega) (by omega)
  have w36 : v36 = x6.int + 1 := by rw [q36]; exact wrap64 (by omega) (by omega)
  have r16 := Day.Az x0 v14
  rw [← q16] at r16
  have r21 := Day.Az x0 v19
  rw [← q21] at r21
  have w18 : v18 = 256 * v16 := by rw [q18]; exact wrap64 (by omega) (by omega)
  have w23 : v23 = Day.J3 x0 (x1 + 1) := by
   rw [q23, w18, wrap64 (by omega) (by omega), q16, q21, w14, w19]
   unfold Day.J3
   rw [show x1 + 1 + 1 = x1 + 2 by omega]
  have e29 : v29 = .l (x8.AJ ++ [.i x6.int, .i (Day.Ci x0 x1), .i (Day.J3 x0 (x1 + 1)), .i (Day.Ci x0 (x1 + 3))]) := by
   rw [q29, q28, ← hk, q12, w23, q26, w24]
   rfl
  obtain ⟨s1, s2, s3, s4⟩ := st ⟨v29, v30⟩ e29 q30
  have l1 : (x8.AJ.length : Int) = 4 * x6.int := l1
  have g30 : v30 = x6.int + 1 := by
   have : v29.AJ.length = x8.AJ.length + 4 := by rw [e29]; show (x8.AJ ++ [_, _, _, _]).length = _; rw [List.length_append]; rfl
   rw [q30, this]
   omega
  rw [w35, w36]
  refine ⟨⟨by rw [q34]; exact Day.BF (by rw [q33, q31, q32, g30]; simp; omega), by rw [q27]; exact Day.BF (by rw [q25, w24]; simp [Day.C1]; omega), by rw [q22]; exact Day.BF (by rw [q20, w19]; simp [Day.C1]; omega), by rw [q17]; exact Day.BF (by rw [q15, w14]; simp [Day.C1]; omega), by rw [q13]; exact Day.BF (by rw [q11]; simp [Day.C1]; omega)⟩, fun _ => ⟨?_, ⟨s2, rfl, s3⟩, s4⟩, fun hh => ?_⟩
  ·simp only [Day.ndQ, Bool.and_eq_true]
   exact ⟨rfl, s1⟩
  ·rw [q10, t9] at hh
   cases hh
 ·obtain ⟨e1, e2, e3⟩ := Day.Ac6 hq.2 h
  have t9 : v9 = false := by rw [q9]; exact decide_eq_false h
  refine ⟨by simp [q34, q27, q22, q17, q13, t9], fun hh => ?_, fun _ => ⟨e1.symm, e2, e3.symm⟩⟩
  rw [t9] at hh
  cases hh
theorem VV (as : List A) (e : Nat → A) (h1 : as = (List.range 9).map e) (h2 : (IK as).1 = true) (H : Ab T e LM.defs) : Bj e LM.obs ∧
   (∀ pc ls, some (V 9, [V 0, V 35, V 2, V 3, V 4, V 5, V 36, V 30, V 29]) = some (pc, ls) → (pc.ev e).bool = true → (IK (ls.map (L.ev e))).1 = true ∧ (IK (ls.map (L.ev e))).2 = (IK as).2 ∧ VU (ls.map (L.ev e)) < VU as) ∧
   ∀ x ∈ ([(V 10, [some (V 1), some (V 7), some (V 8)])] : List (L × List (Option L))), (x.1.ev e).bool = true → ∀ (j : Nat) l, x.2[j]? = some (some l) → D6 (De.tags.getD j .any) (l.ev e) ((IK as).2.getD j (.i 0)) := by
 subst h1
 obtain ⟨ho, h⟩ := Ut e H h2
 refine ⟨⟨ho.1, ho.2.1, ho.2.2.1, ho.2.2.2.1, ho.2.2.2.2, trivial⟩, fun pc ls hb hpc => ?_, ?_⟩
 ·injection hb with hb
  injection hb with h3 h4
  subst h3 h4
  have h := h.1 hpc
  refine ⟨h.1, ?_, h.2.2⟩
  have h5 := h.2.1
  obtain ⟨z0, z1, z2⟩ := h5
  exact (A5 z0 (A5 z1 (Fw z2 rfl)))
 ·intro x hx hpc j l hj
  simp only [List.mem_cons, List.not_mem_nil, or_false] at hx
  rcases hx with rfl
  ·have h := h.2 hpc
   obtain ⟨z0, z1, z2⟩ := h
   match j, hj with
   | 0, hj => cases hj; exact z0
   | 1, hj => cases hj; exact z1
   | 2, hj => cases hj; exact z2
   | _ + 3, hj => cases hj
def DL : Lp := ⟨25, [false, true, false, false, false, true, false, false, true, false, true, true], 1181, 17, 8, 7, ⟨Ez 103 [(0, .pv (.one (.k (.str (V 0))))), (1, .pv (.one (.k (.int .i64 (V 1))))), (2, .pv (.agg [.k (.int .i64 (V 2)), .k (.nilslc), .k (.int .i64 (V 3)), .k (.int .i64 (V 4)), .k (.bool (V 5)), .k (.nilslc), .k (.int .i64 (N 0)), .k (.int .i64 (N 0)), .k (.int .i64 (N 0)), .k (.int .i64 (N 0)), .k (.int .i64 (N 0)), .k (.int .i64 (N 0)), .k (.int .i64 (N 0)), .k (.int .i64 (N 0)), .k (.int .i64 (N 0)), .k (.int .i64 (N 0)), .k (.int .i64 (N 0)), .k (.int .i64 (N 0)), .k (.int .i64 (N 0)), .k (.int .i64 (N 0)), .k (.int .i64 (N 0)), .k (.int .i64 (N 0)), .k (.int .i64 (N 0)), .k (.int .i64 (N 0)), .k (.int .i64 (N 0)), .k (.int .i64 (N 0)), .k (.int .i64 (N 0)), .k (.int .i64 (N 0)), .k (.int .i64 (N 0)), .k (.int .i64 (N 0)), .k (.nilslc)])), (5, .pv (.one (.k (.ptr 4 0)))), (6, .pv (.one (.k (.ptr 5 0)))), (7, .pv (.one (.k (.int .i64 (N 0))))), (9, .pv (.one (.k (.int .i64 (N 0))))), (10, .pv (.one (.k (.int .i64 (V 6))))), (43, .pv (.one (.k (.int .i64 (N 0))))), (44, .pv (.one (.k (.bool (B true)))))], [⟨true, 34, 31, [.k (.int .i64 (N 0)), .k (.nilslc), .k (.int .i64 (N 0)), .k (.int .i64 (N 0)), .k (.bool (B false)), .k (.nilslc), .k (.int .i64 (N 0)), .k (.int .i64 (N 0)), .k (.int .i64 (N 0)), .k (.int .i64 (N 0)), .k (.int .i64 (N 0)), .k (.int .i64 (N 0)), .k (.int .i64 (N 0)), .k (.int .i64 (N 0)), .k (.int .i64 (N 0)), .k (.int .i64 (N 0)), .k (.int .i64 (N 0)), .k (.int .i64 (N 0)), .k (.int .i64 (N 0)), .k (.int .i64 (N 0)), .k (.int .i64 (N 0)), .k (.int .i64 (N 0)), .k (.int .i64 (N 0)), .k (.int .i64 (N 0)), .k (.int .i64 (N 0)), .k (.int .i64 (N 0)), .k (.int .i64 (N 0)), .k (.int .i64 (N 0)), .k (.int .i64 (N 0)), .k (.int .i64 (N 0)), .k (.nilslc)], none⟩, ⟨true, 34, 31, [.k (.int .i64 (V 2)), .k (.nilslc), .k (.int .i64 (V 3)), .k (.int .i64 (V 4)), .k (.bool (V 5)), .k (.nilslc), .k (.int .i64 (N 0)), .k (.int .i64 (N 0)), .k (.int .i64 (N 0)), .k (.int .i64 (N 0)), .k (.int .i64 (N 0)), .k (.int .i64 (N 0)), .k (.int .i64 (N 0)), .k (.int .i64 (N 0)), .k (.int .i64 (N 0)), .k (.int .i64 (N 0)), .k (.int .i64 (N 0)), .k (.int .i64 (N 0)), .k (.int .i64 (N 0)), .k (.int .i64 (N 0)), .k (.int .i64 (N 0)), .k (.int .i64 (N 0)), .k (.int .i64 (N 0)), .k (.int .i64 (N 0)), .k (.int .i64 (N 0)), .k (.int .i64 (N 0)), .k (.int .i64 (N 0)), .k (.int .i64 (N 0)), .k (.int .i64 (N 0)), .k (.int .i64 (N 0)), .k (.nilslc)], none⟩, ⟨true, 34, 31, [.k (.int .i64 (V 2)), .k (.nilslc), .k (.int .i64 (V 3)), .k (.int .i64 (V 4)), .k (.bool (V 5)), .k (.nilslc), .k (.int .i64 (N 0)), .k (.int .i64 (N 0)), .k (.int .i64 (N 0)), .k (.int .i64 (N 0)), .k (.int .i64 (N 0)), .k (.int .i64 (N 0)), .k (.int .i64 (N 0)), .k (.int .i64 (N 0)), .k (.int .i64 (N 0)), .k (.int .i64 (N 0)), .k (.int .i64 (N 0)), .k (.int .i64 (N 0)), .k (.int .i64 (N 0)), .k (.int .i64 (N 0)), .k (.int .i64 (N 0)), .k (.int .i64 (N 0)), .k (.int .i64 (N 0)), .k (.int .i64 (N 0)), .k (.int .i64 (N 0)), .k (.int .i64 (N 0)), .k (.int .i64 (N 0)), .k (.int .i64 (N 0)), .k (.int .i64 (N 0)), .k (.int .i64 (N 0)), .k (.nilslc)], none⟩, ⟨true, 34, 31, [.k (.int .i64 (V 2)), .k (.nilslc), .k (.int .i64 (V 3)), .k (.int .i64 (V 4)), .k (.bool (V 5)), .k (.nilslc), .k (.int .i64 (N 0)), .k (.int .i64 (N 0)), .k (.int .i64 (N 0)), .k (.int .i64 (N 0)), .k (.int .i64 (N 0)), .k (.int .i64 (N 0)), .k (.int .i64 (N 0)), .k (.int .i64 (N 0)), .k (.int .i64 (N 0)), .k (.int .i64 (N 0)), .k (.int .i64 (N 0)), .k (.int .i64 (N 0)), .k (.int .i64 (N 0)), .k (.int .i64 (N 0)), .k (.int .i64 (N 0)), .k (.int .i64 (N 0)), .k (.int .i64 (N 0)), .k (.int .i64 (N 0)), .k (.int .i64 (N 0)), .k (.int .i64 (N 0)), .k (.int .i64 (N 0)), .k (.int .i64 (N 0)), .k (.int .i64 (N 0)), .k (.int .i64 (N 0)), .k (.nilslc)], none⟩, ⟨true, 34, 31, [.k (.int .i64 (V 2)), .k (.nilslc), .k (.int .i64 (V 3)), .k (.int .i64 (V 4)), .k (.bool (V 5)), .k (.lsl 6 (V 7)), .k (.int .i64 (V 8)), .k (.int .i64 (V 9)), .k (.int .i64 (V 10)), .k (.int .i64 (V 11)), .k (.int .i64 (V 12)), .k (.int .i64 (V 13)), .k (.int .i64 (V 14)), .k (.int .i64 (V 15)), .k (.int .i64 (N 0)), .k (.int .i64 (N 0)), .k (.int .i64 (N 0)), .k (.int .i64 (N 0)), .k (.int .i64 (N 0)), .k (.int .i64 (N 0)), .k (.int .i64 (N 0)), .k (.int .i64 (N 0)), .k (.int .i64 (N 0)), .k (.int .i64 (N 0)), .k (.int .i64 (N 0)), .k (.int .i64 (N 0)), .k (.int .i64 (N 0)), .k (.int .i64 (N 0)), .k (.int .i64 (N 0)), .k (.int .i64 (N 0)), .k (.nilslc)], none⟩, ⟨true, 34, 31, [.k (.int .i64 (N 0)), .k (.nilslc), .k (.int .i64 (N 0)), .k (.int .i64 (N 0)), .k (.bool (B false)), .k (.nilslc), .k (.int .i64 (N 0)), .k (.int .i64 (N 0)), .k (.int .i64 (N 0)), .k (.int .i64 (N 0)), .k (.int .i64 (N 0)), .k (.int .i64 (N 0)), .k (.int .i64 (N 0)), .k (.int .i64 (N 0)), .k (.int .i64 (N 0)), .k (.int .i64 (N 0)), .k (.int .i64 (N 0)), .k (.int .i64 (N 0)), .k (.int .i64 (N 0)), .k (.int .i64 (N 0)), .k (.int .i64 (N 0)), .k (.int .i64 (N 0)), .k (.int .i64 (N 0)), .k (.int .i64 (N 0)), .k (.int .i64 (N 0)), .k (.int .i64 (N 0)), .k (.int .i64 (N 0)), .k (.int .i64 (N 0)), .k (.int .i64 (N 0)), .k (.int .i64 (N 0)), .k (.nilslc)], none⟩, ⟨false, 0, 0, [], some ⟨true, 76, [.int .i64, .int .i64, .int .i64, .int .i64], V 16, V 7⟩⟩], B true⟩, [(.exit 4, ⟨Ez 103 [(0, .pv (.one (.k (.str (V 0))))), (1, .pv (.one (.k (.int .i64 (V 1))))), (2, .pv (.agg [.k (.int .i64 (V 2)), .k (.nilslc), .k (.int .i64 (V 3)), .k (.int .i64 (V 4)), .k (.bool (V 5)), .k (.nilslc), .k (.int .i64 (N 0)), .k (.int .i64 (N 0)), .k (.int .i64 (N 0)), .k (.int .i64 (N 0)), .k (.int .i64 (N 0)), .k (.int .i64 (N 0)), .k (.int .i64 (N 0)), .k (.int .i64 (N 0)), .k (.int .i64 (N 0)), .k (.int .i64 (N 0)), .k (.int .i64 (N 0)), .k (.int .i64 (N 0)), .k (.int .i64 (N 0)), .k (.int .i64 (N 0)), .k (.int .i64 (N 0)), .k (.int .i64 (N 0)), .k (.int .i64 (N 0)), .k (.int .i64 (N 0)), .k (.int .i64 (N 0)), .k (.int .i64 (N 0)), .k (.int .i64 (N 0)), .k (.int .i64 (N 0)), .k (.int .i64 (N 0)), .k (.int .i64 (N 0)), .k (.nilslc)])), (5, .pv (.one (.k (.ptr 4 0)))), (6, .pv (.one (.k (.ptr 5 0)))), (7, .pv (.one (.k (.int .i64 (N 0))))), (9, .pv (.one (.k (.int .i64 (N 0))))), (43, .pv (.one (.k (.int .i64 (N 0))))), (44, .pv (.one (.k (.bool (B true)))))], [⟨true, 34, 31, [.k (.int .i64 (N 0)), .k (.nilslc), .k (.int .i64 (N 0)), .k (.int .i64 (N 0)), .k (.bool (B false)), .k (.nilslc), .k (.int .i64 (N 0)), .k (.int .i64 (N 0)), .k (.int .i64 (N 0)), .k (.int .i64 (N 0)), .k (.int .i64 (N 0)), .k (.int .i64 (N 0)), .k (.int .i64 (N 0)), .k (.int .i64 (N 0)), .k (.int .i64 (N 0)), .k (.int .i64 (N 0)), .k (.int .i64 (N 0)), .k (.int .i64 (N 0)), .k (.int .i64 (N 0)), .k (.int .i64 (N 0)), .k (.int .i64 (N 0)), .k (.int .i64 (N 0)), .k (.int .i64 (N 0)), .k (.int .i64 (N 0)), .k (.int .i64 (N 0)), .k (.int .i64 (N 0)), .k (.int .i64 (N 0)), .k (.int .i64 (N 0)), .k (.int .i64 (N 0)), .k (.int .i64 (N 0)), .k (.nilslc)], none⟩, ⟨true, 34, 31, [.k (.int .i64 (V 2)), .k (.nilslc), .k (.int .i64 (V 3)), .k (.int .i64 (V 4)), .k (.bool (V 5)), .k (.nilslc), .k (.int .i64 (N 0)), .k (.int .i64 (N 0)), .k (.int .i64 (N 0)), .k (.int .i64 (N 0)), .k (.int .i64 (N 0)), .k (.int .i64 (N 0)), .k (.int .i64 (N 0)), .k (.int .i64 (N 0)), .k (.int .i64 (N 0)), .k (.int .i64 (N 0)), .k (.int .i64 (N 0)), .k (.int .i64 (N 0)), .k (.int .i64 (N 0)), .k (.int .i64 (N 0)), .k (.int .i64 (N 0)), .k (.int .i64 (N 0)), .k (.int .i64 (N 0)), .k (.int .i64 (N 0)), .k (.int .i64 (N 0)), .k (.int .i64 (N 0)), .k (.int .i64 (N 0)), .k (.int .i64 (N 0)), .k (.int .i64 (N 0)), .k (.int .i64 (N 0)), .k (.nilslc)], none⟩, ⟨true, 34, 31, [.k (.int .i64 (V 2)), .k (.nilslc), .k (.int .i64 (V 3)), .k (.int .i64 (V 4)), .k (.bool (V 5)), .k (.nilslc), .k (.int .i64 (N 0)), .k (.int .i64 (N 0)), .k (.int .i64 (N 0)), .k (.int .i64 (N 0)), .k (.int .i64 (N 0)), .k (.int .i64 (N 0)), .k (.int .i64 (N 0)), .k (.int .i64 (N 0)), .k (.int .i64 (N 0)), .k (.int .i64 (N 0)), .k (.int .i64 (N 0)), .k (.int .i64 (N 0)), .k (.int .i64 (N 0)), .k (.int .i64 (N 0)), .k (.int .i64 (N 0)), .k (.int .i64 (N 0)), .k (.int .i64 (N 0)), .k (.int .i64 (N 0)), .k (.int .i64 (N 0)), .k (.int .i64 (N 0)), .k (.int .i64 (N 0)), .k (.int .i64 (N 0)), .k (.int .i64 (N 0)), .k (.int .i64 (N 0)), .k (.nilslc)], none⟩, ⟨true, 34, 31, [.k (.int .i64 (V 2)), .k (.nilslc), .k (.int .i64 (V 3)), .k (.int .i64 (V 4)), .k (.bool (V 5)), .k (.nilslc), .k (.int .i64 (N 0)), .k (.int .i64 (N 0)), .k (.int .i64 (N 0)), .k (.int .i64 (N 0)), .k (.int .i64 (N 0)), .k (.int .i64 (N 0)), .k (.int .i64 (N 0)), .k (.int .i64 (N 0)), .k (.int .i64 (N 0)), .k (.int .i64 (N 0)), .k (.int .i64 (N 0)), .k (.int .i64 (N 0)), .k (.int .i64 (N 0)), .k (.int .i64 (N 0)), .k (.int .i64 (N 0)), .k (.int .i64 (N 0)), .k (.int .i64 (N 0)), .k (.int .i64 (N 0)), .k (.int .i64 (N 0)), .k (.int .i64 (N 0)), .k (.int .i64 (N 0)), .k (.int .i64 (N 0)), .k (.int .i64 (N 0)), .k (.int .i64 (N 0)), .k (.nilslc)], none⟩, ⟨true, 34, 31, [.k (.int .i64 (V 2)), .k (.nilslc), .k (.int .i64 (V 3)), .k (.int .i64 (V 4)), .k (.bool (V 5)), .k (.lsl 6 (V 7)), .k (.int .i64 (V 17)), .k (.int .i64 (V 18)), .k (.int .i64 (V 19)), .k (.int .i64 (V 20)), .k (.int .i64 (V 21)), .k (.int .i64 (V 22)), .k (.int .i64 (V 23)), .k (.int .i64 (V 24)), .k (.int .i64 (N 0)), .k (.int .i64 (N 0)), .k (.int .i64 (N 0)), .k (.int .i64 (N 0)), .k (.int .i64 (N 0)), .k (.int .i64 (N 0)), .k (.int .i64 (N 0)), .k (.int .i64 (N 0)), .k (.int .i64 (N 0)), .k (.int .i64 (N 0)), .k (.int .i64 (N 0)), .k (.int .i64 (N 0)), .k (.int .i64 (N 0)), .k (.int .i64 (N 0)), .k (.int .i64 (N 0)), .k (.int .i64 (N 0)), .k (.nilslc)], none⟩, ⟨true, 34, 31, [.k (.int .i64 (N 0)), .k (.nilslc), .k (.int .i64 (N 0)), .k (.int .i64 (N 0)), .k (.bool (B false)), .k (.nilslc), .k (.int .i64 (N 0)), .k (.int .i64 (N 0)), .k (.int .i64 (N 0)), .k (.int .i64 (N 0)), .k (.int .i64 (N 0)), .k (.int .i64 (N 0)), .k (.int .i64 (N 0)), .k (.int .i64 (N 0)), .k (.int .i64 (N 0)), .k (.int .i64 (N 0)), .k (.int .i64 (N 0)), .k (.int .i64 (N 0)), .k (.int .i64 (N 0)), .k (.int .i64 (N 0)), .k (.int .i64 (N 0)), .k (.int .i64 (N 0)), .k (.int .i64 (N 0)), .k (.int .i64 (N 0)), .k (.int .i64 (N 0)), .k (.int .i64 (N 0)), .k (.int .i64 (N 0)), .k (.int .i64 (N 0)), .k (.int .i64 (N 0)), .k (.int .i64 (N 0)), .k (.nilslc)], none⟩, ⟨false, 0, 0, [], some ⟨true, 76, [.int .i64, .int .i64, .int .i64, .int .i64], V 16, V 7⟩⟩], B true⟩)], [true, true, true, true, true, true, false, true, false, false, false, false, false, false, false, false, true], [.i, .i, .i, .i, .i, .i, .i, .i]⟩
def LN : G := ⟨36, [⟨35, (.ar .add .i64), [V 6, N 1]⟩, ⟨27, .upd, [V 6, V 21, V 8, V 9, V 10, V 11, V 12, V 13, V 14, V 15]⟩, ⟨26, .imp, [V 17, V 25]⟩, ⟨25, .and, [V 23, V 24]⟩, ⟨24, (.cmp .lss), [V 6, N 8]⟩, ⟨23, (.cmp .leq), [N 0, V 6]⟩, ⟨22, .imp, [V 17, V 20]⟩, ⟨20, (.call 26), [V 0, V 19]⟩, ⟨19, (.ar .add .i64), [V 1, V 6]⟩, ⟨18, .not, [V 17]⟩, ⟨17, (.cmp .lss), [V 6, V 2]⟩], [V 26, V 22], []⟩
def VW (al : List A) : Nat := ((gi al 2) - (gi al 6)).toNat
theorem Uu (e : Nat → A) (H : Ab T e LN.defs) (hp : (Day.agP (e 1).int (e 2).int (e 6).int) = true) :
  ((e 26).bool = true ∧ (e 22).bool = true) ∧ ((e 17).bool = true → (Day.agP (e 1).int (e 2).int (e 35).int) = true ∧ (Day.BT (e 0).str (e 1).int (e 2).int (e 35).int (e 27).int 0 = Day.BT (e 0).str (e 1).int (e 2).int (e 6).int (e 8).int 0 ∧ Day.BT (e 0).str (e 1).int (e 2).int (e 35).int (e 28).int 1 = Day.BT (e 0).str (e 1).int (e 2).int (e 6).int (e 9).int 1 ∧ Day.BT (e 0).str (e 1).int (e 2).int (e 35).int (e 29).int 2 = Day.BT (e 0).str (e 1).int (e 2).int (e 6).int (e 10).int 2 ∧ Day.BT (e 0).str (e 1).int (e 2).int (e 35).int (e 30).int 3 = Day.BT (e 0).str (e 1).int (e 2).int (e 6).int (e 11).int 3 ∧ Day.BT (e 0).str (e 1).int (e 2).int (e 35).int (e 31).int 4 = Day.BT (e 0).str (e 1).int (e 2).int (e 6).int (e 12).int 4 ∧ Day.BT (e 0).str (e 1).int (e 2).int (e 35).int (e 32).int 5 = Day.BT (e 0).str (e 1).int (e 2).int (e 6).int (e 13).int 5 ∧ Day.BT (e 0).str (e 1).int (e 2).int (e 35).int (e 33).int 6 = Day.BT (e 0).str (e 1).int (e 2).int (e 6).int (e 14).int 6 ∧ Day.BT (e 0).str (e 1).int (e 2).int (e 35).int (e 34).int 7 = Day.BT (e 0).str (e 1).int (e 2).int (e 6).int (e 15).int 7) ∧ ((e 2).int - (e 35).int).toNat < ((e 2).int - (e 6).int).toNat) ∧ ((e 18).bool = true → (e 8).int = Day.BT (e 0).str (e 1).int (e 2).int (e 6).int (e 8).int 0 ∧ (e 9).int = Day.BT (e 0).str (e 1).int (e 2).int (e 6).int (e 9).int 1 ∧ (e 10).int = Day.BT (e 0).str (e 1).int (e 2).int (e 6).int (e 10).int 2 ∧ (e 11).int = Day.BT (e 0).str (e 1).int (e 2).int (e 6).int (e 11).int 3 ∧ (e 12).int = Day.BT (e 0).str (e 1).int (e 2).int (e 6).int (e 12).int 4 ∧ (e 13).int = Day.BT (e 0).str (e 1).int (e 2).int (e 6).int (e 13).int 5 ∧ (e 14).int = Day.BT (e 0).str (e 1).int (e 2).int (e 6).int (e 14).int 6 ∧ (e 15).int = Day.BT (e 0).str (e 1).int (e 2).int (e 6).int (e 15).int 7) := by
 simp only [LN, Ab, Def.q, BI, L.Ak, L.Aw, L.AS, L.AV, L.ev, A.Ai, A.Ao, A.AF, A.AT, List.map_cons, List.map_nil, Nat.zero_add, Nat.add_zero, and_true, true_and, Nat.reduceAdd, Nat.one_mul] at H
 simp only [D0, Ee, CW, Bg, Ef, Ey, BV, Fq, and_true, true_and] at H
 obtain ⟨⟨q35, -⟩, ⟨q27, q28, q29, q30, q31, q32, q33, q34⟩, q26, q25, q24, q23, q22, q20, ⟨q19, -⟩, q18, q17⟩ := H
 replace q20 := Al q20
 obtain ⟨q20, q21⟩ := q20
 simp only [L.Ak, L.Aw, L.AS, L.AV, L.ev, A.Ai, A.Ao, A.AF] at q20 q21
 generalize (e 0).str = x0, (e 1).int = x1, (e 2).int = x2, (e 3).int = x3, (e 4).int = x4, (e 5).int = x5, (e 6).int = x6, (e 7).int = x7, (e 8).int = x8, (e 9).int = x9, (e 10).int = x10, (e 11).int = x11, (e 12).int = x12, (e 13).int = x13, (e 14).int = x14, (e 15).int = x15, (e 16).int = x16, (e 17).bool = v17, (e 18).bool = v18, (e 19).int = v19, (e 20).bool = v20, (e 21).int = v21, (e 22).bool = v22, (e 23).bool = v23, (e 24).bool = v24, (e 25).bool = v25, (e 26).bool = v26, (e 27).int = v27, (e 28).int = v28, (e 29).int = v29, (e 30).int = v30, (e 31).int = v31, (e 32).int = v32, (e 33).int = v33, (e 34).int = v34, (e 35).int = v35 at *
 have hb := Day.JT.1 hp
 by_cases h : x6 < x2
 ·have t : v17 = true := by rw [q17]; exact decide_eq_true h
  have w19 : v19 = x1 + x6 := by rw [q19]; exact wrap64 (by omega) (by omega)
  have w35 : v35 = x6 + 1 := by rw [q35]; exact wrap64 (by omega) (by omega)
  have e21 : v21 = Day.Ci x0 (x1 + x6) := by rw [q21, w19]
  rw [w35]
  refine ⟨⟨by rw [q26]; exact Day.BF (by rw [q25, q23, q24]; simp; omega), by rw [q22]; exact Day.BF (by rw [q20, w19]; simp [Day.C1]; omega)⟩, fun _ => ⟨Day.JT.2 ⟨by omega, by omega, by omega, by omega, by omega⟩, ⟨Day.Cc (j := 0) hb.2.2.1 h e21 q27, Day.Cc (j := 1) hb.2.2.1 h e21 q28, Day.Cc (j := 2) hb.2.2.1 h e21 q29, Day.Cc (j := 3) hb.2.2.1 h e21 q30, Day.Cc (j := 4) hb.2.2.1 h e21 q31, Day.Cc (j := 5) hb.2.2.1 h e21 q32, Day.Cc (j := 6) hb.2.2.1 h e21 q33, Day.Cc (j := 7) hb.2.2.1 h e21 q34⟩, by omega⟩, fun hh => ?_⟩
  rw [q18, t] at hh
  cases hh
 ·have t : v17 = false := by rw [q17]; exact decide_eq_false h
  refine ⟨by simp [q26, q22, t], fun hh => ?_, fun _ => ⟨(Day.C5 h).symm, (Day.C5 h).symm, (Day.C5 h).symm, (Day.C5 h).symm, (Day.C5 h).symm, (Day.C5 h).symm, (Day.C5 h).symm, (Day.C5 h).symm⟩⟩
  rw [t] at hh
  cases hh
theorem VX (as : List A) (e : Nat → A) (h1 : as = (List.range 17).map e) (h2 : (IL as).1 = true) (H : Ab T e LN.defs) : Bj e LN.obs ∧
   (∀ pc ls, some (V 17, [V 0, V 1, V 2, V 3, V 4, V 5, V 35, V 7, V 27, V 28, V 29, V 30, V 31, V 32, V 33, V 34, V 16]) = some (pc, ls) → (pc.ev e).bool = true → (IL (ls.map (L.ev e))).1 = true ∧ (IL (ls.map (L.ev e))).2 = (IL as).2 ∧ VW (ls.map (L.ev e)) < VW as) ∧
   ∀ x ∈ ([(V 18, [some (V 8), some (V 9), some (V 10), some (V 11), some (V 12), some (V 13), some (V 14), some (V 15)])] : List (L × List (Option L))), (x.1.ev e).bool = true → ∀ (j : Nat) l, x.2[j]? = some (some l) → D6 (DL.tags.getD j .any) (l.ev e) ((IL as).2.getD j (.i 0)) := by
 subst h1
 obtain ⟨ho, h⟩ := Uu e H h2
 refine ⟨⟨ho.1, ho.2, trivial⟩, fun pc ls hb hpc => ?_, ?_⟩
 ·injection hb with hb
  injection hb with h3 h4
  subst h3 h4
  have h := h.1 hpc
  refine ⟨h.1, ?_, h.2.2⟩
  have h5 := h.2.1
  obtain ⟨z0, z1, z2, z3, z4, z5, z6, z7⟩ := h5
  exact (A5 z0 (A5 z1 (A5 z2 (A5 z3 (A5 z4 (A5 z5 (A5 z6 (A5 z7 rfl))))))))
 ·intro x hx hpc j l hj
  simp only [List.mem_cons, List.not_mem_nil, or_false] at hx
  rcases hx with rfl
  ·have h := h.2 hpc
   obtain ⟨z0, z1, z2, z3, z4, z5, z6, z7⟩ := h
   match j, hj with
   | 0, hj => cases hj; exact z0
   | 1, hj => cases hj; exact z1
   | 2, hj => cases hj; exact z2
   | 3, hj => cases hj; exact z3
   | 4, hj => cases hj; exact z4
   | 5, hj => cases hj; exact z5
   | 6, hj => cases hj; exact z6
   | 7, hj => cases hj; exact z7
   | _ + 8, hj => cases hj
def D9 : Lp := ⟨25, [false, true, false, false, false, true, false, false, true, false, true, true], 1182, 34, 8, 7, ⟨Ez 103 [(0, .pv (.one (.k (.str (V 0))))), (1, .pv (.one (.k (.int .i64 (V 1))))), (2, .pv (.agg [.k (.int .i64 (V 2)), .k (.nilslc), .k (.int .i64 (V 3)), .k (.int .i64 (V 4)), .k (.bool (V 5)), .k (.nilslc), .k (.int .i64 (N 0)), .k (.int .i64 (N 0)), .k (.int .i64 (N 0)), .k (.int .i64 (N 0)), .k (.int .i64 (N 0)), .k (.int .i64 (N 0)), .k (.int .i64 (N 0)), .k (.int .i64 (N 0)), .k (.int .i64 (N 0)), .k (.int .i64 (N 0)), .k (.int .i64 (N 0)), .k (.int .i64 (N 0)), .k (.int .i64 (N 0)), .k (.int .i64 (N 0)), .k (.int .i64 (N 0)), .k (.int .i64 (N 0)), .k (.int .i64 (N 0)), .k (.int .i64 (N 0)), .k (.int .i64 (N 0)), .k (.int .i64 (N 0)), .k (.int .i64 (N 0)), .k (.int .i64 (N 0)), .k (.int .i64 (N 0)), .k (.int .i64 (N 0)), .k (.nilslc)])), (5, .pv (.one (.k (.ptr 4 0)))), (6, .pv (.one (.k (.ptr 5 0)))), (7, .pv (.one (.k (.int .i64 (N 0))))), (9, .pv (.one (.k (.int .i64 (N 1))))), (10, .pv (.one (.k (.int .i64 (V 6))))), (43, .pv (.one (.k (.int .i64 (N 1))))), (44, .pv (.one (.k (.bool (B true))))), (45, .pv (.one (.k (.int .i64 (N 0))))), (46, .pv (.one (.k (.int .i64 (N 1))))), (64, .pv (.one (.k (.int .i64 (V 7))))), (65, .pv (.one (.k (.ptr 4 0)))), (66, .pv (.one (.k (.int .i64 (V 2))))), (67, .pv (.one (.k (.int .i64 (V 8))))), (68, .pv (.one (.k (.int .i64 (N 0))))), (69, .pv (.one (.k (.int .i64 (N 0))))), (70, .pv (.one (.k (.int .i64 (N 0))))), (71, .pv (.one (.k (.int .i64 (N 0))))), (72, .pv (.one (.k (.str (V 0))))), (73, .pv (.one (.k (.int .i64 (V 8))))), (74, .pv (.one (.k (.int .i64 (V 9))))), (75, .pv (.one (.k (.str (V 0))))), (76, .pv (.one (.k (.int .i64 (V 8))))), (77, .pv (.one (.k (.int .i64 (V 10))))), (78, .pv (.one (.k (.int .i64 (V 11))))), (79, .pv (.one (.k (.str (V 0))))), (80, .pv (.one (.k (.int .i64 (V 8))))), (81, .pv (.one (.k (.int .i64 (V 12))))), (82, .pv (.one (.k (.int .i64 (V 13))))), (83, .pv (.one (.k (.str (V 0))))), (84, .pv (.one (.k (.int .i64 (V 8))))), (85, .pv (.one (.k (.int .i64 (V 14))))), (86, .pv (.one (.k (.int .i64 (V 15))))), (87, .pv (.one (.k (.ptr 4 6)))), (88, .pv (.one (.k (.ptr 4 6)))), (89, .pv (.one (.k (.ptr 4 14)))), (90, .pv (.one (.k (.ptr 4 6)))), (91, .pv (.one (.k (.ptr 4 6)))), (92, .pv (.one (.k (.ptr 4 15)))), (93, .pv (.one (.k (.ptr 4 6)))), (94, .pv (.one (.k (.ptr 4 6)))), (95, .pv (.one (.k (.ptr 4 16)))), (96, .pv (.one (.k (.ptr 4 6)))), (97, .pv (.one (.k (.ptr 4 6)))), (98, .pv (.one (.k (.ptr 4 17)))), (99, .pv (.one (.k (.int .i64 (V 8))))), (100, .pv (.one (.k (.int .i64 (V 1)))))], [⟨true, 34, 31, [.k (.int .i64 (N 0)), .k (.nilslc), .k (.int .i64 (N 0)), .k (.int .i64 (N 0)), .k (.bool (B false)), .k (.nilslc), .k (.int .i64 (N 0)), .k (.int .i64 (N 0)), .k (.int .i64 (N 0)), .k (.int .i64 (N 0)), .k (.int .i64 (N 0)), .k (.int .i64 (N 0)), .k (.int .i64 (N 0)), .k (.int .i64 (N 0)), .k (.int .i64 (N 0)), .k (.int .i64 (N 0)), .k (.int .i64 (N 0)), .k (.int .i64 (N 0)), .k (.int .i64 (N 0)), .k (.int .i64 (N 0)), .k (.int .i64 (N 0)), .k (.int .i64 (N 0)), .k (.int .i64 (N 0)), .k (.int .i64 (N 0)), .k (.int .i64 (N 0)), .k (.int .i64 (N 0)), .k (.int .i64 (N 0)), .k (.int .i64 (N 0)), .k (.int .i64 (N 0)), .k (.int .i64 (N 0)), .k (.nilslc)], none⟩, ⟨true, 34, 31, [.k (.int .i64 (V 2)), .k (.nilslc), .k (.int .i64 (V 3)), .k (.int .i64 (V 4)), .k (.bool (V 5)), .k (.nilslc), .k (.int .i64 (N 0)), .k (.int .i64 (N 0)), .k (.int .i64 (N 0)), .k (.int .i64 (N 0)), .k (.int .i64 (N 0)), .k (.int .i64 (N 0)), .k (.int .i64 (N 0)), .k (.int .i64 (N 0)), .k (.int .i64 (N 0)), .k (.int .i64 (N 0)), .k (.int .i64 (N 0)), .k (.int .i64 (N 0)), .k (.int .i64 (N 0)), .k (.int .i64 (N 0)), .k (.int .i64 (N 0)), .k (.int .i64 (N 0)), .k (.int .i64 (N 0)), .k (.int .i64 (N 0)), .k (.int .i64 (N 0)), .k (.int .i64 (N 0)), .k (.int .i64 (N 0)), .k (.int .i64 (N 0)), .k (.int .i64 (N 0)), .k (.int .i64 (N 0)), .k (.nilslc)], none⟩, ⟨true, 34, 31, [.k (.int .i64 (V 2)), .k (.nilslc), .k (.int .i64 (V 3)), .k (.int .i64 (V 4)), .k (.bool (V 5)), .k (.nilslc), .k (.int .i64 (N 0)), .k (.int .i64 (N 0)), .k (.int .i64 (N 0)), .k (.int .i64 (N 0)), .k (.int .i64 (N 0)), .k (.int .i64 (N 0)), .k (.int .i64 (N 0)), .k (.int .i64 (N 0)), .k (.int .i64 (N 0)), .k (.int .i64 (N 0)), .k (.int .i64 (N 0)), .k (.int .i64 (N 0)), .k (.int .i64 (N 0)), .k (.int .i64 (N 0)), .k (.int .i64 (N 0)), .k (.int .i64 (N 0)), .k (.int .i64 (N 0)), .k (.int .i64 (N 0)), .k (.int .i64 (N 0)), .k (.int .i64 (N 0)), .k (.int .i64 (N 0)), .k (.int .i64 (N 0)), .k (.int .i64 (N 0)), .k (.int .i64 (N 0)), .k (.nilslc)], none⟩, ⟨true, 34, 31, [.k (.int .i64 (V 2)), .k (.nilslc), .k (.int .i64 (V 3)), .k (.int .i64 (V 4)), .k (.bool (V 5)), .k (.nilslc), .k (.int .i64 (N 0)), .k (.int .i64 (N 0)), .k (.int .i64 (N 0)), .k (.int .i64 (N 0)), .k (.int .i64 (N 0)), .k (.int .i64 (N 0)), .k (.int .i64 (N 0)), .k (.int .i64 (N 0)), .k (.int .i64 (N 0)), .k (.int .i64 (N 0)), .k (.int .i64 (N 0)), .k (.int .i64 (N 0)), .k (.int .i64 (N 0)), .k (.int .i64 (N 0)), .k (.int .i64 (N 0)), .k (.int .i64 (N 0)), .k (.int .i64 (N 0)), .k (.int .i64 (N 0)), .k (.int .i64 (N 0)), .k (.int .i64 (N 0)), .k (.int .i64 (N 0)), .k (.int .i64 (N 0)), .k (.int .i64 (N 0)), .k (.int .i64 (N 0)), .k (.nilslc)], none⟩, ⟨true, 34, 31, [.k (.int .i64 (V 2)), .k (.nilslc), .k (.int .i64 (V 3)), .k (.int .i64 (V 4)), .k (.bool (V 5)), .k (.lsl 6 (V 16)), .k (.int .i64 (V 17)), .k (.int .i64 (V 18)), .k (.int .i64 (V 19)), .k (.int .i64 (V 20)), .k (.int .i64 (V 21)), .k (.int .i64 (V 22)), .k (.int .i64 (V 23)), .k (.int .i64 (V 24)), .k (.int .i64 (V 9)), .k (.int .i64 (V 11)), .k (.int .i64 (V 13)), .k (.int .i64 (V 15)), .k (.int .i64 (V 25)), .k (.int .i64 (V 26)), .k (.int .i64 (V 27)), .k (.int .i64 (V 28)), .k (.int .i64 (V 29)), .k (.int .i64 (V 30)), .k (.int .i64 (V 31)), .k (.int .i64 (V 32)), .k (.int .i64 (N 0)), .k (.int .i64 (N 0)), .k (.int .i64 (N 0)), .k (.int .i64 (N 0)), .k (.nilslc)], none⟩, ⟨true, 34, 31, [.k (.int .i64 (N 0)), .k (.nilslc), .k (.int .i64 (N 0)), .k (.int .i64 (N 0)), .k (.bool (B false)), .k (.nilslc), .k (.int .i64 (N 0)), .k (.int .i64 (N 0)), .k (.int .i64 (N 0)), .k (.int .i64 (N 0)), .k (.int .i64 (N 0)), .k (.int .i64 (N 0)), .k (.int .i64 (N 0)), .k (.int .i64 (N 0)), .k (.int .i64 (N 0)), .k (.int .i64 (N 0)), .k (.int .i64 (N 0)), .k (.int .i64 (N 0)), .k (.int .i64 (N 0)), .k (.int .i64 (N 0)), .k (.int .i64 (N 0)), .k (.int .i64 (N 0)), .k (.int .i64 (N 0)), .k (.int .i64 (N 0)), .k (.int .i64 (N 0)), .k (.int .i64 (N 0)), .k (.int .i64 (N 0)), .k (.int .i64 (N 0)), .k (.int .i64 (N 0)), .k (.int .i64 (N 0)), .k (.nilslc)], none⟩, ⟨false, 0, 0, [], some ⟨true, 76, [.int .i64, .int .i64, .int .i64, .int .i64], V 33, V 16⟩⟩], B true⟩, [(.exit 4, ⟨Ez 103 [(0, .pv (.one (.k (.str (V 0))))), (1, .pv (.one (.k (.int .i64 (V 1))))), (2, .pv (.agg [.k (.int .i64 (V 2)), .k (.nilslc), .k (.int .i64 (V 3)), .k (.int .i64 (V 4)), .k (.bool (V 5)), .k (.nilslc), .k (.int .i64 (N 0)), .k (.int .i64 (N 0)), .k (.int .i64 (N 0)), .k (.int .i64 (N 0)), .k (.int .i64 (N 0)), .k (.int .i64 (N 0)), .k (.int .i64 (N 0)), .k (.int .i64 (N 0)), .k (.int .i64 (N 0)), .k (.int .i64 (N 0)), .k (.int .i64 (N 0)), .k (.int .i64 (N 0)), .k (.int .i64 (N 0)), .k (.int .i64 (N 0)), .k (.int .i64 (N 0)), .k (.int .i64 (N 0)), .k (.int .i64 (N 0)), .k (.int .i64 (N 0)), .k (.int .i64 (N 0)), .k (.int .i64 (N 0)), .k (.int .i64 (N 0)), .k (.int .i64 (N 0)), .k (.int .i64 (N 0)), .k (.int .i64 (N 0)), .k (.nilslc)])), (5, .pv (.one (.k (.ptr 4 0)))), (6, .pv (.one (.k (.ptr 5 0)))), (7, .pv (.one (.k (.int .i64 (N 0))))), (9, .pv (.one (.k (.int .i64 (N 1))))), (43, .pv (.one (.k (.int .i64 (N 1))))), (44, .pv (.one (.k (.bool (B true))))), (45, .pv (.one (.k (.int .i64 (N 0))))), (46, .pv (.one (.k (.int .i64 (N 1))))), (64, .pv (.one (.k (.int .i64 (V 7))))), (65, .pv (.one (.k (.ptr 4 0)))), (66, .pv (.one (.k (.int .i64 (V 2))))), (67, .pv (.one (.k (.int .i64 (V 8))))), (68, .pv (.one (.k (.int .i64 (N 0))))), (69, .pv (.one (.k (.int .i64 (N 0))))), (70, .pv (.one (.k (.int .i64 (N 0))))), (71, .pv (.one (.k (.int .i64 (N 0))))), (72, .pv (.one (.k (.str (V 0))))), (73, .pv (.one (.k (.int .i64 (V 8))))), (74, .pv (.one (.k (.int .i64 (V 9))))), (75, .pv (.one (.k (.str (V 0))))), (76, .pv (.one (.k (.int .i64 (V 8))))), (77, .pv (.one (.k (.int .i64 (V 10))))), (78, .pv (.one (.k (.int .i64 (V 11))))), (79, .pv (.one (.k (.str (V 0))))), (80, .pv (.one (.k (.int .i64 (V 8))))), (81, .pv (.one (.k (.int .i64 (V 12))))), (82, .pv (.one (.k (.int .i64 (V 13))))), (83, .pv (.one (.k (.str (V 0))))), (84, .pv (.one (.k (.int .i64 (V 8))))), (85, .pv (.one (.k (.int .i64 (V 14))))), (86, .pv (.one (.k (.int .i64 (V 15))))), (87, .pv (.one (.k (.ptr 4 6)))), (88, .pv (.one (.k (.ptr 4 6)))), (89, .pv (.one (.k (.ptr 4 14)))), (90, .pv (.one (.k (.ptr 4 6)))), (91, .pv (.one (.k (.ptr 4 6)))), (92, .pv (.one (.k (.ptr 4 15)))), (93, .pv (.one (.k (.ptr 4 6)))), (94, .pv (.one (.k (.ptr 4 6)))), (95, .pv (.one (.k (.ptr 4 16)))), (96, .pv (.one (.k (.ptr 4 6)))), (97, .pv (.one (.k (.ptr 4 6)))), (98, .pv (.one (.k (.ptr 4 17)))), (99, .pv (.one (.k (.int .i64 (V 8))))), (100, .pv (.one (.k (.int .i64 (V 1)))))], [⟨true, 34, 31, [.k (.int .i64 (N 0)), .k (.nilslc), .k (.int .i64 (N 0)), .k (.int .i64 (N 0)), .k (.bool (B false)), .k (.nilslc), .k (.int .i64 (N 0)), .k (.int .i64 (N 0)), .k (.int .i64 (N 0)), .k (.int .i64 (N 0)), .k (.int .i64 (N 0)), .k (.int .i64 (N 0)), .k (.int .i64 (N 0)), .k (.int .i64 (N 0)), .k (.int .i64 (N 0)), .k (.int .i64 (N 0)), .k (.int .i64 (N 0)), .k (.int .i64 (N 0)), .k (.int .i64 (N 0)), .k (.int .i64 (N 0)), .k (.int .i64 (N 0)), .k (.int .i64 (N 0)), .k (.int .i64 (N 0)), .k (.int .i64 (N 0)), .k (.int .i64 (N 0)), .k (.int .i64 (N 0)), .k (.int .i64 (N 0)), .k (.int .i64 (N 0)), .k (.int .i64 (N 0)), .k (.int .i64 (N 0)), .k (.nilslc)], none⟩, ⟨true, 34, 31, [.k (.int .i64 (V 2)), .k (.nilslc), .k (.int .i64 (V 3)), .k (.int .i64 (V 4)), .k (.bool (V 5)), .k (.nilslc), .k (.int .i64 (N 0)), .k (.int .i64 (N 0)), .k (.int .i64 (N 0)), .k (.int .i64 (N 0)), .k (.int .i64 (N 0)), .k (.int .i64 (N 0)), .k (.int .i64 (N 0)), .k (.int .i64 (N 0)), .k (.int .i64 (N 0)), .k (.int .i64 (N 0)), .k (.int .i64 (N 0)), .k (.int .i64 (N 0)), .k (.int .i64 (N 0)), .k (.int .i64 (N 0)), .k (.int .i64 (N 0)), .k (.int .i64 (N 0)), .k (.int .i64 (N 0)), .k (.int .i64 (N 0)), .k (.int .i64 (N 0)), .k (.int .i64 (N 0)), .k (.int .i64 (N 0)), .k (.int .i64 (N 0)), .k (.int .i64 (N 0)), .k (.int .i64 (N 0)), .k (.nilslc)], none⟩, ⟨true, 34, 31, [.k (.int .i64 (V 2)), .k (.nilslc), .k (.int .i64 (V 3)), .k (.int .i64 (V 4)), .k (.bool (V 5)), .k (.nilslc), .k (.int .i64 (N 0)), .k (.int .i64 (N 0)), .k (.int .i64 (N 0)), .k (.int .i64 (N 0)), .k (.int .i64 (N 0)), .k (.int .i64 (N 0)), .k (.int .i64 (N 0)), .k (.int .i64 (N 0)), .k (.int .i64 (N 0)), .k (.int .i64 (N 0)), .k (.int .i64 (N 0)), .k (.int .i64 (N 0)), .k (.int .i64 (N 0)), .k (.int .i64 (N 0)), .k (.int .i64 (N 0)), .k (.int .i64 (N 0)), .k (.int .i64 (N 0)), .k (.int .i64 (N 0)), .k (.int .i64 (N 0)), .k (.int .i64 (N 0)), .k (.int .i64 (N 0)), .k (.int .i64 (N 0)), .k (.int .i64 (N 0)), .k (.int .i64 (N 0)), .k (.nilslc)], none⟩, ⟨true, 34, 31, [.k (.int .i64 (V 2)), .k (.nilslc), .k (.int .i64 (V 3)), .k (.int .i64 (V 4)), .k (.bool (V 5)), .k (.nilslc), .k (.int .i64 (N 0)), .k (.int .i64 (N 0)), .k (.int .i64 (N 0)), .k (.int .i64 (N 0)), .k (.int .i64 (N 0)), .k (.int .i64 (N 0)), .k (.int .i64 (N 0)), .k (.int .i64 (N 0)), .k (.int .i64 (N 0)), .k (.int .i64 (N 0)), .k (.int .i64 (N 0)), .k (.int .i64 (N 0)), .k (.int .i64 (N 0)), .k (.int .i64 (N 0)), .k (.int .i64 (N 0)), .k (.int .i64 (N 0)), .k (.int .i64 (N 0)), .k (.int .i64 (N 0)), .k (.int .i64 (N 0)), .k (.int .i64 (N 0)), .k (.int .i64 (N 0)), .k (.int .i64 (N 0)), .k (.int .i64 (N 0)), .k (.int .i64 (N 0)), .k (.nilslc)], none⟩, ⟨true, 34, 31, [.k (.int .i64 (V 2)), .k (.nilslc), .k (.int .i64 (V 3)), .k (.int .i64 (V 4)), .k (.bool (V 5)), .k (.lsl 6 (V 16)), .k (.int .i64 (V 17)), .k (.int .i64 (V 18)), .k (.int .i64 (V 19)), .k (.int .i64 (V 20)), .k (.int .i64 (V 21)), .k (.int .i64 (V 22)), .k (.int .i64 (V 23)), .k (.int .i64 (V 24)), .k (.int .i64 (V 9)), .k (.int .i64 (V 11)), .k (.int .i64 (V 13)), .k (.int .i64 (V 15)), .k (.int .i64 (V 34)), .k (.int .i64 (V 35)), .k (.int .i64 (V 36)), .k (.int .i64 (V 37)), .k (.int .i64 (V 38)), .k (.int .i64 (V 39)), .k (.int .i64 (V 40)), .k (.int .i64 (V 41)), .k (.int .i64 (N 0)), .k (.int .i64 (N 0)), .k (.int .i64 (N 0)), .k (.int .i64 (N 0)), .k (.nilslc)], none⟩, ⟨true, 34, 31, [.k (.int .i64 (N 0)), .k (.nilslc), .k (.int .i64 (N 0)), .k (.int .i64 (N 0)), .k (.bool (B false)), .k (.nilslc), .k (.int .i64 (N 0)), .k (.int .i64 (N 0)), .k (.int .i64 (N 0)), .k (.int .i64 (N 0)), .k (.int .i64 (N 0)), .k (.int .i64 (N 0)), .k (.int .i64 (N 0)), .k (.int .i64 (N 0)), .k (.int .i64 (N 0)), .k (.int .i64 (N 0)), .k (.int .i64 (N 0)), .k (.int .i64 (N 0)), .k (.int .i64 (N 0)), .k (.int .i64 (N 0)), .k (.int .i64 (N 0)), .k (.int .i64 (N 0)), .k (.int .i64 (N 0)), .k (.int .i64 (N 0)), .k (.int .i64 (N 0)), .k (.int .i64 (N 0)), .k (.int .i64 (N 0)), .k (.int .i64 (N 0)), .k (.int .i64 (N 0)), .k (.int .i64 (N 0)), .k (.nilslc)], none⟩, ⟨false, 0, 0, [], some ⟨true, 76, [.int .i64, .int .i64, .int .i64, .int .i64], V 33, V 16⟩⟩], B true⟩)], [true, true, true, true, true, true, false, true, true, true, true, true, true, true, true, true, true, true, true, true, true, true, true, true, true, false, false, false, false, false, false, false, false, true], [.i, .i, .i, .i, .i, .i, .i, .i]⟩
def LO : G := ⟨53, [⟨52, (.ar .add .i64), [V 6, N 1]⟩, ⟨44, .upd, [V 6, V 38, V 25, V 26, V 27, V 28, V 29, V 30, V 31, V 32]⟩, ⟨43, .imp, [V 34, V 42]⟩, ⟨42, .and, [V 40, V 41]⟩, ⟨41, (.cmp .lss), [V 6, N 8]⟩, ⟨40, (.cmp .leq), [N 0, V 6]⟩, ⟨39, .imp, [V 34, V 37]⟩, ⟨37, (.call 26), [V 0, V 36]⟩, ⟨36, (.ar .add .i64), [V 1, V 6]⟩, ⟨35, .not, [V 34]⟩, ⟨34, (.cmp .lss), [V 6, V 2]⟩], [V 43, V 39], []⟩
def VY (al : List A) : Nat := ((gi al 2) - (gi al 6)).toNat
theorem Uv (e : Nat → A) (H : Ab T e LO.defs) (hp : (Day.agP (e 1).int (e 2).int (e 6).int) = true) :
  ((e 43).bool = true ∧ (e 39).bool = true) ∧ ((e 34).bool = true → (Day.agP (e 1).int (e 2).int (e 52).int) = true ∧ (Day.BT (e 0).str (e 1).int (e 2).int (e 52).int (e 44).int 0 = Day.BT (e 0).str (e 1).int (e 2).int (e 6).int (e 25).int 0 ∧ Day.BT (e 0).str (e 1).int (e 2).int (e 52).int (e 45).int 1 = Day.BT (e 0).str (e 1).int (e 2).int (e 6).int (e 26).int 1 ∧ Day.BT (e 0).str (e 1).int (e 2).int (e 52).int (e 46).int 2 = Day.BT (e 0).str (e 1).int (e 2).int (e 6).int (e 27).int 2 ∧ Day.BT (e 0).str (e 1).int (e 2).int (e 52).int (e 47).int 3 = Day.BT (e 0).str (e 1).int (e 2).int (e 6).int (e 28).int 3 ∧ Day.BT (e 0).str (e 1).int (e 2).int (e 52).int (e 48).int 4 = Day.BT (e 0).str (e 1).int (e 2).int (e 6).int (e 29).int 4 ∧ Day.BT (e 0).str (e 1).int (e 2).int (e 52).int (e 49).int 5 = Day.BT (e 0).str (e 1).int (e 2).int (e 6).int (e 30).int 5 ∧ Day.BT (e 0).str (e 1).int (e 2).int (e 52).int (e 50).int 6 = Day.BT (e 0).str (e 1).int (e 2).int (e 6).int (e 31).int 6 ∧ Day.BT (e 0).str (e 1).int (e 2).int (e 52).int (e 51).int 7 = Day.BT (e 0).str (e 1).int (e 2).int (e 6).int (e 32).int 7) ∧ ((e 2).int - (e 52).int).toNat < ((e 2).int - (e 6).int).toNat) ∧ ((e 35).bool = true → (e 25).int = Day.BT (e 0).str (e 1).int (e 2).int (e 6).int (e 25).int 0 ∧ (e 26).int = Day.BT (e 0).str (e 1).int (e 2).int (e 6).int (e 26).int 1 ∧ (e 27).int = Day.BT (e 0).str (e 1).int (e 2).int (e 6).int (e 27).int 2 ∧ (e 28).int = Day.BT (e 0).str (e 1).int (e 2).int (e 6).int (e 28).int 3 ∧ (e 29).int = Day.BT (e 0).str (e 1).int (e 2).int (e 6).int (e 29).int 4 ∧ (e 30).int = Day.BT (e 0).str (e 1).int (e 2).int (e 6).int (e 30).int 5 ∧ (e 31).int = Day.BT (e 0).str (e 1).int (e 2).int (e 6).int (e 31).int 6 ∧ (e 32).int = Day.BT (e 0).str (e 1).int (e 2).int (e 6).int (e 32).int 7) := by
 simp only [LO, Ab, Def.q, BI, L.Ak, L.Aw, L.AS, L.AV, L.ev, A.Ai, A.Ao, A.AF, A.AT, List.map_cons, List.map_nil, Nat.zero_add, Nat.add_zero, and_true, true_and, Nat.reduceAdd, Nat.one_mul] at H
 simp only [D0, Ee, CW, Bg, Ef, Ey, BV, Fq, and_true, true_and] at H
 obtain ⟨⟨q52, -⟩, ⟨q44, q45, q46, q47, q48, q49, q50, q51⟩, q43, q42, q41, q40, q39, q37, ⟨q36, -⟩, q35, q34⟩ := H
 replace q37 := Al q37
 obtain ⟨q37, q38⟩ := q37
 simp only [L.Ak, L.Aw, L.AS, L.AV, L.ev, A.Ai, A.Ao, A.AF] at q37 q38
 generalize (e 0).str = x0, (e 1).int = x1, (e 2).int = x2, (e 3).int = x3, (e 4).int = x4, (e 5).int = x5, (e 6).int = x6, (e 7).int = x7, (e 8).int = x8, (e 9).int = x9, (e 10).int = x10, (e 11).int = x11, (e 12).int = x12, (e 13).int = x13, (e 14).int = x14, (e 15).int = x15, (e 16).int = x16, (e 17).int = x17, (e 18).int = x18, (e 19).int = x19, (e 20).int = x20, (e 21).int = x21, (e 22).int = x22, (e 23).int = x23, (e 24).int = x24, (e 25).int = x25, (e 26).int = x26, (e 27).int = x27, (e 28).int = x28, (e 29).int = x29, (e 30).int = x30, (e 31).int = x31, (e 32).int = x32, (e 33).int = x33, (e 34).bool = v34, (e 35).bool = v35, (e 36).int = v36, (e 37).bool = v37, (e 38).int = v38, (e 39).bool = v39, (e 40).bool = v40, (e 41).bool = v41, (e 42).bool = v42, (e 43).bool = v43, (e 44).int = v44, (e 45).int = v45, (e 46).int = v46, (e 47).int = v47, (e 48).int = v48, (e 49).int = v49, (e 50).int = v50, (e 51).int = v51, (e 52).int = v52 at *
 have hb := Day.JT.1 hp
 by_cases h : x6 < x2
 ·have t : v34 = true := by rw [q34]; exact decide_eq_true h
  have w19 : v36 = x1 + x6 := by rw [q36]; exact wrap64 (by omega) (by omega)
  have w35 : v52 = x6 + 1 := by rw [q52]; exact wrap64 (by omega) (by omega)
  have e21 : v38 = Day.Ci x0 (x1 + x6) := by rw [q38, w19]
  rw [w35]
  refine ⟨⟨by rw [q43]; exact Day.BF (by rw [q42, q40, q41]; simp; omega), by rw [q39]; exact Day.BF (by rw [q37, w19]; simp [Day.C1]; omega)⟩, fun _ => ⟨Day.JT.2 ⟨by omega, by omega, by omega, by omega, by omega⟩, ⟨Day.Cc (j := 0) hb.2.2.1 h e21 q44, Day.Cc (j := 1) hb.2.2.1 h e21 q45, Day.Cc (j := 2) hb.2.2.1 h e21 q46, Day.Cc (j := 3) hb.2.2.1 h e21 q47, Day.Cc (j := 4) hb.2.2.1 h e21 q48, Day.Cc (j := 5) hb.2.2.1 h e21 q49, Day.Cc (j := 6) hb.2.2.1 h e21 q50, Day.Cc (j := 7) hb.2.2.1 h e21 q51⟩, by omega⟩, fun hh => ?_⟩
  rw [q35, t] at hh
  cases hh
 ·have t : v34 = false := by rw [q34]; exact decide_eq_false h
  refine ⟨by simp [q43, q39, t], fun hh => ?_, fun _ => ⟨(Day.C5 h).symm, (Day.C5 h).symm, (Day.C5 h).symm, (Day.C5 h).symm, (Day.C5 h).symm, (Day.C5 h).symm, (Day.C5 h).symm, (Day.C5 h).symm⟩⟩
  rw [t] at hh
  cases hh
theorem VZ (as : List A) (e : Nat → A) (h1 : as = (List.range 34).map e) (h2 : (IM as).1 = true) (H : Ab T e LO.defs) : Bj e LO.obs ∧
   (∀ pc ls, some (V 34, [V 0, V 1, V 2, V 3, V 4, V 5, V 52, V 7, V 8, V 9, V 10, V 11, V 12, V 13, V 14, V 15, V 16, V 17, V 18, V 19, V 20, V 21, V 22, V 23, V 24, V 44, V 45, V 46, V 47, V 48, V 49, V 50, V 51, V 33]) = some (pc, ls) → (pc.ev e).bool = true → (IM (ls.map (L.ev e))).1 = true ∧ (IM (ls.map (L.ev e))).2 = (IM as).2 ∧ VY (ls.map (L.ev e)) < VY as) ∧
   ∀ x ∈ ([(V 35, [some (V 25), some (V 26), some (V 27), some (V 28), some (V 29), some (V 30), some (V 31), some (V 32)])] : List (L × List (Option L))), (x.1.ev e).bool = true → ∀ (j : Nat) l, x.2[j]? = some (some l) → D6 (D9.tags.getD j .any) (l.ev e) ((IM as).2.getD j (.i 0)) := by
 subst h1
 obtain ⟨ho, h⟩ := Uv e H h2
 refine ⟨⟨ho.1, ho.2, trivial⟩, fun pc ls hb hpc => ?_, ?_⟩
 ·injection hb with hb
  injection hb with h3 h4
  subst h3 h4
  have h := h.1 hpc
  refine ⟨h.1, ?_, h.2.2⟩
  have h5 := h.2.1
  obtain ⟨z0, z1, z2, z3, z4, z5, z6, z7⟩ := h5
  exact (A5 z0 (A5 z1 (A5 z2 (A5 z3 (A5 z4 (A5 z5 (A5 z6 (A5 z7 rfl))))))))
 ·intro x hx hpc j l hj
  simp only [List.mem_cons, List.not_mem_nil, or_false] at hx
  rcases hx with rfl
  ·have h := h.2 hpc
   obtain ⟨z0, z1, z2, z3, z4, z5, z6, z7⟩ := h
   match j, hj with
   | 0, hj => cases hj; exact z0
   | 1, hj => cases hj; exact z1
   | 2, hj => cases hj; exact z2
   | 3, hj => cases hj; exact z3
   | 4, hj => cases hj; exact z4
   | 5, hj => cases hj; exact z5
   | 6, hj => cases hj; exact z6
   | 7, hj => cases hj; exact z7
   | _ + 8, hj => cases hj
def EV : Lp := ⟨10, [false, true, false, true, true, false, true, true, true], 1183, 8, 2, 4, ⟨Ez 73 [(0, .pv (.one (.k (.str (V 0))))), (2, .pv (.one (.k (.ptr 0 0)))), (3, .pv (.one (.k (.ptr 3 0)))), (4, .pv (.one (.k (.int .i64 (N 3))))), (5, .pv (.one (.k (.int .i64 (V 1))))), (10, .pv (.one (.k (.str (V 0))))), (11, .pv (.agg [.k (.int .i64 (V 2)), .k (.nilslc), .k (.int .i64 (V 3)), .k (.int .i64 (V 4)), .k (.bool (V 5)), .k (.nilslc), .k (.int .i64 (N 0)), .k (.int .i64 (N 0)), .k (.int .i64 (N 0)), .k (.int .i64 (N 0)), .k (.int .i64 (N 0)), .k (.int .i64 (N 0)), .k (.int .i64 (N 0)), .k (.int .i64 (N 0)), .k (.int .i64 (N 0)), .k (.int .i64 (N 0)), .k (.int .i64 (N 0)), .k (.int .i64 (N 0)), .k (.int .i64 (N 0)), .k (.int .i64 (N 0)), .k (.int .i64 (N 0)), .k (.int .i64 (N 0)), .k (.int .i64 (N 0)), .k (.int .i64 (N 0)), .k (.int .i64 (N 0)), .k (.int .i64 (N 0)), .k (.int .i64 (N 0)), .k (.int .i64 (N 0)), .k (.int .i64 (N 0)), .k (.int .i64 (N 0)), .k (.nilslc)])), (12, .pv (.one (.k (.ptr 3 4)))), (13, .pv (.one (.k (.bool (V 5)))))], [⟨true, 34, 31, [.k (.int .i64 (N 0)), .k (.nilslc), .k (.int .i64 (N 0)), .k (.int .i64 (N 0)), .k (.bool (B false)), .k (.nilslc), .k (.int .i64 (N 0)), .k (.int .i64 (N 0)), .k (.int .i64 (N 0)), .k (.int .i64 (N 0)), .k (.int .i64 (N 0)), .k (.int .i64 (N 0)), .k (.int .i64 (N 0)), .k (.int .i64 (N 0)), .k (.int .i64 (N 0)), .k (.int .i64 (N 0)), .k (.int .i64 (N 0)), .k (.int .i64 (N 0)), .k (.int .i64 (N 0)), .k (.int .i64 (N 0)), .k (.int .i64 (N 0)), .k (.int .i64 (N 0)), .k (.int .i64 (N 0)), .k (.int .i64 (N 0)), .k (.int .i64 (N 0)), .k (.int .i64 (N 0)), .k (.int .i64 (N 0)), .k (.int .i64 (N 0)), .k (.int .i64 (N 0)), .k (.int .i64 (N 0)), .k (.nilslc)], none⟩, ⟨true, 34, 31, [.k (.int .i64 (V 2)), .k (.nilslc), .k (.int .i64 (V 3)), .k (.int .i64 (V 4)), .k (.bool (V 5)), .k (.nilslc), .k (.int .i64 (N 0)), .k (.int .i64 (N 0)), .k (.int .i64 (N 0)), .k (.int .i64 (N 0)), .k (.int .i64 (N 0)), .k (.int .i64 (N 0)), .k (.int .i64 (N 0)), .k (.int .i64 (N 0)), .k (.int .i64 (N 0)), .k (.int .i64 (N 0)), .k (.int .i64 (N 0)), .k (.int .i64 (N 0)), .k (.int .i64 (N 0)), .k (.int .i64 (N 0)), .k (.int .i64 (N 0)), .k (.int .i64 (N 0)), .k (.int .i64 (N 0)), .k (.int .i64 (N 0)), .k (.int .i64 (N 0)), .k (.int .i64 (N 0)), .k (.int .i64 (N 0)), .k (.int .i64 (N 0)), .k (.int .i64 (N 0)), .k (.int .i64 (N 0)), .k (.nilslc)], none⟩, ⟨true, 34, 31, [.k (.int .i64 (V 2)), .k (.nilslc), .k (.int .i64 (V 3)), .k (.int .i64 (V 4)), .k (.bool (V 5)), .k (.nilslc), .k (.int .i64 (N 0)), .k (.int .i64 (N 0)), .k (.int .i64 (N 0)), .k (.int .i64 (N 0)), .k (.int .i64 (N 0)), .k (.int .i64 (N 0)), .k (.int .i64 (N 0)), .k (.int .i64 (N 0)), .k (.int .i64 (N 0)), .k (.int .i64 (N 0)), .k (.int .i64 (N 0)), .k (.int .i64 (N 0)), .k (.int .i64 (N 0)), .k (.int .i64 (N 0)), .k (.int .i64 (N 0)), .k (.int .i64 (N 0)), .k (.int .i64 (N 0)), .k (.int .i64 (N 0)), .k (.int .i64 (N 0)), .k (.int .i64 (N 0)), .k (.int .i64 (N 0)), .k (.int .i64 (N 0)), .k (.int .i64 (N 0)), .k (.int .i64 (N 0)), .k (.nilslc)], none⟩, ⟨true, 34, 31, [.k (.int .i64 (V 2)), .k (.lsl 4 (V 6)), .k (.int .i64 (V 3)), .k (.int .i64 (V 4)), .k (.bool (V 5)), .k (.nilslc), .k (.int .i64 (N 0)), .k (.int .i64 (N 0)), .k (.int .i64 (N 0)), .k (.int .i64 (N 0)), .k (.int .i64 (N 0)), .k (.int .i64 (N 0)), .k (.int .i64 (N 0)), .k (.int .i64 (N 0)), .k (.int .i64 (N 0)), .k (.int .i64 (N 0)), .k (.int .i64 (N 0)), .k (.int .i64 (N 0)), .k (.int .i64 (N 0)), .k (.int .i64 (N 0)), .k (.int .i64 (N 0)), .k (.int .i64 (N 0)), .k (.int .i64 (N 0)), .k (.int .i64 (N 0)), .k (.int .i64 (N 0)), .k (.int .i64 (N 0)), .k (.int .i64 (N 0)), .k (.int .i64 (N 0)), .k (.int .i64 (N 0)), .k (.int .i64 (N 0)), .k (.nilslc)], none⟩, ⟨false, 0, 0, [], some ⟨true, 3, [.int .i64], V 7, V 6⟩⟩], B true⟩, [(.exit 0, ⟨Ez 73 [(0, .pv (.one (.k (.str (V 0))))), (2, .pv (.one (.k (.ptr 0 0)))), (3, .pv (.one (.k (.ptr 3 0)))), (4, .pv (.one (.k (.int .i64 (N 3))))), (10, .pv (.one (.k (.str (V 0))))), (11, .pv (.agg [.k (.int .i64 (V 2)), .k (.nilslc), .k (.int .i64 (V 3)), .k (.int .i64 (V 4)), .k (.bool (V 5)), .k (.nilslc), .k (.int .i64 (N 0)), .k (.int .i64 (N 0)), .k (.int .i64 (N 0)), .k (.int .i64 (N 0)), .k (.int .i64 (N 0)), .k (.int .i64 (N 0)), .k (.int .i64 (N 0)), .k (.int .i64 (N 0)), .k (.int .i64 (N 0)), .k (.int .i64 (N 0)), .k (.int .i64 (N 0)), .k (.int .i64 (N 0)), .k (.int .i64 (N 0)), .k (.int .i64 (N 0)), .k (.int .i64 (N 0)), .k (.int .i64 (N 0)), .k (.int .i64 (N 0)), .k (.int .i64 (N 0)), .k (.int .i64 (N 0)), .k (.int .i64 (N 0)), .k (.int .i64 (N 0)), .k (.int .i64 (N 0)), .k (.int .i64 (N 0)), .k (.int .i64 (N 0)), .k (.nilslc)])), (12, .pv (.one (.k (.ptr 3 4)))), (13, .pv (.one (.k (.bool (V 5)))))], [⟨true, 34, 31, [.k (.int .i64 (N 0)), .k (.nilslc), .k (.int .i64 (N 0)), .k (.int .i64 (N 0)), .k (.bool (B false)), .k (.nilslc), .k (.int .i64 (N 0)), .k (.int .i64 (N 0)), .k (.int .i64 (N 0)), .k (.int .i64 (N 0)), .k (.int .i64 (N 0)), .k (.int .i64 (N 0)), .k (.int .i64 (N 0)), .k (.int .i64 (N 0)), .k (.int .i64 (N 0)), .k (.int .i64 (N 0)), .k (.int .i64 (N 0)), .k (.int .i64 (N 0)), .k (.int .i64 (N 0)), .k (.int .i64 (N 0)), .k (.int .i64 (N 0)), .k (.int .i64 (N 0)), .k (.int .i64 (N 0)), .k (.int .i64 (N 0)), .k (.int .i64 (N 0)), .k (.int .i64 (N 0)), .k (.int .i64 (N 0)), .k (.int .i64 (N 0)), .k (.int .i64 (N 0)), .k (.int .i64 (N 0)), .k (.nilslc)], none⟩, ⟨true, 34, 31, [.k (.int .i64 (V 2)), .k (.nilslc), .k (.int .i64 (V 3)), .k (.int .i64 (V 4)), .k (.bool (V 5)), .k (.nilslc), .k (.int .i64 (N 0)), .k (.int .i64 (N 0)), .k (.int .i64 (N 0)), .k (.int .i64 (N 0)), .k (.int .i64 (N 0)), .k (.int .i64 (N 0)), .k (.int .i64 (N 0)), .k (.int .i64 (N 0)), .k (.int .i64 (N 0)), .k (.int .i64 (N 0)), .k (.int .i64 (N 0)), .k (.int .i64 (N 0)), .k (.int .i64 (N 0)), .k (.int .i64 (N 0)), .k (.int .i64 (N 0)), .k (.int .i64 (N 0)), .k (.int .i64 (N 0)), .k (.int .i64 (N 0)), .k (.int .i64 (N 0)), .k (.int .i64 (N 0)), .k (.int .i64 (N 0)), .k (.int .i64 (N 0)), .k (.int .i64 (N 0)), .k (.int .i64 (N 0)), .k (.nilslc)], none⟩, ⟨true, 34, 31, [.k (.int .i64 (V 2)), .k (.nilslc), .k (.int .i64 (V 3)), .k (.int .i64 (V 4)), .k (.bool (V 5)), .k (.nilslc), .k (.int .i64 (N 0)), .k (.int .i64 (N 0)), .k (.int .i64 (N 0)), .k (.int .i64 (N 0)), .k (.int .i64 (N 0)), .k (.int .i64 (N 0)), .k (.int .i64 (N 0)), .k (.int .i64 (N 0)), .k (.int .i64 (N 0)), .k (.int .i64 (N 0)), .k (.int .i64 (N 0)), .k (.int .i64 (N 0)), .k (.int .i64 (N 0)), .k (.int .i64 (N 0)), .k (.int .i64 (N 0)), .k (.int .i64 (N 0)), .k (.int .i64 (N 0)), .k (.int .i64 (N 0)), .k (.int .i64 (N 0)), .k (.int .i64 (N 0)), .k (.int .i64 (N 0)), .k (.int .i64 (N 0)), .k (.int .i64 (N 0)), .k (.int .i64 (N 0)), .k (.nilslc)], none⟩, ⟨true, 34, 31, [.k (.int .i64 (V 2)), .k (.lsl 4 (V 8)), .k (.int .i64 (V 3)), .k (.int .i64 (V 4)), .k (.bool (V 5)), .k (.nilslc), .k (.int .i64 (N 0)), .k (.int .i64 (N 0)), .k (.int .i64 (N 0)), .k (.int .i64 (N 0)), .k (.int .i64 (N 0)), .k (.int .i64 (N 0)), .k (.int .i64 (N 0)), .k (.int .i64 (N 0)), .k (.int .i64 (N 0)), .k (.int .i64 (N 0)), .k (.int .i64 (N 0)), .k (.int .i64 (N 0)), .k (.int .i64 (N 0)), .k (.int .i64 (N 0)), .k (.int .i64 (N 0)), .k (.int .i64 (N 0)), .k (.int .i64 (N 0)), .k (.int .i64 (N 0)), .k (.int .i64 (N 0)), .k (.int .i64 (N 0)), .k (.int .i64 (N 0)), .k (.int .i64 (N 0)), .k (.int .i64 (N 0)), .k (.int .i64 (N 0)), .k (.nilslc)], none⟩, ⟨false, 0, 0, [], some ⟨true, 3, [.int .i64], V 9, V 8⟩⟩], B true⟩)], [true, false, true, true, true, true, false, false], [.i, .any]⟩
def LP : G := ⟨22, [⟨21, (.ar .add .i64), [V 1, N 1]⟩, ⟨20, .imp, [V 8, V 19]⟩, ⟨19, .and, [V 17, V 18]⟩, ⟨18, (.cmp .lss), [V 16, N 1000001]⟩, ⟨17, (.cmp .leq), [N 0, V 16]⟩, ⟨16, (.lln 1), [V 15]⟩, ⟨15, .cat, [V 7, V 14]⟩, ⟨14, .mkl, [V 12]⟩, ⟨13, .imp, [V 8, V 11]⟩, ⟨11, (.call 26), [V 0, V 10]⟩, ⟨10, (.ar .add .i64), [N 3, V 1]⟩, ⟨9, .not, [V 8]⟩, ⟨8, (.cmp .lss), [V 1, V 2]⟩], [V 20, V 13], []⟩
def V0 (al : List A) : Nat := ((gi al 2) - (gi al 1)).toNat
theorem Uw (e : Nat → A) (H : Ab T e LP.defs) (hp : (Day.cP (e 0).str 1 (e 2).int (e 1).int (Day.L1.mk (e 7) (e 6).int)) = true) :
  ((e 20).bool = true ∧ (e 13).bool = true) ∧ ((e 8).bool = true → (Day.cP (e 0).str 1 (e 2).int (e 21).int (Day.L1.mk (e 15) (e 16).int)) = true ∧ ((e 2).int = (e 2).int ∧ Day.cX (e 0).str 1 (e 2).int (e 21).int (Day.L1.mk (e 15) (e 16).int) = Day.cX (e 0).str 1 (e 2).int (e 1).int (Day.L1.mk (e 7) (e 6).int)) ∧ ((e 2).int - (e 21).int).toNat < ((e 2).int - (e 1).int).toNat) ∧ ((e 9).bool = true → (e 6).int = (e 2).int ∧ (e 7) = Day.cX (e 0).str 1 (e 2).int (e 1).int (Day.L1.mk (e 7) (e 6).int)) := by
 simp only [LP, Ab, Def.q, BI, L.Ak, L.Aw, L.AS, L.AV, L.ev, A.Ai, A.Ao, A.AF, A.AT, List.map_cons, List.map_nil, Nat.zero_add, Nat.add_zero, and_true, true_and, Nat.reduceAdd, Nat.one_mul] at H
 simp only [D0, Ee, CW, Bg, Ef, Ey, BV, Fq, and_true, true_and] at H
 obtain ⟨⟨q21, -⟩, q20, q19, q18, q17, q16, q15, q14, q13, q11, ⟨q10, -⟩, q9, q8⟩ := H
 obtain k12 := Gd q11
 unfold KW at k12
 replace q11 := Al q11
 obtain ⟨q11, q12⟩ := q11
 simp only [L.Ak, L.Aw, L.AS, L.AV, L.ev, A.Ai, A.Ao, A.AF] at q11 q12
 generalize (e 0).str = x0, (e 1).int = x1, (e 2).int = x2, (e 3).int = x3, (e 4).int = x4, (e 5).int = x5, (e 6).int = x6, e 7 = x7, (e 8).bool = v8, (e 9).bool = v9, (e 10).int = v10, (e 11).bool = v11, (e 12).int = v12, (e 13).bool = v13, e 14 = v14, e 15 = v15, (e 16).int = v16, (e 17).bool = v17, (e 18).bool = v18, (e 19).bool = v19, (e 20).bool = v20, (e 21).int = v21 at *
 rw [k12] at q14
 by_cases h : x1 < x2
 ·obtain ⟨i0, i1, j0, n1, l1, e1, st⟩ := Day.Aaf hp h
  have l1 : (x7.AJ.length : Int) = x1 := l1
  have t8 : v8 = true := by rw [q8]; exact decide_eq_true h
  have w10 : v10 = 1 + 2 + x1 := by rw [q10, wrap64 (by omega) (by omega)]; omega
  have w21 : v21 = x1 + 1 := by rw [q21]; exact wrap64 (by omega) (by omega)
  have e15 : v15 = .l (x7.AJ ++ [.i (Day.Ci x0 (1 + 2 + x1))]) := by rw [q15, q14, q12, w10]; rfl
  have e16 : v16 = (v15.AJ.length : Int) := by rw [q16, Nat.div_one]
  obtain ⟨s1, s2, s3⟩ := st ⟨v15, v16⟩ e15 e16
  have g16 : v16 = x1 + 1 := by rw [e16, e15]; show ((x7.AJ ++ [_]).length : Int) = _; rw [List.length_append, List.length_singleton]; omega
  rw [w21]
  refine ⟨⟨by rw [q20]; exact Day.BF (by rw [q19, q17, q18, g16]; simp; omega), by rw [q13]; exact Day.BF (by rw [q11, w10]; simp [Day.C1]; omega)⟩, fun _ => ⟨s1, ⟨rfl, s2⟩, s3⟩, fun hh => ?_⟩
  rw [q9, t8] at hh
  cases hh
 ·obtain ⟨e1, e2⟩ := Day.AbK hp h
  have t8 : v8 = false := by rw [q8]; exact decide_eq_false h
  refine ⟨by simp [q20, q13, t8], fun hh => ?_, fun _ => ⟨e1, e2.symm⟩⟩
  rw [t8] at hh
  cases hh
theorem V1 (as : List A) (e : Nat → A) (h1 : as = (List.range 8).map e) (h2 : (IN as).1 = true) (H : Ab T e LP.defs) : Bj e LP.obs ∧
   (∀ pc ls, some (V 8, [V 0, V 21, V 2, V 3, V 4, V 5, V 16, V 15]) = some (pc, ls) → (pc.ev e).bool = true → (IN (ls.map (L.ev e))).1 = true ∧ (IN (ls.map (L.ev e))).2 = (IN as).2 ∧ V0 (ls.map (L.ev e)) < V0 as) ∧
   ∀ x ∈ ([(V 9, [some (V 6), some (V 7)])] : List (L × List (Option L))), (x.1.ev e).bool = true → ∀ (j : Nat) l, x.2[j]? = some (some l) → D6 (EV.tags.getD j .any) (l.ev e) ((IN as).2.getD j (.i 0)) := by
 subst h1
 obtain ⟨ho, h⟩ := Uw e H h2
 refine ⟨⟨ho.1, ho.2, trivial⟩, fun pc ls hb hpc => ?_, ?_⟩
 ·injection hb with hb
  injection hb with h3 h4
  subst h3 h4
  have h := h.1 hpc
  refine ⟨h.1, ?_, h.2.2⟩
  have h5 := h.2.1
  obtain ⟨z0, z1⟩ := h5
  exact (A5 z0 (Fw z1 rfl))
 ·intro x hx hpc j l hj
  simp only [List.mem_cons, List.not_mem_nil, or_false] at hx
  rcases hx with rfl
  ·have h := h.2 hpc
   obtain ⟨z0, z1⟩ := h
   match j, hj with
   | 0, hj => cases hj; exact z0
   | 1, hj => cases hj; exact z1
   | _ + 2, hj => cases hj
def FW : Lp := ⟨27, [false, true, false, false, true, true, true, false, true, false, true, true], 1186, 41, 5, 13, ⟨Ez 71 [(0, .pv (.one (.k (.str (V 0))))), (1, .pv (.one (.k (.int .i64 (V 1))))), (2, .pv (.agg [.k (.int .i64 (V 2)), .k (.lsl 8 (V 3)), .k (.int .i64 (V 4)), .k (.int .i64 (V 5)), .k (.bool (V 6)), .k (.lsl 7 (V 7)), .k (.int .i64 (V 8)), .k (.int .i64 (V 9)), .k (.int .i64 (V 10)), .k (.int .i64 (V 11)), .k (.int .i64 (V 12)), .k (.int .i64 (V 13)), .k (.int .i64 (V 14)), .k (.int .i64 (V 15)), .k (.int .i64 (V 16)), .k (.int .i64 (V 17)), .k (.int .i64 (V 18)), .k (.int .i64 (V 19)), .k (.int .i64 (V 20)), .k (.int .i64 (V 21)), .k (.int .i64 (V 22)), .k (.int .i64 (V 23)), .k (.int .i64 (V 24)), .k (.int .i64 (V 25)), .k (.int .i64 (V 26)), .k (.int .i64 (V 27)), .k (.int .i64 (V 28)), .k (.int .i64 (V 29)), .k (.int .i64 (V 30)), .k (.int .i64 (V 31)), .k (.lsl 9 (V 32))])), (5, .pv (.one (.k (.ptr 10 0)))), (6, .pv (.one (.k (.ptr 11 0)))), (7, .pv (.one (.k (.int .i64 (N 0))))), (8, .pv (.one (.k (.ptr 12 0)))), (9, .pv (.one (.k (.int .i64 (V 33))))), (10, .pv (.one (.k (.ptr 10 2)))), (11, .pv (.one (.k (.ptr 10 2)))), (12, .pv (.one (.k (.int .i64 (V 4))))), (13, .pv (.one (.k (.bool (V 34))))), (14, .pv (.one (.k (.bool (V 34))))), (37, .pv (.one (.k (.bool (V 35))))), (38, .pv (.one (.k (.bool (V 35)))))], [⟨true, 34, 31, [.k (.int .i64 (N 0)), .k (.nilslc), .k (.int .i64 (N 0)), .k (.int .i64 (N 0)), .k (.bool (B false)), .k (.nilslc), .k (.int .i64 (N 0)), .k (.int .i64 (N 0)), .k (.int .i64 (N 0)), .k (.int .i64 (N 0)), .k (.int .i64 (N 0)), .k (.int .i64 (N 0)), .k (.int .i64 (N 0)), .k (.int .i64 (N 0)), .k (.int .i64 (N 0)), .k (.int .i64 (N 0)), .k (.int .i64 (N 0)), .k (.int .i64 (N 0)), .k (.int .i64 (N 0)), .k (.int .i64 (N 0)), .k (.int .i64 (N 0)), .k (.int .i64 (N 0)), .k (.int .i64 (N 0)), .k (.int .i64 (N 0)), .k (.int .i64 (N 0)), .k (.int .i64 (N 0)), .k (.int .i64 (N 0)), .k (.int .i64 (N 0)), .k (.int .i64 (N 0)), .k (.int .i64 (N 0)), .k (.nilslc)], none⟩, ⟨true, 34, 31, [.k (.int .i64 (V 2)), .k (.nilslc), .k (.int .i64 (V 4)), .k (.int .i64 (V 5)), .k (.bool (V 6)), .k (.nilslc), .k (.int .i64 (N 0)), .k (.int .i64 (N 0)), .k (.int .i64 (N 0)), .k (.int .i64 (N 0)), .k (.int .i64 (N 0)), .k (.int .i64 (N 0)), .k (.int .i64 (N 0)), .k (.int .i64 (N 0)), .k (.int .i64 (N 0)), .k (.int .i64 (N 0)), .k (.int .i64 (N 0)), .k (.int .i64 (N 0)), .k (.int .i64 (N 0)), .k (.int .i64 (N 0)), .k (.int .i64 (N 0)), .k (.int .i64 (N 0)), .k (.int .i64 (N 0)), .k (.int .i64 (N 0)), .k (.int .i64 (N 0)), .k (.int .i64 (N 0)), .k (.int .i64 (N 0)), .k (.int .i64 (N 0)), .k (.int .i64 (N 0)), .k (.int .i64 (N 0)), .k (.nilslc)], none⟩, ⟨true, 34, 31, [.k (.int .i64 (V 2)), .k (.nilslc), .k (.int .i64 (V 4)), .k (.int .i64 (V 5)), .k (.bool (V 6)), .k (.nilslc), .k (.int .i64 (N 0)), .k (.int .i64 (N 0)), .k (.int .i64 (N 0)), .k (.int .i64 (N 0)), .k (.int .i64 (N 0)), .k (.int .i64 (N 0)), .k (.int .i64 (N 0)), .k (.int .i64 (N 0)), .k (.int .i64 (N 0)), .k (.int .i64 (N 0)), .k (.int .i64 (N 0)), .k (.int .i64 (N 0)), .k (.int .i64 (N 0)), .k (.int .i64 (N 0)), .k (.int .i64 (N 0)), .k (.int .i64 (N 0)), .k (.int .i64 (N 0)), .k (.int .i64 (N 0)), .k (.int .i64 (N 0)), .k (.int .i64 (N 0)), .k (.int .i64 (N 0)), .k (.int .i64 (N 0)), .k (.int .i64 (N 0)), .k (.int .i64 (N 0)), .k (.nilslc)], none⟩, ⟨true, 34, 31, [.k (.int .i64 (V 2)), .k (.lsl 8 (V 3)), .k (.int .i64 (V 4)), .k (.int .i64 (V 5)), .k (.bool (V 6)), .k (.lsl 7 (V 7)), .k (.int .i64 (V 8)), .k (.int .i64 (V 9)), .k (.int .i64 (V 10)), .k (.int .i64 (V 11)), .k (.int .i64 (V 12)), .k (.int .i64 (V 13)), .k (.int .i64 (V 14)), .k (.int .i64 (V 15)), .k (.int .i64 (V 16)), .k (.int .i64 (V 17)), .k (.int .i64 (V 18)), .k (.int .i64 (V 19)), .k (.int .i64 (V 20)), .k (.int .i64 (V 21)), .k (.int .i64 (V 22)), .k (.int .i64 (V 23)), .k (.int .i64 (V 24)), .k (.int .i64 (V 25)), .k (.int .i64 (V 26)), .k (.int .i64 (V 27)), .k (.int .i64 (V 28)), .k (.int .i64 (V 29)), .k (.int .i64 (V 30)), .k (.int .i64 (V 31)), .k (.lsl 9 (V 32))], none⟩, .dead, .dead, .dead, ⟨false, 0, 0, [], some ⟨true, 76, [.int .i64, .int .i64, .int .i64, .int .i64], V 36, V 7⟩⟩, ⟨false, 0, 0, [], some ⟨true, 3, [.int .i64], V 37, V 3⟩⟩, ⟨false, 0, 0, [], some ⟨true, 54, [.str, .str, .sl [.int .i64], .int .i64], V 38, V 32⟩⟩, ⟨true, 34, 31, [.k (.int .i64 (V 2)), .k (.lsl 8 (V 3)), .k (.int .i64 (V 4)), .k (.int .i64 (V 5)), .k (.bool (V 6)), .k (.lsl 7 (V 7)), .k (.int .i64 (V 8)), .k (.int .i64 (V 9)), .k (.int .i64 (V 10)), .k (.int .i64 (V 11)), .k (.int .i64 (V 12)), .k (.int .i64 (V 13)), .k (.int .i64 (V 14)), .k (.int .i64 (V 15)), .k (.int .i64 (V 16)), .k (.int .i64 (V 17)), .k (.int .i64 (V 18)), .k (.int .i64 (V 19)), .k (.int .i64 (V 20)), .k (.int .i64 (V 21)), .k (.int .i64 (V 22)), .k (.int .i64 (V 23)), .k (.int .i64 (V 24)), .k (.int .i64 (V 25)), .k (.int .i64 (V 26)), .k (.int .i64 (V 27)), .k (.int .i64 (V 28)), .k (.int .i64 (V 29)), .k (.int .i64 (V 30)), .k (.int .i64 (V 31)), .k (.lsl 9 (V 32))], none⟩, ⟨true, 54, 4, [.k (.str (.s [])), .k (.str (.s [])), .k (.nilslc), .k (.int .i64 (N 0))], none⟩, ⟨true, 54, 4, [.k (.str (.s [])), .k (.str (.s [])), .k (.lsl 13 (V 39)), .k (.int .i64 (N 0))], none⟩, ⟨false, 0, 0, [], some ⟨true, 3, [.int .i64], V 40, V 39⟩⟩], B true⟩, [(.exit 1, ⟨Ez 71 [(0, .pv (.one (.k (.str (V 0))))), (1, .pv (.one (.k (.int .i64 (V 1))))), (2, .pv (.agg [.k (.int .i64 (V 2)), .k (.lsl 8 (V 3)), .k (.int .i64 (V 4)), .k (.int .i64 (V 5)), .k (.bool (V 6)), .k (.lsl 7 (V 7)), .k (.int .i64 (V 8)), .k (.int .i64 (V 9)), .k (.int .i64 (V 10)), .k (.int .i64 (V 11)), .k (.int .i64 (V 12)), .k (.int .i64 (V 13)), .k (.int .i64 (V 14)), .k (.int .i64 (V 15)), .k (.int .i64 (V 16)), .k (.int .i64 (V 17)), .k (.int .i64 (V 18)), .k (.int .i64 (V 19)), .k (.int .i64 (V 20)), .k (.int .i64 (V 21)), .k (.int .i64 (V 22)), .k (.int .i64 (V 23)), .k (.int .i64 (V 24)), .k (.int .i64 (V 25)), .k (.int .i64 (V 26)), .k (.int .i64 (V 27)), .k (.int .i64 (V 28)), .k (.int .i64 (V 29)), .k (.int .i64 (V 30)), .k (.int .i64 (V 31)), .k (.lsl 9 (V 32))])), (5, .pv (.one (.k (.ptr 10 0)))), (6, .pv (.one (.k (.ptr 11 0)))), (7, .pv (.one (.k (.int .i64 (N 0))))), (8, .pv (.one (.k (.ptr 12 0)))), (9, .pv (.one (.k (.int .i64 (V 41))))), (10, .pv (.one (.k (.ptr 10 2)))), (11, .pv (.one (.k (.ptr 10 2)))), (12, .pv (.one (.k (.int .i64 (V 4))))), (13, .pv (.one (.k (.bool (V 34))))), (14, .pv (.one (.k (.bool (V 34))))), (37, .pv (.one (.k (.bool (V 35))))), (38, .pv (.one (.k (.bool (V 35))))), (39, .pv (.one (.k (.int .i64 (V 42))))), (40, .pv (.one (.k (.ptr 10 0)))), (41, .pv (.one (.k (.int .i64 (V 2))))), (42, .pv (.one (.k (.bool (V 43)))))], [⟨true, 34, 31, [.k (.int .i64 (N 0)), .k (.nilslc), .k (.int .i64 (N 0)), .k (.int .i64 (N 0)), .k (.bool (B false)), .k (.nilslc), .k (.int .i64 (N 0)), .k (.int .i64 (N 0)), .k (.int .i64 (N 0)), .k (.int .i64 (N 0)), .k (.int .i64 (N 0)), .k (.int .i64 (N 0)), .k (.int .i64 (N 0)), .k (.int .i64 (N 0)), .k (.int .i64 (N 0)), .k (.int .i64 (N 0)), .k (.int .i64 (N 0)), .k (.int .i64 (N 0)), .k (.int .i64 (N 0)), .k (.int .i64 (N 0)), .k (.int .i64 (N 0)), .k (.int .i64 (N 0)), .k (.int .i64 (N 0)), .k (.int .i64 (N 0)), .k (.int .i64 (N 0)), .k (.int .i64 (N 0)), .k (.int .i64 (N 0)), .k (.int .i64 (N 0)), .k (.int .i64 (N 0)), .k (.int .i64 (N 0)), .k (.nilslc)], none⟩, ⟨true, 34, 31, [.k (.int .i64 (V 2)), .k (.nilslc), .k (.int .i64 (V 4)), .k (.int .i64 (V 5)), .k (.bool (V 6)), .k (.nilslc), .k (.int .i64 (N 0)), .k (.int .i64 (N 0)), .k (.int .i64 (N 0)), .k (.int .i64 (N 0)), .k (.int .i64 (N 0)), .k (.int .i64 (N 0)), .k (.int .i64 (N 0)), .k (.int .i64 (N 0)), .k (.int .i64 (N 0)), .k (.int .i64 (N 0)), .k (.int .i64 (N 0)), .k (.int .i64 (N 0)), .k (.int .i64 (N 0)), .k (.int .i64 (N 0)), .k (.int .i64 (N 0)), .k (.int .i64 (N 0)), .k (.int .i64 (N 0)), .k (.int .i64 (N 0)), .k (.int .i64 (N 0)), .k (.int .i64 (N 0)), .k (.int .i64 (N 0)), .k (.int .i64 (N 0)), .k (.int .i64 (N 0)), .k (.int .i64 (N 0)), .k (.nilslc)], none⟩, ⟨true, 34, 31, [.k (.int .i64 (V 2)), .k (.nilslc), .k (.int .i64 (V 4)), .k (.int .i64 (V 5)), .k (.bool (V 6)), .k (.nilslc), .k (.int .i64 (N 0)), .k (.int .i64 (N 0)), .k (.int .i64 (N 0)), .k (.int .i64 (N 0)), .k (.int .i64 (N 0)), .k (.int .i64 (N 0)), .k (.int .i64 (N 0)), .k (.int .i64 (N 0)), .k (.int .i64 (N 0)), .k (.int .i64 (N 0)), .k (.int .i64 (N 0)), .k (.int .i64 (N 0)), .k (.int .i64 (N 0)), .k (.int .i64 (N 0)), .k (.int .i64 (N 0)), .k (.int .i64 (N 0)), .k (.int .i64 (N 0)), .k (.int .i64 (N 0)), .k (.int .i64 (N 0)), .k (.int .i64 (N 0)), .k (.int .i64 (N 0)), .k (.int .i64 (N 0)), .k (.int .i64 (N 0)), .k (.int .i64 (N 0)), .k (.nilslc)], none⟩, ⟨true, 34, 31, [.k (.int .i64 (V 2)), .k (.lsl 8 (V 3)), .k (.int .i64 (V 4)), .k (.int .i64 (V 5)), .k (.bool (V 6)), .k (.lsl 7 (V 7)), .k (.int .i64 (V 8)), .k (.int .i64 (V 9)), .k (.int .i64 (V 10)), .k (.int .i64 (V 11)), .k (.int .i64 (V 12)), .k (.int .i64 (V 13)), .k (.int .i64 (V 14)), .k (.int .i64 (V 15)), .k (.int .i64 (V 16)), .k (.int .i64 (V 17)), .k (.int .i64 (V 18)), .k (.int .i64 (V 19)), .k (.int .i64 (V 20)), .k (.int .i64 (V 21)), .k (.int .i64 (V 22)), .k (.int .i64 (V 23)), .k (.int .i64 (V 24)), .k (.int .i64 (V 25)), .k (.int .i64 (V 26)), .k (.int .i64 (V 27)), .k (.int .i64 (V 28)), .k (.int .i64 (V 29)), .k (.int .i64 (V 30)), .k (.int .i64 (V 31)), .k (.lsl 9 (V 32))], none⟩, .dead, .dead, .dead, ⟨false, 0, 0, [], some ⟨true, 76, [.int .i64, .int .i64, .int .i64, .int .i64], V 36, V 7⟩⟩, ⟨false, 0, 0, [], some ⟨true, 3, [.int .i64], V 37, V 3⟩⟩, ⟨false, 0, 0, [], some ⟨true, 54, [.str, .str, .sl [.int .i64], .int .i64], V 38, V 32⟩⟩, ⟨true, 34, 31, [.k (.int .i64 (V 2)), .k (.lsl 8 (V 3)), .k (.int .i64 (V 4)), .k (.int .i64 (V 5)), .k (.bool (V 6)), .k (.lsl 7 (V 7)), .k (.int .i64 (V 8)), .k (.int .i64 (V 9)), .k (.int .i64 (V 10)), .k (.int .i64 (V 11)), .k (.int .i64 (V 12)), .k (.int .i64 (V 13)), .k (.int .i64 (V 14)), .k (.int .i64 (V 15)), .k (.int .i64 (V 16)), .k (.int .i64 (V 17)), .k (.int .i64 (V 18)), .k (.int .i64 (V 19)), .k (.int .i64 (V 20)), .k (.int .i64 (V 21)), .k (.int .i64 (V 22)), .k (.int .i64 (V 23)), .k (.int .i64 (V 24)), .k (.int .i64 (V 25)), .k (.int .i64 (V 26)), .k (.int .i64 (V 27)), .k (.int .i64 (V 28)), .k (.int .i64 (V 29)), .k (.int .i64 (V 30)), .k (.int .i64 (V 31)), .k (.lsl 9 (V 32))], none⟩, ⟨true, 54, 4, [.k (.str (.s [])), .k (.str (.s [])), .k (.nilslc), .k (.int .i64 (N 0))], none⟩, ⟨true, 54, 4, [.k (.str (.s [])), .k (.str (.s [])), .k (.lsl 13 (V 44)), .k (.int .i64 (N 0))], none⟩, ⟨false, 0, 0, [], some ⟨true, 3, [.int .i64], V 45, V 44⟩⟩], B true⟩)], [true, true, true, true, true, true, true, true, true, true, true, true, true, true, true, true, true, true, true, true, true, true, true, true, true, true, true, true, true, true, true, true, true, false, true, true, true, true, true, false, false], [.i, .i, .b, .i, .any]⟩
def LQ : G := ⟨56, [⟨55, (.ar .add .i64), [V 33, N 1]⟩, ⟨54, .imp, [V 41, V 53]⟩, ⟨53, .and, [V 51, V 52]⟩, ⟨52, (.cmp .lss), [V 50, N 1000001]⟩, ⟨51, (.cmp .leq), [N 0, V 50]⟩, ⟨50, (.lln 1), [V 49]⟩, ⟨49, .cat, [V 40, V 48]⟩, ⟨48, .mkl, [V 47]⟩, ⟨47, (.dv .rem .i64), [V 45, N 3]⟩, ⟨46, .imp, [V 41, V 44]⟩, ⟨44, (.call 26), [V 0, V 43]⟩, ⟨43, (.ar .add .i64), [V 1, V 33]⟩, ⟨42, .not, [V 41]⟩, ⟨41, (.cmp .lss), [V 33, V 2]⟩], [V 54, V 46], []⟩
def V2 (al : List A) : Nat := ((gi al 2) - (gi al 33)).toNat
theorem Ux (e : Nat → A) (H : Ab T e LQ.defs) (hp : (Day.cP (e 0).str (e 1).int (e 2).int (e 33).int (Day.L1.mk (e 40) (e 39).int)) = true) :
  ((e 54).bool = true ∧ (e 46).bool = true) ∧ ((e 41).bool = true → (Day.cP (e 0).str (e 1).int (e 2).int (e 55).int (Day.L1.mk (e 49) (e 50).int)) = true ∧ ((e 2).int = (e 2).int ∧ (e 2).int = (e 2).int ∧ false = false ∧ (e 2).int = (e 2).int ∧ Day.Y2 (e 0).str (e 1).int (e 2).int (e 55).int (Day.L1.mk (e 49) (e 50).int) = Day.Y2 (e 0).str (e 1).int (e 2).int (e 33).int (Day.L1.mk (e 40) (e 39).int)) ∧ ((e 2).int - (e 55).int).toNat < ((e 2).int - (e 33).int).toNat) ∧ ((e 42).bool = true → (e 33).int = (e 2).int ∧ (e 33).int = (e 2).int ∧ (e 41).bool = false ∧ (e 39).int = (e 2).int ∧ (e 40) = Day.Y2 (e 0).str (e 1).int (e 2).int (e 33).int (Day.L1.mk (e 40) (e 39).int)) := by
 simp only [LQ, Ab, Def.q, BI, L.Ak, L.Aw, L.AS, L.AV, L.ev, A.Ai, A.Ao, A.AF, A.AT, List.map_cons, List.map_nil, Nat.zero_add, Nat.add_zero, and_true, true_and, Nat.reduceAdd, Nat.one_mul] at H
 simp only [D0, Ee, CW, Bg, Ef, Ey, BV, Fq, and_true, true_and] at H
 obtain ⟨⟨q55, -⟩, q54, q53, q52, q51, q50, q49, q48, ⟨q47, k47⟩, q46, q44, ⟨q43, -⟩, q42, q41⟩ := H
 replace q44 := Al q44
 obtain ⟨q44, q45⟩ := q44
 unfold KW at k47
 simp only [L.Ak, L.Aw, L.AS, L.AV, L.ev, A.Ai, A.Ao, A.AF] at q44 q45
 generalize (e 0).str = x0, (e 1).int = x1, (e 2).int = x2, (e 3).int = x3, (e 4).int = x4, (e 5).int = x5, (e 6).int = x6, (e 7).int = x7, (e 8).int = x8, (e 9).int = x9, (e 10).int = x10, (e 11).int = x11, (e 12).int = x12, (e 13).int = x13, (e 14).int = x14, (e 15).int = x15, (e 16).int = x16, (e 17).int = x17, (e 18).int = x18, (e 19).int = x19, (e 20).int = x20, (e 21).int = x21, (e 22).int = x22, (e 23).int = x23, (e 24).int = x24, (e 25).int = x25, (e 26).int = x26, (e 27).int = x27, (e 28).int = x28, (e 29).int = x29, (e 30).int = x30, (e 31).int = x31, (e 32).int = x32, (e 33).int = x33, (e 34).int = x34, (e 35).int = x35, (e 36).int = x36, (e 37).int = x37, (e 38).int = x38, (e 39).int = x39, e 40 = x40, (e 41).bool = v41, (e 42).bool = v42, (e 43).int = v43, (e 44).bool = v44, (e 45).int = v45, (e 46).bool = v46, (e 47).int = v47, e 48 = v48, e 49 = v49, (e 50).int = v50, (e 51).bool = v51, (e 52).bool = v52, (e 53).bool = v53, (e 54).bool = v54, (e 55).int = v55 at *
 rw [k47] at q48
 by_cases h : x33 < x2
 ·obtain ⟨i0, i1, j0, n1, l1, e1, st⟩ := Day.Aci hp h
  have l1 : (x40.AJ.length : Int) = x33 := l1
  have t41 : v41 = true := by rw [q41]; exact decide_eq_true h
  have w43 : v43 = x1 + x33 := by rw [q43]; exact wrap64 (by omega) (by omega)
  have w55 : v55 = x33 + 1 := by rw [q55]; exact wrap64 (by omega) (by omega)
  have r45 := Day.Az x0 v43
  rw [← q45] at r45
  have e47 : v47 = Day.Ci x0 (x1 + x33) % 3 := by rw [q47, Int.tmod_eq_emod_of_nonneg r45.1, q45, w43]
  have e49 : v49 = .l (x40.AJ ++ [.i (Day.Ci x0 (x1 + x33) % 3)]) := by rw [q49, q48, e47]; rfl
  have e50 : v50 = (v49.AJ.length : Int) := by rw [q50, Nat.div_one]
  obtain ⟨s1, s2, s3⟩ := st ⟨v49, v50⟩ e49 e50
  have g50 : v50 = x33 + 1 := by rw [e50, e49]; show ((x40.AJ ++ [_]).length : Int) = _; rw [List.length_append, List.length_singleton]; omega
  rw [w55]
  refine ⟨⟨by rw [q54]; exact Day.BF (by rw [q53, q51, q52, g50]; simp; omega), by rw [q46]; exact Day.BF (by rw [q44, w43]; simp [Day.C1]; omega)⟩, fun _ => ⟨s1, ⟨rfl, rfl, rfl, rfl, s2⟩, s3⟩, fun hh => ?_⟩
  rw [q42, t41] at hh
  cases hh
 ·obtain ⟨e1, e2, e3⟩ := Day.Ac7 hp h
  have t41 : v41 = false := by rw [q41]; exact decide_eq_false h
  refine ⟨by simp [q54, q46, t41], fun hh => ?_, fun _ => ⟨e2, e2, t41, e1, e3.symm⟩⟩
  rw [t41] at hh
  cases hh
theorem V3 (as : List A) (e : Nat → A) (h1 : as = (List.range 41).map e) (h2 : (IP as).1 = true) (H : Ab T e LQ.defs) : Bj e LQ.obs ∧
   (∀ pc ls, some (V 41, [V 0, V 1, V 2, V 3, V 4, V 5, V 6, V 7, V 8, V 9, V 10, V 11, V 12, V 13, V 14, V 15, V 16, V 17, V 18, V 19, V 20, V 21, V 22, V 23, V 24, V 25, V 26, V 27, V 28, V 29, V 30, V 31, V 32, V 55, V 34, V 35, V 36, V 37, V 38, V 50, V 49]) = some (pc, ls) → (pc.ev e).bool = true → (IP (ls.map (L.ev e))).1 = true ∧ (IP (ls.map (L.ev e))).2 = (IP as).2 ∧ V2 (ls.map (L.ev e)) < V2 as) ∧
   ∀ x ∈ ([(V 42, [some (V 33), some (V 33), some (V 41), some (V 39), some (V 40)])] : List (L × List (Option L))), (x.1.ev e).bool = true → ∀ (j : Nat) l, x.2[j]? = some (some l) → D6 (FW.tags.getD j .any) (l.ev e) ((IP as).2.getD j (.i 0)) := by
 subst h1
 obtain ⟨ho, h⟩ := Ux e H h2
 refine ⟨⟨ho.1, ho.2, trivial⟩, fun pc ls hb hpc => ?_, ?_⟩
 ·injection hb with hb
  injection hb with h3 h4
  subst h3 h4
  have h := h.1 hpc
  refine ⟨h.1, ?_, h.2.2⟩
  have h5 := h.2.1
  obtain ⟨z0, z1, z2, z3, z4⟩ := h5
  exact (A5 z0 (A5 z1 (HF z2 (A5 z3 (Fw z4 rfl)))))
 ·intro x hx hpc j l hj
  simp only [List.mem_cons, List.not_mem_nil, or_false] at hx
  rcases hx with rfl
  ·have h := h.2 hpc
   obtain ⟨z0, z1, z2, z3, z4⟩ := h
   match j, hj with
   | 0, hj => cases hj; exact z0
   | 1, hj => cases hj; exact z1
   | 2, hj => cases hj; exact z2
   | 3, hj => cases hj; exact z3
   | 4, hj => cases hj; exact z4
   | _ + 5, hj => cases hj
def Hi : Lp := ⟨10, [false, true, false, true, true, true, true, true, true], 1187, 45, 3, 9, ⟨Ez 73 [(0, .pv (.one (.k (.str (V 0))))), (2, .pv (.one (.k (.ptr 0 0)))), (3, .pv (.one (.k (.ptr 3 0)))), (4, .pv (.one (.k (.int .i64 (V 1))))), (6, .pv (.one (.k (.int .i64 (V 2))))), (7, .pv (.one (.k (.int .i64 (V 3))))), (10, .pv (.one (.k (.str (V 0))))), (11, .pv (.agg [.k (.int .i64 (V 4)), .k (.nilslc), .k (.int .i64 (V 5)), .k (.int .i64 (V 6)), .k (.bool (V 7)), .k (.nilslc), .k (.int .i64 (N 0)), .k (.int .i64 (N 0)), .k (.int .i64 (N 0)), .k (.int .i64 (N 0)), .k (.int .i64 (N 0)), .k (.int .i64 (N 0)), .k (.int .i64 (N 0)), .k (.int .i64 (N 0)), .k (.int .i64 (N 0)), .k (.int .i64 (N 0)), .k (.int .i64 (N 0)), .k (.int .i64 (N 0)), .k (.int .i64 (N 0)), .k (.int .i64 (N 0)), .k (.int .i64 (N 0)), .k (.int .i64 (N 0)), .k (.int .i64 (N 0)), .k (.int .i64 (N 0)), .k (.int .i64 (N 0)), .k (.int .i64 (N 0)), .k (.int .i64 (N 0)), .k (.int .i64 (N 0)), .k (.int .i64 (N 0)), .k (.int .i64 (N 0)), .k (.nilslc)])), (12, .pv (.one (.k (.ptr 3 4)))), (13, .pv (.one (.k (.bool (V 7))))), (41, .pv (.one (.k (.str (V 0))))), (42, .pv (.one (.k (.int .i64 (V 8))))), (43, .pv (.one (.k (.int .i64 (V 9))))), (44, .pv (.one (.k (.int .i64 (V 10))))), (45, .pv (.one (.k (.str (V 0))))), (46, .pv (.one (.k (.int .i64 (V 8))))), (47, .pv (.one (.k (.int .i64 (V 11))))), (48, .pv (.one (.k (.int .i64 (V 12))))), (49, .pv (.one (.k (.int .i64 (V 13))))), (50, .pv (.one (.k (.int .i64 (V 2))))), (51, .pv (.one (.k (.int .i64 (V 8))))), (52, .pv (.one (.k (.int .i64 (V 14)))))], [⟨true, 34, 31, [.k (.int .i64 (N 0)), .k (.nilslc), .k (.int .i64 (N 0)), .k (.int .i64 (N 0)), .k (.bool (B false)), .k (.nilslc), .k (.int .i64 (N 0)), .k (.int .i64 (N 0)), .k (.int .i64 (N 0)), .k (.int .i64 (N 0)), .k (.int .i64 (N 0)), .k (.int .i64 (N 0)), .k (.int .i64 (N 0)), .k (.int .i64 (N 0)), .k (.int .i64 (N 0)), .k (.int .i64 (N 0)), .k (.int .i64 (N 0)), .k (.int .i64 (N 0)), .k (.int .i64 (N 0)), .k (.int .i64 (N 0)), .k (.int .i64 (N 0)), .k (.int .i64 (N 0)), .k (.int .i64 (N 0)), .k (.int .i64 (N 0)), .k (.int .i64 (N 0)), .k (.int .i64 (N 0)), .k (.int .i64 (N 0)), .k (.int .i64 (N 0)), .k (.int .i64 (N 0)), .k (.int .i64 (N 0)), .k (.nilslc)], none⟩, ⟨true, 34, 31, [.k (.int .i64 (V 4)), .k (.nilslc), .k (.int .i64 (V 5)), .k (.int .i64 (V 6)), .k (.bool (V 7)), .k (.nilslc), .k (.int .i64 (N 0)), .k (.int .i64 (N 0)), .k (.int .i64 (N 0)), .k (.int .i64 (N 0)), .k (.int .i64 (N 0)), .k (.int .i64 (N 0)), .k (.int .i64 (N 0)), .k (.int .i64 (N 0)), .k (.int .i64 (N 0)), .k (.int .i64 (N 0)), .k (.int .i64 (N 0)), .k (.int .i64 (N 0)), .k (.int .i64 (N 0)), .k (.int .i64 (N 0)), .k (.int .i64 (N 0)), .k (.int .i64 (N 0)), .k (.int .i64 (N 0)), .k (.int .i64 (N 0)), .k (.int .i64 (N 0)), .k (.int .i64 (N 0)), .k (.int .i64 (N 0)), .k (.int .i64 (N 0)), .k (.int .i64 (N 0)), .k (.int .i64 (N 0)), .k (.nilslc)], none⟩, ⟨true, 34, 31, [.k (.int .i64 (V 4)), .k (.nilslc), .k (.int .i64 (V 5)), .k (.int .i64 (V 6)), .k (.bool (V 7)), .k (.nilslc), .k (.int .i64 (N 0)), .k (.int .i64 (N 0)), .k (.int .i64 (N 0)), .k (.int .i64 (N 0)), .k (.int .i64 (N 0)), .k (.int .i64 (N 0)), .k (.int .i64 (N 0)), .k (.int .i64 (N 0)), .k (.int .i64 (N 0)), .k (.int .i64 (N 0)), .k (.int .i64 (N 0)), .k (.int .i64 (N 0)), .k (.int .i64 (N 0)), .k (.int .i64 (N 0)), .k (.int .i64 (N 0)), .k (.int .i64 (N 0)), .k (.int .i64 (N 0)), .k (.int .i64 (N 0)), .k (.int .i64 (N 0)), .k (.int .i64 (N 0)), .k (.int .i64 (N 0)), .k (.int .i64 (N 0)), .k (.int .i64 (N 0)), .k (.int .i64 (N 0)), .k (.nilslc)], none⟩, ⟨true, 34, 31, [.k (.int .i64 (V 4)), .k (.lsl 8 (V 15)), .k (.int .i64 (V 5)), .k (.int .i64 (V 6)), .k (.bool (V 7)), .k (.lsl 7 (V 16)), .k (.int .i64 (V 17)), .k (.int .i64 (V 18)), .k (.int .i64 (V 19)), .k (.int .i64 (V 20)), .k (.int .i64 (V 21)), .k (.int .i64 (V 22)), .k (.int .i64 (V 23)), .k (.int .i64 (V 24)), .k (.int .i64 (V 25)), .k (.int .i64 (V 26)), .k (.int .i64 (V 27)), .k (.int .i64 (V 28)), .k (.int .i64 (V 29)), .k (.int .i64 (V 30)), .k (.int .i64 (V 31)), .k (.int .i64 (V 32)), .k (.int .i64 (V 33)), .k (.int .i64 (V 34)), .k (.int .i64 (V 35)), .k (.int .i64 (V 36)), .k (.int .i64 (V 37)), .k (.int .i64 (V 38)), .k (.int .i64 (V 39)), .k (.int .i64 (V 40)), .k (.lsl 9 (V 41))], none⟩, .dead, .dead, .dead, ⟨false, 0, 0, [], some ⟨true, 76, [.int .i64, .int .i64, .int .i64, .int .i64], V 42, V 16⟩⟩, ⟨false, 0, 0, [], some ⟨true, 3, [.int .i64], V 43, V 15⟩⟩, ⟨false, 0, 0, [], some ⟨true, 54, [.str, .str, .sl [.int .i64], .int .i64], V 44, V 41⟩⟩], B true⟩, [(.exit 2, ⟨Ez 73 [(0, .pv (.one (.k (.str (V 0))))), (2, .pv (.one (.k (.ptr 0 0)))), (3, .pv (.one (.k (.ptr 3 0)))), (4, .pv (.one (.k (.int .i64 (V 45))))), (10, .pv (.one (.k (.str (V 0))))), (11, .pv (.agg [.k (.int .i64 (V 4)), .k (.nilslc), .k (.int .i64 (V 5)), .k (.int .i64 (V 6)), .k (.bool (V 7)), .k (.nilslc), .k (.int .i64 (N 0)), .k (.int .i64 (N 0)), .k (.int .i64 (N 0)), .k (.int .i64 (N 0)), .k (.int .i64 (N 0)), .k (.int .i64 (N 0)), .k (.int .i64 (N 0)), .k (.int .i64 (N 0)), .k (.int .i64 (N 0)), .k (.int .i64 (N 0)), .k (.int .i64 (N 0)), .k (.int .i64 (N 0)), .k (.int .i64 (N 0)), .k (.int .i64 (N 0)), .k (.int .i64 (N 0)), .k (.int .i64 (N 0)), .k (.int .i64 (N 0)), .k (.int .i64 (N 0)), .k (.int .i64 (N 0)), .k (.int .i64 (N 0)), .k (.int .i64 (N 0)), .k (.int .i64 (N 0)), .k (.int .i64 (N 0)), .k (.int .i64 (N 0)), .k (.nilslc)])), (12, .pv (.one (.k (.ptr 3 4)))), (13, .pv (.one (.k (.bool (V 7))))), (41, .pv (.one (.k (.str (V 0))))), (42, .pv (.one (.k (.int .i64 (V 8))))), (43, .pv (.one (.k (.int .i64 (V 9))))), (44, .pv (.one (.k (.int .i64 (V 10))))), (45, .pv (.one (.k (.str (V 0))))), (46, .pv (.one (.k (.int .i64 (V 8))))), (47, .pv (.one (.k (.int .i64 (V 11))))), (48, .pv (.one (.k (.int .i64 (V 12))))), (49, .pv (.one (.k (.int .i64 (V 13))))), (50, .pv (.one (.k (.int .i64 (V 2))))), (51, .pv (.one (.k (.int .i64 (V 8))))), (52, .pv (.one (.k (.int .i64 (V 14)))))], [⟨true, 34, 31, [.k (.int .i64 (N 0)), .k (.nilslc), .k (.int .i64 (N 0)), .k (.int .i64 (N 0)), .k (.bool (B false)), .k (.nilslc), .k (.int .i64 (N 0)), .k (.int .i64 (N 0)), .k (.int .i64 (N 0)), .k (.int .i64 (N 0)), .k (.int .i64 (N 0)), .k (.int .i64 (N 0)), .k (.int .i64 (N 0)), .k (.int .i64 (N 0)), .k (.int .i64 (N 0)), .k (.int .i64 (N 0)), .k (.int .i64 (N 0)), .k (.int .i64 (N 0)), .k (.int .i64 (N 0)), .k (.int .i64 (N 0)), .k (.int .i64 (N 0)), .k (.int .i64 (N 0)), .k (.int .i64 (N 0)), .k (.int .i64 (N 0)), .k (.int .i64 (N 0)), .k (.int .i64 (N 0)), .k (.int .i64 (N 0)), .k (.int .i64 (N 0)), .k (.int .i64 (N 0)), .k (.int .i64 (N 0)), .k (.nilslc)], none⟩, ⟨true, 34, 31, [.k (.int .i64 (V 4)), .k (.nilslc), .k (.int .i64 (V 5)), .k (.int .i64 (V 6)), .k (.bool (V 7)), .k (.nilslc), .k (.int .i64 (N 0)), .k (.int .i64 (N 0)), .k (.int .i64 (N 0)), .k (.int .i64 (N 0)), .k (.int .i64 (N 0)), .k (.int .i64 (N 0)), .k (.int .i64 (N 0)), .k (.int .i64 (N 0)), .k (.int .i64 (N 0)), .k (.int .i64 (N 0)), .k (.int .i64 (N 0)), .k (.int .i64 (N 0)), .k (.int .i64 (N 0)), .k (.int .i64 (N 0)), .k (.int .i64 (N 0)), .k (.int .i64 (N 0)), .k (.int .i64 (N 0)), .k (.int .i64 (N 0)), .k (.int .i64 (N 0)), .k (.int .i64 (N 0)), .k (.int .i64 (N 0)), .k (.int .i64 (N 0)), .k (.int .i64 (N 0)), .k (.int .i64 (N 0)), .k (.nilslc)], none⟩, ⟨true, 34, 31, [.k (.int .i64 (V 4)), .k (.nilslc), .k (.int .i64 (V 5)), .k (.int .i64 (V 6)), .k (.bool (V 7)), .k (.nilslc), .k (.int .i64 (N 0)), .k (.int .i64 (N 0)), .k (.int .i64 (N 0)), .k (.int .i64 (N 0)), .k (.int .i64 (N 0)), .k (.int .i64 (N 0)), .k (.int .i64 (N 0)), .k (.int .i64 (N 0)), .k (.int .i64 (N 0)), .k (.int .i64 (N 0)), .k (.int .i64 (N 0)), .k (.int .i64 (N 0)), .k (.int .i64 (N 0)), .k (.int .i64 (N 0)), .k (.int .i64 (N 0)), .k (.int .i64 (N 0)), .k (.int .i64 (N 0)), .k (.int .i64 (N 0)), .k (.int .i64 (N 0)), .k (.int .i64 (N 0)), .k (.int .i64 (N 0)), .k (.int .i64 (N 0)), .k (.int .i64 (N 0)), .k (.int .i64 (N 0)), .k (.nilslc)], none⟩, ⟨true, 34, 31, [.k (.int .i64 (V 4)), .k (.lsl 8 (V 15)), .k (.int .i64 (V 5)), .k (.int .i64 (V 6)), .k (.bool (V 7)), .k (.lsl 7 (V 16)), .k (.int .i64 (V 17)), .k (.int .i64 (V 18)), .k (.int .i64 (V 19)), .k (.int .i64 (V 20)), .k (.int .i64 (V 21)), .k (.int .i64 (V 22)), .k (.int .i64 (V 23)), .k (.int .i64 (V 24)), .k (.int .i64 (V 25)), .k (.int .i64 (V 26)), .k (.int .i64 (V 27)), .k (.int .i64 (V 28)), .k (.int .i64 (V 29)), .k (.int .i64 (V 30)), .k (.int .i64 (V 31)), .k (.int .i64 (V 32)), .k (.int .i64 (V 33)), .k (.int .i64 (V 34)), .k (.int .i64 (V 35)), .k (.int .i64 (V 36)), .k (.int .i64 (V 37)), .k (.int .i64 (V 38)), .k (.int .i64 (V 39)), .k (.int .i64 (V 40)), .k (.lsl 9 (V 46))], none⟩, .dead, .dead, .dead, ⟨false, 0, 0, [], some ⟨true, 76, [.int .i64, .int .i64, .int .i64, .int .i64], V 42, V 16⟩⟩, ⟨false, 0, 0, [], some ⟨true, 3, [.int .i64], V 43, V 15⟩⟩, ⟨false, 0, 0, [], some ⟨true, 54, [.str, .str, .sl [.int .i64], .int .i64], V 47, V 46⟩⟩], B true⟩)], [true, false, true, false, true, true, true, true, true, true, true, true, true, true, true, true, true, true, true, true, true, true, true, true, true, true, true, true, true, true, true, true, true, true, true, true, true, true, true, true, true, false, true, true, false], [.i, .i, .any]⟩
def LR : G := ⟨94, [⟨93, (.ar .add .i64), [V 3, N 1]⟩, ⟨92, .imp, [V 45, V 91]⟩, ⟨91, .and, [V 89, V 90]⟩, ⟨90, (.cmp .lss), [V 88, N 1000001]⟩, ⟨89, (.cmp .leq), [N 0, V 88]⟩, ⟨88, (.lln 4), [V 87]⟩, ⟨87, .cat, [V 44, V 86]⟩, ⟨86, .mkl, [V 81, V 82, V 85, V 84]⟩, ⟨85, .iteA, [V 47, .e, V 79]⟩, ⟨84, .iteI, [V 47, N 0, V 78]⟩, ⟨83, .iteI, [V 47, N 0, V 77]⟩, ⟨82, .iteV, [V 47, V 56, .s []]⟩, ⟨81, .iteV, [V 47, V 52, .s []]⟩, ⟨80, .iteI, [V 47, V 57, V 76]⟩, ⟨79, .iteA, [V 59, V 68, .e]⟩, ⟨78, .iteI, [V 59, V 74, N 0]⟩, ⟨77, .iteI, [V 59, V 67, N 0]⟩, ⟨76, .iteI, [V 59, V 75, V 1]⟩, ⟨75, (.ar .add .i64), [V 70, N 1]⟩, ⟨74, (.dv .rem .i64), [V 72, N 2]⟩, ⟨73, .imp, [V 61, V 71]⟩, ⟨71, (.call 26), [V 0, V 70]⟩, ⟨70, (.ar .add .i64), [V 1, V 4]⟩, ⟨69, .imp, [V 61, V 63]⟩, ⟨63, (.call 1186), [V 0, V 1, V 4, V 15, V 5, V 6, V 7, V 16, V 17, V 18, V 19, V 20, V 21, V 22, V 23, V 24, V 25, V 26, V 27, V 28, V 29, V 30, V 31, V 32, V 33, V 34, V 35, V 36, V 37, V 38, V 39, V 40, V 41, N 0, V 47, V 59, V 42, V 43, V 44, N 0, .e]⟩, ⟨62, .and, [V 50, V 60]⟩, ⟨61, .and, [V 50, V 59]⟩, ⟨60, .not, [V 59]⟩, ⟨59, (.cmp .eql), [V 5, N 2]⟩, ⟨58, .imp, [V 49, V 55]⟩, ⟨55, (.call 41), [V 0, V 53, V 6]⟩, ⟨54, .imp, [V 49, V 51]⟩, ⟨51, (.call 41), [V 0, V 1, V 6]⟩, ⟨50, .and, [V 45, V 48]⟩, ⟨49, .and, [V 45, V 47]⟩, ⟨48, .not, [V 47]⟩, ⟨47, (.cmp .eql), [V 5, N 1]⟩, ⟨46, .not, [V 45]⟩, ⟨45, (.cmp .lss), [V 3, V 2]⟩], [V 92, V 73, V 69, V 58, V 54], []⟩
def V4 (al : List A) : Nat := ((gi al 2) - (gi al 3)).toNat
theorem Uy (e : Nat → A) (H : Ab T e LR.defs) (hp : (Day.UZ (e 2).int (e 3).int (e 1).int (e 4).int (Day.L1.mk (e 44) (e 41).int) && Day.FC (e 0).str) = true) :
  ((e 92).bool = true ∧ (e 73).bool = true ∧ (e 69).bool = true ∧ (e 58).bool = true ∧ (e 54).bool = true) ∧ ((e 45).bool = true → (Day.UZ (e 2).int (e 93).int (e 80).int (e 4).int (Day.L1.mk (e 87) (e 88).int) && Day.FC (e 0).str) = true ∧ (Day.Xx (e 0).str (e 4).int (e 5).int ((e 2).int - (e 93).int).toNat (e 80).int = Day.Xx (e 0).str (e 4).int (e 5).int ((e 2).int - (e 3).int).toNat (e 1).int ∧ (e 2).int = (e 2).int ∧ Day.Um (e 0).str (e 2).int (e 93).int (e 80).int (e 4).int (e 5).int (e 6).int (Day.L1.mk (e 87) (e 88).int) = Day.Um (e 0).str (e 2).int (e 3).int (e 1).int (e 4).int (e 5).int (e 6).int (Day.L1.mk (e 44) (e 41).int)) ∧ ((e 2).int - (e 93).int).toNat < ((e 2).int - (e 3).int).toNat) ∧ ((e 46).bool = true → (e 1).int = Day.Xx (e 0).str (e 4).int (e 5).int ((e 2).int - (e 3).int).toNat (e 1).int ∧ (e 41).int = (e 2).int ∧ (e 44) = Day.Um (e 0).str (e 2).int (e 3).int (e 1).int (e 4).int (e 5).int (e 6).int (Day.L1.mk (e 44) (e 41).int)) := by
 simp only [LR, Ab, Def.q, BI, L.Ak, L.Aw, L.AS, L.AV, L.ev, A.Ai, A.Ao, A.AF, A.AT, List.map_cons, List.map_nil, Nat.zero_add, Nat.add_zero, and_true, true_and, Nat.reduceAdd, Nat.one_mul] at H
 simp only [D0, Ee, CW, Bg, Ef, Ey, BV, Fq, and_true, true_and] at H
 revert H
 simp only [and_imp]
 rintro q93 - q92 q91 q90 q89 q88 q87 q86 q85 q84 k84 q83 - - q82 k82 - q81 k81 q80 - q79 q78 - q77 - q76 - q75 - q74 - q73 q71 q70 - q69 q63 q62 q61 q60 q59 q58 q55 q54 q51 q50 q49 q48 q47 q46 q45
 obtain ⟨k56, -⟩ := Fx q55
 obtain ⟨k52, -⟩ := Fx q51
 replace k81 := k81 k52 (RT e _)
 replace k82 := k82 k56 (RT e _)
 unfold Z4 at k52 k56 k81 k82
 replace q71 := Al q71
 obtain ⟨q71, q72⟩ := q71
 replace q63 := Yy q63
 obtain ⟨q63, q64, q65, q66, q67, q68⟩ := q63
 replace q55 := FV q55
 obtain ⟨q55, q56, q57⟩ := q55
 replace q51 := FV q51
 obtain ⟨q51, q52, q53⟩ := q51
 unfold KW at k84
 simp only [L.Ak, L.Aw, L.AS, L.AV, L.ev, A.Ai, A.Ao, A.AF] at q71 q72 q63 q64 q65 q66 q67 q68 q55 q56 q57 q51 q52 q53
 generalize (e 0).str = x0, (e 1).int = x1, (e 2).int = x2, (e 3).int = x3, (e 4).int = x4, (e 5).int = x5, (e 6).int = x6, (e 7).int = x7, (e 8).int = x8, (e 9).int = x9, (e 10).int = x10, (e 11).int = x11, (e 12).int = x12, (e 13).int = x13, (e 14).int = x14, (e 15).int = x15, (e 16).int = x16, (e 17).int = x17, (e 18).int = x18, (e 19).int = x19, (e 20).int = x20, (e 21).int = x21, (e 22).int = x22, (e 23).int = x23, (e 24).int = x24, (e 25).int = x25, (e 26).int = x26, (e 27).int = x27, (e 28).int = x28, (e 29).int = x29, (e 30).int = x30, (e 31).int = x31, (e 32).int = x32, (e 33).int = x33, (e 34).int = x34, (e 35).int = x35, (e 36).int = x36, (e 37).int = x37, (e 38).int = x38, (e 39).int = x39, (e 40).int = x40, (e 41).int = x41, (e 42).int = x42, (e 43).int = x43, e 44 = x44, (e 45).bool = v45, (e 46).bool = v46, (e 47).bool = v47, (e 48).bool = v48, (e 49).bool = v49, (e 50).bool = v50, (e 51).bool = v51, (e 52).str = v52, (e 53).int = v53, (e 54).bool = v54, (e 55).bool = v55, (e 56).str = v56, (e 57).int = v57, (e 58).bool = v58, (e 59).bool = v59, (e 60).bool = v60, (e 61).bool = v61, (e 62).bool = v62, (e 63).bool = v63, (e 64).int = v64, (e 65).int = v65, (e 66).bool = v66, (e 67).int = v67, e 68 = v68, (e 69).bool = v69, (e 70).int = v70, (e 71).bool = v71, (e 72).int = v72, (e 73).bool = v73, (e 74).int = v74, (e 75).int = v75, (e 76).int = v76, (e 77).int = v77, (e 78).int = v78, e 79 = v79, (e 80).int = v80, (e 81).str = v81, (e 82).str = v82, (e 83).int = v83, (e 84).int = v84, e 85 = v85, e 86 = v86, e 87 = v87, (e 88).int = v88, (e 89).bool = v89, (e 90).bool = v90, (e 91).bool = v91, (e 92).bool = v92, (e 93).int = v93 at *
 rw [k84] at q86
 rw [k81] at q86
 rw [k82] at q86
 by_cases h : x3 < x2
 ·obtain ⟨k0, m1, i0, i1, n0, n1, l1, st⟩ := Day.Xy (cls := x5) (who := x6) (Bool.and_eq_true_iff.1 hp).1 h
  have l1 : (x44.AJ.length : Int) = 4 * x3 := l1
  have t45 : v45 = true := by rw [q45]; exact decide_eq_true h
  have hl := Day.PK x0 x1
  have hf : Day.IC x1 = true := by simp [Day.IC]; omega
  have hf2 : Day.IC v53 = true := by rw [q53]; simp [Day.IC]; omega
  obtain ⟨p1, p2⟩ := Day.Aba (s := x0) hf n0 (by omega : x4 ≤ 16)
  have w70 : v70 = x1 + x4 := by rw [q70]; exact wrap64 (by omega) (by omega)
  have w75 : v75 = x1 + x4 + 1 := by rw [q75, w70]; exact wrap64 (by omega) (by omega)
  have w93 : v93 = x3 + 1 := by rw [q93]; exact wrap64 (by omega) (by omega)
  have r72 := Day.Az x0 v70
  rw [← q72] at r72
  have e74 : v74 = Day.Ci x0 (x1 + x4) % 2 := by rw [q74, Int.tmod_eq_emod_of_nonneg r72.1, q72, w70]
  have key : v80 = Day.HY x0 x1 x4 x5 ∧ ([.v (.string v81), .v (.string v82), v85, .i v84] : List A) = Day.ID (Day.GI x0 x1 x4 x5 x6) := by
   by_cases c1 : x5 = 1
   ·have t47 : v47 = true := by rw [q47, c1]; rfl
    subst c1
    rw [Day.Aai, Day.Aal]
    simp only [q80, q81, q82, q84, q85, t47, if_true, q57, q53, q52, q56]
    refine ⟨?_, ?_⟩ <;> first | exact trivial | rfl
   ·have t47 : v47 = false := by rw [q47]; simpa using c1
    by_cases c2 : x5 = 2
    ·have t59 : v59 = true := by rw [q59, c2]; rfl
     subst c2
     rw [Day.Aaj, Day.Aam]
     simp only [q80, q81, q82, q84, q85, t47, t59, if_true, Bool.false_eq_true, if_false, q76, q78, q79, w75, e74, q68, p2]
     refine ⟨?_, ?_⟩ <;> first | exact trivial | rfl
    ·have t59 : v59 = false := by rw [q59]; simpa using c2
     rw [Day.Aak c1 c2, Day.Aan c1 c2]
     simp only [q80, q81, q82, q84, q85, t47, t59, Bool.false_eq_true, if_false, q76, q78, q79]
     refine ⟨?_, ?_⟩ <;> first | exact trivial | rfl
  have e87 : v87 = .l (x44.AJ ++ Day.ID (Day.GI x0 x1 x4 x5 x6)) := by rw [q87, q86, ← key.2]; rfl
  obtain ⟨s1, s2, s3, s4⟩ := st ⟨v87, v88⟩ e87 q88
  have g88 : v88 = x3 + 1 := by
   have : v87.AJ.length = x44.AJ.length + 4 := by rw [e87]; show (x44.AJ ++ Day.ID _).length = _; rw [List.length_append]; rfl
   rw [q88, this]
   omega
  rw [w93, key.1]
  refine ⟨⟨by rw [q92]; exact Day.BF (by rw [q91, q89, q90, g88]; simp; omega), by rw [q73]; exact Day.BF (by rw [q71, w70]; simp [Day.C1]; omega), by rw [q69]; exact Day.BF (by rw [q63]; exact p1), by rw [q58]; exact Day.BF (by rw [q55, hf2]; exact (Bool.and_eq_true_iff.1 hp).2), by rw [q54]; exact Day.BF (by rw [q51, hf]; exact (Bool.and_eq_true_iff.1 hp).2)⟩, fun _ => ⟨Bool.and_eq_true_iff.2 ⟨s1, (Bool.and_eq_true_iff.1 hp).2⟩, ⟨s2, trivial, s3⟩, s4⟩, fun hh => ?_⟩
  rw [q46, t45] at hh
  cases hh
 ·obtain ⟨e1, e2, e3⟩ := Day.Aah (cls := x5) (who := x6) (Bool.and_eq_true_iff.1 hp).1 h
  have t45 : v45 = false := by rw [q45]; exact decide_eq_false h
  refine ⟨by simp [q92, q73, q69, q58, q54, q49, q61, q50, t45], fun hh => ?_, fun _ => ⟨e1.symm, e2, e3.symm⟩⟩
  rw [t45] at hh
  cases hh
theorem V5 (as : List A) (e : Nat → A) (h1 : as = (List.range 45).map e) (h2 : (IQ as).1 = true) (H : Ab T e LR.defs) : Bj e LR.obs ∧
   (∀ pc ls, some (V 45, [V 0, V 80, V 2, V 93, V 4, V 5, V 6, V 7, V 8, V 9, V 10, V 11, V 12, V 13, V 14, V 15, V 16, V 17, V 18, V 19, V 20, V 21, V 22, V 23, V 24, V 25, V 26, V 27, V 28, V 29, V 30, V 31, V 32, V 33, V 34, V 35, V 36, V 37, V 38, V 39, V 40, V 88, V 42, V 43, V 87]) = some (pc, ls) → (pc.ev e).bool = true → (IQ (ls.map (L.ev e))).1 = true ∧ (IQ (ls.map (L.ev e))).2 = (IQ as).2 ∧ V4 (ls.map (L.ev e)) < V4 as) ∧
   ∀ x ∈ ([(V 46, [some (V 1), some (V 41), some (V 44)])] : List (L × List (Option L))), (x.1.ev e).bool = true → ∀ (j : Nat) l, x.2[j]? = some (some l) → D6 (Hi.tags.getD j .any) (l.ev e) ((IQ as).2.getD j (.i 0)) := by
 subst h1
 obtain ⟨ho, h⟩ := Uy e H h2
 refine ⟨⟨ho.1, ho.2.1, ho.2.2.1, ho.2.2.2.1, ho.2.2.2.2, trivial⟩, fun pc ls hb hpc => ?_, ?_⟩
 ·injection hb with hb
  injection hb with h3 h4
  subst h3 h4
  have h := h.1 hpc
  refine ⟨h.1, ?_, h.2.2⟩
  have h5 := h.2.1
  obtain ⟨z0, z1, z2⟩ := h5
  exact (A5 z0 (A5 z1 (Fw z2 rfl)))
 ·intro x hx hpc j l hj
  simp only [List.mem_cons, List.not_mem_nil, or_false] at hx
  rcases hx with rfl
  ·have h := h.2 hpc
   obtain ⟨z0, z1, z2⟩ := h
   match j, hj with
   | 0, hj => cases hj; exact z0
   | 1, hj => cases hj; exact z1
   | 2, hj => cases hj; exact z2
   | _ + 3, hj => cases hj
def Hj : G := ⟨160, [⟨156, (.call 1187), [V 0, V 155, V 154, N 0, V 4, V 12, V 28, V 9, V 118, V 148, V 149, V 150, V 152, V 153, V 155, V 119, V 120, V 121, V 122, V 123, V 124, V 125, V 126, V 127, V 128, V 129, V 130, V 131, V 132, V 133, V 134, V 135, V 136, V 137, V 138, V 139, V 140, V 141, V 142, V 143, V 144, N 0, V 145, V 146, .e]⟩, ⟨155, (.ar .add .i64), [V 118, N 2]⟩, ⟨154, .mn, [V 153, N 2000]⟩, ⟨153, (.ar .add .i64), [V 149, V 152]⟩, ⟨151, (.call 26), [V 0, V 150]⟩, ⟨150, (.ar .add .i64), [V 118, N 1]⟩, ⟨149, (.ar .mul .i64), [N 256, V 148]⟩, ⟨147, (.call 26), [V 0, V 118]⟩, ⟨146, .iteA, [V 9, .e, V 115]⟩, ⟨145, .iteA, [V 9, V 33, .e]⟩, ⟨144, .iteI, [V 9, V 110, N 0]⟩, ⟨143, .iteI, [V 9, V 107, N 0]⟩, ⟨142, .iteI, [V 9, V 104, N 0]⟩, ⟨141, .iteI, [V 9, V 101, N 0]⟩, ⟨140, .iteI, [V 9, V 82, N 0]⟩, ⟨139, .iteI, [V 9, V 81, N 0]⟩, ⟨138, .iteI, [V 9, V 80, N 0]⟩, ⟨137, .iteI, [V 9, V 79, N 0]⟩, ⟨136, .iteI, [V 9, V 78, N 0]⟩, ⟨135, .iteI, [V 9, V 77, N 0]⟩, ⟨134, .iteI, [V 9, V 76, N 0]⟩, ⟨133, .iteI, [V 9, V 75, N 0]⟩, ⟨132, .iteI, [V 9, V 71, N 0]⟩, ⟨131, .iteI, [V 9, V 68, N 0]⟩, ⟨130, .iteI, [V 9, V 65, N 0]⟩, ⟨129, .iteI, [V 9, V 62, N 0]⟩, ⟨128, .iteI, [V 9, V 43, N 0]⟩, ⟨127, .iteI, [V 9, V 42, N 0]⟩, ⟨126, .iteI, [V 9, V 41, N 0]⟩, ⟨125, .iteI, [V 9, V 40, N 0]⟩, ⟨124, .iteI, [V 9, V 39, N 0]⟩, ⟨123, .iteI, [V 9, V 38, N 0]⟩, ⟨122, .iteI, [V 9, V 37, N 0]⟩, ⟨121, .iteI, [V 9, V 36, N 0]⟩, ⟨120, .iteI, [V 9, V 32, N 0]⟩, ⟨119, .iteI, [V 9, N 0, V 114]⟩, ⟨118, .iteI, [V 9, V 112, V 117]⟩, ⟨117, (.ar .add .i64), [N 3, V 4]⟩, ⟨116, .imp, [V 29, V 113]⟩, ⟨113, (.call 1183), [V 0, N 0, V 4, V 12, V 28, V 9, N 0, .e]⟩, ⟨112, (.ar .add .i64), [V 84, N 4]⟩, ⟨111, .imp, [V 9, V 109]⟩, ⟨109, (.call 26), [V 0, V 96]⟩, ⟨108, .imp, [V 9, V 106]⟩, ⟨106, (.call 26), [V 0, V 92]⟩, ⟨105, .imp, [V 9, V 103]⟩, ⟨103, (.call 26), [V 0, V 88]⟩, ⟨102, .imp, [V 9, V 100]⟩, ⟨100, (.call 26), [V 0, V 84]⟩, ⟨99, .imp, [V 9, V 97]⟩, ⟨97, (.call 26), [V 0, V 96]⟩, ⟨96, (.ar .add .i64), [V 84, N 3]⟩, ⟨95, .imp, [V 9, V 93]⟩, ⟨93, (.call 26), [V 0, V 92]⟩, ⟨92, (.ar .add .i64), [V 84, N 2]⟩, ⟨91, .imp, [V 9, V 89]⟩, ⟨89, (.call 26), [V 0, V 88]⟩, ⟨88, (.ar .add .i64), [V 84, N 1]⟩, ⟨87, .imp, [V 9, V 85]⟩, ⟨85, (.call 26), [V 0, V 84]⟩, ⟨84, (.ar .add .i64), [V 73, V 4]⟩, ⟨83, .imp, [V 9, V 74]⟩, ⟨74, (.call 1182), [V 0, V 73, V 4, V 12, V 28, V 9, N 0, V 31, V 45, V 62, V 49, V 65, V 53, V 68, V 57, V 71, V 32, V 36, V 37, V 38, V 39, V 40, V 41, V 42, V 43, N 0, N 0, N 0, N 0, N 0, N 0, N 0, N 0, V 33]⟩, ⟨73, (.ar .add .i64), [V 45, N 4]⟩, ⟨72, .imp, [V 9, V 70]⟩, ⟨70, (.call 26), [V 0, V 57]⟩, ⟨69, .imp, [V 9, V 67]⟩, ⟨67, (.call 26), [V 0, V 53]⟩, ⟨66, .imp, [V 9, V 64]⟩, ⟨64, (.call 26), [V 0, V 49]⟩, ⟨63, .imp, [V 9, V 61]⟩, ⟨61, (.call 26), [V 0, V 45]⟩, ⟨60, .imp, [V 9, V 58]⟩, ⟨58, (.call 26), [V 0, V 57]⟩, ⟨57, (.ar .add .i64), [V 45, N 3]⟩, ⟨56, .imp, [V 9, V 54]⟩, ⟨54, (.call 26), [V 0, V 53]⟩, ⟨53, (.ar .add .i64), [V 45, N 2]⟩, ⟨52, .imp, [V 9, V 50]⟩, ⟨50, (.call 26), [V 0, V 49]⟩, ⟨49, (.ar .add .i64), [V 45, N 1]⟩, ⟨48, .imp, [V 9, V 46]⟩, ⟨46, (.call 26), [V 0, V 45]⟩, ⟨45, (.ar .add .i64), [V 31, V 4]⟩, ⟨44, .imp, [V 9, V 35]⟩, ⟨35, (.call 1181), [V 0, V 31, V 4, V 12, V 28, V 9, N 0, V 32, N 0, N 0, N 0, N 0, N 0, N 0, N 0, N 0, V 33]⟩, ⟨34, .imp, [V 9, V 30]⟩, ⟨30, (.call 1180), [V 0, N 3, V 4, V 12, V 28, V 9, N 0, N 0, .e]⟩, ⟨29, .not, [V 9]⟩, ⟨28, .iteI, [V 22, V 27, V 21]⟩, ⟨27, (.dv .rem .i64), [V 25, N 2]⟩, ⟨26, .imp, [V 22, V 24]⟩, ⟨24, (.call 26), [V 0, N 2]⟩, ⟨23, .not, [V 22]⟩, ⟨22, (.cmp .eql), [V 12, N 2]⟩, ⟨21, .iteI, [V 13, V 20, N 0]⟩, ⟨20, (.dv .rem .i64), [V 16, V 4]⟩, ⟨19, .imp, [V 13, V 18]⟩, ⟨18, (.cmp .neq), [V 4, N 0]⟩, ⟨17, .imp, [V 13, V 15]⟩, ⟨15, (.call 26), [V 0, N 2]⟩, ⟨14, .not, [V 13]⟩, ⟨13, (.cmp .eql), [V 12, N 1]⟩, ⟨12, (.dv .rem .i64), [V 11, N 3]⟩, ⟨10, (.call 26), [V 0, N 1]⟩, ⟨9, (.cmp .eql), [V 8, N 1]⟩, ⟨8, (.dv .rem .i64), [V 7, N 2]⟩, ⟨7, (.dv .quo .i64), [V 6, N 3]⟩, ⟨5, (.call 26), [V 0, N 1]⟩, ⟨4, (.ar .add .i64), [N 3, V 3]⟩, ⟨3, (.dv .rem .i64), [V 2, N 6]⟩, ⟨1, (.call 26), [V 0, N 0]⟩], [V 156, V 151, V 147, V 116, V 111, V 108, V 105, V 102, V 99, V 95, V 91, V 87, V 83, V 72, V 69, V 66, V 63, V 60, V 56, V 52, V 48, V 44, V 34, V 26, V 19, V 17, V 10, V 5, V 1], []⟩
theorem NY (e : Nat → A) (H : Ab T e Hj.defs) : ∀ r0, r0 = Day.Cu (e 0).str → (Day.FC (e 0).str) = true →
  ((e 156).bool = true ∧ (e 151).bool = true ∧ (e 147).bool = true ∧ (e 116).bool = true ∧ (e 111).bool = true ∧ (e 108).bool = true ∧ (e 105).bool = true ∧ (e 102).bool = true ∧ (e 99).bool = true ∧ (e 95).bool = true ∧ (e 91).bool = true ∧ (e 87).bool = true ∧ (e 83).bool = true ∧ (e 72).bool = true ∧ (e 69).bool = true ∧ (e 66).bool = true ∧ (e 63).bool = true ∧ (e 60).bool = true ∧ (e 56).bool = true ∧ (e 52).bool = true ∧ (e 48).bool = true ∧ (e 44).bool = true ∧ (e 34).bool = true ∧ (e 26).bool = true ∧ (e 19).bool = true ∧ (e 17).bool = true ∧ (e 10).bool = true ∧ (e 5).bool = true ∧ (e 1).bool = true) ∧ (((r0)).n = (e 4).int ∧ ((r0)).px = (e 146) ∧ ((r0)).pn = (e 119).int ∧ ((r0)).cls = (e 12).int ∧ ((r0)).who = (e 28).int ∧ ((r0)).ld = (e 9).bool ∧ ((r0)).nx = (e 145) ∧ ((r0)).nn = (e 120).int ∧ ((r0)).h0.a 0 = (e 121).int ∧ ((r0)).h0.a 1 = (e 122).int ∧ ((r0)).h0.a 2 = (e 123).int ∧ ((r0)).h0.a 3 = (e 124).int ∧ ((r0)).h0.a 4 = (e 125).int ∧ ((r0)).h0.a 5 = (e 126).int ∧ ((r0)).h0.a 6 = (e 127).int ∧ ((r0)).h0.a 7 = (e 128).int ∧ ((r0)).h0.port = (e 129).int ∧ ((r0)).h0.age = (e 130).int ∧ ((r0)).h0.hold = (e 131).int ∧ ((r0)).h0.pos = (e 132).int ∧ ((r0)).h1.a 0 = (e 133).int ∧ ((r0)).h1.a 1 = (e 134).int ∧ ((r0)).h1.a 2 = (e 135).int ∧ ((r0)).h1.a 3 = (e 136).int ∧ ((r0)).h1.a 4 = (e 137).int ∧ ((r0)).h1.a 5 = (e 138).int ∧ ((r0)).h1.a 6 = (e 139).int ∧ ((r0)).h1.a 7 = (e 140).int ∧ ((r0)).h1.port = (e 141).int ∧ ((r0)).h1.age = (e 142).int ∧ ((r0)).h1.hold = (e 143).int ∧ ((r0)).h1.pos = (e 144).int ∧ ((r0)).tx = (e 159) ∧ ((r0)).tn = (e 158).int) := by
 intro r0 hr0 hp
 subst hr0
 simp only [Hj, Ab, Def.q, BI, L.Ak, L.Aw, L.AS, L.AV, L.ev, A.Ai, A.Ao, A.AF, A.AT, List.map_cons, List.map_nil, Nat.zero_add, Nat.add_zero, and_true, true_and, Nat.reduceAdd, Nat.one_mul] at H
 simp only [D0, Ee, CW, Bg, Ef, Ey, BV, Fq, and_true, true_and] at H
 revert H
 simp only [and_imp]
 rintro q156 q155 - q154 q153 - q151 q150 - q149 - q147 q146 q145 q144 - q143 - q142 - q141 - q140 - q139 - q138 - q137 - q136 - q135 - q134 - q133 - q132 - q131 - q130 - q129 - q128 - q127 - q126 - q125 - q124 - q123 - q122 - q121 - q120 - q119 - q118 - q117 - q116 q113 q112 - q111 q109 q108 q106 q105 q103 q102 q100 q99 q97 q96 - q95 q93 q92 - q91 q89 q88 - q87 q85 q84 - q83 q74 q73 - q72 q70 q69 q67 q66 q64 q63 q61 q60 q58 q57 - q56 q54 q53 - q52 q50 q49 - q48 q46 q45 - q44 q35 q34 q30 q29 q28 - q27 - q26 q24 q23 q22 q21 - q20 - q19 q18 q17 q15 q14 q13 q12 - q10 q9 q8 - q7 - q5 q4 - q3 - q1
 replace q156 := Yz q156
 obtain ⟨q156, q157, q158, q159⟩ := q156
 replace q151 := Al q151
 obtain ⟨q151, q152⟩ := q151
 replace q147 := Al q147
 obtain ⟨q147, q148⟩ := q147
 replace q113 := Yx q113
 obtain ⟨q113, q114, q115⟩ := q113
 replace q109 := Al q109
 obtain ⟨q109, q110⟩ := q109
 replace q106 := Al q106
 obtain ⟨q106, q107⟩ := q106
 replace q103 := Al q103
 obtain ⟨q103, q104⟩ := q103
 replace q100 := Al q100
 obtain ⟨q100, q101⟩ := q100
 replace q97 := Al q97
 obtain ⟨q97, q98⟩ := q97
 replace q93 := Al q93
 obtain ⟨q93, q94⟩ := q93
 replace q89 := Al q89
 obtain ⟨q89, q90⟩ := q89
 replace q85 := Al q85
 obtain ⟨q85, q86⟩ := q85
 replace q74 := Yw q74
 obtain ⟨q74, q75, q76, q77, q78, q79, q80, q81, q82⟩ := q74
 replace q70 := Al q70
 obtain ⟨q70, q71⟩ := q70
 replace q67 := Al q67
 obtain ⟨q67, q68⟩ := q67
 replace q64 := Al q64
 obtain ⟨q64, q65⟩ := q64
 replace q61 := Al q61
 obtain ⟨q61, q62⟩ := q61
 replace q58 := Al q58
 obtain ⟨q58, q59⟩ := q58
 replace q54 := Al q54
 obtain ⟨q54, q55⟩ := q54
 replace q50 := Al q50
 obtain ⟨q50, q51⟩ := q50
 replace q46 := Al q46
 obtain ⟨q46, q47⟩ := q46
 replace q35 := Yv q35
 obtain ⟨q35, q36, q37, q38, q39, q40, q41, q42, q43⟩ := q35
 replace q30 := Yu q30
 obtain ⟨q30, q31, q32, q33⟩ := q30
 replace q24 := Al q24
 obtain ⟨q24, q25⟩ := q24
 replace q15 := Al q15
 obtain ⟨q15, q16⟩ := q15
 replace q10 := Al q10
 obtain ⟨q10, q11⟩ := q10
 replace q5 := Al q5
 obtain ⟨q5, q6⟩ := q5
 replace q1 := Al q1
 obtain ⟨q1, q2⟩ := q1
 simp only [L.Ak, L.Aw, L.AS, L.AV, L.ev, A.Ai, A.Ao, A.AF] at q156 q157 q158 q159 q151 q152 q147 q148 q113 q114 q115 q109 q110 q106 q107 q103 q104 q100 q101 q97 q98 q93 q94 q89 q90 q85 q86 q74 q75 q76 q77 q78 q79 q80 q81 q82 q70 q71 q67 q68 q64 q65 q61 q62 q58 q59 q54 q55 q50 q51 q46 q47 q35 q36 q37 q38 q39 q40 q41 q42 q43 q30 q31 q32 q33 q24 q25 q15 q16 q10 q11 q5 q6 q1 q2
 generalize (e 0).str = x0, (e 1).bool = v1, (e 2).int = v2, (e 3).int = v3, (e 4).int = v4, (e 5).bool = v5, (e 6).int = v6, (e 7).int = v7, (e 8).int = v8, (e 9).bool = v9, (e 10).bool = v10, (e 11).int = v11, (e 12).int = v12, (e 13).bool = v13, (e 14).bool = v14, (e 15).bool = v15, (e 16).int = v16, (e 17).bool = v17, (e 18).bool = v18, (e 19).bool = v19, (e 20).int = v20, (e 21).int = v21, (e 22).bool = v22, (e 23).bool = v23, (e 24).bool = v24, (e 25).int = v25, (e 26).bool = v26, (e 27).int = v27, (e 28).int = v28, (e 29).bool = v29, (e 30).bool = v30, (e 31).int = v31, (e 32).int = v32, e 33 = v33, (e 34).bool = v34, (e 35).bool = v35, (e 36).int = v36, (e 37).int = v37, (e 38).int = v38, (e 39).int = v39, (e 40).int = v40, (e 41).int = v41, (e 42).int = v42, (e 43).int = v43, (e 44).bool = v44, (e 45).int = v45, (e 46).bool = v46, (e 47).int = v47, (e 48).bool = v48, (e 49).int = v49, (e 50).bool = v50, (e 51).int = v51, (e 52).bool = v52, (e 53).int = v53, (e 54).bool = v54, (e 55).int = v55, (e 56).bool = v56, (e 57).int = v57, (e 58).bool = v58, (e 59).int = v59, (e 60).bool = v60, (e 61).bool = v61, (e 62).int = v62, (e 63).bool = v63, (e 64).bool = v64, (e 65).int = v65, (e 66).bool = v66, (e 67).bool = v67, (e 68).int = v68, (e 69).bool = v69, (e 70).bool = v70, (e 71).int = v71, (e 72).bool = v72, (e 73).int = v73, (e 74).bool = v74, (e 75).int = v75, (e 76).int = v76, (e 77).int = v77, (e 78).int = v78, (e 79).int = v79, (e 80).int = v80, (e 81).int = v81, (e 82).int = v82, (e 83).bool = v83, (e 84).int = v84, (e 85).bool = v85, (e 86).int = v86, (e 87).bool = v87, (e 88).int = v88, (e 89).bool = v89, (e 90).int = v90, (e 91).bool = v91, (e 92).int = v92, (e 93).bool = v93, (e 94).int = v94, (e 95).bool = v95, (e 96).int = v96, (e 97).bool = v97, (e 98).int = v98, (e 99).bool = v99, (e 100).bool = v100, (e 101).int = v101, (e 102).bool = v102, (e 103).bool = v103, (e 104).int = v104, (e 105).bool = v105, (e 106).bool = v106, (e 107).int = v107, (e 108).bool = v108, (e 109).bool = v109, (e 110).int = v110, (e 111).bool = v111, (e 112).int = v112, (e 113).bool = v113, (e 114).int = v114, e 115 = v115, (e 116).bool = v116, (e 117).int = v117, (e 118).int = v118, (e 119).int = v119, (e 120).int = v120, (e 121).int = v121, (e 122).int = v122, (e 123).int = v123, (e 124).int = v124, (e 125).int = v125, (e 126).int = v126, (e 127).int = v127, (e 128).int = v128, (e 129).int = v129, (e 130).int = v130, (e 131).int = v131, (e 132).int = v132, (e 133).int = v133, (e 134).int = v134, (e 135).int = v135, (e 136).int = v136, (e 137).int = v137, (e 138).int = v138, (e 139).int = v139, (e 140).int = v140, (e 141).int = v141, (e 142).int = v142, (e 143).int = v143, (e 144).int = v144, e 145 = v145, e 146 = v146, (e 147).bool = v147, (e 148).int = v148, (e 149).int = v149, (e 150).int = v150, (e 151).bool = v151, (e 152).int = v152, (e 153).int = v153, (e 154).int = v154, (e 155).int = v155, (e 156).bool = v156, (e 157).int = v157, (e 158).int = v158, e 159 = v159 at *
 have rn := Day.GM x0
 have ri := Day.JU x0
 have rk := Day.JV x0
 have b2 := Day.Az x0 0
 have b6 := Day.Az x0 1
 have b16 := Day.Az x0 2
 have e3 : v3 = Day.Ci x0 0 % 6 := by rw [q3, q2]; exact Int.tmod_eq_emod_of_nonneg b2.1
 have e4 : v4 = Day.DT x0 := by rw [q4, e3]; exact wrap64 (by omega) (by omega)
 have e7 : v7 = Day.Ci x0 1 / 3 := by rw [q7, q6, Int.tdiv_eq_ediv_of_nonneg b6.1]; exact wrap64 (by omega) (by omega)
 have e8 : v8 = Day.Ci x0 1 / 3 % 2 := by rw [q8, e7]; exact Int.tmod_eq_emod_of_nonneg (by omega)
 have e9 : v9 = Day.HZ x0 := by rw [q9, e8]; rfl
 have e12 : v12 = Day.EE x0 := by rw [q12, q11]; exact Int.tmod_eq_emod_of_nonneg b6.1
 have e20 : v20 = Day.Ci x0 2 % Day.DT x0 := by rw [q20, q16, e4]; exact Int.tmod_eq_emod_of_nonneg b16.1
 have e27 : v27 = Day.Ci x0 2 % 2 := by rw [q27, q25]; exact Int.tmod_eq_emod_of_nonneg b16.1
 have e28 : v28 = Day.Kl x0 := by
  unfold Day.Kl
  rw [q28, q21, q22, q13, e12, e20, e27]
  by_cases h1 : Day.EE x0 = 1
  ·simp [h1]
  ·by_cases h2 : Day.EE x0 = 2 <;> simp [h1, h2]
 have e31 : v31 = 3 + 4 * v4 := by rw [q31]; unfold Day.ndI; omega
 have w4 : 3 ≤ v4 ∧ v4 ≤ 8 := by rw [e4]; exact rn
 have e45 : v45 = v31 + v4 := by rw [q45]; exact wrap64 (by omega) (by omega)
 have e49 : v49 = v45 + 1 := by rw [q49]; exact wrap64 (by omega) (by omega)
 have e53 : v53 = v45 + 2 := by rw [q53]; exact wrap64 (by omega) (by omega)
 have e57 : v57 = v45 + 3 := by rw [q57]; exact wrap64 (by omega) (by omega)
 have e73 : v73 = v45 + 4 := by rw [q73]; exact wrap64 (by omega) (by omega)
 have e84 : v84 = v73 + v4 := by rw [q84]; exact wrap64 (by omega) (by omega)
 have e88 : v88 = v84 + 1 := by rw [q88]; exact wrap64 (by omega) (by omega)
 have e92 : v92 = v84 + 2 := by rw [q92]; exact wrap64 (by omega) (by omega)
 have e96 : v96 = v84 + 3 := by rw [q96]; exact wrap64 (by omega) (by omega)
 have e112 : v112 = v84 + 4 := by rw [q112]; exact wrap64 (by omega) (by omega)
 have e117 : v117 = 3 + v4 := by rw [q117]; exact wrap64 (by omega) (by omega)
 have e118 : v118 = Day.Uh x0 := by
  unfold Day.Uh
  rw [q118, ← e9, ← e4]
  cases v9 <;> simp <;> omega
 have r148 := Day.Az x0 v118
 have r152 := Day.Az x0 v150
 have e150 : v150 = Day.Uh x0 + 1 := by rw [q150, e118]; exact wrap64 (by omega) (by omega)
 have e149 : v149 = 256 * v148 := by rw [q149, q148]; exact wrap64 (by omega) (by omega)
 have e153 : v153 = Day.J3 x0 (Day.Uh x0) := by
  rw [q153, e149, q148, q152, wrap64 (by omega) (by omega), e150, e118]
  rfl
 have e154 : v154 = Day.Yg x0 := by
  unfold Day.Yg
  rw [q154, e153]
  split <;> omega
 have e155 : v155 = Day.Uh x0 + 2 := by rw [q155, e118]; exact wrap64 (by omega) (by omega)
 obtain ⟨c1, c2⟩ := Day.Aag (s := x0) (i := 1) rfl (n := v4) (by omega) (by omega)
 obtain ⟨d1, d2⟩ := Day.Abc x0 (n := v4) (by omega) (by omega)
 have hA : ∀ j : Nat, j < 8 → (Day.Ug x0 (Day.DT x0) (3 + 4 * Day.DT x0)).a j = Day.BT x0 v31 v4 0 0 j := fun j hj => by rw [Day.Xz (by omega) (by omega) j hj, e31, e4]
 have hB : ∀ j : Nat, j < 8 → (Day.Ug x0 (Day.DT x0) (3 + 4 * Day.DT x0 + (Day.DT x0 + 4))).a j = Day.BT x0 v73 v4 0 0 j := fun j hj => by rw [Day.Xz (by omega) (by omega) j hj, e73, e45, e31, e4, show 3 + 4 * Day.DT x0 + Day.DT x0 + 4 = 3 + 4 * Day.DT x0 + (Day.DT x0 + 4) by omega]
 refine ⟨⟨by rw [q156, e154, e155]; exact Bool.and_eq_true_iff.2 ⟨by rw [e4]; exact Day.XA x0, hp⟩, by rw [q151, e150]; simp [Day.C1]; omega, by rw [q147, e118]; simp [Day.C1]; omega, by rw [q116]; exact Day.BF (by rw [q113]; exact c1), by rw [q111]; exact Day.BF (by rw [q109, e96]; simp [Day.C1]; omega), by rw [q108]; exact Day.BF (by rw [q106, e92]; simp [Day.C1]; omega), by rw [q105]; exact Day.BF (by rw [q103, e88]; simp [Day.C1]; omega), by rw [q102]; exact Day.BF (by rw [q100, e84]; simp [Day.C1]; omega), by rw [q99]; exact Day.BF (by rw [q97, e96]; simp [Day.C1]; omega), by rw [q95]; exact Day.BF (by rw [q93, e92]; simp [Day.C1]; omega), by rw [q91]; exact Day.BF (by rw [q89, e88]; simp [Day.C1]; omega), by rw [q87]; exact Day.BF (by rw [q85, e84]; simp [Day.C1]; omega), by rw [q83]; exact Day.BF (by rw [q74, e73]; exact Day.JT.2 ⟨by omega, by omega, by omega, by omega, by omega⟩), by rw [q72]; exact Day.BF (by rw [q70, e57]; simp [Day.C1]; omega), by rw [q69]; exact Day.BF (by rw [q67, e53]; simp [Day.C1]; omega), by rw [q66]; exact Day.BF (by rw [q64, e49]; simp [Day.C1]; omega), by rw [q63]; exact Day.BF (by rw [q61, e45]; simp [Day.C1]; omega), by rw [q60]; exact Day.BF (by rw [q58, e57]; simp [Day.C1]; omega), by rw [q56]; exact Day.BF (by rw [q54, e53]; simp [Day.C1]; omega), by rw [q52]; exact Day.BF (by rw [q50, e49]; simp [Day.C1]; omega), by rw [q48]; exact Day.BF (by rw [q46, e45]; simp [Day.C1]; omega), by rw [q44]; exact Day.BF (by rw [q35, e31]; exact Day.JT.2 ⟨by omega, by omega, by omega, by omega, by omega⟩), by rw [q34]; exact Day.BF (by rw [q30]; exact d1), by rw [q26]; exact Day.BF (by rw [q24]; rfl), by rw [q19]; exact Day.BF (by rw [q18]; simp; omega), by rw [q17]; exact Day.BF (by rw [q15]; rfl), by rw [q10]; rfl, by rw [q5]; rfl, by rw [q1]; rfl⟩, ?_⟩
 have g45 : 3 + 4 * Day.DT x0 + Day.DT x0 = v45 := by rw [e45, e31, e4]
 have g84 : 3 + 4 * Day.DT x0 + (Day.DT x0 + 4) + Day.DT x0 = v84 := by rw [e84, e73, e45, e31, e4]; omega
 unfold Day.Cu
 simp only []
 rw [← e4, ← e12, ← e28, ← e9, ← e154, ← e155] at *
 rw [q119, q120, q145, q146, q114, q32, q33, q115, c2, d2, q158, q159]
 refine ⟨rfl, by cases v9 <;> rfl, by cases v9 <;> rfl, rfl, rfl, rfl, by cases v9 <;> rfl, by cases v9 <;> rfl, ?_⟩
 rw [q121, q122, q123, q124, q125, q126, q127, q128, q129, q130, q131, q132, q133, q134, q135, q136, q137, q138, q139, q140, q141, q142, q143, q144]
 cases v9
 ·exact ⟨rfl, rfl, rfl, rfl, rfl, rfl, rfl, rfl, rfl, rfl, rfl, rfl, rfl, rfl, rfl, rfl, rfl, rfl, rfl, rfl, rfl, rfl, rfl, rfl, Day.XB, rfl⟩
 ·simp only [if_true]
  exact ⟨(hA 0 (by omega)).trans q36.symm, (hA 1 (by omega)).trans q37.symm, (hA 2 (by omega)).trans q38.symm, (hA 3 (by omega)).trans q39.symm, (hA 4 (by omega)).trans q40.symm, (hA 5 (by omega)).trans q41.symm, (hA 6 (by omega)).trans q42.symm, (hA 7 (by omega)).trans q43.symm, by rw [q62, ← g45]; rfl, by rw [q65, e49, ← g45]; rfl, by rw [q68, e53, ← g45]; rfl, by rw [q71, e57, ← g45]; rfl, (hB 0 (by omega)).trans q75.symm, (hB 1 (by omega)).trans q76.symm, (hB 2 (by omega)).trans q77.symm, (hB 3 (by omega)).trans q78.symm, (hB 4 (by omega)).trans q79.symm, (hB 5 (by omega)).trans q80.symm, (hB 6 (by omega)).trans q81.symm, (hB 7 (by omega)).trans q82.symm, by rw [q101, ← g84]; rfl, by rw [q104, e88, ← g84]; rfl, by rw [q107, e92, ← g84]; rfl, by rw [q110, e96, ← g84]; rfl, Day.XB, trivial⟩
def K0 : G := ⟨14, [⟨13, .iteB, [V 4, V 4, V 3]⟩, ⟨12, .iteI, [V 4, V 10, N 0]⟩, ⟨11, .not, [V 4]⟩, ⟨10, (.conv .i64), [V 9]⟩, ⟨9, .sget, [V 0, V 1]⟩, ⟨8, .imp, [V 4, V 7]⟩, ⟨7, .and, [V 5, V 6]⟩, ⟨6, (.cmp .lss), [V 1, V 2]⟩, ⟨5, (.cmp .leq), [N 0, V 1]⟩, ⟨4, .not, [V 3]⟩, ⟨3, (.cmp .geq), [V 1, V 2]⟩, ⟨2, .slen, [V 0]⟩], [V 8], []⟩
theorem QV (e : Nat → A) (H : Ab T e K0.defs) (hp : (Day.C1 (e 1).int) = true) :
  ((e 8).bool = true) ∧ (Day.Ci (e 0).str (e 1).int = (e 12).int) := by
 simp only [K0, Ab, Def.q, BI, L.Ak, L.Aw, L.AS, L.AV, L.ev, A.Ai, A.Ao, A.AF, A.AT, List.map_cons, List.map_nil, Nat.zero_add, Nat.add_zero, and_true, true_and, Nat.reduceAdd, Nat.one_mul] at H
 simp only [D0, Ee, CW, Bg, Ef, Ey, BV, Fq, and_true, true_and] at H
 obtain ⟨q13, ⟨q12, -⟩, q11, ⟨q10, -⟩, ⟨q9, -⟩, q8, q7, q6, q5, q4, q3, q2⟩ := H
 generalize (e 0).str = x0, (e 1).int = x1, (e 2).int = v2, (e 3).bool = v3, (e 4).bool = v4, (e 5).bool = v5, (e 6).bool = v6, (e 7).bool = v7, (e 8).bool = v8, (e 9).int = v9, (e 10).int = v10, (e 11).bool = v11, (e 12).int = v12, (e 13).bool = v13 at *
 have h0 : 0 ≤ x1 := by
  simp only [Day.C1, Bool.and_eq_true, decide_eq_true_eq] at hp
  exact hp.1
 unfold Day.Ci
 by_cases h : (x0.size : Int) ≤ x1
 ·have t4 : v4 = false := by rw [q4, q3, q2]; simp [h]
  rw [if_pos h]
  simp [q8, q12, t4]
 ·have t4 : v4 = true := by rw [q4, q3, q2]; simp; omega
  rw [if_neg h, q12, t4, if_pos rfl, q10, ← q9]
  refine ⟨by rw [q8]; exact Day.BF (by rw [q7, q5, q6, q2]; simp; omega), ?_⟩
  have := UInt8.toNat_lt (x0.data.toList.getD x1.toNat 0)
  exact (wrap64 (by omega) (by omega)).symm
def Hk : Lp := ⟨41, [false, true, false, true, true, true, true, true, true], 1170, 14, 2, 0, ⟨Ez 58 [(0, .pv (.one (.k (.str (V 0))))), (1, .pv (.one (.k (.int .i64 (V 1))))), (2, .pv (.one (.k (.int .i64 (V 2))))), (6, .pv (.one (.k (.str (.s []))))), (7, .pv (.one (.k (.int .i64 (N 0))))), (8, .pv (.one (.k (.int .i64 (V 3))))), (9, .pv (.one (.k (.lsl 0 (V 4))))), (10, .pv (.one (.k (.int .i64 (V 5))))), (11, .pv (.one (.k (.int .i64 (V 6))))), (12, .pv (.one (.k (.str (V 0))))), (13, .pv (.one (.k (.int .i64 (V 1))))), (14, .pv (.one (.k (.int .i64 (V 7))))), (15, .pv (.one (.k (.int .i64 (V 3))))), (16, .pv (.one (.k (.int .i64 (V 3))))), (17, .pv (.one (.k (.bool (V 8))))), (18, .pv (.one (.k (.bool (V 8))))), (21, .pv (.one (.k (.bool (V 9))))), (28, .pv (.one (.k (.int .i64 (V 3))))), (29, .pv (.one (.k (.bool (V 10))))), (32, .pv (.one (.k (.str (V 0))))), (33, .pv (.one (.k (.int .i64 (V 1))))), (34, .pv (.one (.k (.int .i64 (V 11))))), (35, .pv (.one (.k (.int .i64 (V 12))))), (36, .pv (.one (.k (.int .i64 (V 5)))))], [⟨false, 0, 0, [], some ⟨true, 5, [.int .u8], V 13, V 4⟩⟩], B true⟩, [(.exit 0, ⟨Ez 58 [(0, .pv (.one (.k (.str (V 0))))), (1, .pv (.one (.k (.int .i64 (V 1))))), (2, .pv (.one (.k (.int .i64 (V 2))))), (6, .pv (.one (.k (.str (.s []))))), (7, .pv (.one (.k (.int .i64 (N 0))))), (8, .pv (.one (.k (.int .i64 (V 3))))), (9, .pv (.one (.k (.lsl 0 (V 14))))), (10, .pv (.one (.k (.int .i64 (V 5))))), (12, .pv (.one (.k (.str (V 0))))), (13, .pv (.one (.k (.int .i64 (V 1))))), (14, .pv (.one (.k (.int .i64 (V 7))))), (15, .pv (.one (.k (.int .i64 (V 3))))), (16, .pv (.one (.k (.int .i64 (V 3))))), (17, .pv (.one (.k (.bool (V 8))))), (18, .pv (.one (.k (.bool (V 8))))), (21, .pv (.one (.k (.bool (V 9))))), (28, .pv (.one (.k (.int .i64 (V 3))))), (29, .pv (.one (.k (.bool (V 10))))), (32, .pv (.one (.k (.str (V 0))))), (33, .pv (.one (.k (.int .i64 (V 1))))), (34, .pv (.one (.k (.int .i64 (V 11))))), (35, .pv (.one (.k (.int .i64 (V 12))))), (36, .pv (.one (.k (.int .i64 (V 5)))))], [⟨false, 0, 0, [], some ⟨true, 5, [.int .u8], V 15, V 14⟩⟩], B true⟩)], [true, true, true, true, false, true, false, true, true, true, true, true, true, false], [.i, .any]⟩
def LV : G := ⟨30, [⟨29, (.ar .add .i64), [V 6, N 1]⟩, ⟨28, .imp, [V 14, V 27]⟩, ⟨27, .and, [V 25, V 26]⟩, ⟨26, (.cmp .lss), [V 24, N 1000001]⟩, ⟨25, (.cmp .leq), [N 0, V 24]⟩, ⟨24, (.lln 1), [V 23]⟩, ⟨23, .cat, [V 13, V 22]⟩, ⟨22, .mkl, [V 21]⟩, ⟨21, (.conv .u8), [V 19]⟩, ⟨20, .imp, [V 14, V 18]⟩, ⟨18, (.call 26), [V 0, V 17]⟩, ⟨17, (.ar .add .i64), [V 16, V 6]⟩, ⟨16, (.ar .add .i64), [V 1, N 2]⟩, ⟨15, .not, [V 14]⟩, ⟨14, (.cmp .lss), [V 6, V 5]⟩], [V 28, V 20], []⟩
def V7 (al : List A) : Nat := ((gi al 5) - (gi al 6)).toNat
theorem Uz (e : Nat → A) (H : Ab T e LV.defs) (hp : (Day.cP (e 0).str (e 1).int (e 5).int (e 6).int (Day.L1.mk (e 13) (e 4).int)) = true) :
  ((e 28).bool = true ∧ (e 20).bool = true) ∧ ((e 14).bool = true → (Day.cP (e 0).str (e 1).int (e 5).int (e 29).int (Day.L1.mk (e 23) (e 24).int)) = true ∧ ((e 5).int = (e 5).int ∧ Day.cX (e 0).str (e 1).int (e 5).int (e 29).int (Day.L1.mk (e 23) (e 24).int) = Day.cX (e 0).str (e 1).int (e 5).int (e 6).int (Day.L1.mk (e 13) (e 4).int)) ∧ ((e 5).int - (e 29).int).toNat < ((e 5).int - (e 6).int).toNat) ∧ ((e 15).bool = true → (e 4).int = (e 5).int ∧ (e 13) = Day.cX (e 0).str (e 1).int (e 5).int (e 6).int (Day.L1.mk (e 13) (e 4).int)) := by
 simp only [LV, Ab, Def.q, BI, L.Ak, L.Aw, L.AS, L.AV, L.ev, A.Ai, A.Ao, A.AF, A.AT, List.map_cons, List.map_nil, Nat.zero_add, Nat.add_zero, and_true, true_and, Nat.reduceAdd, Nat.one_mul] at H
 simp only [D0, Ee, CW, Bg, Ef, Ey, BV, Fq, and_true, true_and] at H
 obtain ⟨⟨q29, -⟩, q28, q27, q26, q25, q24, q23, q22, ⟨q21, k21⟩, q20, q18, ⟨q17, -⟩, ⟨q16, -⟩, q15, q14⟩ := H
 replace q18 := Al q18
 obtain ⟨q18, q19⟩ := q18
 unfold KW at k21
 simp only [L.Ak, L.Aw, L.AS, L.AV, L.ev, A.Ai, A.Ao, A.AF] at q18 q19
 generalize (e 0).str = x0, (e 1).int = x1, (e 2).int = x2, (e 3).int = x3, (e 4).int = x4, (e 5).int = x5, (e 6).int = x6, (e 7).int = x7, (e 8).int = x8, (e 9).int = x9, (e 10).int = x10, (e 11).int = x11, (e 12).int = x12, e 13 = x13, (e 14).bool = v14, (e 15).bool = v15, (e 16).int = v16, (e 17).int = v17, (e 18).bool = v18, (e 19).int = v19, (e 20).bool = v20, (e 21).int = v21, e 22 = v22, e 23 = v23, (e 24).int = v24, (e 25).bool = v25, (e 26).bool = v26, (e 27).bool = v27, (e 28).bool = v28, (e 29).int = v29 at *
 rw [k21] at q22
 by_cases h : x6 < x5
 ·obtain ⟨i0, i1, j0, n1, l1, e1, st⟩ := Day.Aaf hp h
  have l1 : (x13.AJ.length : Int) = x6 := l1
  have t14 : v14 = true := by rw [q14]; exact decide_eq_true h
  have w16 : v16 = x1 + 2 := by rw [q16]; exact wrap64 (by omega) (by omega)
  have w17 : v17 = x1 + 2 + x6 := by rw [q17, w16]; exact wrap64 (by omega) (by omega)
  have w29 : v29 = x6 + 1 := by rw [q29]; exact wrap64 (by omega) (by omega)
  have e21 : v21 = Day.Ci x0 (x1 + 2 + x6) := by rw [q21, Day.Acg q19, q19, w17]
  have e23 : v23 = .l (x13.AJ ++ [.i (Day.Ci x0 (x1 + 2 + x6))]) := by rw [q23, q22, e21]; rfl
  have e24 : v24 = (v23.AJ.length : Int) := by rw [q24, Nat.div_one]
  obtain ⟨s1, s2, s3⟩ := st ⟨v23, v24⟩ e23 e24
  have g24 : v24 = x6 + 1 := by rw [e24, e23]; show ((x13.AJ ++ [_]).length : Int) = _; rw [List.length_append, List.length_singleton]; omega
  rw [w29]
  refine ⟨⟨by rw [q28]; exact Day.BF (by rw [q27, q25, q26, g24]; simp; omega), by rw [q20]; exact Day.BF (by rw [q18, w17]; simp [Day.C1]; omega)⟩, fun _ => ⟨s1, ⟨rfl, s2⟩, s3⟩, fun hh => ?_⟩
  rw [q15, t14] at hh
  cases hh
 ·obtain ⟨e1, e2⟩ := Day.AbK hp h
  have t14 : v14 = false := by rw [q14]; exact decide_eq_false h
  refine ⟨by simp [q28, q20, t14], fun hh => ?_, fun _ => ⟨e1, e2.symm⟩⟩
  rw [t14] at hh
  cases hh
theorem V8 (as : List A) (e : Nat → A) (h1 : as = (List.range 14).map e) (h2 : (IJ as).1 = true) (H : Ab T e LV.defs) : Bj e LV.obs ∧
   (∀ pc ls, some (V 14, [V 0, V 1, V 2, V 3, V 24, V 5, V 29, V 7, V 8, V 9, V 10, V 11, V 12, V 23]) = some (pc, ls) → (pc.ev e).bool = true → (IJ (ls.map (L.ev e))).1 = true ∧ (IJ (ls.map (L.ev e))).2 = (IJ as).2 ∧ V7 (ls.map (L.ev e)) < V7 as) ∧
   ∀ x ∈ ([(V 15, [some (V 4), some (V 13)])] : List (L × List (Option L))), (x.1.ev e).bool = true → ∀ (j : Nat) l, x.2[j]? = some (some l) → D6 (Hk.tags.getD j .any) (l.ev e) ((IJ as).2.getD j (.i 0)) := by
 subst h1
 obtain ⟨ho, h⟩ := Uz e H h2
 refine ⟨⟨ho.1, ho.2, trivial⟩, fun pc ls hb hpc => ?_, ?_⟩
 ·injection hb with hb
  injection hb with h3 h4
  subst h3 h4
  have h := h.1 hpc
  refine ⟨h.1, ?_, h.2.2⟩
  have h5 := h.2.1
  obtain ⟨z0, z1⟩ := h5
  exact (A5 z0 (Fw z1 rfl))
 ·intro x hx hpc j l hj
  simp only [List.mem_cons, List.not_mem_nil, or_false] at hx
  rcases hx with rfl
  ·have h := h.2 hpc
   obtain ⟨z0, z1⟩ := h
   match j, hj with
   | 0, hj => cases hj; exact z0
   | 1, hj => cases hj; exact z1
   | _ + 2, hj => cases hj
def EA : G := ⟨40, [⟨39, .iteB, [V 10, V 35, V 9]⟩, ⟨38, .iteI, [V 10, V 34, V 14]⟩, ⟨37, .iteV, [V 10, V 33, V 12]⟩, ⟨36, .not, [V 10]⟩, ⟨35, .iteB, [V 20, V 20, V 19]⟩, ⟨34, .iteI, [V 20, V 31, V 14]⟩, ⟨33, .iteV, [V 20, V 29, .s []]⟩, ⟨32, .not, [V 20]⟩, ⟨31, (.ar .add .i64), [V 30, V 24]⟩, ⟨30, (.ar .add .i64), [V 1, N 2]⟩, ⟨29, .mks, [V 27]⟩, ⟨28, .imp, [V 20, V 25]⟩, ⟨25, (.call 1170), [V 0, V 1, V 2, V 5, N 0, V 24, N 0, V 4, V 6, V 9, V 15, V 14, V 22, .e]⟩, ⟨24, (.dv .rem .i64), [V 22, N 16]⟩, ⟨23, .imp, [V 20, V 21]⟩, ⟨21, (.call 26), [V 0, V 14]⟩, ⟨20, .and, [V 16, V 18]⟩, ⟨19, .and, [V 15, V 17]⟩, ⟨18, .and, [V 10, V 16]⟩, ⟨17, .and, [V 10, V 15]⟩, ⟨16, .not, [V 15]⟩, ⟨15, (.cmp .eql), [V 5, N 0]⟩, ⟨14, (.ar .add .i64), [V 1, N 1]⟩, ⟨13, .imp, [V 9, V 11]⟩, ⟨11, (.call 52), [V 5, V 2]⟩, ⟨10, .not, [V 9]⟩, ⟨9, .iteB, [V 6, B true, V 8]⟩, ⟨8, (.cmp .eql), [V 5, N 2]⟩, ⟨7, .not, [V 6]⟩, ⟨6, (.cmp .eql), [V 5, N 1]⟩, ⟨5, (.dv .rem .i64), [V 4, N 4]⟩, ⟨3, (.call 26), [V 0, V 1]⟩], [V 28, V 23, V 13, V 3], []⟩
theorem K1 (e : Nat → A) (H : Ab T e EA.defs) (hp : (Day.IC (e 1).int && Day.FC (e 0).str) = true) :
  ((e 28).bool = true ∧ (e 23).bool = true ∧ (e 13).bool = true ∧ (e 3).bool = true) ∧ (Day.HE (e 0).str (e 1).int (e 2).int = (e 37).str ∧ Day.DS (e 0).str (e 1).int = (e 38).int) := by
 simp only [EA, Ab, Def.q, BI, L.Ak, L.Aw, L.AS, L.AV, L.ev, A.Ai, A.Ao, A.AF, A.AT, List.map_cons, List.map_nil, Nat.zero_add, Nat.add_zero, and_true, true_and, Nat.reduceAdd, Nat.one_mul] at H
 simp only [D0, Ee, CW, Bg, Ef, Ey, BV, Fq, and_true, true_and] at H
 revert H
 simp only [and_imp]
 rintro q39 q38 - - q37 - q36 q35 q34 - - q33 - q32 q31 - q30 - q29 - q28 q25 q24 - q23 q21 q20 q19 q18 q17 q16 q15 q14 - q13 q11 q10 q9 q8 q7 q6 q5 - q3
 replace q25 := Yt q25
 obtain ⟨q25, q26, q27⟩ := q25
 replace q21 := Al q21
 obtain ⟨q21, q22⟩ := q21
 replace q11 := QU q11
 obtain ⟨q11, q12⟩ := q11
 replace q3 := Al q3
 obtain ⟨q3, q4⟩ := q3
 simp only [L.Ak, L.Aw, L.AS, L.AV, L.ev, A.Ai, A.Ao, A.AF] at q25 q26 q27 q21 q22 q11 q12 q3 q4
 generalize (e 0).str = x0, (e 1).int = x1, (e 2).int = x2, (e 3).bool = v3, (e 4).int = v4, (e 5).int = v5, (e 6).bool = v6, (e 7).bool = v7, (e 8).bool = v8, (e 9).bool = v9, (e 10).bool = v10, (e 11).bool = v11, (e 12).str = v12, (e 13).bool = v13, (e 14).int = v14, (e 15).bool = v15, (e 16).bool = v16, (e 17).bool = v17, (e 18).bool = v18, (e 19).bool = v19, (e 20).bool = v20, (e 21).bool = v21, (e 22).int = v22, (e 23).bool = v23, (e 24).int = v24, (e 25).bool = v25, (e 26).int = v26, e 27 = v27, (e 28).bool = v28, (e 29).str = v29, (e 30).int = v30, (e 31).int = v31, (e 32).bool = v32, (e 33).str = v33, (e 34).int = v34, (e 35).bool = v35, (e 36).bool = v36, (e 37).str = v37, (e 38).int = v38, (e 39).bool = v39 at *
 simp only [Bool.and_eq_true] at hp
 have hi := hp.1
 have hi2 : 0 ≤ x1 ∧ x1 ≤ 900000 := by simpa [Day.IC] using hi
 have r4 := Day.Az x0 x1
 rw [← q4] at r4
 have e5 : v5 = v4 % 4 := by rw [q5]; exact Int.tmod_eq_emod_of_nonneg r4.1
 have w14 : v14 = x1 + 1 := by rw [q14]; exact wrap64 (by omega) (by omega)
 have w30 : v30 = x1 + 2 := by rw [q30]; exact wrap64 (by omega) (by omega)
 have r22 := Day.Az x0 v14
 rw [← q22] at r22
 have e24 : v24 = v22 % 16 := by rw [q24]; exact Int.tmod_eq_emod_of_nonneg r22.1
 have w31 : v31 = x1 + 2 + v24 := by rw [q31, w30]; exact wrap64 (by omega) (by omega)
 obtain ⟨m1, m2⟩ := Day.Aag (s := x0) hi (n := v24) (by omega) (by omega)
 rw [← q27] at m2
 have e29 : v29 = Day.Yf (Day.JS x0 0 v24.toNat (x1 + 2)) := by rw [q29, m2]; exact Day.Aa7 _
 refine ⟨⟨by rw [q28]; exact Day.BF (by rw [q25]; exact m1), by rw [q23]; exact Day.BF (by rw [q21, w14]; simp [Day.C1]; omega), by rw [q13]; exact Day.BF q11, by rw [q3]; simp [Day.C1]; omega⟩, ?_⟩
 unfold Day.HE Day.DS
 rw [← w14, ← q22, ← q4, ← e5, ← e24, ← w31, ← e29, q37, q33, q38, q34, q12]
 clear q25 q27 q29 m1 m2 e29 q4 q22
 have : v5 = 0 ∨ v5 = 1 ∨ v5 = 2 ∨ v5 = 3 := by omega
 rcases this with c | c | c | c <;> simp [q20, q18, q16, q15, q10, q9, q8, q6, c, Day.Ud]
def Ho : G := ⟨135, [⟨134, .iteB, [V 130, V 132, B false]⟩, ⟨133, .imp, [V 130, V 131]⟩, ⟨131, (.call 17), [V 32, V 33, V 66, V 67]⟩, ⟨130, .iteB, [V 82, V 129, B false]⟩, ⟨129, .and, [V 128, V 127]⟩, ⟨128, (.cmp .eql), [V 8, V 42]⟩, ⟨127, .and, [V 126, V 125]⟩, ⟨126, (.cmp .eql), [V 9, V 43]⟩, ⟨125, .and, [V 124, V 123]⟩, ⟨124, (.cmp .eql), [V 10, V 44]⟩, ⟨123, .and, [V 122, V 121]⟩, ⟨122, (.cmp .eql), [V 11, V 45]⟩, ⟨121, .and, [V 120, V 119]⟩, ⟨120, (.cmp .eql), [V 12, V 46]⟩, ⟨119, .and, [V 118, V 117]⟩, ⟨118, (.cmp .eql), [V 13, V 47]⟩, ⟨117, .and, [V 116, V 115]⟩, ⟨116, (.cmp .eql), [V 14, V 48]⟩, ⟨115, .and, [V 114, V 113]⟩, ⟨114, (.cmp .eql), [V 15, V 49]⟩, ⟨113, .and, [V 112, V 111]⟩, ⟨112, (.cmp .eql), [V 16, V 50]⟩, ⟨111, .and, [V 110, V 109]⟩, ⟨110, (.cmp .eql), [V 17, V 51]⟩, ⟨109, .and, [V 108, V 107]⟩, ⟨108, (.cmp .eql), [V 18, V 52]⟩, ⟨107, .and, [V 106, V 105]⟩, ⟨106, (.cmp .eql), [V 19, V 53]⟩, ⟨105, .and, [V 104, V 103]⟩, ⟨104, (.cmp .eql), [V 20, V 54]⟩, ⟨103, .and, [V 102, V 101]⟩, ⟨102, (.cmp .eql), [V 21, V 55]⟩, ⟨101, .and, [V 100, V 99]⟩, ⟨100, (.cmp .eql), [V 22, V 56]⟩, ⟨99, .and, [V 98, V 97]⟩, ⟨98, (.cmp .eql), [V 23, V 57]⟩, ⟨97, .and, [V 96, V 95]⟩, ⟨96, (.cmp .eql), [V 24, V 58]⟩, ⟨95, .and, [V 94, V 93]⟩, ⟨94, (.cmp .eql), [V 25, V 59]⟩, ⟨93, .and, [V 92, V 91]⟩, ⟨92, (.cmp .eql), [V 26, V 60]⟩, ⟨91, .and, [V 90, V 89]⟩, ⟨90, (.cmp .eql), [V 27, V 61]⟩, ⟨89, .and, [V 88, V 87]⟩, ⟨88, (.cmp .eql), [V 28, V 62]⟩, ⟨87, .and, [V 86, V 85]⟩, ⟨86, (.cmp .eql), [V 29, V 63]⟩, ⟨85, .and, [V 84, V 83]⟩, ⟨84, (.cmp .eql), [V 30, V 64]⟩, ⟨83, (.cmp .eql), [V 31, V 65]⟩, ⟨82, .iteB, [V 78, V 80, B false]⟩, ⟨81, .imp, [V 78, V 79]⟩, ⟨79, (.call 16), [V 6, V 7, V 40, V 41]⟩, ⟨78, .iteB, [V 76, V 77, B false]⟩, ⟨77, .eqB, [V 5, V 39]⟩, ⟨76, .iteB, [V 72, V 75, B false]⟩, ⟨75, .and, [V 74, V 73]⟩, ⟨74, (.cmp .eql), [V 3, V 37]⟩, ⟨73, (.cmp .eql), [V 4, V 38]⟩, ⟨72, .iteB, [V 68, V 70, B false]⟩, ⟨71, .imp, [V 68, V 69]⟩, ⟨69, (.call 15), [V 1, V 2, V 35, V 36]⟩, ⟨68, (.cmp .eql), [V 0, V 34]⟩], [V 133, V 81, V 71], []⟩
theorem N6 (e : Nat → A) (H : Ab T e Ho.defs) : ∀ z0, z0 = (Day.Sc.mk (e 0).int (e 1) (e 2).int (e 3).int (e 4).int (e 5).bool (e 6) (e 7).int (Day.HB.mk [(e 8).int, (e 9).int, (e 10).int, (e 11).int, (e 12).int, (e 13).int, (e 14).int, (e 15).int] (e 16).int (e 17).int (e 18).int (e 19).int) (Day.HB.mk [(e 20).int, (e 21).int, (e 22).int, (e 23).int, (e 24).int, (e 25).int, (e 26).int, (e 27).int] (e 28).int (e 29).int (e 30).int (e 31).int) (e 32) (e 33).int) → ∀ z1, z1 = (Day.Sc.mk (e 34).int (e 35) (e 36).int (e 37).int (e 38).int (e 39).bool (e 40) (e 41).int (Day.HB.mk [(e 42).int, (e 43).int, (e 44).int, (e 45).int, (e 46).int, (e 47).int, (e 48).int, (e 49).int] (e 50).int (e 51).int (e 52).int (e 53).int) (Day.HB.mk [(e 54).int, (e 55).int, (e 56).int, (e 57).int, (e 58).int, (e 59).int, (e 60).int, (e 61).int] (e 62).int (e 63).int (e 64).int (e 65).int) (e 66) (e 67).int) → (Day.Yi z0) = true →
  ((e 133).bool = true ∧ (e 81).bool = true ∧ (e 71).bool = true) ∧ (Day.Uk z0 z1 = (e 134).bool) := by
 intro z0 hz0 z1 hz1 hp
 subst hz0 hz1
 simp only [Ho, Ab, Def.q, BI, L.Ak, L.Aw, L.AS, L.AV, L.ev, A.Ai, A.Ao, A.AF, A.AT, List.map_cons, List.map_nil, Nat.zero_add, Nat.add_zero, and_true, true_and, Nat.reduceAdd, Nat.one_mul] at H
 simp only [D0, Ee, CW, Bg, Ef, Ey, BV, Fq, and_true, true_and] at H
 revert H
 simp only [and_imp]
 rintro q134 q133 q131 q130 q129 q128 q127 q126 q125 q124 q123 q122 q121 q120 q119 q118 q117 q116 q115 q114 q113 q112 q111 q110 q109 q108 q107 q106 q105 q104 q103 q102 q101 q100 q99 q98 q97 q96 q95 q94 q93 q92 q91 q90 q89 q88 q87 q86 q85 q84 q83 q82 q81 q79 q78 q77 q76 q75 q74 q73 q72 q71 q69 q68
 replace q131 := LL q131
 obtain ⟨q131, q132⟩ := q131
 replace q79 := NX q79
 obtain ⟨q79, q80⟩ := q79
 replace q69 := Fy q69
 obtain ⟨q69, q70⟩ := q69
 simp only [L.Ak, L.Aw, L.AS, L.AV, L.ev, A.Ai, A.Ao, A.AF] at q131 q132 q79 q80 q69 q70
 generalize (e 0).int = x0, e 1 = x1, (e 2).int = x2, (e 3).int = x3, (e 4).int = x4, (e 5).bool = x5, e 6 = x6, (e 7).int = x7, (e 8).int = x8, (e 9).int = x9, (e 10).int = x10, (e 11).int = x11, (e 12).int = x12, (e 13).int = x13, (e 14).int = x14, (e 15).int = x15, (e 16).int = x16, (e 17).int = x17, (e 18).int = x18, (e 19).int = x19, (e 20).int = x20, (e 21).int = x21, (e 22).int = x22, (e 23).int = x23, (e 24).int = x24, (e 25).int = x25, (e 26).int = x26, (e 27).int = x27, (e 28).int = x28, (e 29).int = x29, (e 30).int = x30, (e 31).int = x31, e 32 = x32, (e 33).int = x33, (e 34).int = x34, e 35 = x35, (e 36).int = x36, (e 37).int = x37, (e 38).int = x38, (e 39).bool = x39, e 40 = x40, (e 41).int = x41, (e 42).int = x42, (e 43).int = x43, (e 44).int = x44, (e 45).int = x45, (e 46).int = x46, (e 47).int = x47, (e 48).int = x48, (e 49).int = x49, (e 50).int = x50, (e 51).int = x51, (e 52).int = x52, (e 53).int = x53, (e 54).int = x54, (e 55).int = x55, (e 56).int = x56, (e 57).int = x57, (e 58).int = x58, (e 59).int = x59, (e 60).int = x60, (e 61).int = x61, (e 62).int = x62, (e 63).int = x63, (e 64).int = x64, (e 65).int = x65, e 66 = x66, (e 67).int = x67, (e 68).bool = v68, (e 69).bool = v69, (e 70).bool = v70, (e 71).bool = v71, (e 72).bool = v72, (e 73).bool = v73, (e 74).bool = v74, (e 75).bool = v75, (e 76).bool = v76, (e 77).bool = v77, (e 78).bool = v78, (e 79).bool = v79, (e 80).bool = v80, (e 81).bool = v81, (e 82).bool = v82, (e 83).bool = v83, (e 84).bool = v84, (e 85).bool = v85, (e 86).bool = v86, (e 87).bool = v87, (e 88).bool = v88, (e 89).bool = v89, (e 90).bool = v90, (e 91).bool = v91, (e 92).bool = v92, (e 93).bool = v93, (e 94).bool = v94, (e 95).bool = v95, (e 96).bool = v96, (e 97).bool = v97, (e 98).bool = v98, (e 99).bool = v99, (e 100).bool = v100, (e 101).bool = v101, (e 102).bool = v102, (e 103).bool = v103, (e 104).bool = v104, (e 105).bool = v105, (e 106).bool = v106, (e 107).bool = v107, (e 108).bool = v108, (e 109).bool = v109, (e 110).bool = v110, (e 111).bool = v111, (e 112).bool = v112, (e 113).bool = v113, (e 114).bool = v114, (e 115).bool = v115, (e 116).bool = v116, (e 117).bool = v117, (e 118).bool = v118, (e 119).bool = v119, (e 120).bool = v120, (e 121).bool = v121, (e 122).bool = v122, (e 123).bool = v123, (e 124).bool = v124, (e 125).bool = v125, (e 126).bool = v126, (e 127).bool = v127, (e 128).bool = v128, (e 129).bool = v129, (e 130).bool = v130, (e 131).bool = v131, (e 132).bool = v132, (e 133).bool = v133, (e 134).bool = v134 at *
 simp only [Day.Yi, Bool.and_eq_true] at hp
 obtain ⟨h1, h2, h3⟩ := hp
 refine ⟨⟨by rw [q133]; exact Day.BF (by rw [q131]; exact h3), by rw [q81]; exact Day.BF (by rw [q79]; exact h2), by rw [q71]; exact Day.BF (by rw [q69]; exact h1)⟩, ?_⟩
 clear h1 h2 h3 q133 q81 q71
 subst_vars
 rfl
def Hs : Lp := ⟨17, [false, true, false, true, true], 1210, 6, 2, 2, ⟨Ez 55 [(0, .pv (.one (.k (.fsl 0 (V 0))))), (1, .pv (.one (.k (.fsl 1 (V 1))))), (4, .pv (.one (.k (.bool (B false))))), (5, .pv (.one (.k (.int .i64 (V 2))))), (6, .pv (.one (.k (.fsl 0 (V 0))))), (7, .pv (.one (.k (.int .i64 (V 0))))), (8, .pv (.one (.k (.fsl 1 (V 1))))), (9, .pv (.one (.k (.int .i64 (V 1))))), (10, .pv (.one (.k (.bool (V 3)))))], [⟨false, 0, 0, [], some ⟨false, 0, [.str, .str, .sl [.int .i64], .int .i64], V 4, V 0⟩⟩, ⟨false, 0, 0, [], some ⟨false, 0, [.str, .str, .sl [.int .i64], .int .i64], V 5, V 1⟩⟩], B true⟩, [(.ret, ⟨Ez 55 [(0, .pv (.one (.k (.fsl 0 (V 0))))), (1, .pv (.one (.k (.fsl 1 (V 1))))), (4, .pv (.one (.k (.bool (B false))))), (6, .pv (.one (.k (.fsl 0 (V 0))))), (7, .pv (.one (.k (.int .i64 (V 0))))), (8, .pv (.one (.k (.fsl 1 (V 1))))), (9, .pv (.one (.k (.int .i64 (V 1))))), (10, .pv (.one (.k (.bool (V 3)))))], [⟨false, 0, 0, [], some ⟨false, 0, [.str, .str, .sl [.int .i64], .int .i64], V 4, V 0⟩⟩, ⟨false, 0, 0, [], some ⟨false, 0, [.str, .str, .sl [.int .i64], .int .i64], V 5, V 1⟩⟩], V 6⟩), (.exit 0, ⟨Ez 55 [(0, .pv (.one (.k (.fsl 0 (V 0))))), (1, .pv (.one (.k (.fsl 1 (V 1))))), (4, .pv (.one (.k (.bool (B false))))), (6, .pv (.one (.k (.fsl 0 (V 0))))), (7, .pv (.one (.k (.int .i64 (V 0))))), (8, .pv (.one (.k (.fsl 1 (V 1))))), (9, .pv (.one (.k (.int .i64 (V 1))))), (10, .pv (.one (.k (.bool (V 3)))))], [⟨false, 0, 0, [], some ⟨false, 0, [.str, .str, .sl [.int .i64], .int .i64], V 4, V 0⟩⟩, ⟨false, 0, 0, [], some ⟨false, 0, [.str, .str, .sl [.int .i64], .int .i64], V 5, V 1⟩⟩], V 7⟩)], [true, true, false, true, true, true], [.b, .b]⟩
def L6 : G := ⟨64, [⟨63, .and, [V 60, V 7]⟩, ⟨62, .and, [V 6, V 59]⟩, ⟨61, .and, [V 6, V 56]⟩, ⟨60, .not, [V 6]⟩, ⟨59, .and, [V 58, V 55]⟩, ⟨58, .not, [V 56]⟩, ⟨57, (.ar .add .i64), [V 2, N 1]⟩, ⟨56, .and, [V 52, V 54]⟩, ⟨55, .and, [V 51, V 53]⟩, ⟨54, .and, [V 6, V 52]⟩, ⟨53, .and, [V 6, V 51]⟩, ⟨52, .not, [V 51]⟩, ⟨51, .iteB, [V 29, B true, V 50]⟩, ⟨50, .not, [V 48]⟩, ⟨49, .imp, [V 31, V 47]⟩, ⟨47, (.call 15), [V 35, V 36, V 40, V 41]⟩, ⟨46, .iteB, [V 29, B true, V 45]⟩, ⟨45, .not, [V 43]⟩, ⟨44, .imp, [V 31, V 42]⟩, ⟨42, (.call 15), [V 35, V 36, V 40, V 41]⟩, ⟨41, .iteI, [V 30, V 39, N 0]⟩, ⟨40, .iteA, [V 30, V 38, .e]⟩, ⟨39, (.lln 1), [V 38]⟩, ⟨38, (.pix 2 4), [V 5, V 2]⟩, ⟨37, .imp, [V 31, V 14]⟩, ⟨36, .iteI, [V 30, V 34, N 0]⟩, ⟨35, .iteA, [V 30, V 33, .e]⟩, ⟨34, (.lln 1), [V 33]⟩, ⟨33, (.pix 2 4), [V 4, V 2]⟩, ⟨32, .imp, [V 31, V 9]⟩, ⟨31, .and, [V 6, V 30]⟩, ⟨30, .not, [V 29]⟩, ⟨29, .iteB, [V 21, B true, V 28]⟩, ⟨28, (.cmp .neq), [V 25, V 27]⟩, ⟨27, (.pix 3 4), [V 5, V 2]⟩, ⟨26, .imp, [V 23, V 14]⟩, ⟨25, (.pix 3 4), [V 4, V 2]⟩, ⟨24, .imp, [V 23, V 9]⟩, ⟨23, .and, [V 6, V 22]⟩, ⟨22, .not, [V 21]⟩, ⟨21, .not, [V 20]⟩, ⟨20, .and, [V 19, V 18]⟩, ⟨19, .eqS, [V 11, V 16]⟩, ⟨18, .eqS, [V 12, V 17]⟩, ⟨17, (.pix 1 4), [V 5, V 2]⟩, ⟨16, (.pix 0 4), [V 5, V 2]⟩, ⟨15, .imp, [V 6, V 14]⟩, ⟨14, .and, [V 8, V 13]⟩, ⟨13, (.cmp .lss), [V 2, V 1]⟩, ⟨12, (.pix 1 4), [V 4, V 2]⟩, ⟨11, (.pix 0 4), [V 4, V 2]⟩, ⟨10, .imp, [V 6, V 9]⟩, ⟨9, .and, [V 8, V 6]⟩, ⟨8, (.cmp .leq), [N 0, V 2]⟩, ⟨7, .not, [V 6]⟩, ⟨6, (.cmp .lss), [V 2, V 0]⟩], [V 49, V 44, V 37, V 32, V 26, V 24, V 15, V 10], []⟩
def Wj (al : List A) : Nat := (Day.L1.n (Day.L1.mk (ge al 4) (gi al 0)) - (gi al 2)).toNat
theorem UH (e : Nat → A) (H : Ab T e L6.defs) (hp : (Day.chP (Day.L1.mk (e 4) (e 0).int) (Day.L1.mk (e 5) (e 1).int) (e 2).int) = true) :
  ((e 49).bool = true ∧ (e 44).bool = true ∧ (e 37).bool = true ∧ (e 32).bool = true ∧ (e 26).bool = true ∧ (e 24).bool = true ∧ (e 15).bool = true ∧ (e 10).bool = true) ∧ ((e 61).bool = true → (Day.chP (Day.L1.mk (e 4) (e 0).int) (Day.L1.mk (e 5) (e 1).int) (e 57).int) = true ∧ (Day.PH (Day.L1.mk (e 4) (e 0).int) (Day.L1.mk (e 5) (e 1).int) (e 57).int = Day.PH (Day.L1.mk (e 4) (e 0).int) (Day.L1.mk (e 5) (e 1).int) (e 2).int ∧ Day.GL (Day.L1.mk (e 4) (e 0).int) (Day.L1.mk (e 5) (e 1).int) (e 57).int = Day.GL (Day.L1.mk (e 4) (e 0).int) (Day.L1.mk (e 5) (e 1).int) (e 2).int) ∧ (Day.L1.n (Day.L1.mk (e 4) (e 0).int) - (e 57).int).toNat < (Day.L1.n (Day.L1.mk (e 4) (e 0).int) - (e 2).int).toNat) ∧ ((e 62).bool = true → true = Day.PH (Day.L1.mk (e 4) (e 0).int) (Day.L1.mk (e 5) (e 1).int) (e 2).int) ∧ ((e 63).bool = true → true = Day.GL (Day.L1.mk (e 4) (e 0).int) (Day.L1.mk (e 5) (e 1).int) (e 2).int) := by
 simp only [L6, Ab, Def.q, BI, L.Ak, L.Aw, L.AS, L.AV, L.ev, A.Ai, A.Ao, A.AF, A.AT, List.map_cons, List.map_nil, Nat.zero_add, Nat.add_zero, and_true, true_and, Nat.reduceAdd, Nat.one_mul] at H
 simp only [D0, Ee, CW, Bg, Ef, Ey, BV, Fq, and_true, true_and] at H
 revert H
 simp only [and_imp]
 rintro q63 q62 q61 q60 q59 q58 q57 - q56 q55 q54 q53 q52 q51 q50 q49 q47 q46 q45 q44 q42 q41 - q40 q39 q38 q37 q36 - q35 q34 q33 q32 q31 q30 q29 q28 q27 q26 q25 q24 q23 q22 q21 q20 q19 q18 q17 q16 q15 q14 q13 q12 q11 q10 q9 q8 q7 q6
 replace q47 := Fy q47
 obtain ⟨q47, q48⟩ := q47
 replace q42 := Fy q42
 obtain ⟨q42, q43⟩ := q42
 simp only [L.Ak, L.Aw, L.AS, L.AV, L.ev, A.Ai, A.Ao, A.AF] at q47 q48 q42 q43
 generalize (e 0).int = x0, (e 1).int = x1, (e 2).int = x2, (e 3).int = x3, e 4 = x4, e 5 = x5, (e 6).bool = v6, (e 7).bool = v7, (e 8).bool = v8, (e 9).bool = v9, (e 10).bool = v10, (e 13).bool = v13, (e 14).bool = v14, (e 15).bool = v15, (e 18).bool = v18, (e 19).bool = v19, (e 20).bool = v20, (e 21).bool = v21, (e 22).bool = v22, (e 23).bool = v23, (e 24).bool = v24, (e 26).bool = v26, (e 28).bool = v28, (e 29).bool = v29, (e 30).bool = v30, (e 31).bool = v31, (e 32).bool = v32, (e 34).int = v34, e 35 = v35, (e 36).int = v36, (e 37).bool = v37, (e 39).int = v39, e 40 = v40, (e 41).int = v41, (e 42).bool = v42, (e 43).bool = v43, (e 44).bool = v44, (e 45).bool = v45, (e 46).bool = v46, (e 47).bool = v47, (e 48).bool = v48, (e 49).bool = v49, (e 50).bool = v50, (e 51).bool = v51, (e 52).bool = v52, (e 53).bool = v53, (e 54).bool = v54, (e 55).bool = v55, (e 56).bool = v56, (e 57).int = v57, (e 58).bool = v58, (e 59).bool = v59, (e 60).bool = v60, (e 61).bool = v61, (e 62).bool = v62, (e 63).bool = v63 at *
 replace q11 := congrArg A.str q11
 generalize (e 11).str = v11 at *
 replace q12 := congrArg A.str q12
 generalize (e 12).str = v12 at *
 replace q16 := congrArg A.str q16
 generalize (e 16).str = v16 at *
 replace q17 := congrArg A.str q17
 generalize (e 17).str = v17 at *
 replace q25 := congrArg A.int q25
 generalize (e 25).int = v25 at *
 replace q27 := congrArg A.int q27
 generalize (e 27).int = v27, e 33 = v33, e 38 = v38 at *
 have hp2 := hp
 simp only [Day.chP, Bool.and_eq_true] at hp2
 have hb := Day.Hf.1 hp2.1
 have b0 : 0 ≤ x2 := hb.1
 have b1 : x0 ≤ 1000000 := hb.2.2.1
 have b2 : x0 = x1 := hb.2.2.2
 by_cases h : x2 < x0
 ·obtain ⟨s1, hm⟩ := Day.Na (d := Day.Uj x4 x5) h
  have t6 : v6 = true := by rw [q6]; exact decide_eq_true h
  have w : v57 = x2 + 1 := by rw [q57]; exact wrap64 (by omega) (by omega)
  have hk : decide (v34 ≤ 1000000) = true ∧ Day.PI x4 (x0 - (x2 + 1)).toNat (x2 + 1) = true := by
   have k := hp2.2
   rw [show ((Day.L1.mk x4 x0).n - x2).toNat = (x0 - (x2 + 1)).toNat + 1 by show (x0 - x2).toNat = _; omega] at k
   simp only [Day.PI, Bool.and_eq_true] at k
   refine ⟨?_, k.2⟩
   rw [q34, q33]
   exact k.1
  have hd : Day.Uj x4 x5 x2 = v52 := by
   have k : Day.Uj x4 x5 x2 = (v19 && (v18 && (decide (v25 = v27) && Day.GJ ⟨v33, v34⟩ ⟨v38, v39⟩))) := by
    rw [q19, q18, q25, q27, q34, q39, q33, q38, q11, q12, q16, q17]
    rfl
   rw [k]
   cases c29 : v29 with
   | true =>
    have : v52 = false := by rw [q52, q51, c29]; rfl
    rw [this]
    cases c19 : v19 with
    | false => rfl
    | true =>
     cases c18 : v18 with
     | false => rfl
     | true =>
      have t21 : v21 = false := by rw [q21, q20, c19, c18]; rfl
      have t28 : v28 = true := by rw [q29, t21] at c29; simpa using c29
      rw [q28] at t28
      have : ¬ v25 = v27 := by simpa using t28
      simp [this]
   | false =>
    have t30 : v30 = true := by rw [q30, c29]; rfl
    have t52 : v52 = v48 := by rw [q52, q51, c29, q50]; simp
    have e48 : v48 = Day.GJ ⟨v33, v34⟩ ⟨v38, v39⟩ := by rw [q48, q35, q36, q40, q41, t30]; rfl
    have t21 : v21 = false := by
     cases hv : v21 with
     | false => rfl
     | true => rw [q29, hv] at c29; simp at c29
    have t20 : v20 = true := by rw [q21] at t21; simpa using t21
    rw [q20, Bool.and_eq_true] at t20
    have t28 : v28 = false := by rw [q29, t21] at c29; simpa using c29
    have : v25 = v27 := by rw [q28] at t28; simpa using t28
    rw [t52, e48, t20.1, t20.2, decide_eq_true this]
    rfl
  have s2 : Day.GL ⟨x4, x0⟩ ⟨x5, x1⟩ x2 = (v52 && Day.GL ⟨x4, x0⟩ ⟨x5, x1⟩ (x2 + 1)) := by rw [← hd]; exact s1
  have hbnd : v31 = true → Day.Yh ⟨v35, v36⟩ = true := fun c => by
   rw [q31, t6] at c
   have t30 : v30 = true := by simpa using c
   rw [q35, q36, t30]
   show (decide (0 ≤ v34) && decide (v34 ≤ 1000000)) = true
   rw [hk.1, decide_eq_true (show 0 ≤ v34 by rw [q34]; omega)]
   rfl
  have t9 : v9 = true := by rw [q9, q8, t6]; simp; omega
  have t14 : v14 = true := by rw [q14, q13, q8]; simp; omega
  unfold Day.PH
  rw [w, s2]
  refine ⟨⟨?_, ?_, by rw [q37]; exact Day.BF t14, by rw [q32]; exact Day.BF t9, by rw [q26]; exact Day.BF t14, by rw [q24]; exact Day.BF t9, by rw [q15]; exact Day.BF t14, by rw [q10]; exact Day.BF t9⟩, fun hh => ?_, fun hh => ?_, fun hh => ?_⟩
  ·rw [q49]
   cases c : v31 with
   | false => rfl
   | true => exact Day.BF (by rw [q47]; exact hbnd c)
  ·rw [q44]
   cases c : v31 with
   | false => rfl
   | true => exact Day.BF (by rw [q42]; exact hbnd c)
  ·have c : v52 = true := by rw [q61, q56] at hh; simp only [Bool.and_eq_true] at hh; exact hh.2.1
   refine ⟨?_, by simp [c], hm⟩
   simp only [Day.chP, Bool.and_eq_true]
   exact ⟨Day.Hf.2 ⟨by omega, by show x2 + 1 ≤ x0; omega, b1, b2⟩, hk.2⟩
  ·have c : v52 = false := by rw [q62, q59, q55] at hh; simp only [Bool.and_eq_true] at hh; rw [q52, hh.2.2.1]; rfl
   simp [c]
  ·rw [q63, q7, t6] at hh
   simp at hh
 ·have t6 : v6 = false := by rw [q6]; exact decide_eq_false h
  have e1 : Day.GL ⟨x4, x0⟩ ⟨x5, x1⟩ x2 = true := Day.PF h
  refine ⟨by simp [q49, q44, q37, q32, q26, q24, q15, q10, q31, q23, t6], fun hh => ?_, fun hh => ?_, fun _ => e1.symm⟩
  ·rw [q61, t6] at hh
   cases hh
  ·rw [q62, t6] at hh
   cases hh
theorem Wk (as : List A) (e : Nat → A) (h1 : as = (List.range 6).map e) (h2 : (IU as).1 = true) (H : Ab T e L6.defs) : Bj e L6.obs ∧
   (∀ pc ls, some (V 61, [V 0, V 1, V 57, V 3, V 4, V 5]) = some (pc, ls) → (pc.ev e).bool = true → (IU (ls.map (L.ev e))).1 = true ∧ (IU (ls.map (L.ev e))).2 = (IU as).2 ∧ Wj (ls.map (L.ev e)) < Wj as) ∧
   ∀ x ∈ ([(V 62, [some (B true), none]), (V 63, [none, some (B true)])] : List (L × List (Option L))), (x.1.ev e).bool = true → ∀ (j : Nat) l, x.2[j]? = some (some l) → D6 (Hs.tags.getD j .any) (l.ev e) ((IU as).2.getD j (.i 0)) := by
 subst h1
 obtain ⟨ho, h⟩ := UH e H h2
 refine ⟨⟨ho.1, ho.2.1, ho.2.2.1, ho.2.2.2.1, ho.2.2.2.2.1, ho.2.2.2.2.2.1, ho.2.2.2.2.2.2.1, ho.2.2.2.2.2.2.2, trivial⟩, fun pc ls hb hpc => ?_, ?_⟩
 ·injection hb with hb
  injection hb with h3 h4
  subst h3 h4
  have h := h.1 hpc
  refine ⟨h.1, ?_, h.2.2⟩
  have h5 := h.2.1
  obtain ⟨z0, z1⟩ := h5
  exact (HF z0 (HF z1 rfl))
 ·intro x hx hpc j l hj
  simp only [List.mem_cons, List.not_mem_nil, or_false] at hx
  rcases hx with rfl | rfl
  ·have h := h.2.1 hpc
   have z0 := h
   match j, hj with
   | 0, hj => cases hj; exact z0
   | 1, hj => cases hj
   | _ + 2, hj => cases hj
  ·have h := h.2.2 hpc
   have z1 := h
   match j, hj with
   | 0, hj => cases hj
   | 1, hj => cases hj; exact z1
   | _ + 2, hj => cases hj
def EC : G := ⟨21, [⟨20, .iteB, [V 5, V 17, V 4]⟩, ⟨19, .iteB, [V 5, V 16, B false]⟩, ⟨18, .not, [V 5]⟩, ⟨17, .iteB, [V 14, V 14, V 13]⟩, ⟨16, .iteB, [V 14, B true, B false]⟩, ⟨15, .not, [V 14]⟩, ⟨14, .and, [V 5, V 8]⟩, ⟨13, .and, [V 5, V 7]⟩, ⟨12, .imp, [V 5, V 11]⟩, ⟨11, .not, [V 10]⟩, ⟨10, .and, [V 7, V 8]⟩, ⟨9, .imp, [V 5, V 6]⟩, ⟨6, (.call 1210), [V 1, V 3, N 0, V 4, V 0, V 2]⟩, ⟨5, .not, [V 4]⟩, ⟨4, (.cmp .neq), [V 1, V 3]⟩], [V 12, V 9], []⟩
theorem K2 (e : Nat → A) (H : Ab T e EC.defs) (hp : (Day.VP (Day.L1.mk (e 0) (e 1).int)) = true) :
  ((e 12).bool = true ∧ (e 9).bool = true) ∧ (Day.Km (Day.L1.mk (e 0) (e 1).int) (Day.L1.mk (e 2) (e 3).int) = (e 19).bool) := by
 simp only [EC, Ab, Def.q, BI, L.Ak, L.Aw, L.AS, L.AV, L.ev, A.Ai, A.Ao, A.AF, A.AT, List.map_cons, List.map_nil, Nat.zero_add, Nat.add_zero, and_true, true_and, Nat.reduceAdd, Nat.one_mul] at H
 simp only [D0, Ee, CW, Bg, Ef, Ey, BV, Fq, and_true, true_and] at H
 obtain ⟨q20, q19, q18, q17, q16, q15, q14, q13, q12, q11, q10, q9, q6, q5, q4⟩ := H
 replace q6 := YC q6
 obtain ⟨q6, q7, q8⟩ := q6
 simp only [L.Ak, L.Aw, L.AS, L.AV, L.ev, A.Ai, A.Ao, A.AF] at q6 q7 q8
 generalize e 0 = x0, (e 1).int = x1, e 2 = x2, (e 3).int = x3, (e 4).bool = v4, (e 5).bool = v5, (e 6).bool = v6, (e 7).bool = v7, (e 8).bool = v8, (e 9).bool = v9, (e 10).bool = v10, (e 11).bool = v11, (e 12).bool = v12, (e 13).bool = v13, (e 14).bool = v14, (e 15).bool = v15, (e 16).bool = v16, (e 17).bool = v17, (e 18).bool = v18, (e 19).bool = v19, (e 20).bool = v20 at *
 by_cases h : x1 = x3
 ·have t5 : v5 = true := by rw [q5, q4]; simp [h]
  rw [Day.Ac4 hp h] at q6
  have e : Day.Km ⟨x0, x1⟩ ⟨x2, x3⟩ = Day.GL ⟨x0, x1⟩ ⟨x2, x3⟩ 0 := by
   unfold Day.Km
   rw [decide_eq_true (show (Day.L1.mk x0 x1).n = (Day.L1.mk x2 x3).n from h)]
   rfl
  unfold Day.PH at q7
  rw [e]
  generalize Day.GL ⟨x0, x1⟩ ⟨x2, x3⟩ 0 = ff at *
  clear e hp h q4 q5
  subst_vars
  cases ff <;> simp
 ·have t5 : v5 = false := by rw [q5, q4]; simp [h]
  have e : Day.Km ⟨x0, x1⟩ ⟨x2, x3⟩ = false := by
   unfold Day.Km
   rw [decide_eq_false (show ¬ (Day.L1.mk x0 x1).n = (Day.L1.mk x2 x3).n from h)]
   rfl
  rw [e]
  simp [q12, q9, q19, t5]
end Rx.S
