import Derived.Test.YtngghkhjejkelaaVXt
set_option linter.unusedVariables false
set_option linter.unusedSimpArgs false
namespace Rx.S
open Go Rx
set_option maxRecDepth 100000
set_option maxHeartbeats 1000000
def P2 : G := ⟨44, [⟨43, .iteB, [V 8, V 38, V 7]⟩, ⟨42, .iteI, [V 8, V 37, N 0]⟩, ⟨41, .iteI, [V 8, V 36, N 0]⟩, ⟨40, .iteI, [V 8, N 0, N 1]⟩, ⟨39, .not, [V 8]⟩, ⟨38, .iteB, [V 34, V 34, V 33]⟩, ⟨37, .iteI, [V 34, N 0, V 1]⟩, ⟨36, .iteI, [V 34, N 0, V 32]⟩, ⟨35, .not, [V 34]⟩, ⟨34, .and, [V 13, V 31]⟩, ⟨33, .iteB, [V 12, V 14, V 30]⟩, ⟨32, .iteI, [V 12, N 2, N 1]⟩, ⟨31, .and, [V 27, V 29]⟩, ⟨30, .and, [V 26, V 28]⟩, ⟨29, .and, [V 15, V 27]⟩, ⟨28, .and, [V 15, V 26]⟩, ⟨27, .not, [V 26]⟩, ⟨26, .iteB, [V 20, V 25, B false]⟩, ⟨25, (.cmp .geq), [V 3, V 23]⟩, ⟨24, .imp, [V 21, V 22]⟩, ⟨22, (.call 60), [V 0, V 1, V 2, V 3, V 4]⟩, ⟨21, .and, [V 15, V 20]⟩, ⟨20, .iteB, [V 16, B true, V 19]⟩, ⟨19, (.cmp .eql), [V 2, N 2]⟩, ⟨18, .and, [V 15, V 17]⟩, ⟨17, .not, [V 16]⟩, ⟨16, (.cmp .eql), [V 2, N 1]⟩, ⟨15, .and, [V 8, V 13]⟩, ⟨14, .and, [V 8, V 12]⟩, ⟨13, .not, [V 12]⟩, ⟨12, .iteB, [V 9, V 11, B false]⟩, ⟨11, (.cmp .eql), [V 4, V 1]⟩, ⟨10, .and, [V 8, V 9]⟩, ⟨9, (.cmp .eql), [V 2, N 3]⟩, ⟨8, .not, [V 7]⟩, ⟨7, .not, [V 6]⟩, ⟨5, (.call 41), [V 0, V 1, V 2, V 3, V 4]⟩], [V 24, V 5], []⟩
theorem TZ (e : Nat → A) (H : Ad T e P2.defs) (hp : (Day.ND.i64 (Day.ND.mk (e 1).int (e 2).int (e 3).int (e 4).int)) = true) :
  ((e 24).bool = true ∧ (e 5).bool = true) ∧ (((Day.EC (e 0).int (Day.ND.mk (e 1).int (e 2).int (e 3).int (e 4).int))).kind = (e 41).int ∧ ((Day.EC (e 0).int (Day.ND.mk (e 1).int (e 2).int (e 3).int (e 4).int))).id = (e 42).int ∧ Day.GD (e 0).int (Day.ND.mk (e 1).int (e 2).int (e 3).int (e 4).int) = (e 40).int) := by
 simp only [P2, Ad, Def.q, BB, L.Ai, L.Ar, L.AN, L.AR, L.ev, A.Ah, A.Am, A.Au, A.AZ, List.map_cons, List.map_nil, Nat.zero_add, Nat.add_zero, and_true, true_and, Nat.reduceAdd, Nat.one_mul] at H
 simp only [DZ, Ed, D0, Bo, EK, EO, B9, FI, and_true, true_and] at H
 obtain ⟨q43, ⟨q42, -⟩, ⟨q41, -⟩, ⟨q40, -⟩, q39, q38, ⟨q37, -⟩, ⟨q36, -⟩, q35, q34, q33, ⟨q32, -⟩, q31, q30, q29, q28, q27, q26, q25, q24, q22, q21, q20, q19, q18, q17, q16, q15, q14, q13, q12, q11, q10, q9, q8, q7, q5⟩ := H
 replace q22 := SN q22 _ rfl
 obtain ⟨q22, q23⟩ := q22
 replace q5 := Dy q5 _ rfl
 obtain ⟨q5, q6⟩ := q5
 simp only [L.Ai, L.Ar, L.AN, L.AR, L.ev, A.Ah, A.Am, A.Au] at q22 q23 q5 q6
 generalize (e 0).int = x0, (e 1).int = x1, (e 2).int = x2, (e 3).int = x3, (e 4).int = x4, (e 5).bool = v5, (e 6).bool = v6, (e 7).bool = v7, (e 8).bool = v8, (e 9).bool = v9, (e 10).bool = v10, (e 11).bool = v11, (e 12).bool = v12, (e 13).bool = v13, (e 14).bool = v14, (e 15).bool = v15, (e 16).bool = v16, (e 17).bool = v17, (e 18).bool = v18, (e 19).bool = v19, (e 20).bool = v20, (e 21).bool = v21, (e 22).bool = v22, (e 23).int = v23, (e 24).bool = v24, (e 25).bool = v25, (e 26).bool = v26, (e 27).bool = v27, (e 28).bool = v28, (e 29).bool = v29, (e 30).bool = v30, (e 31).bool = v31, (e 32).int = v32, (e 33).bool = v33, (e 34).bool = v34, (e 35).bool = v35, (e 36).int = v36, (e 37).int = v37, (e 38).bool = v38, (e 39).bool = v39, (e 40).int = v40, (e 41).int = v41, (e 42).int = v42, (e 43).bool = v43 at *
 have hz := @Day.Aba x0 ⟨x1, x2, x3, x4⟩
 simp only at hz
 grind (splits := 30) [Day.AP, Day.EP, Day.Bw, Day.sm, Day.i64, Day.u8, Day.u16, Day.u32, Day.right, Day.times, Day.Bu, Day.Bs, Day.GC, Day.AV, Day.Bx, Day.A3, Day.By, Day.Ap, Day.ND.i64, Day.Bk, Day.Co, Day.EC, Day.GD, Day.BS, wrap64, Day.BR, Day.Ca, Day.A2, Day.AF, Day.Iv, Day.atR, Day.AT, Day.AU]
def KE : G := ⟨17, [⟨16, .iteI, [V 5, V 9, V 13]⟩, ⟨15, .iteI, [V 5, V 8, V 12]⟩, ⟨14, .imp, [V 6, V 11]⟩, ⟨11, (.call 77), [V 0, V 1]⟩, ⟨10, .imp, [V 5, V 7]⟩, ⟨7, (.call 78), [V 0, V 1]⟩, ⟨6, .not, [V 5]⟩, ⟨5, (.cmp .eql), [V 2, N 1]⟩], [V 14, V 10], []⟩
theorem QV (e : Nat → A) (H : Ad T e KE.defs) (hp : (true) = true) :
  ((e 14).bool = true ∧ (e 10).bool = true) ∧ (Day.Bk (e 0).int (Day.ND.mk (e 1).int (e 2).int (e 3).int (e 4).int) = (e 15).int) := by
 simp only [KE, Ad, Def.q, BB, L.Ai, L.Ar, L.AN, L.AR, L.ev, A.Ah, A.Am, A.Au, A.AZ, List.map_cons, List.map_nil, Nat.zero_add, Nat.add_zero, and_true, true_and, Nat.reduceAdd, Nat.one_mul] at H
 simp only [DZ, Ed, D0, Bo, EK, EO, B9, FI, and_true, true_and] at H
 obtain ⟨⟨q16, -⟩, ⟨q15, -⟩, q14, q11, q10, q7, q6, q5⟩ := H
 replace q11 := QM q11
 obtain ⟨q11, q12, q13⟩ := q11
 replace q7 := NO q7
 obtain ⟨q7, q8, q9⟩ := q7
 simp only [L.Ai, L.Ar, L.AN, L.AR, L.ev, A.Ah, A.Am, A.Au] at q11 q12 q13 q7 q8 q9
 generalize (e 0).int = x0, (e 1).int = x1, (e 2).int = x2, (e 3).int = x3, (e 4).int = x4, (e 5).bool = v5, (e 6).bool = v6, (e 7).bool = v7, (e 8).int = v8, (e 9).int = v9, (e 10).bool = v10, (e 11).bool = v11, (e 12).int = v12, (e 13).int = v13, (e 14).bool = v14, (e 15).int = v15, (e 16).int = v16 at *
 grind [Day.AP, Day.EP, Day.Bw, Day.sm, Day.i64, Day.u8, Day.u16, Day.u32, Day.right, Day.times, Day.Bu, Day.Bs, Day.GC, Day.AV, Day.Bx, Day.A3, Day.By, Day.Ap, Day.ND.i64, Day.Bk, Day.Co, Day.EC, Day.GD, Day.BS, wrap64, Day.BR, Day.Ca, Day.A2, Day.AF, Day.Iv, Day.atR, Day.AT, Day.AU]
def KP : G := ⟨36, [⟨35, .iteB, [V 8, V 30, V 7]⟩, ⟨34, .iteI, [V 8, V 29, N 0]⟩, ⟨33, .iteI, [V 8, V 28, N 0]⟩, ⟨32, .iteI, [V 8, N 0, N 1]⟩, ⟨31, .not, [V 8]⟩, ⟨30, .iteB, [V 17, V 26, V 16]⟩, ⟨29, .iteI, [V 17, V 1, N 0]⟩, ⟨28, .iteI, [V 17, V 25, N 0]⟩, ⟨27, .not, [V 17]⟩, ⟨26, .iteB, [V 23, V 23, V 22]⟩, ⟨25, .iteI, [V 23, N 1, N 2]⟩, ⟨24, .not, [V 23]⟩, ⟨23, .and, [V 19, V 21]⟩, ⟨22, .and, [V 18, V 20]⟩, ⟨21, .and, [V 17, V 19]⟩, ⟨20, .and, [V 17, V 18]⟩, ⟨19, .not, [V 18]⟩, ⟨18, (.cmp .eql), [V 2, N 3]⟩, ⟨17, .and, [V 13, V 15]⟩, ⟨16, .and, [V 12, V 14]⟩, ⟨15, .and, [V 8, V 13]⟩, ⟨14, .and, [V 8, V 12]⟩, ⟨13, .not, [V 12]⟩, ⟨12, (.cmp .neq), [V 10, N 0]⟩, ⟨11, .imp, [V 8, V 9]⟩, ⟨9, (.call 64), [V 0, V 1, V 2, V 3, V 4]⟩, ⟨8, .not, [V 7]⟩, ⟨7, .not, [V 6]⟩, ⟨5, (.call 29), [V 0, V 1, V 2, V 3, V 4]⟩], [V 11, V 5], []⟩
theorem Q6 (e : Nat → A) (H : Ad T e KP.defs) (hp : (Day.ND.i64 (Day.ND.mk (e 1).int (e 2).int (e 3).int (e 4).int)) = true) :
  ((e 11).bool = true ∧ (e 5).bool = true) ∧ (((Day.EC (e 0).int (Day.ND.mk (e 1).int (e 2).int (e 3).int (e 4).int))).kind = (e 33).int ∧ ((Day.EC (e 0).int (Day.ND.mk (e 1).int (e 2).int (e 3).int (e 4).int))).id = (e 34).int ∧ Day.GD (e 0).int (Day.ND.mk (e 1).int (e 2).int (e 3).int (e 4).int) = (e 32).int) := by
 simp only [KP, Ad, Def.q, BB, L.Ai, L.Ar, L.AN, L.AR, L.ev, A.Ah, A.Am, A.Au, A.AZ, List.map_cons, List.map_nil, Nat.zero_add, Nat.add_zero, and_true, true_and, Nat.reduceAdd, Nat.one_mul] at H
 simp only [DZ, Ed, D0, Bo, EK, EO, B9, FI, and_true, true_and] at H
 obtain ⟨q35, ⟨q34, -⟩, ⟨q33, -⟩, ⟨q32, -⟩, q31, q30, ⟨q29, -⟩, ⟨q28, -⟩, q27, q26, ⟨q25, -⟩, q24, q23, q22, q21, q20, q19, q18, q17, q16, q15, q14, q13, q12, q11, q9, q8, q7, q5⟩ := H
 replace q9 := QN q9 _ rfl
 obtain ⟨q9, q10⟩ := q9
 replace q5 := BC q5 _ rfl
 obtain ⟨q5, q6⟩ := q5
 simp only [L.Ai, L.Ar, L.AN, L.AR, L.ev, A.Ah, A.Am, A.Au] at q9 q10 q5 q6
 generalize (e 0).int = x0, (e 1).int = x1, (e 2).int = x2, (e 3).int = x3, (e 4).int = x4, (e 5).bool = v5, (e 6).bool = v6, (e 7).bool = v7, (e 8).bool = v8, (e 9).bool = v9, (e 10).int = v10, (e 11).bool = v11, (e 12).bool = v12, (e 13).bool = v13, (e 14).bool = v14, (e 15).bool = v15, (e 16).bool = v16, (e 17).bool = v17, (e 18).bool = v18, (e 19).bool = v19, (e 20).bool = v20, (e 21).bool = v21, (e 22).bool = v22, (e 23).bool = v23, (e 24).bool = v24, (e 25).int = v25, (e 26).bool = v26, (e 27).bool = v27, (e 28).int = v28, (e 29).int = v29, (e 30).bool = v30, (e 31).bool = v31, (e 32).int = v32, (e 33).int = v33, (e 34).int = v34, (e 35).bool = v35 at *
 grind [Day.AP, Day.EP, Day.Bw, Day.sm, Day.i64, Day.u8, Day.u16, Day.u32, Day.right, Day.times, Day.Bu, Day.Bs, Day.GC, Day.AV, Day.Bx, Day.A3, Day.By, Day.Ap, Day.ND.i64, Day.Bk, Day.Co, Day.EC, Day.GD, Day.BS, wrap64, Day.BR, Day.Ca, Day.A2, Day.AF, Day.Iv, Day.atR, Day.AT, Day.AU]
def IX : G := ⟨50, [⟨49, .iteB, [V 8, V 46, V 7]⟩, ⟨48, .iteI, [V 8, V 45, N (-1)]⟩, ⟨47, .not, [V 8]⟩, ⟨46, .iteB, [V 43, V 43, V 42]⟩, ⟨45, .iteI, [V 43, N (-1), V 41]⟩, ⟨44, .not, [V 43]⟩, ⟨43, .and, [V 18, V 40]⟩, ⟨42, .iteB, [V 17, V 19, V 39]⟩, ⟨41, .iteI, [V 17, V 22, V 38]⟩, ⟨40, .and, [V 24, V 37]⟩, ⟨39, .iteB, [V 23, V 25, V 36]⟩, ⟨38, .iteI, [V 23, V 28, V 34]⟩, ⟨37, .and, [V 30, V 32]⟩, ⟨36, .and, [V 29, V 31]⟩, ⟨35, .imp, [V 31, V 33]⟩, ⟨33, (.call 82), [V 0, V 4, V 1]⟩, ⟨32, .and, [V 26, V 30]⟩, ⟨31, .and, [V 26, V 29]⟩, ⟨30, .not, [V 29]⟩, ⟨29, (.cmp .eql), [V 2, N 3]⟩, ⟨28, .mx, [V 27, N 0]⟩, ⟨27, (.ar .sub .i64), [V 14, V 3]⟩, ⟨26, .and, [V 20, V 24]⟩, ⟨25, .and, [V 20, V 23]⟩, ⟨24, .not, [V 23]⟩, ⟨23, (.cmp .eql), [V 2, N 2]⟩, ⟨22, .mx, [V 21, N 0]⟩, ⟨21, (.ar .sub .i64), [V 10, V 3]⟩, ⟨20, .and, [V 8, V 18]⟩, ⟨19, .and, [V 8, V 17]⟩, ⟨18, .not, [V 17]⟩, ⟨17, (.cmp .eql), [V 2, N 1]⟩, ⟨16, .imp, [V 8, V 13]⟩, ⟨13, (.call 81), [V 0, V 1]⟩, ⟨12, .imp, [V 8, V 9]⟩, ⟨9, (.call 80), [V 0, V 1]⟩, ⟨8, .not, [V 7]⟩, ⟨7, .not, [V 6]⟩, ⟨5, (.call 29), [V 0, V 1, V 2, V 3, V 4]⟩], [V 35, V 16, V 12, V 5], []⟩
theorem Qj (e : Nat → A) (H : Ad T e IX.defs) (hp : (Day.ND.i64 (Day.ND.mk (e 1).int (e 2).int (e 3).int (e 4).int)) = true) :
  ((e 35).bool = true ∧ (e 16).bool = true ∧ (e 12).bool = true ∧ (e 5).bool = true) ∧ (Day.Co (e 0).int (Day.ND.mk (e 1).int (e 2).int (e 3).int (e 4).int) = (e 48).int) := by
 simp only [IX, Ad, Def.q, BB, L.Ai, L.Ar, L.AN, L.AR, L.ev, A.Ah, A.Am, A.Au, A.AZ, List.map_cons, List.map_nil, Nat.zero_add, Nat.add_zero, and_true, true_and, Nat.reduceAdd, Nat.one_mul] at H
 simp only [DZ, Ed, D0, Bo, EK, EO, B9, FI, and_true, true_and] at H
 obtain ⟨q49, ⟨q48, -⟩, q47, q46, ⟨q45, -⟩, q44, q43, q42, ⟨q41, -⟩, q40, q39, ⟨q38, -⟩, q37, q36, q35, q33, q32, q31, q30, q29, q28, ⟨q27, -⟩, q26, q25, q24, q23, q22, ⟨q21, -⟩, q20, q19, q18, q17, q16, q13, q12, q9, q8, q7, q5⟩ := H
 replace q33 := NL q33
 obtain ⟨q33, q34⟩ := q33
 replace q13 := PM q13
 obtain ⟨q13, q14, q15⟩ := q13
 replace q9 := MD q9
 obtain ⟨q9, q10, q11⟩ := q9
 replace q5 := BC q5 _ rfl
 obtain ⟨q5, q6⟩ := q5
 simp only [L.Ai, L.Ar, L.AN, L.AR, L.ev, A.Ah, A.Am, A.Au] at q33 q34 q13 q14 q15 q9 q10 q11 q5 q6
 generalize (e 0).int = x0, (e 1).int = x1, (e 2).int = x2, (e 3).int = x3, (e 4).int = x4, (e 5).bool = v5, (e 6).bool = v6, (e 7).bool = v7, (e 8).bool = v8, (e 9).bool = v9, (e 10).int = v10, (e 11).int = v11, (e 12).bool = v12, (e 13).bool = v13, (e 14).int = v14, (e 15).int = v15, (e 16).bool = v16, (e 17).bool = v17, (e 18).bool = v18, (e 19).bool = v19, (e 20).bool = v20, (e 21).int = v21, (e 22).int = v22, (e 23).bool = v23, (e 24).bool = v24, (e 25).bool = v25, (e 26).bool = v26, (e 27).int = v27, (e 28).int = v28, (e 29).bool = v29, (e 30).bool = v30, (e 31).bool = v31, (e 32).bool = v32, (e 33).bool = v33, (e 34).int = v34, (e 35).bool = v35, (e 36).bool = v36, (e 37).bool = v37, (e 38).int = v38, (e 39).bool = v39, (e 40).bool = v40, (e 41).int = v41, (e 42).bool = v42, (e 43).bool = v43, (e 44).bool = v44, (e 45).int = v45, (e 46).bool = v46, (e 47).bool = v47, (e 48).int = v48, (e 49).bool = v49 at *
 grind [Day.AP, Day.EP, Day.Bw, Day.sm, Day.i64, Day.u8, Day.u16, Day.u32, Day.right, Day.times, Day.Bu, Day.Bs, Day.GC, Day.AV, Day.Bx, Day.A3, Day.By, Day.Ap, Day.ND.i64, Day.Bk, Day.Co, Day.EC, Day.GD, Day.BS, wrap64, Day.BR, Day.Ca, Day.A2, Day.AF, Day.Iv, Day.atR, Day.AT, Day.AU]
end Rx.S
