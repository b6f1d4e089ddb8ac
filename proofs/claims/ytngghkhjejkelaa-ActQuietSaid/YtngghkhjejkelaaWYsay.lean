import Derived.Test.YtngghkhjejkelaaWXt
set_option linter.unusedVariables false
set_option linter.unusedSimpArgs false
namespace Rx.S
open Go Rx
set_option maxRecDepth 100000
set_option maxHeartbeats 1000000
def M3 : G := ⟨44, [⟨43, .iteB, [V 8, V 38, V 7]⟩, ⟨42, .iteI, [V 8, V 37, N 0]⟩, ⟨41, .iteI, [V 8, V 36, N 0]⟩, ⟨40, .iteI, [V 8, N 0, N 1]⟩, ⟨39, .not, [V 8]⟩, ⟨38, .iteB, [V 34, V 34, V 33]⟩, ⟨37, .iteI, [V 34, N 0, V 1]⟩, ⟨36, .iteI, [V 34, N 0, V 32]⟩, ⟨35, .not, [V 34]⟩, ⟨34, .and, [V 13, V 31]⟩, ⟨33, .iteB, [V 12, V 14, V 30]⟩, ⟨32, .iteI, [V 12, N 2, N 1]⟩, ⟨31, .and, [V 27, V 29]⟩, ⟨30, .and, [V 26, V 28]⟩, ⟨29, .and, [V 15, V 27]⟩, ⟨28, .and, [V 15, V 26]⟩, ⟨27, .not, [V 26]⟩, ⟨26, .iteB, [V 20, V 25, B false]⟩, ⟨25, (.cmp .geq), [V 3, V 23]⟩, ⟨24, .imp, [V 21, V 22]⟩, ⟨22, (.call 60), [V 0, V 1, V 2, V 3, V 4]⟩, ⟨21, .and, [V 15, V 20]⟩, ⟨20, .iteB, [V 16, B true, V 19]⟩, ⟨19, (.cmp .eql), [V 2, N 2]⟩, ⟨18, .and, [V 15, V 17]⟩, ⟨17, .not, [V 16]⟩, ⟨16, (.cmp .eql), [V 2, N 1]⟩, ⟨15, .and, [V 8, V 13]⟩, ⟨14, .and, [V 8, V 12]⟩, ⟨13, .not, [V 12]⟩, ⟨12, .iteB, [V 9, V 11, B false]⟩, ⟨11, (.cmp .eql), [V 4, V 1]⟩, ⟨10, .and, [V 8, V 9]⟩, ⟨9, (.cmp .eql), [V 2, N 3]⟩, ⟨8, .not, [V 7]⟩, ⟨7, .not, [V 6]⟩, ⟨5, (.call 41), [V 0, V 1, V 2, V 3, V 4]⟩], [V 24, V 5], []⟩
theorem Qq (e : Nat → A) (H : Ak T e M3.defs) (hp : (Day.ND.i64 (Day.ND.mk (e 1).int (e 2).int (e 3).int (e 4).int)) = true) :
  ((e 24).bool = true ∧ (e 5).bool = true) ∧ (((Day.LH (e 0).int (Day.ND.mk (e 1).int (e 2).int (e 3).int (e 4).int))).kind = (e 41).int ∧ ((Day.LH (e 0).int (Day.ND.mk (e 1).int (e 2).int (e 3).int (e 4).int))).id = (e 42).int ∧ Day.Pk (e 0).int (Day.ND.mk (e 1).int (e 2).int (e 3).int (e 4).int) = (e 40).int) := by
 simp only [M3, Ak, Def.q, C6, L.An, L.AO, L.By, L.BE, L.ev, A.As, A.Ax, A.AV, A.BX, List.map_cons, List.map_nil, Nat.zero_add, Nat.add_zero, and_true, true_and, Nat.reduceAdd, Nat.one_mul] at H
 simp only [HU, Ir, HV, B5, JU, Ko, Em, MG, and_true, true_and] at H
 obtain ⟨q43, ⟨q42, -⟩, ⟨q41, -⟩, ⟨q40, -⟩, q39, q38, ⟨q37, -⟩, ⟨q36, -⟩, q35, q34, q33, ⟨q32, -⟩, q31, q30, q29, q28, q27, q26, q25, q24, q22, q21, q20, q19, q18, q17, q16, q15, q14, q13, q12, q11, q10, q9, q8, q7, q5⟩ := H
 replace q22 := Pp q22 _ rfl
 obtain ⟨q22, q23⟩ := q22
 replace q5 := CZ q5 _ rfl
 obtain ⟨q5, q6⟩ := q5
 simp only [L.An, L.AO, L.By, L.BE, L.ev, A.As, A.Ax, A.AV] at q22 q23 q5 q6
 generalize (e 0).int = x0, (e 1).int = x1, (e 2).int = x2, (e 3).int = x3, (e 4).int = x4, (e 5).bool = v5, (e 6).bool = v6, (e 7).bool = v7, (e 8).bool = v8, (e 9).bool = v9, (e 10).bool = v10, (e 11).bool = v11, (e 12).bool = v12, (e 13).bool = v13, (e 14).bool = v14, (e 15).bool = v15, (e 16).bool = v16, (e 17).bool = v17, (e 18).bool = v18, (e 19).bool = v19, (e 20).bool = v20, (e 21).bool = v21, (e 22).bool = v22, (e 23).int = v23, (e 24).bool = v24, (e 25).bool = v25, (e 26).bool = v26, (e 27).bool = v27, (e 28).bool = v28, (e 29).bool = v29, (e 30).bool = v30, (e 31).bool = v31, (e 32).int = v32, (e 33).bool = v33, (e 34).bool = v34, (e 35).bool = v35, (e 36).int = v36, (e 37).int = v37, (e 38).bool = v38, (e 39).bool = v39, (e 40).int = v40, (e 41).int = v41, (e 42).int = v42, (e 43).bool = v43 at *
 have hz := @Day.WM x0 ⟨x1, x2, x3, x4⟩
 simp only at hz
 grind (splits := 30) [Day.Bw, Day.Kp, Day.DA, Day.sm, Day.i64, Day.u8, Day.u16, Day.u32, Day.right, Day.times, Day.Dt, Day.C7, Day.Nj, Day.BK, Day.C1, Day.Cp, Day.DB, Day.AE, Day.ND.i64, Day.CO, Day.G0, Day.LH, Day.Pk, Day.B6, wrap64, Day.Ef, Day.Fw, Day.BN, Day.A8, Day.Qv, Day.atR, Day.Cn, Day.Co]
def I2 : G := ⟨17, [⟨16, .iteI, [V 5, V 9, V 13]⟩, ⟨15, .iteI, [V 5, V 8, V 12]⟩, ⟨14, .imp, [V 6, V 11]⟩, ⟨11, (.call 77), [V 0, V 1]⟩, ⟨10, .imp, [V 5, V 7]⟩, ⟨7, (.call 78), [V 0, V 1]⟩, ⟨6, .not, [V 5]⟩, ⟨5, (.cmp .eql), [V 2, N 1]⟩], [V 14, V 10], []⟩
theorem NJ (e : Nat → A) (H : Ak T e I2.defs) (hp : (true) = true) :
  ((e 14).bool = true ∧ (e 10).bool = true) ∧ (Day.CO (e 0).int (Day.ND.mk (e 1).int (e 2).int (e 3).int (e 4).int) = (e 15).int) := by
 simp only [I2, Ak, Def.q, C6, L.An, L.AO, L.By, L.BE, L.ev, A.As, A.Ax, A.AV, A.BX, List.map_cons, List.map_nil, Nat.zero_add, Nat.add_zero, and_true, true_and, Nat.reduceAdd, Nat.one_mul] at H
 simp only [HU, Ir, HV, B5, JU, Ko, Em, MG, and_true, true_and] at H
 obtain ⟨⟨q16, -⟩, ⟨q15, -⟩, q14, q11, q10, q7, q6, q5⟩ := H
 replace q11 := NC q11
 obtain ⟨q11, q12, q13⟩ := q11
 replace q7 := La q7
 obtain ⟨q7, q8, q9⟩ := q7
 simp only [L.An, L.AO, L.By, L.BE, L.ev, A.As, A.Ax, A.AV] at q11 q12 q13 q7 q8 q9
 generalize (e 0).int = x0, (e 1).int = x1, (e 2).int = x2, (e 3).int = x3, (e 4).int = x4, (e 5).bool = v5, (e 6).bool = v6, (e 7).bool = v7, (e 8).int = v8, (e 9).int = v9, (e 10).bool = v10, (e 11).bool = v11, (e 12).int = v12, (e 13).int = v13, (e 14).bool = v14, (e 15).int = v15, (e 16).int = v16 at *
 grind [Day.Bw, Day.Kp, Day.DA, Day.sm, Day.i64, Day.u8, Day.u16, Day.u32, Day.right, Day.times, Day.Dt, Day.C7, Day.Nj, Day.BK, Day.C1, Day.Cp, Day.DB, Day.AE, Day.ND.i64, Day.CO, Day.G0, Day.LH, Day.Pk, Day.B6, wrap64, Day.Ef, Day.Fw, Day.BN, Day.A8, Day.Qv, Day.atR, Day.Cn, Day.Co]
end Rx.S
