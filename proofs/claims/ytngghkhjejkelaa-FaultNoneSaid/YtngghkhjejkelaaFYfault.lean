import Derived.Test.YtngghkhjejkelaaFXt
set_option linter.unusedVariables false
set_option linter.unusedSimpArgs false
namespace Rx.S
open Go Rx
set_option maxRecDepth 100000
set_option maxHeartbeats 1000000
def E6 : G := ⟨12, [⟨11, .iteB, [V 6, V 10, B false]⟩, ⟨10, (.cmp .lss), [V 2, V 8]⟩, ⟨9, .imp, [V 6, V 7]⟩, ⟨7, (.call 39), [V 0, V 1]⟩, ⟨6, .iteB, [V 4, V 5, B false]⟩, ⟨5, (.cmp .geq), [V 2, N 0]⟩, ⟨3, (.call 37), [V 0]⟩], [V 9, V 3], []⟩
theorem KM (e : Nat → A) (H : Ah T e E6.defs) (hp : (true) = true) :
  ((e 9).bool = true ∧ (e 3).bool = true) ∧ (Day.Bq (e 0).int (Day.Fl.mk (e 1).int (e 2).int) = (e 11).bool) := by
 simp only [E6, Ah, Def.q, BQ, L.Al, L.Az, L.AX, L.A1, L.ev, A.Ak, A.Ap, A.AD, A.AW, List.map_cons, List.map_nil, Nat.zero_add, Nat.add_zero, and_true, true_and, Nat.reduceAdd, Nat.one_mul] at H
 simp only [EA, EW, Db, Bc, Fo, FK, B9, GS, and_true, true_and] at H
 obtain ⟨q11, q10, q9, q7, q6, q5, q3⟩ := H
 replace q7 := Ny q7
 obtain ⟨q7, q8⟩ := q7
 replace q3 := Hn q3
 obtain ⟨q3, q4⟩ := q3
 simp only [L.Al, L.Az, L.AX, L.A1, L.ev, A.Ak, A.Ap, A.AD] at q7 q8 q3 q4
 generalize (e 0).int = x0, (e 1).int = x1, (e 2).int = x2, (e 3).bool = v3, (e 4).bool = v4, (e 5).bool = v5, (e 6).bool = v6, (e 7).bool = v7, (e 8).int = v8, (e 9).bool = v9, (e 10).bool = v10, (e 11).bool = v11 at *
 grind [Day.many, Day.right, Day.Bq, Day.AY, Day.AZ, Day.isNode, Day.Bt, Day.BS, Day.BT, Day.Cf, Day.BE, Day.BA, Day.Cw, Day.CI, Day.Nm]
def Gc : G := ⟨23, [⟨22, .iteB, [V 19, V 19, V 18]⟩, ⟨21, .iteI, [V 19, N 0, V 17]⟩, ⟨20, .not, [V 19]⟩, ⟨19, .and, [V 3, V 16]⟩, ⟨18, .iteB, [V 2, V 2, V 15]⟩, ⟨17, .iteI, [V 2, N 1, V 14]⟩, ⟨16, .and, [V 5, V 13]⟩, ⟨15, .iteB, [V 4, V 6, V 12]⟩, ⟨14, .iteI, [V 4, V 0, N 2]⟩, ⟨13, .and, [V 9, V 11]⟩, ⟨12, .and, [V 8, V 10]⟩, ⟨11, .and, [V 7, V 9]⟩, ⟨10, .and, [V 7, V 8]⟩, ⟨9, .not, [V 8]⟩, ⟨8, (.cmp .eql), [V 1, N 2]⟩, ⟨7, .and, [V 3, V 5]⟩, ⟨6, .and, [V 3, V 4]⟩, ⟨5, .not, [V 4]⟩, ⟨4, (.cmp .eql), [V 1, N 1]⟩, ⟨3, .not, [V 2]⟩, ⟨2, (.cmp .eql), [V 1, N 0]⟩], [], []⟩
theorem LH (e : Nat → A) (H : Ah T e Gc.defs) (hp : (true) = true) :
  (True) ∧ (Day.many (e 0).int (e 1).int = (e 21).int) := by
 simp only [Gc, Ah, Def.q, BQ, L.Al, L.Az, L.AX, L.A1, L.ev, A.Ak, A.Ap, A.AD, A.AW, List.map_cons, List.map_nil, Nat.zero_add, Nat.add_zero, and_true, true_and, Nat.reduceAdd, Nat.one_mul] at H
 simp only [EA, EW, Db, Bc, Fo, FK, B9, GS, and_true, true_and] at H
 obtain ⟨q22, ⟨q21, -⟩, q20, q19, q18, ⟨q17, -⟩, q16, q15, ⟨q14, -⟩, q13, q12, q11, q10, q9, q8, q7, q6, q5, q4, q3, q2⟩ := H
 generalize (e 0).int = x0, (e 1).int = x1, (e 2).bool = v2, (e 3).bool = v3, (e 4).bool = v4, (e 5).bool = v5, (e 6).bool = v6, (e 7).bool = v7, (e 8).bool = v8, (e 9).bool = v9, (e 10).bool = v10, (e 11).bool = v11, (e 12).bool = v12, (e 13).bool = v13, (e 14).int = v14, (e 15).bool = v15, (e 16).bool = v16, (e 17).int = v17, (e 18).bool = v18, (e 19).bool = v19, (e 20).bool = v20, (e 21).int = v21, (e 22).bool = v22 at *
 grind [Day.many, Day.right, Day.Bq, Day.AY, Day.AZ, Day.isNode, Day.Bt, Day.BS, Day.BT, Day.Cf, Day.BE, Day.BA, Day.Cw, Day.CI, Day.Nm]
def E7 : G := ⟨24, [⟨23, .iteB, [V 18, V 18, V 17]⟩, ⟨22, .iteI, [V 18, V 2, N 0]⟩, ⟨21, .iteI, [V 18, V 1, N 0]⟩, ⟨20, .iteI, [V 18, N 0, V 16]⟩, ⟨19, .not, [V 18]⟩, ⟨18, .and, [V 6, V 15]⟩, ⟨17, .iteB, [V 5, V 5, V 14]⟩, ⟨16, .iteI, [V 5, N 1, N 0]⟩, ⟨15, .and, [V 11, V 13]⟩, ⟨14, .and, [V 10, V 12]⟩, ⟨13, .and, [V 6, V 11]⟩, ⟨12, .and, [V 6, V 10]⟩, ⟨11, .not, [V 10]⟩, ⟨10, .not, [V 8]⟩, ⟨9, .imp, [V 6, V 7]⟩, ⟨7, (.call 19), [V 0, V 1, V 2]⟩, ⟨6, .not, [V 5]⟩, ⟨5, .not, [V 4]⟩, ⟨3, (.call 37), [V 0]⟩], [V 9, V 3], []⟩
theorem KP (e : Nat → A) (H : Ah T e E7.defs) (hp : (true) = true) :
  ((e 9).bool = true ∧ (e 3).bool = true) ∧ (((Day.AY (e 0).int (Day.Fl.mk (e 1).int (e 2).int))).cls = (e 21).int ∧ ((Day.AY (e 0).int (Day.Fl.mk (e 1).int (e 2).int))).who = (e 22).int ∧ Day.AZ (e 0).int = (e 20).int) := by
 simp only [E7, Ah, Def.q, BQ, L.Al, L.Az, L.AX, L.A1, L.ev, A.Ak, A.Ap, A.AD, A.AW, List.map_cons, List.map_nil, Nat.zero_add, Nat.add_zero, and_true, true_and, Nat.reduceAdd, Nat.one_mul] at H
 simp only [EA, EW, Db, Bc, Fo, FK, B9, GS, and_true, true_and] at H
 obtain ⟨q23, ⟨q22, -⟩, ⟨q21, -⟩, ⟨q20, -⟩, q19, q18, q17, ⟨q16, -⟩, q15, q14, q13, q12, q11, q10, q9, q7, q6, q5, q3⟩ := H
 replace q7 := CD q7
 obtain ⟨q7, q8⟩ := q7
 replace q3 := Hn q3
 obtain ⟨q3, q4⟩ := q3
 simp only [L.Al, L.Az, L.AX, L.A1, L.ev, A.Ak, A.Ap, A.AD] at q7 q8 q3 q4
 generalize (e 0).int = x0, (e 1).int = x1, (e 2).int = x2, (e 3).bool = v3, (e 4).bool = v4, (e 5).bool = v5, (e 6).bool = v6, (e 7).bool = v7, (e 8).bool = v8, (e 9).bool = v9, (e 10).bool = v10, (e 11).bool = v11, (e 12).bool = v12, (e 13).bool = v13, (e 14).bool = v14, (e 15).bool = v15, (e 16).int = v16, (e 17).bool = v17, (e 18).bool = v18, (e 19).bool = v19, (e 20).int = v20, (e 21).int = v21, (e 22).int = v22, (e 23).bool = v23 at *
 grind [Day.many, Day.right, Day.Bq, Day.AY, Day.AZ, Day.isNode, Day.Bt, Day.BS, Day.BT, Day.Cf, Day.BE, Day.BA, Day.Cw, Day.CI, Day.Nm]
def Gd : G := ⟨6, [⟨5, .and, [V 4, V 3]⟩, ⟨4, (.cmp .eql), [V 0, N 1]⟩, ⟨3, (.cmp .eql), [V 1, V 2]⟩], [], []⟩
theorem LL (e : Nat → A) (H : Ah T e Gd.defs) (hp : (true) = true) :
  (True) ∧ (Day.isNode (Day.Fl.mk (e 0).int (e 1).int) (e 2).int = (e 5).bool) := by
 simp only [Gd, Ah, Def.q, BQ, L.Al, L.Az, L.AX, L.A1, L.ev, A.Ak, A.Ap, A.AD, A.AW, List.map_cons, List.map_nil, Nat.zero_add, Nat.add_zero, and_true, true_and, Nat.reduceAdd, Nat.one_mul] at H
 simp only [EA, EW, Db, Bc, Fo, FK, B9, GS, and_true, true_and] at H
 obtain ⟨q5, q4, q3⟩ := H
 generalize (e 0).int = x0, (e 1).int = x1, (e 2).int = x2, (e 3).bool = v3, (e 4).bool = v4, (e 5).bool = v5 at *
 grind [Day.many, Day.right, Day.Bq, Day.AY, Day.AZ, Day.isNode, Day.Bt, Day.BS, Day.BT, Day.Cf, Day.BE, Day.BA, Day.Cw, Day.CI, Day.Nm]
def Ht : G := ⟨6, [⟨5, .and, [V 4, V 3]⟩, ⟨4, (.cmp .eql), [V 0, N 2]⟩, ⟨3, (.cmp .eql), [V 1, V 2]⟩], [], []⟩
theorem NF (e : Nat → A) (H : Ah T e Ht.defs) (hp : (true) = true) :
  (True) ∧ (Day.Bt (Day.Fl.mk (e 0).int (e 1).int) (e 2).int = (e 5).bool) := by
 simp only [Ht, Ah, Def.q, BQ, L.Al, L.Az, L.AX, L.A1, L.ev, A.Ak, A.Ap, A.AD, A.AW, List.map_cons, List.map_nil, Nat.zero_add, Nat.add_zero, and_true, true_and, Nat.reduceAdd, Nat.one_mul] at H
 simp only [EA, EW, Db, Bc, Fo, FK, B9, GS, and_true, true_and] at H
 obtain ⟨q5, q4, q3⟩ := H
 generalize (e 0).int = x0, (e 1).int = x1, (e 2).int = x2, (e 3).bool = v3, (e 4).bool = v4, (e 5).bool = v5 at *
 grind [Day.many, Day.right, Day.Bq, Day.AY, Day.AZ, Day.isNode, Day.Bt, Day.BS, Day.BT, Day.Cf, Day.BE, Day.BA, Day.Cw, Day.CI, Day.Nm]
def E8 : G := ⟨20, [⟨19, .iteB, [V 12, V 12, V 11]⟩, ⟨18, .iteV, [V 12, V 14, V 3]⟩, ⟨17, .iteV, [V 12, V 14, V 2]⟩, ⟨16, .not, [V 12]⟩, ⟨15, .imp, [V 12, V 13]⟩, ⟨13, (.call 36), [V 8, V 9]⟩, ⟨12, .not, [V 11]⟩, ⟨10, (.call 13), [V 0, V 1, V 7]⟩], [V 15, V 10], []⟩
theorem KR (e : Nat → A) (H : Ah T e E8.defs) (hp : (true) = true) :
  ((e 15).bool = true ∧ (e 10).bool = true) ∧ (Day.BS (Day.Fl.mk (e 0).int (e 1).int) (Day.Ch.mk (e 2).str (e 3).str (e 4) (e 5).int (e 6).int) (e 7).int (Day.Fr.mk (e 8).int (e 9).int) = (e 17).str ∧ Day.BT (Day.Fl.mk (e 0).int (e 1).int) (Day.Ch.mk (e 2).str (e 3).str (e 4) (e 5).int (e 6).int) (e 7).int (Day.Fr.mk (e 8).int (e 9).int) = (e 18).str) := by
 simp only [E8, Ah, Def.q, BQ, L.Al, L.Az, L.AX, L.A1, L.ev, A.Ak, A.Ap, A.AD, A.AW, List.map_cons, List.map_nil, Nat.zero_add, Nat.add_zero, and_true, true_and, Nat.reduceAdd, Nat.one_mul] at H
 simp only [EA, EW, Db, Bc, Fo, FK, B9, GS, and_true, true_and] at H
 obtain ⟨q19, ⟨-, q18⟩, ⟨-, q17⟩, q16, q15, q13, q12, q10⟩ := H
 replace q13 := Ga q13
 obtain ⟨q13, q14⟩ := q13
 replace q10 := Et q10
 obtain ⟨q10, q11⟩ := q10
 simp only [L.Al, L.Az, L.AX, L.A1, L.ev, A.Ak, A.Ap, A.AD] at q13 q14 q10 q11
 generalize (e 0).int = x0, (e 1).int = x1, (e 2).str = x2, (e 3).str = x3, e 4 = x4, (e 5).int = x5, (e 6).int = x6, (e 7).int = x7, (e 8).int = x8, (e 9).int = x9, (e 10).bool = v10, (e 11).bool = v11, (e 12).bool = v12, (e 13).bool = v13, (e 14).str = v14, (e 15).bool = v15, (e 16).bool = v16, (e 17).str = v17, (e 18).str = v18, (e 19).bool = v19 at *
 grind [Day.many, Day.right, Day.Bq, Day.AY, Day.AZ, Day.isNode, Day.Bt, Day.BS, Day.BT, Day.Cf, Day.BE, Day.BA, Day.Cw, Day.CI, Day.Nm]
def Hx : G := ⟨46, [⟨45, .iteB, [V 39, V 39, V 38]⟩, ⟨44, .iteV, [V 39, V 41, V 35]⟩, ⟨43, .not, [V 39]⟩, ⟨42, .imp, [V 39, V 40]⟩, ⟨40, (.call 36), [V 9, V 10]⟩, ⟨39, .iteB, [V 16, V 37, V 17]⟩, ⟨38, .and, [V 16, V 36]⟩, ⟨37, .and, [V 23, V 34]⟩, ⟨36, .iteB, [V 22, V 24, V 33]⟩, ⟨35, .iteV, [V 22, .s [], V 31]⟩, ⟨34, .and, [V 27, V 29]⟩, ⟨33, .and, [V 26, V 28]⟩, ⟨32, .imp, [V 28, V 30]⟩, ⟨30, (.call 36), [N 3, N 0]⟩, ⟨29, .and, [V 25, V 27]⟩, ⟨28, .and, [V 25, V 26]⟩, ⟨27, .not, [V 26]⟩, ⟨26, (.cmp .eql), [V 21, N 2]⟩, ⟨25, .and, [V 16, V 23]⟩, ⟨24, .and, [V 16, V 22]⟩, ⟨23, .not, [V 22]⟩, ⟨22, (.cmp .eql), [V 21, N 1]⟩, ⟨21, (.pix 0 1), [V 4, V 8]⟩, ⟨20, .imp, [V 16, V 19]⟩, ⟨19, .and, [V 18, V 15]⟩, ⟨18, (.cmp .leq), [N 0, V 8]⟩, ⟨17, .not, [V 16]⟩, ⟨16, .iteB, [V 14, V 15, B false]⟩, ⟨15, (.cmp .lss), [V 8, V 5]⟩, ⟨14, .iteB, [V 12, V 13, B false]⟩, ⟨13, (.cmp .geq), [V 8, N 0]⟩, ⟨11, (.call 15), [V 0, V 1, V 7]⟩], [V 42, V 32, V 20, V 11], []⟩
theorem NK (e : Nat → A) (H : Ah T e Hx.defs) (hp : (true) = true) :
  ((e 42).bool = true ∧ (e 32).bool = true ∧ (e 20).bool = true ∧ (e 11).bool = true) ∧ (Day.CI (Day.Fl.mk (e 0).int (e 1).int) (Day.Ch.mk (e 2).str (e 3).str (e 4) (e 5).int (e 6).int) (e 7).int (e 8).int (Day.Fr.mk (e 9).int (e 10).int) = (e 44).str) := by
 simp only [Hx, Ah, Def.q, BQ, L.Al, L.Az, L.AX, L.A1, L.ev, A.Ak, A.Ap, A.AD, A.AW, List.map_cons, List.map_nil, Nat.zero_add, Nat.add_zero, and_true, true_and, Nat.reduceAdd, Nat.one_mul] at H
 simp only [EA, EW, Db, Bc, Fo, FK, B9, GS, and_true, true_and] at H
 obtain ⟨q45, ⟨-, q44⟩, q43, q42, q40, q39, q38, q37, q36, ⟨-, q35⟩, q34, q33, q32, q30, q29, q28, q27, q26, q25, q24, q23, q22, q21, q20, q19, q18, q17, q16, q15, q14, q13, q11⟩ := H
 replace q40 := Ga q40
 obtain ⟨q40, q41⟩ := q40
 replace q30 := Ga q30
 obtain ⟨q30, q31⟩ := q30
 replace q11 := Cx q11
 obtain ⟨q11, q12⟩ := q11
 simp only [L.Al, L.Az, L.AX, L.A1, L.ev, A.Ak, A.Ap, A.AD] at q40 q41 q30 q31 q11 q12
 generalize (e 0).int = x0, (e 1).int = x1, (e 2).str = x2, (e 3).str = x3, e 4 = x4, (e 5).int = x5, (e 6).int = x6, (e 7).int = x7, (e 8).int = x8, (e 9).int = x9, (e 10).int = x10, (e 11).bool = v11, (e 12).bool = v12, (e 13).bool = v13, (e 14).bool = v14, (e 15).bool = v15, (e 16).bool = v16, (e 17).bool = v17, (e 18).bool = v18, (e 19).bool = v19, (e 20).bool = v20, (e 22).bool = v22, (e 23).bool = v23, (e 24).bool = v24, (e 25).bool = v25, (e 26).bool = v26, (e 27).bool = v27, (e 28).bool = v28, (e 29).bool = v29, (e 30).bool = v30, (e 31).str = v31, (e 32).bool = v32, (e 33).bool = v33, (e 34).bool = v34, (e 35).str = v35, (e 36).bool = v36, (e 37).bool = v37, (e 38).bool = v38, (e 39).bool = v39, (e 40).bool = v40, (e 41).str = v41, (e 42).bool = v42, (e 43).bool = v43, (e 44).str = v44, (e 45).bool = v45 at *
 replace q21 := congrArg A.int q21
 generalize (e 21).int = v21 at *
 rw [Day.Pq] at q31
 simp only [Day.CI, Day.Cw, ← q21]
 clear q21
 simp only [ge_iff_le] at q13
 generalize decide (0 ≤ x8) = b1 at *
 generalize decide (x8 < x5) = b2 at *
 generalize Day.Bt ⟨x0, x1⟩ x7 = b0 at *
 generalize Day.D1 ⟨x9, x10⟩ = pp at *
 generalize Day.Hi = zz at *
 by_cases c : v21 = 1 <;> by_cases d : v21 = 2 <;> cases b0 <;> cases b1 <;> cases b2 <;> subst_vars <;> simp_all [Day.Nm]
def Di : G := ⟨19, [⟨18, .iteB, [V 7, B true, V 17]⟩, ⟨17, .not, [V 15]⟩, ⟨16, .imp, [V 8, V 14]⟩, ⟨14, (.call 15), [V 0, V 1, N 1]⟩, ⟨13, .iteB, [V 7, B true, V 12]⟩, ⟨12, .not, [V 10]⟩, ⟨11, .imp, [V 8, V 9]⟩, ⟨9, (.call 15), [V 0, V 1, N 0]⟩, ⟨8, .not, [V 7]⟩, ⟨7, (.cmp .eql), [V 6, N 0]⟩], [V 16, V 11], []⟩
theorem Ib (e : Nat → A) (H : Ah T e Di.defs) (hp : (true) = true) :
  ((e 16).bool = true ∧ (e 11).bool = true) ∧ (Day.Cf (Day.Fl.mk (e 0).int (e 1).int) (Day.Ch.mk (e 2).str (e 3).str (e 4) (e 5).int (e 6).int) 0 = (e 13).bool ∧ Day.Cf (Day.Fl.mk (e 0).int (e 1).int) (Day.Ch.mk (e 2).str (e 3).str (e 4) (e 5).int (e 6).int) 1 = (e 18).bool) := by
 simp only [Di, Ah, Def.q, BQ, L.Al, L.Az, L.AX, L.A1, L.ev, A.Ak, A.Ap, A.AD, A.AW, List.map_cons, List.map_nil, Nat.zero_add, Nat.add_zero, and_true, true_and, Nat.reduceAdd, Nat.one_mul] at H
 simp only [EA, EW, Db, Bc, Fo, FK, B9, GS, and_true, true_and] at H
 obtain ⟨q18, q17, q16, q14, q13, q12, q11, q9, q8, q7⟩ := H
 replace q14 := Cx q14
 obtain ⟨q14, q15⟩ := q14
 replace q9 := Cx q9
 obtain ⟨q9, q10⟩ := q9
 simp only [L.Al, L.Az, L.AX, L.A1, L.ev, A.Ak, A.Ap, A.AD] at q14 q15 q9 q10
 generalize (e 0).int = x0, (e 1).int = x1, (e 2).str = x2, (e 3).str = x3, e 4 = x4, (e 5).int = x5, (e 6).int = x6, (e 7).bool = v7, (e 8).bool = v8, (e 9).bool = v9, (e 10).bool = v10, (e 11).bool = v11, (e 12).bool = v12, (e 13).bool = v13, (e 14).bool = v14, (e 15).bool = v15, (e 16).bool = v16, (e 17).bool = v17, (e 18).bool = v18 at *
 grind [Day.many, Day.right, Day.Bq, Day.AY, Day.AZ, Day.isNode, Day.Bt, Day.BS, Day.BT, Day.Cf, Day.BE, Day.BA, Day.Cw, Day.CI, Day.Nm]
def Fa : G := ⟨33, [⟨32, .iteB, [V 9, V 9, V 8]⟩, ⟨31, .iteB, [V 9, V 29, B false]⟩, ⟨30, .not, [V 9]⟩, ⟨29, .iteB, [V 21, B true, V 28]⟩, ⟨28, .iteB, [V 24, V 27, B false]⟩, ⟨27, (.cmp .lss), [V 2, N 2]⟩, ⟨26, .and, [V 25, V 22]⟩, ⟨25, .and, [V 9, V 24]⟩, ⟨24, (.cmp .eql), [V 1, N 2]⟩, ⟨23, .and, [V 9, V 22]⟩, ⟨22, .not, [V 21]⟩, ⟨21, .iteB, [V 13, B true, V 20]⟩, ⟨20, .iteB, [V 16, V 19, B false]⟩, ⟨19, (.cmp .lss), [V 2, V 0]⟩, ⟨18, .and, [V 17, V 14]⟩, ⟨17, .and, [V 9, V 16]⟩, ⟨16, (.cmp .eql), [V 1, N 1]⟩, ⟨15, .and, [V 9, V 14]⟩, ⟨14, .not, [V 13]⟩, ⟨13, .iteB, [V 10, V 12, B false]⟩, ⟨12, (.cmp .eql), [V 2, N 0]⟩, ⟨11, .and, [V 9, V 10]⟩, ⟨10, (.cmp .eql), [V 1, N 0]⟩, ⟨9, .not, [V 8]⟩, ⟨8, .iteB, [V 5, B true, V 7]⟩, ⟨7, (.cmp .lss), [V 2, N 0]⟩, ⟨6, .not, [V 5]⟩, ⟨5, .not, [V 4]⟩, ⟨3, (.call 38), [V 0]⟩], [V 3], []⟩
theorem KW (e : Nat → A) (H : Ah T e Fa.defs) (hp : (true) = true) :
  ((e 3).bool = true) ∧ (Day.Bq (e 0).int (Day.Fl.mk (e 1).int (e 2).int) = (e 31).bool) := by
 simp only [Fa, Ah, Def.q, BQ, L.Al, L.Az, L.AX, L.A1, L.ev, A.Ak, A.Ap, A.AD, A.AW, List.map_cons, List.map_nil, Nat.zero_add, Nat.add_zero, and_true, true_and, Nat.reduceAdd, Nat.one_mul] at H
 simp only [EA, EW, Db, Bc, Fo, FK, B9, GS, and_true, true_and] at H
 obtain ⟨q32, q31, q30, q29, q28, q27, q26, q25, q24, q23, q22, q21, q20, q19, q18, q17, q16, q15, q14, q13, q12, q11, q10, q9, q8, q7, q6, q5, q3⟩ := H
 replace q3 := Gt q3
 obtain ⟨q3, q4⟩ := q3
 simp only [L.Al, L.Az, L.AX, L.A1, L.ev, A.Ak, A.Ap, A.AD] at q3 q4
 generalize (e 0).int = x0, (e 1).int = x1, (e 2).int = x2, (e 3).bool = v3, (e 4).bool = v4, (e 5).bool = v5, (e 6).bool = v6, (e 7).bool = v7, (e 8).bool = v8, (e 9).bool = v9, (e 10).bool = v10, (e 11).bool = v11, (e 12).bool = v12, (e 13).bool = v13, (e 14).bool = v14, (e 15).bool = v15, (e 16).bool = v16, (e 17).bool = v17, (e 18).bool = v18, (e 19).bool = v19, (e 20).bool = v20, (e 21).bool = v21, (e 22).bool = v22, (e 23).bool = v23, (e 24).bool = v24, (e 25).bool = v25, (e 26).bool = v26, (e 27).bool = v27, (e 28).bool = v28, (e 29).bool = v29, (e 30).bool = v30, (e 31).bool = v31, (e 32).bool = v32 at *
 grind [Day.many, Day.right, Day.Bq, Day.AY, Day.AZ, Day.isNode, Day.Bt, Day.BS, Day.BT, Day.Cf, Day.BE, Day.BA, Day.Cw, Day.CI, Day.Nm]
def Fc : G := ⟨25, [⟨24, .iteB, [V 6, V 19, V 5]⟩, ⟨23, .iteI, [V 6, V 18, N 0]⟩, ⟨22, .iteI, [V 6, V 17, N 0]⟩, ⟨21, .iteI, [V 6, N 0, N 1]⟩, ⟨20, .not, [V 6]⟩, ⟨19, .iteB, [V 15, V 15, V 14]⟩, ⟨18, .iteI, [V 15, V 2, N 0]⟩, ⟨17, .iteI, [V 15, V 1, N 0]⟩, ⟨16, .not, [V 15]⟩, ⟨15, .and, [V 11, V 13]⟩, ⟨14, .and, [V 10, V 12]⟩, ⟨13, .and, [V 6, V 11]⟩, ⟨12, .and, [V 6, V 10]⟩, ⟨11, .not, [V 10]⟩, ⟨10, .not, [V 8]⟩, ⟨9, .imp, [V 6, V 7]⟩, ⟨7, (.call 20), [V 0, V 1, V 2]⟩, ⟨6, .not, [V 5]⟩, ⟨5, .not, [V 4]⟩, ⟨3, (.call 38), [V 0]⟩], [V 9, V 3], []⟩
theorem KY (e : Nat → A) (H : Ah T e Fc.defs) (hp : (true) = true) :
  ((e 9).bool = true ∧ (e 3).bool = true) ∧ (((Day.AY (e 0).int (Day.Fl.mk (e 1).int (e 2).int))).cls = (e 22).int ∧ ((Day.AY (e 0).int (Day.Fl.mk (e 1).int (e 2).int))).who = (e 23).int ∧ Day.AZ (e 0).int = (e 21).int) := by
 simp only [Fc, Ah, Def.q, BQ, L.Al, L.Az, L.AX, L.A1, L.ev, A.Ak, A.Ap, A.AD, A.AW, List.map_cons, List.map_nil, Nat.zero_add, Nat.add_zero, and_true, true_and, Nat.reduceAdd, Nat.one_mul] at H
 simp only [EA, EW, Db, Bc, Fo, FK, B9, GS, and_true, true_and] at H
 obtain ⟨q24, ⟨q23, -⟩, ⟨q22, -⟩, ⟨q21, -⟩, q20, q19, ⟨q18, -⟩, ⟨q17, -⟩, q16, q15, q14, q13, q12, q11, q10, q9, q7, q6, q5, q3⟩ := H
 replace q7 := Gv q7
 obtain ⟨q7, q8⟩ := q7
 replace q3 := Gt q3
 obtain ⟨q3, q4⟩ := q3
 simp only [L.Al, L.Az, L.AX, L.A1, L.ev, A.Ak, A.Ap, A.AD] at q7 q8 q3 q4
 generalize (e 0).int = x0, (e 1).int = x1, (e 2).int = x2, (e 3).bool = v3, (e 4).bool = v4, (e 5).bool = v5, (e 6).bool = v6, (e 7).bool = v7, (e 8).bool = v8, (e 9).bool = v9, (e 10).bool = v10, (e 11).bool = v11, (e 12).bool = v12, (e 13).bool = v13, (e 14).bool = v14, (e 15).bool = v15, (e 16).bool = v16, (e 17).int = v17, (e 18).int = v18, (e 19).bool = v19, (e 20).bool = v20, (e 21).int = v21, (e 22).int = v22, (e 23).int = v23, (e 24).bool = v24 at *
 grind [Day.many, Day.right, Day.Bq, Day.AY, Day.AZ, Day.isNode, Day.Bt, Day.BS, Day.BT, Day.Cf, Day.BE, Day.BA, Day.Cw, Day.CI, Day.Nm]
def Gi : G := ⟨6, [⟨5, .iteB, [V 3, V 4, B false]⟩, ⟨4, (.cmp .eql), [V 1, V 2]⟩, ⟨3, (.cmp .eql), [V 0, N 1]⟩], [], []⟩
theorem LX (e : Nat → A) (H : Ah T e Gi.defs) (hp : (true) = true) :
  (True) ∧ (Day.isNode (Day.Fl.mk (e 0).int (e 1).int) (e 2).int = (e 5).bool) := by
 simp only [Gi, Ah, Def.q, BQ, L.Al, L.Az, L.AX, L.A1, L.ev, A.Ak, A.Ap, A.AD, A.AW, List.map_cons, List.map_nil, Nat.zero_add, Nat.add_zero, and_true, true_and, Nat.reduceAdd, Nat.one_mul] at H
 simp only [EA, EW, Db, Bc, Fo, FK, B9, GS, and_true, true_and] at H
 obtain ⟨q5, q4, q3⟩ := H
 generalize (e 0).int = x0, (e 1).int = x1, (e 2).int = x2, (e 3).bool = v3, (e 4).bool = v4, (e 5).bool = v5 at *
 grind [Day.many, Day.right, Day.Bq, Day.AY, Day.AZ, Day.isNode, Day.Bt, Day.BS, Day.BT, Day.Cf, Day.BE, Day.BA, Day.Cw, Day.CI, Day.Nm]
def HC : G := ⟨6, [⟨5, .iteB, [V 3, V 4, B false]⟩, ⟨4, (.cmp .eql), [V 1, V 2]⟩, ⟨3, (.cmp .eql), [V 0, N 2]⟩], [], []⟩
theorem NM (e : Nat → A) (H : Ah T e HC.defs) (hp : (true) = true) :
  (True) ∧ (Day.Bt (Day.Fl.mk (e 0).int (e 1).int) (e 2).int = (e 5).bool) := by
 simp only [HC, Ah, Def.q, BQ, L.Al, L.Az, L.AX, L.A1, L.ev, A.Ak, A.Ap, A.AD, A.AW, List.map_cons, List.map_nil, Nat.zero_add, Nat.add_zero, and_true, true_and, Nat.reduceAdd, Nat.one_mul] at H
 simp only [EA, EW, Db, Bc, Fo, FK, B9, GS, and_true, true_and] at H
 obtain ⟨q5, q4, q3⟩ := H
 generalize (e 0).int = x0, (e 1).int = x1, (e 2).int = x2, (e 3).bool = v3, (e 4).bool = v4, (e 5).bool = v5 at *
 grind [Day.many, Day.right, Day.Bq, Day.AY, Day.AZ, Day.isNode, Day.Bt, Day.BS, Day.BT, Day.Cf, Day.BE, Day.BA, Day.Cw, Day.CI, Day.Nm]
def Ff : G := ⟨20, [⟨19, .iteB, [V 12, V 12, V 11]⟩, ⟨18, .iteV, [V 12, V 14, V 3]⟩, ⟨17, .iteV, [V 12, V 14, V 2]⟩, ⟨16, .not, [V 12]⟩, ⟨15, .imp, [V 12, V 13]⟩, ⟨13, (.call 11), [V 8, V 9]⟩, ⟨12, .not, [V 11]⟩, ⟨10, (.call 21), [V 0, V 1, V 7]⟩], [V 15, V 10], []⟩
theorem K0 (e : Nat → A) (H : Ah T e Ff.defs) (hp : (true) = true) :
  ((e 15).bool = true ∧ (e 10).bool = true) ∧ (Day.BS (Day.Fl.mk (e 0).int (e 1).int) (Day.Ch.mk (e 2).str (e 3).str (e 4) (e 5).int (e 6).int) (e 7).int (Day.Fr.mk (e 8).int (e 9).int) = (e 17).str ∧ Day.BT (Day.Fl.mk (e 0).int (e 1).int) (Day.Ch.mk (e 2).str (e 3).str (e 4) (e 5).int (e 6).int) (e 7).int (Day.Fr.mk (e 8).int (e 9).int) = (e 18).str) := by
 simp only [Ff, Ah, Def.q, BQ, L.Al, L.Az, L.AX, L.A1, L.ev, A.Ak, A.Ap, A.AD, A.AW, List.map_cons, List.map_nil, Nat.zero_add, Nat.add_zero, and_true, true_and, Nat.reduceAdd, Nat.one_mul] at H
 simp only [EA, EW, Db, Bc, Fo, FK, B9, GS, and_true, true_and] at H
 obtain ⟨q19, ⟨-, q18⟩, ⟨-, q17⟩, q16, q15, q13, q12, q10⟩ := H
 replace q13 := Dp q13
 obtain ⟨q13, q14⟩ := q13
 replace q10 := Ho q10
 obtain ⟨q10, q11⟩ := q10
 simp only [L.Al, L.Az, L.AX, L.A1, L.ev, A.Ak, A.Ap, A.AD] at q13 q14 q10 q11
 generalize (e 0).int = x0, (e 1).int = x1, (e 2).str = x2, (e 3).str = x3, e 4 = x4, (e 5).int = x5, (e 6).int = x6, (e 7).int = x7, (e 8).int = x8, (e 9).int = x9, (e 10).bool = v10, (e 11).bool = v11, (e 12).bool = v12, (e 13).bool = v13, (e 14).str = v14, (e 15).bool = v15, (e 16).bool = v16, (e 17).str = v17, (e 18).str = v18, (e 19).bool = v19 at *
 grind [Day.many, Day.right, Day.Bq, Day.AY, Day.AZ, Day.isNode, Day.Bt, Day.BS, Day.BT, Day.Cf, Day.BE, Day.BA, Day.Cw, Day.CI, Day.Nm]
def HH : G := ⟨43, [⟨42, .iteB, [V 36, V 36, V 35]⟩, ⟨41, .iteV, [V 36, V 38, V 34]⟩, ⟨40, .not, [V 36]⟩, ⟨39, .imp, [V 36, V 37]⟩, ⟨37, (.call 11), [V 9, V 10]⟩, ⟨36, .and, [V 24, V 33]⟩, ⟨35, .iteB, [V 23, V 23, V 32]⟩, ⟨34, .iteV, [V 23, .s [], V 30]⟩, ⟨33, .and, [V 26, V 28]⟩, ⟨32, .and, [V 25, V 27]⟩, ⟨31, .imp, [V 27, V 29]⟩, ⟨29, (.call 11), [N 3, N 0]⟩, ⟨28, .and, [V 24, V 26]⟩, ⟨27, .and, [V 24, V 25]⟩, ⟨26, .not, [V 25]⟩, ⟨25, (.cmp .eql), [V 22, N 2]⟩, ⟨24, .not, [V 23]⟩, ⟨23, (.cmp .eql), [V 22, N 1]⟩, ⟨22, .iteI, [V 16, V 21, N 0]⟩, ⟨21, (.pix 0 1), [V 4, V 8]⟩, ⟨20, .imp, [V 16, V 19]⟩, ⟨19, .and, [V 18, V 15]⟩, ⟨18, (.cmp .leq), [N 0, V 8]⟩, ⟨17, .not, [V 16]⟩, ⟨16, .iteB, [V 14, V 15, B false]⟩, ⟨15, (.cmp .lss), [V 8, V 5]⟩, ⟨14, .iteB, [V 12, V 13, B false]⟩, ⟨13, (.cmp .geq), [V 8, N 0]⟩, ⟨11, (.call 22), [V 0, V 1, V 7]⟩], [V 39, V 31, V 20, V 11], []⟩
theorem NS (e : Nat → A) (H : Ah T e HH.defs) (hp : (true) = true) :
  ((e 39).bool = true ∧ (e 31).bool = true ∧ (e 20).bool = true ∧ (e 11).bool = true) ∧ (Day.CI (Day.Fl.mk (e 0).int (e 1).int) (Day.Ch.mk (e 2).str (e 3).str (e 4) (e 5).int (e 6).int) (e 7).int (e 8).int (Day.Fr.mk (e 9).int (e 10).int) = (e 41).str) := by
 simp only [HH, Ah, Def.q, BQ, L.Al, L.Az, L.AX, L.A1, L.ev, A.Ak, A.Ap, A.AD, A.AW, List.map_cons, List.map_nil, Nat.zero_add, Nat.add_zero, and_true, true_and, Nat.reduceAdd, Nat.one_mul] at H
 simp only [EA, EW, Db, Bc, Fo, FK, B9, GS, and_true, true_and] at H
 obtain ⟨q42, ⟨-, q41⟩, q40, q39, q37, q36, q35, ⟨-, q34⟩, q33, q32, q31, q29, q28, q27, q26, q25, q24, q23, ⟨q22, -⟩, q21, q20, q19, q18, q17, q16, q15, q14, q13, q11⟩ := H
 replace q37 := Dp q37
 obtain ⟨q37, q38⟩ := q37
 replace q29 := Dp q29
 obtain ⟨q29, q30⟩ := q29
 replace q11 := Dr q11
 obtain ⟨q11, q12⟩ := q11
 simp only [L.Al, L.Az, L.AX, L.A1, L.ev, A.Ak, A.Ap, A.AD] at q37 q38 q29 q30 q11 q12
 generalize (e 0).int = x0, (e 1).int = x1, (e 2).str = x2, (e 3).str = x3, e 4 = x4, (e 5).int = x5, (e 6).int = x6, (e 7).int = x7, (e 8).int = x8, (e 9).int = x9, (e 10).int = x10, (e 11).bool = v11, (e 12).bool = v12, (e 13).bool = v13, (e 14).bool = v14, (e 15).bool = v15, (e 16).bool = v16, (e 17).bool = v17, (e 18).bool = v18, (e 19).bool = v19, (e 20).bool = v20, (e 22).int = v22, (e 23).bool = v23, (e 24).bool = v24, (e 25).bool = v25, (e 26).bool = v26, (e 27).bool = v27, (e 28).bool = v28, (e 29).bool = v29, (e 30).str = v30, (e 31).bool = v31, (e 32).bool = v32, (e 33).bool = v33, (e 34).str = v34, (e 35).bool = v35, (e 36).bool = v36, (e 37).bool = v37, (e 38).str = v38, (e 39).bool = v39, (e 40).bool = v40, (e 41).str = v41, (e 42).bool = v42 at *
 replace q21 := congrArg A.int q21
 generalize (e 21).int = v21 at *
 rw [Day.Pq] at q30
 simp only [Day.CI, Day.Cw, ← q21]
 clear q21
 simp only [ge_iff_le] at q13
 generalize decide (0 ≤ x8) = b1 at *
 generalize decide (x8 < x5) = b2 at *
 generalize Day.Bt ⟨x0, x1⟩ x7 = b0 at *
 generalize Day.D1 ⟨x9, x10⟩ = pp at *
 generalize Day.Hi = zz at *
 by_cases c : v21 = 1 <;> by_cases d : v21 = 2 <;> cases b0 <;> cases b1 <;> cases b2 <;> subst_vars <;> simp_all [Day.Nm]
def Dj : G := ⟨18, [⟨17, .iteB, [V 15, B true, V 11]⟩, ⟨16, .not, [V 15]⟩, ⟨15, .not, [V 14]⟩, ⟨13, (.call 22), [V 0, V 1, N 1]⟩, ⟨12, .iteB, [V 9, B true, V 11]⟩, ⟨11, (.cmp .eql), [V 6, N 0]⟩, ⟨10, .not, [V 9]⟩, ⟨9, .not, [V 8]⟩, ⟨7, (.call 22), [V 0, V 1, N 0]⟩], [V 13, V 7], []⟩
theorem Ic (e : Nat → A) (H : Ah T e Dj.defs) (hp : (true) = true) :
  ((e 13).bool = true ∧ (e 7).bool = true) ∧ (Day.Cf (Day.Fl.mk (e 0).int (e 1).int) (Day.Ch.mk (e 2).str (e 3).str (e 4) (e 5).int (e 6).int) 0 = (e 12).bool ∧ Day.Cf (Day.Fl.mk (e 0).int (e 1).int) (Day.Ch.mk (e 2).str (e 3).str (e 4) (e 5).int (e 6).int) 1 = (e 17).bool) := by
 simp only [Dj, Ah, Def.q, BQ, L.Al, L.Az, L.AX, L.A1, L.ev, A.Ak, A.Ap, A.AD, A.AW, List.map_cons, List.map_nil, Nat.zero_add, Nat.add_zero, and_true, true_and, Nat.reduceAdd, Nat.one_mul] at H
 simp only [EA, EW, Db, Bc, Fo, FK, B9, GS, and_true, true_and] at H
 obtain ⟨q17, q16, q15, q13, q12, q11, q10, q9, q7⟩ := H
 replace q13 := Dr q13
 obtain ⟨q13, q14⟩ := q13
 replace q7 := Dr q7
 obtain ⟨q7, q8⟩ := q7
 simp only [L.Al, L.Az, L.AX, L.A1, L.ev, A.Ak, A.Ap, A.AD] at q13 q14 q7 q8
 generalize (e 0).int = x0, (e 1).int = x1, (e 2).str = x2, (e 3).str = x3, e 4 = x4, (e 5).int = x5, (e 6).int = x6, (e 7).bool = v7, (e 8).bool = v8, (e 9).bool = v9, (e 10).bool = v10, (e 11).bool = v11, (e 12).bool = v12, (e 13).bool = v13, (e 14).bool = v14, (e 15).bool = v15, (e 16).bool = v16, (e 17).bool = v17 at *
 grind [Day.many, Day.right, Day.Bq, Day.AY, Day.AZ, Day.isNode, Day.Bt, Day.BS, Day.BT, Day.Cf, Day.BE, Day.BA, Day.Cw, Day.CI, Day.Nm]
def Fk : G := ⟨12, [⟨11, .iteB, [V 9, V 10, B false]⟩, ⟨10, (.cmp .leq), [V 3, N 20]⟩, ⟨9, .iteB, [V 6, V 8, B false]⟩, ⟨8, (.cmp .leq), [V 7, N 100]⟩, ⟨7, .slen, [V 1]⟩, ⟨6, (.cmp .leq), [V 5, N 100]⟩, ⟨5, .slen, [V 0]⟩], [], []⟩
theorem K4 (e : Nat → A) (H : Ah T e Fk.defs) (hp : (true) = true) :
  (True) ∧ (Day.BE (Day.Ch.mk (e 0).str (e 1).str (e 2) (e 3).int (e 4).int) = (e 11).bool) := by
 simp only [Fk, Ah, Def.q, BQ, L.Al, L.Az, L.AX, L.A1, L.ev, A.Ak, A.Ap, A.AD, A.AW, List.map_cons, List.map_nil, Nat.zero_add, Nat.add_zero, and_true, true_and, Nat.reduceAdd, Nat.one_mul] at H
 simp only [EA, EW, Db, Bc, Fo, FK, B9, GS, and_true, true_and] at H
 obtain ⟨q11, q10, q9, q8, q7, q6, q5⟩ := H
 generalize (e 0).str = x0, (e 1).str = x1, e 2 = x2, (e 3).int = x3, (e 4).int = x4, (e 5).int = v5, (e 6).bool = v6, (e 7).int = v7, (e 8).bool = v8, (e 9).bool = v9, (e 10).bool = v10, (e 11).bool = v11 at *
 grind [Day.many, Day.right, Day.Bq, Day.AY, Day.AZ, Day.isNode, Day.Bt, Day.BS, Day.BT, Day.Cf, Day.BE, Day.BA, Day.Cw, Day.CI, Day.Nm]
end Rx.S
