import Derived.Test.YtmpinegdphkbjaaDoorVXt
set_option linter.unusedVariables false
set_option linter.unusedSimpArgs false
namespace Rx.S
open Go Rx
set_option maxRecDepth 100000
set_option maxHeartbeats 1000000
def CE : G := ⟨54, [⟨53, .iteB, [V 6, V 6, V 5]⟩, ⟨52, .iteB, [V 6, V 50, V 8]⟩, ⟨51, .not, [V 6]⟩, ⟨50, .iteB, [V 16, V 49, B false]⟩, ⟨49, .eqS, [V 45, V 47]⟩, ⟨48, .imp, [V 18, V 46]⟩, ⟨46, (.call 8), [V 0, V 1]⟩, ⟨45, .scat, [V 28, V 37]⟩, ⟨44, .imp, [V 18, V 43]⟩, ⟨43, (.cmp .leq), [V 40, N 4611686018427387903]⟩, ⟨42, .imp, [V 18, V 41]⟩, ⟨41, (.cmp .leq), [V 39, N 4611686018427387903]⟩, ⟨40, .slen, [V 37]⟩, ⟨39, .slen, [V 28]⟩, ⟨38, .imp, [V 18, V 36]⟩, ⟨36, (.call 8), [V 34, V 35]⟩, ⟨35, .iteI, [V 16, V 33, N 0]⟩, ⟨34, .iteA, [V 16, V 32, .e]⟩, ⟨33, (.lln 6), [V 32]⟩, ⟨32, (.lsub 6), [V 0, V 14, V 1]⟩, ⟨31, .imp, [V 18, V 30]⟩, ⟨30, (.cmp .leq), [V 1, V 1]⟩, ⟨29, .imp, [V 18, V 27]⟩, ⟨27, (.call 8), [V 25, V 26]⟩, ⟨26, .iteI, [V 16, V 24, N 0]⟩, ⟨25, .iteA, [V 16, V 23, .e]⟩, ⟨24, (.lln 6), [V 23]⟩, ⟨23, (.lsub 6), [V 0, N 0, V 14]⟩, ⟨22, .imp, [V 18, V 21]⟩, ⟨21, (.cmp .leq), [V 14, V 1]⟩, ⟨20, .imp, [V 18, V 19]⟩, ⟨19, (.cmp .leq), [N 0, V 14]⟩, ⟨18, .and, [V 6, V 16]⟩, ⟨17, .imp, [V 6, V 15]⟩, ⟨15, (.call 7), []⟩, ⟨14, (.dv .rem .i64), [V 10, V 11]⟩, ⟨13, .imp, [V 6, V 12]⟩, ⟨12, (.cmp .neq), [V 11, N 0]⟩, ⟨11, (.ar .add .i64), [V 1, N 1]⟩, ⟨10, (.conv .i64), [V 2]⟩, ⟨9, .imp, [V 5, V 7]⟩, ⟨7, (.call 7), []⟩, ⟨6, .not, [V 5]⟩, ⟨5, .not, [V 4]⟩, ⟨3, (.call 6), [V 0, V 1]⟩], [V 48, V 44, V 42, V 38, V 31, V 29, V 22, V 20, V 17, V 13, V 9, V 3], []⟩
theorem Gf (e : Nat → A) (H : AH T e CE.defs) (hp : (Day.L1.EY (Day.L1.mk (e 0) (e 1).int) && (Day.L1.Uf (Day.L1.mk (e 0) (e 1).int) && Day.u8 (e 2).int)) = true) :
  ((e 48).bool = true ∧ (e 44).bool = true ∧ (e 42).bool = true ∧ (e 38).bool = true ∧ (e 31).bool = true ∧ (e 29).bool = true ∧ (e 22).bool = true ∧ (e 20).bool = true ∧ (e 17).bool = true ∧ (e 13).bool = true ∧ (e 9).bool = true ∧ (e 3).bool = true) ∧ (true = (e 52).bool) := by
 simp only [CE, AH, Def.q, HF, L.Aw, L.By, L.Db, L.Dp, L.ev, A.AI, A.AX, A.B0, A.Fv, List.map_cons, List.map_nil, Nat.zero_add, Nat.add_zero, and_true, true_and, Nat.reduceAdd, Nat.one_mul] at H
 simp only [LL, MJ, K8, CX, NJ, OB, Jx, Q8, and_true, true_and] at H
 obtain ⟨q53, q52, q51, q50, q49, q48, q46, q45, q44, q43, q42, q41, q40, q39, q38, q36, ⟨q35, -⟩, q34, q33, q32, q31, q30, q29, q27, ⟨q26, -⟩, q25, q24, q23, q22, q21, q20, q19, q18, q17, q15, ⟨q14, -⟩, q13, q12, ⟨q11, -⟩, ⟨q10, -⟩, q9, q7, q6, q5, q3⟩ := H
 replace q46 := DW q46
 obtain ⟨q46, q47⟩ := q46
 replace q36 := DW q36
 obtain ⟨q36, q37⟩ := q36
 replace q27 := DW q27
 obtain ⟨q27, q28⟩ := q27
 replace q15 := FB q15
 obtain ⟨q15, q16⟩ := q15
 replace q7 := FB q7
 obtain ⟨q7, q8⟩ := q7
 replace q3 := LB q3
 obtain ⟨q3, q4⟩ := q3
 simp only [L.Aw, L.By, L.Db, L.Dp, L.ev, A.AI, A.AX, A.B0] at q46 q47 q36 q37 q27 q28 q15 q16 q7 q8 q3 q4
 generalize e 0 = x0, (e 1).int = x1, (e 2).int = x2, (e 3).bool = v3, (e 4).bool = v4, (e 5).bool = v5, (e 6).bool = v6, (e 7).bool = v7, (e 8).bool = v8, (e 9).bool = v9, (e 10).int = v10, (e 11).int = v11, (e 12).bool = v12, (e 13).bool = v13, (e 14).int = v14, (e 15).bool = v15, (e 16).bool = v16, (e 17).bool = v17, (e 18).bool = v18, (e 19).bool = v19, (e 20).bool = v20, (e 21).bool = v21, (e 22).bool = v22, e 23 = v23, (e 24).int = v24, e 25 = v25, (e 26).int = v26, (e 27).bool = v27, (e 28).str = v28, (e 29).bool = v29, (e 30).bool = v30, (e 31).bool = v31, e 32 = v32, (e 33).int = v33, e 34 = v34, (e 35).int = v35, (e 36).bool = v36, (e 37).str = v37, (e 38).bool = v38, (e 39).int = v39, (e 40).int = v40, (e 41).bool = v41, (e 42).bool = v42, (e 43).bool = v43, (e 44).bool = v44, (e 45).str = v45, (e 46).bool = v46, (e 47).str = v47, (e 48).bool = v48, (e 49).bool = v49, (e 50).bool = v50, (e 51).bool = v51, (e 52).bool = v52, (e 53).bool = v53 at *
 simp only [Bool.and_eq_true] at hp
 obtain ⟨hi, h6, h8⟩ := hp
 have h8 : 0 ≤ x2 ∧ x2 ≤ 255 := by simpa [Day.u8] using h8
 rw [hi] at q3
 cases hf : Day.L1.SR ⟨x0, x1⟩ with
 | false =>
  rw [hf] at q4
  clear q10 q11 q12 q14 q19 q21 q23 q24 q25 q26 q27 q28 q30 q32 q33 q34 q35 q36 q37 q39 q40 q41 q43 q45 q46 q47 q49
  subst_vars
  simp
 | true =>
  have hl := Day.L1.NF hi hf
  rw [hf] at q4
  have hn := hl
  simp only [Day.L1.Qs, Bool.and_eq_true, Day.AA] at hn
  have w10 : v10 = x2 := by rw [q10]; exact wrap64 (by omega) (by omega)
  have w11 : v11 = x1 + 1 := by rw [q11]; exact wrap64 (by omega) (by omega)
  have p0 : 0 ≤ v14 := by rw [q14, w10]; exact Int.tmod_nonneg _ h8.1
  have p1 : v14 ≤ x1 := by
   have : v14 < x1 + 1 := by rw [q14, w10, w11]; exact Int.tmod_lt_of_pos _ (by omega)
   omega
  have e25 : v25 = v23 := by rw [q25, q16]; rfl
  have e26 : v26 = v24 := by rw [q26, q16]; rfl
  have e34 : v34 = v32 := by rw [q34, q16]; rfl
  have e35 : v35 = v33 := by rw [q35, q16]; rfl
  obtain ⟨m1, m2, m3, m4, m5⟩ := Day.Re h6 hl p0 p1 (e25.trans q23) (e34.trans q32) (e26.trans (by rw [q24, e25])) (e35.trans (by rw [q33, e34]))
  rw [← q28, ← q37, ← q47, ← q45] at m3
  rw [← q28, ← q39] at m4
  rw [← q37, ← q40] at m5
  have t6 : v6 = true := by rw [q6, q5, q4]; rfl
  have t49 : v49 = true := by rw [q49, m3]; exact Day.KR _
  refine ⟨⟨by rw [q48]; exact Day.CF (by rw [q46]; exact hl), by rw [q44]; exact Day.CF (by rw [q43]; exact decide_eq_true (by omega)), by rw [q42]; exact Day.CF (by rw [q41]; exact decide_eq_true (by omega)), by rw [q38]; exact Day.CF (by rw [q36]; exact m2), by rw [q31]; exact Day.CF (by rw [q30]; exact decide_eq_true (by omega)), by rw [q29]; exact Day.CF (by rw [q27]; exact m1), by rw [q22]; exact Day.CF (by rw [q21]; exact decide_eq_true p1), by rw [q20]; exact Day.CF (by rw [q19]; exact decide_eq_true p0), by rw [q17]; exact Day.CF q15, by rw [q13]; exact Day.CF (by rw [q12, w11]; simp; omega), by rw [q9]; exact Day.CF q7, q3⟩, ?_⟩
  rw [q52, t6, q50, q16, t49]
  rfl
end Rx.S
