import Derived.Test.YtngghkhjejkelabKXt
set_option linter.unusedVariables false
set_option linter.unusedSimpArgs false
namespace Rx.S
open Go Rx
set_option maxRecDepth 100000
set_option maxHeartbeats 1000000
def g_law13_awake : G := ⟨56, [⟨55, .iteB, [V 53, V 54, B false]⟩, ⟨54, (.cmp .eql), [V 46, N 2]⟩, ⟨53, .iteB, [V 51, V 52, B false]⟩, ⟨52, (.cmp .eql), [V 24, N 1]⟩, ⟨51, .iteB, [V 47, V 50, B false]⟩, ⟨50, .and, [V 49, V 48]⟩, ⟨49, (.cmp .eql), [V 28, N 1]⟩, ⟨48, (.cmp .eql), [V 29, N 1]⟩, ⟨47, (.cmp .eql), [V 30, N 0]⟩, ⟨31, (.call 11), [N 3, V 1, V 2, V 3, V 4, V 5, V 6, V 7, V 8, V 9, V 10, V 11, V 12, .e, N 0]⟩, ⟨15, (.call 11), [N 3, V 1, V 2, V 3, V 4, V 5, V 6, V 7, V 8, V 9, V 10, V 11, V 12, V 14, N 3]⟩, ⟨14, .mkl, [N 0, N 0, N 1, N 1, N 0, N 0]⟩, ⟨0, (.call 14), [N 3]⟩], [V 31, V 15, V 0], []⟩
theorem pure_law13_awake (e : Nat → A) (H : FactsQ T e g_law13_awake.defs) (hp : (true) = true) :
  ((e 31).bool = true ∧ (e 15).bool = true ∧ (e 0).bool = true) ∧ (true = (e 55).bool) := by
 simp only [g_law13_awake, FactsQ, Def.q, updQ, L.ev_var, L.ev_n, L.ev_t, L.ev_e, L.ev, A.int_i, A.bool_b, A.str_v, A.els_l, List.map_cons, List.map_nil, Nat.zero_add, Nat.add_zero, and_true, true_and, Nat.reduceAdd, Nat.one_mul] at H
 simp only [arI, dvI, btI, cmpI, shI, ifQ, updV, ltQ, and_true, true_and] at H
 obtain ⟨q55, q54, q53, q52, q51, q50, q49, q48, q47, q31, q15, q14, q0⟩ := H
 replace q31 := out_hub_Step q31 _ rfl _ rfl
 obtain ⟨q31, q32, q33, q34, q35, q36, q37, q38, q39, q40, q41, q42, q43, q44, q45, q46⟩ := q31
 replace q15 := out_hub_Step q15 _ rfl _ rfl
 obtain ⟨q15, q16, q17, q18, q19, q20, q21, q22, q23, q24, q25, q26, q27, q28, q29, q30⟩ := q15
 replace q0 := out_ref11_Fresh q0 _ rfl
 obtain ⟨q0, q1, q2, q3, q4, q5, q6, q7, q8, q9, q10, q11, q12, q13⟩ := q0
 simp only [L.ev_var, L.ev_n, L.ev_t, L.ev_e, L.ev, A.int_i, A.bool_b, A.str_v] at q31 q32 q33 q34 q35 q36 q37 q38 q39 q40 q41 q42 q43 q44 q45 q46 q15 q16 q17 q18 q19 q20 q21 q22 q23 q24 q25 q26 q27 q28 q29 q30 q0 q1 q2 q3 q4 q5 q6 q7 q8 q9 q10 q11 q12 q13
 generalize (e 0).bool = v0, (e 1).int = v1, (e 2).int = v2, (e 3).int = v3, (e 4).int = v4, (e 5).int = v5, (e 6).int = v6, (e 7).int = v7, (e 8).int = v8, (e 9).int = v9, (e 10).int = v10, (e 11).int = v11, (e 12).int = v12, (e 13).int = v13, e 14 = v14, (e 15).bool = v15, (e 16).int = v16, (e 17).int = v17, (e 18).int = v18, (e 19).int = v19, (e 20).int = v20, (e 21).int = v21, (e 22).int = v22, (e 23).int = v23, (e 24).int = v24, (e 25).int = v25, (e 26).int = v26, (e 27).int = v27, (e 28).int = v28, (e 29).int = v29, (e 30).int = v30, (e 31).bool = v31, (e 32).int = v32, (e 33).int = v33, (e 34).int = v34, (e 35).int = v35, (e 36).int = v36, (e 37).int = v37, (e 38).int = v38, (e 39).int = v39, (e 40).int = v40, (e 41).int = v41, (e 42).int = v42, (e 43).int = v43, (e 44).int = v44, (e 45).int = v45, (e 46).int = v46, (e 47).bool = v47, (e 48).bool = v48, (e 49).bool = v49, (e 50).bool = v50, (e 51).bool = v51, (e 52).bool = v52, (e 53).bool = v53, (e 54).bool = v54, (e 55).bool = v55 at *
 subst_vars
 decide +kernel
end Rx.S
