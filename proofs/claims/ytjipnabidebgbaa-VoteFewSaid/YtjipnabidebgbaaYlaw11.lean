import Derived.Test.YtjipnabidebgbaaXt
set_option linter.unusedVariables false
set_option linter.unusedSimpArgs false
namespace Rx.S
open Go Rx
set_option maxRecDepth 100000
set_option maxHeartbeats 1000000
set_option linter.unusedVariables false
set_option linter.unusedSimpArgs false
def g_law11_awake : G := ⟨42, [⟨41, .iteB, [V 39, V 40, B false]⟩, ⟨40, (.cmp .eql), [V 27, N 1]⟩, ⟨39, .iteB, [V 37, V 38, B false]⟩, ⟨38, (.cmp .eql), [V 30, N 0]⟩, ⟨37, .iteB, [V 35, V 36, B false]⟩, ⟨36, (.cmp .eql), [V 4, N 0]⟩, ⟨35, .iteB, [V 33, V 34, B false]⟩, ⟨34, (.cmp .eql), [V 3, N 3]⟩, ⟨33, .iteB, [V 31, V 32, B false]⟩, ⟨32, (.cmp .eql), [V 10, N 7]⟩, ⟨31, (.cmp .eql), [V 13, N 0]⟩, ⟨28, (.call 91), [N 3, V 1, V 2, V 3, V 4, V 5, V 6, V 7, V 8, V 9, V 10, V 11, V 12]⟩, ⟨14, (.call 93), [N 2]⟩, ⟨0, (.call 93), [N 3]⟩], [V 28, V 14, V 0], []⟩
theorem pure_law11_awake (e : Nat → A) (H : FactsQ T e g_law11_awake.defs) (hp : (true) = true) :
    ((e 28).bool = true ∧ (e 14).bool = true ∧ (e 0).bool = true) ∧ (true = (e 41).bool) := by
  simp only [g_law11_awake, FactsQ, Def.q, updQ, L.ev_var, L.ev_n, L.ev_t, L.ev_e, L.ev, A.int_i, A.bool_b, A.str_v, A.els_l, List.map_cons, List.map_nil, Nat.zero_add, Nat.add_zero, and_true, true_and, Nat.reduceAdd, Nat.one_mul] at H
  simp only [arI, dvI, btI, cmpI, ifQ, updV, ltQ, and_true, true_and] at H
  obtain ⟨q41, q40, q39, q38, q37, q36, q35, q34, q33, q32, q31, q28, q14, q0⟩ := H
  replace q28 := out_vote_Best q28
  obtain ⟨q28, q29, q30⟩ := q28
  replace q14 := out_vote_Fresh q14
  obtain ⟨q14, q15, q16, q17, q18, q19, q20, q21, q22, q23, q24, q25, q26, q27⟩ := q14
  replace q0 := out_vote_Fresh q0
  obtain ⟨q0, q1, q2, q3, q4, q5, q6, q7, q8, q9, q10, q11, q12, q13⟩ := q0
  simp only [L.ev_var, L.ev_n, L.ev_t, L.ev_e, L.ev, A.int_i, A.bool_b, A.str_v] at q28 q29 q30 q14 q15 q16 q17 q18 q19 q20 q21 q22 q23 q24 q25 q26 q27 q0 q1 q2 q3 q4 q5 q6 q7 q8 q9 q10 q11 q12 q13
  generalize (e 0).bool = v0 at *
  generalize (e 1).int = v1 at *
  generalize (e 2).int = v2 at *
  generalize (e 3).int = v3 at *
  generalize (e 4).int = v4 at *
  generalize (e 5).int = v5 at *
  generalize (e 6).int = v6 at *
  generalize (e 7).int = v7 at *
  generalize (e 8).int = v8 at *
  generalize (e 9).int = v9 at *
  generalize (e 10).int = v10 at *
  generalize (e 11).int = v11 at *
  generalize (e 12).int = v12 at *
  generalize (e 13).int = v13 at *
  generalize (e 14).bool = v14 at *
  generalize (e 15).int = v15 at *
  generalize (e 16).int = v16 at *
  generalize (e 17).int = v17 at *
  generalize (e 18).int = v18 at *
  generalize (e 19).int = v19 at *
  generalize (e 20).int = v20 at *
  generalize (e 21).int = v21 at *
  generalize (e 22).int = v22 at *
  generalize (e 23).int = v23 at *
  generalize (e 24).int = v24 at *
  generalize (e 25).int = v25 at *
  generalize (e 26).int = v26 at *
  generalize (e 27).int = v27 at *
  generalize (e 28).bool = v28 at *
  generalize (e 29).int = v29 at *
  generalize (e 30).int = v30 at *
  generalize (e 31).bool = v31 at *
  generalize (e 32).bool = v32 at *
  generalize (e 33).bool = v33 at *
  generalize (e 34).bool = v34 at *
  generalize (e 35).bool = v35 at *
  generalize (e 36).bool = v36 at *
  generalize (e 37).bool = v37 at *
  generalize (e 38).bool = v38 at *
  generalize (e 39).bool = v39 at *
  generalize (e 40).bool = v40 at *
  generalize (e 41).bool = v41 at *
  subst_vars
  decide
end Rx.S
