import Derived.Test.YtngghkhjejkelaaVXt
set_option linter.unusedVariables false
set_option linter.unusedSimpArgs false
namespace Rx.S
open Go Rx
set_option maxRecDepth 100000
set_option maxHeartbeats 1000000
def DM : G := ⟨75, [⟨74, .iteB, [V 13, V 13, V 12]⟩, ⟨73, .iteB, [V 13, V 71, V 15]⟩, ⟨72, .not, [V 13]⟩, ⟨71, .iteB, [V 68, V 70, B false]⟩, ⟨70, (.cmp .eql), [V 36, V 43]⟩, ⟨69, .and, [V 13, V 68]⟩, ⟨68, .iteB, [V 59, V 67, B false]⟩, ⟨67, .and, [V 66, V 65]⟩, ⟨66, (.cmp .eql), [V 32, V 39]⟩, ⟨65, .and, [V 64, V 63]⟩, ⟨64, (.cmp .eql), [V 33, V 40]⟩, ⟨63, .and, [V 62, V 61]⟩, ⟨62, (.cmp .eql), [V 34, V 41]⟩, ⟨61, (.cmp .eql), [V 35, V 42]⟩, ⟨60, .and, [V 13, V 59]⟩, ⟨59, .iteB, [V 56, V 58, B false]⟩, ⟨58, (.cmp .eql), [V 22, V 29]⟩, ⟨57, .and, [V 13, V 56]⟩, ⟨56, .iteB, [V 46, V 55, B false]⟩, ⟨55, .and, [V 54, V 53]⟩, ⟨54, (.cmp .eql), [V 18, V 25]⟩, ⟨53, .and, [V 52, V 51]⟩, ⟨52, (.cmp .eql), [V 19, V 26]⟩, ⟨51, .and, [V 50, V 49]⟩, ⟨50, (.cmp .eql), [V 20, V 27]⟩, ⟨49, (.cmp .eql), [V 21, V 28]⟩, ⟨48, .and, [V 13, V 46]⟩, ⟨47, .imp, [V 13, V 45]⟩, ⟨45, (.call 27), []⟩, ⟨44, .imp, [V 13, V 38]⟩, ⟨38, (.call 32), [V 0, V 1, V 2, V 3, V 4, V 9]⟩, ⟨37, .imp, [V 13, V 31]⟩, ⟨31, (.call 31), [V 0, V 1, V 2, V 3, V 4, V 9]⟩, ⟨30, .imp, [V 13, V 24]⟩, ⟨24, (.call 30), [V 0, V 1, V 2, V 3, V 4, V 5, V 6, V 7, V 8]⟩, ⟨23, .imp, [V 13, V 17]⟩, ⟨17, (.call 28), [V 0, V 1, V 2, V 3, V 4, V 5, V 6, V 7, V 8]⟩, ⟨16, .imp, [V 12, V 14]⟩, ⟨14, (.call 27), []⟩, ⟨13, .not, [V 12]⟩, ⟨12, .not, [V 11]⟩, ⟨10, (.call 26), [V 0, V 5, V 6, V 7, V 8]⟩], [V 47, V 44, V 37, V 30, V 23, V 16, V 10], []⟩
theorem JB (e : Nat → A) (H : Ad T e DM.defs) (hp : (Day.i64 (e 0).int && (Day.ND.i64 (Day.ND.mk (e 1).int (e 2).int (e 3).int (e 4).int) && Day.i64 (e 9).int)) = true) :
  ((e 47).bool = true ∧ (e 44).bool = true ∧ (e 37).bool = true ∧ (e 30).bool = true ∧ (e 23).bool = true ∧ (e 16).bool = true ∧ (e 10).bool = true) ∧ (true = (e 73).bool) := by
 simp only [DM, Ad, Def.q, BB, L.Ai, L.Ar, L.AN, L.AR, L.ev, A.Ah, A.Am, A.Au, A.AZ, List.map_cons, List.map_nil, Nat.zero_add, Nat.add_zero, and_true, true_and, Nat.reduceAdd, Nat.one_mul] at H
 simp only [DZ, Ed, D0, Bo, EK, EO, B9, FI, and_true, true_and] at H
 obtain ⟨q74, q73, q72, q71, q70, q69, q68, q67, q66, q65, q64, q63, q62, q61, q60, q59, q58, q57, q56, q55, q54, q53, q52, q51, q50, q49, q48, q47, q45, q44, q38, q37, q31, q30, q24, q23, q17, q16, q14, q13, q12, q10⟩ := H
 replace q45 := Bn q45
 obtain ⟨q45, q46⟩ := q45
 replace q38 := NR q38 _ rfl _ rfl
 obtain ⟨q38, q39, q40, q41, q42, q43⟩ := q38
 replace q31 := QO q31 _ rfl _ rfl
 obtain ⟨q31, q32, q33, q34, q35, q36⟩ := q31
 replace q24 := Fb q24 _ rfl _ rfl
 obtain ⟨q24, q25, q26, q27, q28, q29⟩ := q24
 replace q17 := Bv q17 _ rfl _ rfl
 obtain ⟨q17, q18, q19, q20, q21, q22⟩ := q17
 replace q14 := Bn q14
 obtain ⟨q14, q15⟩ := q14
 replace q10 := HG q10
 obtain ⟨q10, q11⟩ := q10
 simp only [L.Ai, L.Ar, L.AN, L.AR, L.ev, A.Ah, A.Am, A.Au] at q45 q46 q38 q39 q40 q41 q42 q43 q31 q32 q33 q34 q35 q36 q24 q25 q26 q27 q28 q29 q17 q18 q19 q20 q21 q22 q14 q15 q10 q11
 generalize (e 0).int = x0, (e 1).int = x1, (e 2).int = x2, (e 3).int = x3, (e 4).int = x4, (e 5).int = x5, (e 6).int = x6, (e 7).int = x7, (e 8).int = x8, (e 9).int = x9, (e 10).bool = v10, (e 11).bool = v11, (e 12).bool = v12, (e 13).bool = v13, (e 14).bool = v14, (e 15).bool = v15, (e 16).bool = v16, (e 17).bool = v17, (e 18).int = v18, (e 19).int = v19, (e 20).int = v20, (e 21).int = v21, (e 22).int = v22, (e 23).bool = v23, (e 24).bool = v24, (e 25).int = v25, (e 26).int = v26, (e 27).int = v27, (e 28).int = v28, (e 29).int = v29, (e 30).bool = v30, (e 31).bool = v31, (e 32).int = v32, (e 33).int = v33, (e 34).int = v34, (e 35).int = v35, (e 36).int = v36, (e 37).bool = v37, (e 38).bool = v38, (e 39).int = v39, (e 40).int = v40, (e 41).int = v41, (e 42).int = v42, (e 43).int = v43, (e 44).bool = v44, (e 45).bool = v45, (e 46).bool = v46, (e 47).bool = v47, (e 48).bool = v48, (e 49).bool = v49, (e 50).bool = v50, (e 51).bool = v51, (e 52).bool = v52, (e 53).bool = v53, (e 54).bool = v54, (e 55).bool = v55, (e 56).bool = v56, (e 57).bool = v57, (e 58).bool = v58, (e 59).bool = v59, (e 60).bool = v60, (e 61).bool = v61, (e 62).bool = v62, (e 63).bool = v63, (e 64).bool = v64, (e 65).bool = v65, (e 66).bool = v66, (e 67).bool = v67, (e 68).bool = v68, (e 69).bool = v69, (e 70).bool = v70, (e 71).bool = v71, (e 72).bool = v72, (e 73).bool = v73, (e 74).bool = v74 at *
 simp only [Bool.and_eq_true] at hp
 obtain ⟨_, hi, _⟩ := hp
 cases hh : Day.AE x0 ⟨x5, x6⟩ ⟨x7, x8⟩ <;> subst_vars <;> simp [hi, hh]
end Rx.S
