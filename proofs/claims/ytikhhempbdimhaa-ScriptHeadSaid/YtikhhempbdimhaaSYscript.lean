import Derived.Test.YtikhhempbdimhaaSXc
import Derived.Test.YtikhhempbdimhaaSXt
set_option linter.unusedVariables false
set_option linter.unusedSimpArgs false
namespace Rx.S
open Go Rx
set_option maxRecDepth 100000
set_option maxHeartbeats 1000000
def Cd : Lp := ⟨19, [false, true, false, true], 1230, 8, 2, 4, ⟨Ez 95 [(0, .pv (.one (.k (.ptr 1 0)))), (1, .pv (.one (.k (.ptr 2 0)))), (10, .pv (.one (.k (.ptr 2 0)))), (11, .pv (.one (.k (.ptr 2 0)))), (12, .pv (.one (.k (.ptr 2 0)))), (13, .pv (.one (.k (.ptr 2 0)))), (14, .pv (.one (.k (.int .i64 (V 0))))), (15, .pv (.one (.k (.lsl 3 (V 0))))), (16, .pv (.one (.k (.ptr 2 0)))), (17, .pv (.one (.k (.ptr 2 5)))), (18, .pv (.one (.k (.ptr 2 0)))), (19, .pv (.one (.k (.ptr 2 0)))), (20, .pv (.one (.k (.ptr 2 5)))), (21, .pv (.one (.k (.lsl 3 (V 0))))), (22, .pv (.one (.k (.int .i64 (V 0))))), (23, .pv (.one (.k (.int .i64 (V 1)))))], [⟨true, 34, 31, [.k (.int .i64 (N 0)), .k (.nilslc), .k (.int .i64 (N 0)), .k (.int .i64 (N 0)), .k (.bool (B false)), .k (.nilslc), .k (.int .i64 (N 0)), .k (.int .i64 (N 0)), .k (.int .i64 (N 0)), .k (.int .i64 (N 0)), .k (.int .i64 (N 0)), .k (.int .i64 (N 0)), .k (.int .i64 (N 0)), .k (.int .i64 (N 0)), .k (.int .i64 (N 0)), .k (.int .i64 (N 0)), .k (.int .i64 (N 0)), .k (.int .i64 (N 0)), .k (.int .i64 (N 0)), .k (.int .i64 (N 0)), .k (.int .i64 (N 0)), .k (.int .i64 (N 0)), .k (.int .i64 (N 0)), .k (.int .i64 (N 0)), .k (.int .i64 (N 0)), .k (.int .i64 (N 0)), .k (.int .i64 (N 0)), .k (.int .i64 (N 0)), .k (.int .i64 (N 0)), .k (.int .i64 (N 0)), .k (.nilslc)], none⟩, ⟨true, 46, 2, [.k (.str (V 2)), .k (.int .i64 (V 3))], none⟩, ⟨true, 34, 31, [.k (.int .i64 (V 0)), .k (.nilslc), .k (.int .i64 (V 4)), .k (.int .i64 (V 5)), .k (.bool (V 6)), .k (.lsl 3 (V 0)), .k (.int .i64 (N 0)), .k (.int .i64 (N 0)), .k (.int .i64 (N 0)), .k (.int .i64 (N 0)), .k (.int .i64 (N 0)), .k (.int .i64 (N 0)), .k (.int .i64 (N 0)), .k (.int .i64 (N 0)), .k (.int .i64 (N 0)), .k (.int .i64 (N 0)), .k (.int .i64 (N 0)), .k (.int .i64 (N 0)), .k (.int .i64 (N 0)), .k (.int .i64 (N 0)), .k (.int .i64 (N 0)), .k (.int .i64 (N 0)), .k (.int .i64 (N 0)), .k (.int .i64 (N 0)), .k (.int .i64 (N 0)), .k (.int .i64 (N 0)), .k (.int .i64 (N 0)), .k (.int .i64 (N 0)), .k (.int .i64 (N 0)), .k (.int .i64 (N 0)), .k (.nilslc)], none⟩, ⟨false, 0, 0, [], some ⟨true, 76, [.int .i64, .int .i64, .int .i64, .int .i64], V 7, V 0⟩⟩], B true⟩, [(.exit 0, ⟨Ez 95 [(0, .pv (.one (.k (.ptr 1 0)))), (1, .pv (.one (.k (.ptr 2 0)))), (10, .pv (.one (.k (.ptr 2 0)))), (11, .pv (.one (.k (.ptr 2 0)))), (12, .pv (.one (.k (.ptr 2 0)))), (13, .pv (.one (.k (.ptr 2 0)))), (14, .pv (.one (.k (.int .i64 (V 0))))), (15, .pv (.one (.k (.lsl 3 (V 0))))), (16, .pv (.one (.k (.ptr 2 0)))), (17, .pv (.one (.k (.ptr 2 5)))), (18, .pv (.one (.k (.ptr 2 0)))), (19, .pv (.one (.k (.ptr 2 0)))), (20, .pv (.one (.k (.ptr 2 5)))), (21, .pv (.one (.k (.lsl 3 (V 0)))))], [⟨true, 34, 31, [.k (.int .i64 (N 0)), .k (.nilslc), .k (.int .i64 (N 0)), .k (.int .i64 (N 0)), .k (.bool (B false)), .k (.nilslc), .k (.int .i64 (N 0)), .k (.int .i64 (N 0)), .k (.int .i64 (N 0)), .k (.int .i64 (N 0)), .k (.int .i64 (N 0)), .k (.int .i64 (N 0)), .k (.int .i64 (N 0)), .k (.int .i64 (N 0)), .k (.int .i64 (N 0)), .k (.int .i64 (N 0)), .k (.int .i64 (N 0)), .k (.int .i64 (N 0)), .k (.int .i64 (N 0)), .k (.int .i64 (N 0)), .k (.int .i64 (N 0)), .k (.int .i64 (N 0)), .k (.int .i64 (N 0)), .k (.int .i64 (N 0)), .k (.int .i64 (N 0)), .k (.int .i64 (N 0)), .k (.int .i64 (N 0)), .k (.int .i64 (N 0)), .k (.int .i64 (N 0)), .k (.int .i64 (N 0)), .k (.nilslc)], none⟩, ⟨true, 46, 2, [.k (.str (V 2)), .k (.int .i64 (V 8))], none⟩, ⟨true, 34, 31, [.k (.int .i64 (V 0)), .k (.nilslc), .k (.int .i64 (V 4)), .k (.int .i64 (V 5)), .k (.bool (V 6)), .k (.lsl 3 (V 0)), .k (.int .i64 (N 0)), .k (.int .i64 (N 0)), .k (.int .i64 (N 0)), .k (.int .i64 (N 0)), .k (.int .i64 (N 0)), .k (.int .i64 (N 0)), .k (.int .i64 (N 0)), .k (.int .i64 (N 0)), .k (.int .i64 (N 0)), .k (.int .i64 (N 0)), .k (.int .i64 (N 0)), .k (.int .i64 (N 0)), .k (.int .i64 (N 0)), .k (.int .i64 (N 0)), .k (.int .i64 (N 0)), .k (.int .i64 (N 0)), .k (.int .i64 (N 0)), .k (.int .i64 (N 0)), .k (.int .i64 (N 0)), .k (.int .i64 (N 0)), .k (.int .i64 (N 0)), .k (.int .i64 (N 0)), .k (.int .i64 (N 0)), .k (.int .i64 (N 0)), .k (.nilslc)], none⟩, ⟨false, 0, 0, [], some ⟨true, 76, [.int .i64, .int .i64, .int .i64, .int .i64], V 9, V 0⟩⟩], B true⟩)], [true, false, true, false, true, true, true, false], [.i, .any]⟩
def L9 : G := ⟨92, [⟨91, .and, [V 90, V 9]⟩, ⟨90, .not, [V 8]⟩, ⟨89, (.ar .add .i64), [V 1, N 1]⟩, ⟨88, (.pset 3 4), [V 70, V 1, V 86]⟩, ⟨87, .iteB, [V 77, V 77, V 76]⟩, ⟨86, .iteI, [V 77, V 84, N 0]⟩, ⟨85, .not, [V 77]⟩, ⟨84, (.conv .i64), [V 83]⟩, ⟨83, .sget, [V 2, V 78]⟩, ⟨82, .imp, [V 77, V 81]⟩, ⟨81, .and, [V 79, V 80]⟩, ⟨80, (.cmp .lss), [V 78, V 59]⟩, ⟨79, (.cmp .leq), [N 0, V 78]⟩, ⟨78, (.ar .sub .i64), [V 71, N 1]⟩, ⟨77, .and, [V 73, V 75]⟩, ⟨76, .and, [V 72, V 74]⟩, ⟨75, .and, [V 8, V 73]⟩, ⟨74, .and, [V 8, V 72]⟩, ⟨73, .not, [V 72]⟩, ⟨72, (.cmp .gtr), [V 71, V 59]⟩, ⟨71, (.ar .add .i64), [V 51, N 1]⟩, ⟨70, (.pset 2 4), [V 32, V 1, V 69]⟩, ⟨69, (.bt .or .i64), [V 50, V 67]⟩, ⟨68, .iteB, [V 57, V 57, V 56]⟩, ⟨67, .iteI, [V 57, V 65, N 0]⟩, ⟨66, .not, [V 57]⟩, ⟨65, (.conv .i64), [V 64]⟩, ⟨64, .sget, [V 2, V 58]⟩, ⟨63, .imp, [V 57, V 62]⟩, ⟨62, .and, [V 60, V 61]⟩, ⟨61, (.cmp .lss), [V 58, V 59]⟩, ⟨60, (.cmp .leq), [N 0, V 58]⟩, ⟨59, .slen, [V 2]⟩, ⟨58, (.ar .sub .i64), [V 51, N 1]⟩, ⟨57, .and, [V 53, V 55]⟩, ⟨56, .and, [V 52, V 54]⟩, ⟨55, .and, [V 8, V 53]⟩, ⟨54, .and, [V 8, V 52]⟩, ⟨53, .not, [V 52]⟩, ⟨52, (.cmp .gtr), [V 51, V 14]⟩, ⟨51, (.ar .add .i64), [V 33, N 1]⟩, ⟨50, (.sh .shl .i64), [V 48, N 8]⟩, ⟨49, .iteB, [V 39, V 39, V 38]⟩, ⟨48, .iteI, [V 39, V 46, N 0]⟩, ⟨47, .not, [V 39]⟩, ⟨46, (.conv .i64), [V 45]⟩, ⟨45, .sget, [V 2, V 40]⟩, ⟨44, .imp, [V 39, V 43]⟩, ⟨43, .and, [V 41, V 42]⟩, ⟨42, (.cmp .lss), [V 40, V 14]⟩, ⟨41, (.cmp .leq), [N 0, V 40]⟩, ⟨40, (.ar .sub .i64), [V 33, N 1]⟩, ⟨39, .and, [V 35, V 37]⟩, ⟨38, .and, [V 34, V 36]⟩, ⟨37, .and, [V 8, V 35]⟩, ⟨36, .and, [V 8, V 34]⟩, ⟨35, .not, [V 34]⟩, ⟨34, (.cmp .gtr), [V 33, V 14]⟩, ⟨33, (.ar .add .i64), [V 13, N 1]⟩, ⟨32, (.pset 1 4), [V 31, V 1, V 29]⟩, ⟨31, (.pset 0 4), [V 7, V 1, V 1]⟩, ⟨30, .iteB, [V 20, V 20, V 19]⟩, ⟨29, .iteI, [V 20, V 27, N 0]⟩, ⟨28, .not, [V 20]⟩, ⟨27, (.conv .i64), [V 26]⟩, ⟨26, .sget, [V 2, V 21]⟩, ⟨25, .imp, [V 20, V 24]⟩, ⟨24, .and, [V 22, V 23]⟩, ⟨23, (.cmp .lss), [V 21, V 14]⟩, ⟨22, (.cmp .leq), [N 0, V 21]⟩, ⟨21, (.ar .sub .i64), [V 13, N 1]⟩, ⟨20, .and, [V 16, V 18]⟩, ⟨19, .and, [V 15, V 17]⟩, ⟨18, .and, [V 8, V 16]⟩, ⟨17, .and, [V 8, V 15]⟩, ⟨16, .not, [V 15]⟩, ⟨15, (.cmp .gtr), [V 13, V 14]⟩, ⟨14, .slen, [V 2]⟩, ⟨13, (.ar .add .i64), [V 3, N 1]⟩, ⟨12, .imp, [V 8, V 11]⟩, ⟨11, .and, [V 10, V 8]⟩, ⟨10, (.cmp .leq), [N 0, V 1]⟩, ⟨9, .not, [V 8]⟩, ⟨8, (.cmp .lss), [V 1, V 0]⟩], [V 82, V 63, V 44, V 25, V 12], []⟩
def Wl (al : List A) : Nat := ((gi al 0) - ((ge al 1)).int).toNat
theorem UI (e : Nat → A) (H : Ab T e L9.defs) (hp : (Day.VQ (e 1) && Day.Y3 (e 3).int ((e 1)).int (e 0).int (e 7)) = true) :
  ((e 82).bool = true ∧ (e 63).bool = true ∧ (e 44).bool = true ∧ (e 25).bool = true ∧ (e 12).bool = true) ∧ ((e 8).bool = true → (Day.VQ (e 89) && Day.Y3 (e 71).int ((e 89)).int (e 0).int (e 88)) = true ∧ (Day.Y5 (e 71).int ((e 89)).int (e 0).int = Day.Y5 (e 3).int ((e 1)).int (e 0).int ∧ Day.Y4 (e 2).str (e 71).int ((e 89)).int (e 0).int (e 88) = Day.Y4 (e 2).str (e 3).int ((e 1)).int (e 0).int (e 7)) ∧ ((e 0).int - ((e 89)).int).toNat < ((e 0).int - ((e 1)).int).toNat) ∧ ((e 91).bool = true → (e 3).int = Day.Y5 (e 3).int ((e 1)).int (e 0).int ∧ (e 7) = Day.Y4 (e 2).str (e 3).int ((e 1)).int (e 0).int (e 7)) := by
 simp only [L9, Ab, Def.q, BI, L.Ak, L.Aw, L.AS, L.AV, L.ev, A.Ai, A.Ao, A.AF, A.AT, List.map_cons, List.map_nil, Nat.zero_add, Nat.add_zero, and_true, true_and, Nat.reduceAdd, Nat.one_mul] at H
 simp only [D0, Ee, CW, Bg, Ef, Ey, BV, Fq, and_true, true_and] at H
 revert H
 simp only [and_imp]
 rintro q91 q90 q89 k89 q88 q87 q86 k86 q85 q84 - q83 - q82 q81 q80 q79 q78 - q77 q76 q75 q74 q73 q72 q71 - q70 q69 k69 q68 q67 - q66 q65 - q64 - q63 q62 q61 q60 q59 q58 - q57 q56 q55 q54 q53 q52 q51 - q50 - q49 q48 - q47 q46 - q45 - q44 q43 q42 q41 q40 - q39 q38 q37 q36 q35 q34 q33 - q32 q31 q30 q29 k29 q28 q27 - q26 - q25 q24 q23 q22 q21 - q20 q19 q18 q17 q16 q15 q14 q13 - q12 q11 q10 q9 q8
 unfold KW at k29 k69 k86 k89
 generalize (e 0).int = x0, e 1 = x1, (e 2).str = x2, (e 3).int = x3, (e 4).int = x4, (e 5).int = x5, (e 6).int = x6, e 7 = x7, (e 8).bool = v8, (e 9).bool = v9, (e 10).bool = v10, (e 11).bool = v11, (e 12).bool = v12, (e 13).int = v13, (e 14).int = v14, (e 15).bool = v15, (e 16).bool = v16, (e 17).bool = v17, (e 18).bool = v18, (e 19).bool = v19, (e 20).bool = v20, (e 21).int = v21, (e 22).bool = v22, (e 23).bool = v23, (e 24).bool = v24, (e 25).bool = v25, (e 26).int = v26, (e 27).int = v27, (e 28).bool = v28, (e 29).int = v29, (e 30).bool = v30, e 31 = v31, e 32 = v32, (e 33).int = v33, (e 34).bool = v34, (e 35).bool = v35, (e 36).bool = v36, (e 37).bool = v37, (e 38).bool = v38, (e 39).bool = v39, (e 40).int = v40, (e 41).bool = v41, (e 42).bool = v42, (e 43).bool = v43, (e 44).bool = v44, (e 45).int = v45, (e 46).int = v46, (e 47).bool = v47, (e 48).int = v48, (e 49).bool = v49, (e 50).int = v50, (e 51).int = v51, (e 52).bool = v52, (e 53).bool = v53, (e 54).bool = v54, (e 55).bool = v55, (e 56).bool = v56, (e 57).bool = v57, (e 58).int = v58, (e 59).int = v59, (e 60).bool = v60, (e 61).bool = v61, (e 62).bool = v62, (e 63).bool = v63, (e 64).int = v64, (e 65).int = v65, (e 66).bool = v66, (e 67).int = v67, (e 68).bool = v68, (e 69).int = v69, e 70 = v70, (e 71).int = v71, (e 72).bool = v72, (e 73).bool = v73, (e 74).bool = v74, (e 75).bool = v75, (e 76).bool = v76, (e 77).bool = v77, (e 78).int = v78, (e 79).bool = v79, (e 80).bool = v80, (e 81).bool = v81, (e 82).bool = v82, (e 83).int = v83, (e 84).int = v84, (e 85).bool = v85, (e 86).int = v86, (e 87).bool = v87, e 88 = v88, (e 89).int = v89, (e 90).bool = v90, (e 91).bool = v91 at *
 rw [k86] at q88
 rw [k69] at q70
 rw [k29] at q32
 rw [k89]
 have hk := Day.Xw (Bool.and_eq_true_iff.1 hp).1
 by_cases h : x1.int < x0
 ·obtain ⟨t0, t1, i0, n1, st⟩ := Day.Abd (s := x2) (Bool.and_eq_true_iff.1 hp).2 h
  have t : v8 = true := by rw [q8]; exact decide_eq_true h
  obtain ⟨w13, o25, e29⟩ := Day.Ox (by omega) (by omega) q13 q14 q15 q16 q18 q20 q21 q22 q23 q24 q25 q26 q27 q29
  obtain ⟨w33, o44, e48⟩ := Day.Ox (by omega) (by omega) q33 q14 q34 q35 q37 q39 q40 q41 q42 q43 q44 q45 q46 q48
  rw [show v59 = v14 by rw [q59, q14]] at q61
  obtain ⟨w51, o63, e67⟩ := Day.Ox (by omega) (by omega) q51 q14 q52 q53 q55 q57 q58 q60 q61 q62 q63 q64 q65 q67
  obtain ⟨w71, o82, e86⟩ := Day.Ox (by omega) (by omega) q71 q59 q72 q73 q75 q77 q78 q79 q80 q81 q82 q83 q84 q86
  have wn : v89 = x1.int + 1 := by rw [q89]; exact wrap64 (by omega) (by omega)
  rw [t] at e29 e48 e67 e86
  simp only [if_true] at e29 e48 e67 e86
  rw [w33] at w51
  rw [w51] at w71
  rw [w13] at e48
  rw [w33, w13] at e67
  rw [w51, w13] at e86
  have e69 : v69 = Day.J3 x2 (x3 + 1) := by
   rw [Day.Aar (by rw [e48]; exact Day.Az _ _) (by rw [e67]; exact Day.Az _ _) q50 q69, e48, e67]
   rfl
  obtain ⟨s1, s2, s3, s4⟩ := st v88 (by rw [q88, q70, q32, q31, ← hk, e29, e69, e86, show x3 + 1 + 1 + 1 = x3 + 3 by omega]; rfl)
  rw [wn, w71, w13, show x3 + 1 + 1 + 1 + 1 = x3 + 4 by omega]
  refine ⟨⟨o82, o63, o44, o25, by rw [q12]; exact Day.BF (by rw [q11, q10, t]; simp; omega)⟩, fun _ => ⟨Bool.and_eq_true_iff.2 ⟨rfl, s1⟩, ⟨s2, s3⟩, s4⟩, fun hh => ?_⟩
  rw [q91, q90, t] at hh
  cases hh
 ·obtain ⟨e1, e2⟩ := Day.Acj (s := x2) (Bool.and_eq_true_iff.1 hp).2 h
  have t : v8 = false := by rw [q8]; exact decide_eq_false h
  refine ⟨by simp [q82, q63, q44, q25, q12, q77, q76, q75, q57, q56, q55, q39, q38, q37, q20, q19, q18, t], fun hh => ?_, fun _ => ⟨e1.symm, e2.symm⟩⟩
  rw [t] at hh
  cases hh
theorem Wm (as : List A) (e : Nat → A) (h1 : as = (List.range 8).map e) (h2 : (IV as).1 = true) (H : Ab T e L9.defs) : Bj e L9.obs ∧
   (∀ pc ls, some (V 8, [V 0, V 89, V 2, V 71, V 4, V 5, V 6, V 88]) = some (pc, ls) → (pc.ev e).bool = true → (IV (ls.map (L.ev e))).1 = true ∧ (IV (ls.map (L.ev e))).2 = (IV as).2 ∧ Wl (ls.map (L.ev e)) < Wl as) ∧
   ∀ x ∈ ([(V 91, [some (V 3), some (V 7)])] : List (L × List (Option L))), (x.1.ev e).bool = true → ∀ (j : Nat) l, x.2[j]? = some (some l) → D6 (Cd.tags.getD j .any) (l.ev e) ((IV as).2.getD j (.i 0)) := by
 subst h1
 obtain ⟨ho, h⟩ := UI e H h2
 refine ⟨⟨ho.1, ho.2.1, ho.2.2.1, ho.2.2.2.1, ho.2.2.2.2, trivial⟩, fun pc ls hb hpc => ?_, ?_⟩
 ·injection hb with hb
  injection hb with h3 h4
  subst h3 h4
  have h := h.1 hpc
  refine ⟨h.1, ?_, h.2.2⟩
  have h5 := h.2.1
  obtain ⟨z0, z1⟩ := h5
  exact (A5 z0 (Fw z1 rfl))
 ·intro x hx hpc j l hj
  simp only [List.mem_cons, List.not_mem_nil, or_false] at hx
  rcases hx with rfl
  ·have h := h.2 hpc
   obtain ⟨z0, z1⟩ := h
   match j, hj with
   | 0, hj => cases hj; exact z0
   | 1, hj => cases hj; exact z1
   | _ + 2, hj => cases hj
def Cs : Lp := ⟨20, [false, true, false, true, true], 1231, 9, 2, 5, ⟨Ez 25 [(0, .pv (.one (.k (.ptr 1 0)))), (1, .pv (.one (.k (.int .i64 (V 0))))), (2, .pv (.one (.clo 21 [] []))), (6, .pv (.one (.k (.nilslc)))), (7, .pv (.one (.k (.lsl 4 (V 0))))), (9, .pv (.one (.k (.int .i64 (V 0))))), (10, .pv (.one (.k (.lsl 4 (V 0))))), (11, .pv (.one (.k (.lsl 4 (V 0))))), (12, .pv (.one (.k (.int .i64 (V 0))))), (13, .pv (.one (.k (.int .i64 (V 1)))))], [⟨true, 34, 31, [.k (.int .i64 (N 0)), .k (.nilslc), .k (.int .i64 (N 0)), .k (.int .i64 (N 0)), .k (.bool (B false)), .k (.nilslc), .k (.int .i64 (N 0)), .k (.int .i64 (N 0)), .k (.int .i64 (N 0)), .k (.int .i64 (N 0)), .k (.int .i64 (N 0)), .k (.int .i64 (N 0)), .k (.int .i64 (N 0)), .k (.int .i64 (N 0)), .k (.int .i64 (N 0)), .k (.int .i64 (N 0)), .k (.int .i64 (N 0)), .k (.int .i64 (N 0)), .k (.int .i64 (N 0)), .k (.int .i64 (N 0)), .k (.int .i64 (N 0)), .k (.int .i64 (N 0)), .k (.int .i64 (N 0)), .k (.int .i64 (N 0)), .k (.int .i64 (N 0)), .k (.int .i64 (N 0)), .k (.int .i64 (N 0)), .k (.int .i64 (N 0)), .k (.int .i64 (N 0)), .k (.int .i64 (N 0)), .k (.nilslc)], none⟩, ⟨true, 46, 2, [.k (.str (V 2)), .k (.int .i64 (V 3))], none⟩, ⟨true, 34, 31, [.k (.int .i64 (V 0)), .k (.nilslc), .k (.int .i64 (V 4)), .k (.int .i64 (V 5)), .k (.bool (V 6)), .k (.lsl 3 (V 0)), .k (.int .i64 (N 0)), .k (.int .i64 (N 0)), .k (.int .i64 (N 0)), .k (.int .i64 (N 0)), .k (.int .i64 (N 0)), .k (.int .i64 (N 0)), .k (.int .i64 (N 0)), .k (.int .i64 (N 0)), .k (.int .i64 (N 0)), .k (.int .i64 (N 0)), .k (.int .i64 (N 0)), .k (.int .i64 (N 0)), .k (.int .i64 (N 0)), .k (.int .i64 (N 0)), .k (.int .i64 (N 0)), .k (.int .i64 (N 0)), .k (.int .i64 (N 0)), .k (.int .i64 (N 0)), .k (.int .i64 (N 0)), .k (.int .i64 (N 0)), .k (.int .i64 (N 0)), .k (.int .i64 (N 0)), .k (.int .i64 (N 0)), .k (.int .i64 (N 0)), .k (.nilslc)], none⟩, ⟨false, 0, 0, [], some ⟨true, 76, [.int .i64, .int .i64, .int .i64, .int .i64], V 7, V 0⟩⟩, ⟨false, 0, 0, [], some ⟨true, 3, [.int .i64], V 8, V 0⟩⟩], B true⟩, [(.exit 0, ⟨Ez 25 [(1, .pv (.one (.k (.int .i64 (V 0))))), (6, .pv (.one (.k (.nilslc)))), (7, .pv (.one (.k (.lsl 4 (V 0))))), (9, .pv (.one (.k (.int .i64 (V 0))))), (10, .pv (.one (.k (.lsl 4 (V 0))))), (11, .pv (.one (.k (.lsl 4 (V 0)))))], [⟨true, 34, 31, [.k (.int .i64 (N 0)), .k (.nilslc), .k (.int .i64 (N 0)), .k (.int .i64 (N 0)), .k (.bool (B false)), .k (.nilslc), .k (.int .i64 (N 0)), .k (.int .i64 (N 0)), .k (.int .i64 (N 0)), .k (.int .i64 (N 0)), .k (.int .i64 (N 0)), .k (.int .i64 (N 0)), .k (.int .i64 (N 0)), .k (.int .i64 (N 0)), .k (.int .i64 (N 0)), .k (.int .i64 (N 0)), .k (.int .i64 (N 0)), .k (.int .i64 (N 0)), .k (.int .i64 (N 0)), .k (.int .i64 (N 0)), .k (.int .i64 (N 0)), .k (.int .i64 (N 0)), .k (.int .i64 (N 0)), .k (.int .i64 (N 0)), .k (.int .i64 (N 0)), .k (.int .i64 (N 0)), .k (.int .i64 (N 0)), .k (.int .i64 (N 0)), .k (.int .i64 (N 0)), .k (.int .i64 (N 0)), .k (.nilslc)], none⟩, ⟨true, 46, 2, [.k (.str (V 2)), .k (.int .i64 (V 9))], none⟩, ⟨true, 34, 31, [.k (.int .i64 (V 0)), .k (.nilslc), .k (.int .i64 (V 4)), .k (.int .i64 (V 5)), .k (.bool (V 6)), .k (.lsl 3 (V 0)), .k (.int .i64 (N 0)), .k (.int .i64 (N 0)), .k (.int .i64 (N 0)), .k (.int .i64 (N 0)), .k (.int .i64 (N 0)), .k (.int .i64 (N 0)), .k (.int .i64 (N 0)), .k (.int .i64 (N 0)), .k (.int .i64 (N 0)), .k (.int .i64 (N 0)), .k (.int .i64 (N 0)), .k (.int .i64 (N 0)), .k (.int .i64 (N 0)), .k (.int .i64 (N 0)), .k (.int .i64 (N 0)), .k (.int .i64 (N 0)), .k (.int .i64 (N 0)), .k (.int .i64 (N 0)), .k (.int .i64 (N 0)), .k (.int .i64 (N 0)), .k (.int .i64 (N 0)), .k (.int .i64 (N 0)), .k (.int .i64 (N 0)), .k (.int .i64 (N 0)), .k (.nilslc)], none⟩, ⟨false, 0, 0, [], some ⟨true, 76, [.int .i64, .int .i64, .int .i64, .int .i64], V 7, V 0⟩⟩, ⟨false, 0, 0, [], some ⟨true, 3, [.int .i64], V 10, V 0⟩⟩], B true⟩)], [true, false, true, false, true, true, true, true, false], [.i, .any]⟩
def Ma : G := ⟨34, [⟨33, (.ar .add .i64), [V 1, N 1]⟩, ⟨32, (.pset 0 1), [V 8, V 1, V 27]⟩, ⟨31, .imp, [V 9, V 30]⟩, ⟨30, .and, [V 29, V 9]⟩, ⟨29, (.cmp .leq), [N 0, V 1]⟩, ⟨28, .iteB, [V 18, V 18, V 17]⟩, ⟨27, .iteI, [V 18, V 25, N 0]⟩, ⟨26, .not, [V 18]⟩, ⟨25, (.conv .i64), [V 24]⟩, ⟨24, .sget, [V 2, V 19]⟩, ⟨23, .imp, [V 18, V 22]⟩, ⟨22, .and, [V 20, V 21]⟩, ⟨21, (.cmp .lss), [V 19, V 12]⟩, ⟨20, (.cmp .leq), [N 0, V 19]⟩, ⟨19, (.ar .sub .i64), [V 11, N 1]⟩, ⟨18, .and, [V 14, V 16]⟩, ⟨17, .and, [V 13, V 15]⟩, ⟨16, .and, [V 9, V 14]⟩, ⟨15, .and, [V 9, V 13]⟩, ⟨14, .not, [V 13]⟩, ⟨13, (.cmp .gtr), [V 11, V 12]⟩, ⟨12, .slen, [V 2]⟩, ⟨11, (.ar .add .i64), [V 3, N 1]⟩, ⟨10, .not, [V 9]⟩, ⟨9, (.cmp .lss), [V 1, V 0]⟩], [V 31, V 23], []⟩
def Wn (al : List A) : Nat := ((gi al 0) - (gi al 1)).toNat
theorem UJ (e : Nat → A) (H : Ab T e Ma.defs) (hp : (Day.Kn (e 3).int (e 1).int (e 0).int (e 8)) = true) :
  ((e 31).bool = true ∧ (e 23).bool = true) ∧ ((e 9).bool = true → (Day.Kn (e 11).int (e 33).int (e 0).int (e 32)) = true ∧ (Day.H2 (e 11).int (e 33).int (e 0).int = Day.H2 (e 3).int (e 1).int (e 0).int ∧ Day.H0 (e 2).str 0 (e 11).int (e 33).int (e 0).int (e 32) = Day.H0 (e 2).str 0 (e 3).int (e 1).int (e 0).int (e 8)) ∧ ((e 0).int - (e 33).int).toNat < ((e 0).int - (e 1).int).toNat) ∧ ((e 10).bool = true → (e 3).int = Day.H2 (e 3).int (e 1).int (e 0).int ∧ (e 8) = Day.H0 (e 2).str 0 (e 3).int (e 1).int (e 0).int (e 8)) := by
 simp only [Ma, Ab, Def.q, BI, L.Ak, L.Aw, L.AS, L.AV, L.ev, A.Ai, A.Ao, A.AF, A.AT, List.map_cons, List.map_nil, Nat.zero_add, Nat.add_zero, and_true, true_and, Nat.reduceAdd, Nat.one_mul] at H
 simp only [D0, Ee, CW, Bg, Ef, Ey, BV, Fq, and_true, true_and] at H
 obtain ⟨⟨q33, -⟩, q32, q31, q30, q29, q28, ⟨q27, k27⟩, q26, ⟨q25, -⟩, ⟨q24, -⟩, q23, q22, q21, q20, ⟨q19, -⟩, q18, q17, q16, q15, q14, q13, q12, ⟨q11, -⟩, q10, q9⟩ := H
 unfold KW at k27
 generalize (e 0).int = x0, (e 1).int = x1, (e 2).str = x2, (e 3).int = x3, (e 4).int = x4, (e 5).int = x5, (e 6).int = x6, (e 7).int = x7, e 8 = x8, (e 9).bool = v9, (e 10).bool = v10, (e 11).int = v11, (e 12).int = v12, (e 13).bool = v13, (e 14).bool = v14, (e 15).bool = v15, (e 16).bool = v16, (e 17).bool = v17, (e 18).bool = v18, (e 19).int = v19, (e 20).bool = v20, (e 21).bool = v21, (e 22).bool = v22, (e 23).bool = v23, (e 24).int = v24, (e 25).int = v25, (e 26).bool = v26, (e 27).int = v27, (e 28).bool = v28, (e 29).bool = v29, (e 30).bool = v30, (e 31).bool = v31, e 32 = v32, (e 33).int = v33 at *
 rw [k27] at q32
 by_cases h : x1 < x0
 ·obtain ⟨t0, t1, i0, n1, l1, st⟩ := Day.JW (s := x2) (m := 0) hp h
  have t : v9 = true := by rw [q9]; exact decide_eq_true h
  have r := Day.Az x2 x3
  obtain ⟨w11, o23, e27⟩ := Day.Ox (by omega) (by omega) q11 q12 q13 q14 q16 q18 q19 q20 q21 q22 q23 q24 q25 q27
  have wn : v33 = x1 + 1 := by rw [q33]; exact wrap64 (by omega) (by omega)
  obtain ⟨s1, s2, s3, s4⟩ := st v32 (by rw [q32, e27, t, if_pos rfl]; rfl)
  rw [wn, w11]
  refine ⟨⟨by rw [q31]; exact Day.BF (by rw [q30, q29, t]; simp; omega), o23⟩, fun _ => ⟨s1, ⟨s2, s3⟩, s4⟩, fun hh => ?_⟩
  rw [q10, t] at hh
  cases hh
 ·obtain ⟨e1, e2, e3⟩ := Day.Nc (s := x2) (m := 0) hp h
  have t : v9 = false := by rw [q9]; exact decide_eq_false h
  refine ⟨by simp [q31, q23, q18, q16, t], fun hh => ?_, fun _ => ⟨e1.symm, e3.symm⟩⟩
  rw [t] at hh
  cases hh
theorem Wo (as : List A) (e : Nat → A) (h1 : as = (List.range 9).map e) (h2 : (IW as).1 = true) (H : Ab T e Ma.defs) : Bj e Ma.obs ∧
   (∀ pc ls, some (V 9, [V 0, V 33, V 2, V 11, V 4, V 5, V 6, V 7, V 32]) = some (pc, ls) → (pc.ev e).bool = true → (IW (ls.map (L.ev e))).1 = true ∧ (IW (ls.map (L.ev e))).2 = (IW as).2 ∧ Wn (ls.map (L.ev e)) < Wn as) ∧
   ∀ x ∈ ([(V 10, [some (V 3), some (V 8)])] : List (L × List (Option L))), (x.1.ev e).bool = true → ∀ (j : Nat) l, x.2[j]? = some (some l) → D6 (Cs.tags.getD j .any) (l.ev e) ((IW as).2.getD j (.i 0)) := by
 subst h1
 obtain ⟨ho, h⟩ := UJ e H h2
 refine ⟨⟨ho.1, ho.2, trivial⟩, fun pc ls hb hpc => ?_, ?_⟩
 ·injection hb with hb
  injection hb with h3 h4
  subst h3 h4
  have h := h.1 hpc
  refine ⟨h.1, ?_, h.2.2⟩
  have h5 := h.2.1
  obtain ⟨z0, z1⟩ := h5
  exact (A5 z0 (Fw z1 rfl))
 ·intro x hx hpc j l hj
  simp only [List.mem_cons, List.not_mem_nil, or_false] at hx
  rcases hx with rfl
  ·have h := h.2 hpc
   obtain ⟨z0, z1⟩ := h
   match j, hj with
   | 0, hj => cases hj; exact z0
   | 1, hj => cases hj; exact z1
   | _ + 2, hj => cases hj
def CL : Lp := ⟨20, [false, true, false, true, true], 1232, 22, 2, 7, ⟨Ez 25 [(0, .pv (.one (.k (.ptr 1 0)))), (1, .pv (.one (.k (.int .i64 (V 0))))), (2, .pv (.one (.clo 21 [] []))), (6, .pv (.one (.k (.nilslc)))), (7, .pv (.one (.k (.lsl 6 (V 0))))), (9, .pv (.one (.k (.int .i64 (V 0))))), (10, .pv (.one (.k (.lsl 6 (V 0))))), (11, .pv (.one (.k (.lsl 6 (V 0))))), (12, .pv (.one (.k (.int .i64 (V 0))))), (13, .pv (.one (.k (.int .i64 (V 1)))))], [⟨true, 34, 31, [.k (.int .i64 (N 0)), .k (.nilslc), .k (.int .i64 (N 0)), .k (.int .i64 (N 0)), .k (.bool (B false)), .k (.nilslc), .k (.int .i64 (N 0)), .k (.int .i64 (N 0)), .k (.int .i64 (N 0)), .k (.int .i64 (N 0)), .k (.int .i64 (N 0)), .k (.int .i64 (N 0)), .k (.int .i64 (N 0)), .k (.int .i64 (N 0)), .k (.int .i64 (N 0)), .k (.int .i64 (N 0)), .k (.int .i64 (N 0)), .k (.int .i64 (N 0)), .k (.int .i64 (N 0)), .k (.int .i64 (N 0)), .k (.int .i64 (N 0)), .k (.int .i64 (N 0)), .k (.int .i64 (N 0)), .k (.int .i64 (N 0)), .k (.int .i64 (N 0)), .k (.int .i64 (N 0)), .k (.int .i64 (N 0)), .k (.int .i64 (N 0)), .k (.int .i64 (N 0)), .k (.int .i64 (N 0)), .k (.nilslc)], none⟩, ⟨true, 46, 2, [.k (.str (V 2)), .k (.int .i64 (V 3))], none⟩, ⟨true, 34, 31, [.k (.int .i64 (V 0)), .k (.nilslc), .k (.int .i64 (V 4)), .k (.int .i64 (V 5)), .k (.bool (V 6)), .k (.lsl 3 (V 0)), .k (.int .i64 (V 7)), .k (.int .i64 (V 8)), .k (.int .i64 (V 9)), .k (.int .i64 (V 10)), .k (.int .i64 (V 11)), .k (.int .i64 (V 12)), .k (.int .i64 (V 13)), .k (.int .i64 (V 14)), .k (.int .i64 (V 15)), .k (.int .i64 (V 16)), .k (.int .i64 (V 17)), .k (.int .i64 (V 18)), .k (.int .i64 (N 0)), .k (.int .i64 (N 0)), .k (.int .i64 (N 0)), .k (.int .i64 (N 0)), .k (.int .i64 (N 0)), .k (.int .i64 (N 0)), .k (.int .i64 (N 0)), .k (.int .i64 (N 0)), .k (.int .i64 (N 0)), .k (.int .i64 (N 0)), .k (.int .i64 (N 0)), .k (.int .i64 (N 0)), .k (.nilslc)], none⟩, ⟨false, 0, 0, [], some ⟨true, 76, [.int .i64, .int .i64, .int .i64, .int .i64], V 19, V 0⟩⟩, ⟨false, 0, 0, [], some ⟨true, 3, [.int .i64], V 20, V 0⟩⟩, ⟨true, 79, 1, [.k (.ptr 2 14), .k (.ptr 2 15), .k (.ptr 2 16), .k (.ptr 2 17)], none⟩, ⟨false, 0, 0, [], some ⟨true, 3, [.int .i64], V 21, V 0⟩⟩], B true⟩, [(.exit 0, ⟨Ez 25 [(1, .pv (.one (.k (.int .i64 (V 0))))), (6, .pv (.one (.k (.nilslc)))), (7, .pv (.one (.k (.lsl 6 (V 0))))), (9, .pv (.one (.k (.int .i64 (V 0))))), (10, .pv (.one (.k (.lsl 6 (V 0))))), (11, .pv (.one (.k (.lsl 6 (V 0)))))], [⟨true, 34, 31, [.k (.int .i64 (N 0)), .k (.nilslc), .k (.int .i64 (N 0)), .k (.int .i64 (N 0)), .k (.bool (B false)), .k (.nilslc), .k (.int .i64 (N 0)), .k (.int .i64 (N 0)), .k (.int .i64 (N 0)), .k (.int .i64 (N 0)), .k (.int .i64 (N 0)), .k (.int .i64 (N 0)), .k (.int .i64 (N 0)), .k (.int .i64 (N 0)), .k (.int .i64 (N 0)), .k (.int .i64 (N 0)), .k (.int .i64 (N 0)), .k (.int .i64 (N 0)), .k (.int .i64 (N 0)), .k (.int .i64 (N 0)), .k (.int .i64 (N 0)), .k (.int .i64 (N 0)), .k (.int .i64 (N 0)), .k (.int .i64 (N 0)), .k (.int .i64 (N 0)), .k (.int .i64 (N 0)), .k (.int .i64 (N 0)), .k (.int .i64 (N 0)), .k (.int .i64 (N 0)), .k (.int .i64 (N 0)), .k (.nilslc)], none⟩, ⟨true, 46, 2, [.k (.str (V 2)), .k (.int .i64 (V 22))], none⟩, ⟨true, 34, 31, [.k (.int .i64 (V 0)), .k (.nilslc), .k (.int .i64 (V 4)), .k (.int .i64 (V 5)), .k (.bool (V 6)), .k (.lsl 3 (V 0)), .k (.int .i64 (V 7)), .k (.int .i64 (V 8)), .k (.int .i64 (V 9)), .k (.int .i64 (V 10)), .k (.int .i64 (V 11)), .k (.int .i64 (V 12)), .k (.int .i64 (V 13)), .k (.int .i64 (V 14)), .k (.int .i64 (V 15)), .k (.int .i64 (V 16)), .k (.int .i64 (V 17)), .k (.int .i64 (V 18)), .k (.int .i64 (N 0)), .k (.int .i64 (N 0)), .k (.int .i64 (N 0)), .k (.int .i64 (N 0)), .k (.int .i64 (N 0)), .k (.int .i64 (N 0)), .k (.int .i64 (N 0)), .k (.int .i64 (N 0)), .k (.int .i64 (N 0)), .k (.int .i64 (N 0)), .k (.int .i64 (N 0)), .k (.int .i64 (N 0)), .k (.nilslc)], none⟩, ⟨false, 0, 0, [], some ⟨true, 76, [.int .i64, .int .i64, .int .i64, .int .i64], V 19, V 0⟩⟩, ⟨false, 0, 0, [], some ⟨true, 3, [.int .i64], V 20, V 0⟩⟩, ⟨true, 79, 1, [.k (.ptr 2 14), .k (.ptr 2 15), .k (.ptr 2 16), .k (.ptr 2 17)], none⟩, ⟨false, 0, 0, [], some ⟨true, 3, [.int .i64], V 23, V 0⟩⟩], B true⟩)], [true, false, true, false, true, true, true, true, true, true, true, true, true, true, true, true, true, true, true, true, true, false], [.i, .any]⟩
def Mb : G := ⟨47, [⟨46, (.ar .add .i64), [V 1, N 1]⟩, ⟨45, (.pset 0 1), [V 21, V 1, V 40]⟩, ⟨44, .imp, [V 22, V 43]⟩, ⟨43, .and, [V 42, V 22]⟩, ⟨42, (.cmp .leq), [N 0, V 1]⟩, ⟨41, .iteB, [V 31, V 31, V 30]⟩, ⟨40, .iteI, [V 31, V 38, N 0]⟩, ⟨39, .not, [V 31]⟩, ⟨38, (.conv .i64), [V 37]⟩, ⟨37, .sget, [V 2, V 32]⟩, ⟨36, .imp, [V 31, V 35]⟩, ⟨35, .and, [V 33, V 34]⟩, ⟨34, (.cmp .lss), [V 32, V 25]⟩, ⟨33, (.cmp .leq), [N 0, V 32]⟩, ⟨32, (.ar .sub .i64), [V 24, N 1]⟩, ⟨31, .and, [V 27, V 29]⟩, ⟨30, .and, [V 26, V 28]⟩, ⟨29, .and, [V 22, V 27]⟩, ⟨28, .and, [V 22, V 26]⟩, ⟨27, .not, [V 26]⟩, ⟨26, (.cmp .gtr), [V 24, V 25]⟩, ⟨25, .slen, [V 2]⟩, ⟨24, (.ar .add .i64), [V 3, N 1]⟩, ⟨23, .not, [V 22]⟩, ⟨22, (.cmp .lss), [V 1, V 0]⟩], [V 44, V 36], []⟩
def Wp (al : List A) : Nat := ((gi al 0) - (gi al 1)).toNat
theorem UK (e : Nat → A) (H : Ab T e Mb.defs) (hp : (Day.Kn (e 3).int (e 1).int (e 0).int (e 21)) = true) :
  ((e 44).bool = true ∧ (e 36).bool = true) ∧ ((e 22).bool = true → (Day.Kn (e 24).int (e 46).int (e 0).int (e 45)) = true ∧ (Day.H2 (e 24).int (e 46).int (e 0).int = Day.H2 (e 3).int (e 1).int (e 0).int ∧ Day.H0 (e 2).str 0 (e 24).int (e 46).int (e 0).int (e 45) = Day.H0 (e 2).str 0 (e 3).int (e 1).int (e 0).int (e 21)) ∧ ((e 0).int - (e 46).int).toNat < ((e 0).int - (e 1).int).toNat) ∧ ((e 23).bool = true → (e 3).int = Day.H2 (e 3).int (e 1).int (e 0).int ∧ (e 21) = Day.H0 (e 2).str 0 (e 3).int (e 1).int (e 0).int (e 21)) := by
 simp only [Mb, Ab, Def.q, BI, L.Ak, L.Aw, L.AS, L.AV, L.ev, A.Ai, A.Ao, A.AF, A.AT, List.map_cons, List.map_nil, Nat.zero_add, Nat.add_zero, and_true, true_and, Nat.reduceAdd, Nat.one_mul] at H
 simp only [D0, Ee, CW, Bg, Ef, Ey, BV, Fq, and_true, true_and] at H
 obtain ⟨⟨q46, -⟩, q45, q44, q43, q42, q41, ⟨q40, k40⟩, q39, ⟨q38, -⟩, ⟨q37, -⟩, q36, q35, q34, q33, ⟨q32, -⟩, q31, q30, q29, q28, q27, q26, q25, ⟨q24, -⟩, q23, q22⟩ := H
 unfold KW at k40
 generalize (e 0).int = x0, (e 1).int = x1, (e 2).str = x2, (e 3).int = x3, (e 4).int = x4, (e 5).int = x5, (e 6).int = x6, (e 7).int = x7, (e 8).int = x8, (e 9).int = x9, (e 10).int = x10, (e 11).int = x11, (e 12).int = x12, (e 13).int = x13, (e 14).int = x14, (e 15).int = x15, (e 16).int = x16, (e 17).int = x17, (e 18).int = x18, (e 19).int = x19, (e 20).int = x20, e 21 = x21, (e 22).bool = v22, (e 23).bool = v23, (e 24).int = v24, (e 25).int = v25, (e 26).bool = v26, (e 27).bool = v27, (e 28).bool = v28, (e 29).bool = v29, (e 30).bool = v30, (e 31).bool = v31, (e 32).int = v32, (e 33).bool = v33, (e 34).bool = v34, (e 35).bool = v35, (e 36).bool = v36, (e 37).int = v37, (e 38).int = v38, (e 39).bool = v39, (e 40).int = v40, (e 41).bool = v41, (e 42).bool = v42, (e 43).bool = v43, (e 44).bool = v44, e 45 = v45, (e 46).int = v46 at *
 rw [k40] at q45
 by_cases h : x1 < x0
 ·obtain ⟨t0, t1, i0, n1, l1, st⟩ := Day.JW (s := x2) (m := 0) hp h
  have t : v22 = true := by rw [q22]; exact decide_eq_true h
  have r := Day.Az x2 x3
  obtain ⟨w24, o36, e40⟩ := Day.Ox (by omega) (by omega) q24 q25 q26 q27 q29 q31 q32 q33 q34 q35 q36 q37 q38 q40
  have wn : v46 = x1 + 1 := by rw [q46]; exact wrap64 (by omega) (by omega)
  obtain ⟨s1, s2, s3, s4⟩ := st v45 (by rw [q45, e40, t, if_pos rfl]; rfl)
  rw [wn, w24]
  refine ⟨⟨by rw [q44]; exact Day.BF (by rw [q43, q42, t]; simp; omega), o36⟩, fun _ => ⟨s1, ⟨s2, s3⟩, s4⟩, fun hh => ?_⟩
  rw [q23, t] at hh
  cases hh
 ·obtain ⟨e1, e2, e3⟩ := Day.Nc (s := x2) (m := 0) hp h
  have t : v22 = false := by rw [q22]; exact decide_eq_false h
  refine ⟨by simp [q44, q36, q31, q29, t], fun hh => ?_, fun _ => ⟨e1.symm, e3.symm⟩⟩
  rw [t] at hh
  cases hh
theorem Wq (as : List A) (e : Nat → A) (h1 : as = (List.range 22).map e) (h2 : (IX as).1 = true) (H : Ab T e Mb.defs) : Bj e Mb.obs ∧
   (∀ pc ls, some (V 22, [V 0, V 46, V 2, V 24, V 4, V 5, V 6, V 7, V 8, V 9, V 10, V 11, V 12, V 13, V 14, V 15, V 16, V 17, V 18, V 19, V 20, V 45]) = some (pc, ls) → (pc.ev e).bool = true → (IX (ls.map (L.ev e))).1 = true ∧ (IX (ls.map (L.ev e))).2 = (IX as).2 ∧ Wp (ls.map (L.ev e)) < Wp as) ∧
   ∀ x ∈ ([(V 23, [some (V 3), some (V 21)])] : List (L × List (Option L))), (x.1.ev e).bool = true → ∀ (j : Nat) l, x.2[j]? = some (some l) → D6 (CL.tags.getD j .any) (l.ev e) ((IX as).2.getD j (.i 0)) := by
 subst h1
 obtain ⟨ho, h⟩ := UK e H h2
 refine ⟨⟨ho.1, ho.2, trivial⟩, fun pc ls hb hpc => ?_, ?_⟩
 ·injection hb with hb
  injection hb with h3 h4
  subst h3 h4
  have h := h.1 hpc
  refine ⟨h.1, ?_, h.2.2⟩
  have h5 := h.2.1
  obtain ⟨z0, z1⟩ := h5
  exact (A5 z0 (Fw z1 rfl))
 ·intro x hx hpc j l hj
  simp only [List.mem_cons, List.not_mem_nil, or_false] at hx
  rcases hx with rfl
  ·have h := h.2 hpc
   obtain ⟨z0, z1⟩ := h
   match j, hj with
   | 0, hj => cases hj; exact z0
   | 1, hj => cases hj; exact z1
   | _ + 2, hj => cases hj
def C3 : Lp := ⟨20, [false, true, false, true, true], 1233, 8, 2, 4, ⟨Ez 25 [(0, .pv (.one (.k (.ptr 1 0)))), (1, .pv (.one (.k (.int .i64 (V 0))))), (2, .pv (.one (.clo 21 [] []))), (6, .pv (.one (.k (.nilslc)))), (7, .pv (.one (.k (.lsl 3 (V 0))))), (9, .pv (.one (.k (.int .i64 (V 0))))), (10, .pv (.one (.k (.lsl 3 (V 0))))), (11, .pv (.one (.k (.lsl 3 (V 0))))), (12, .pv (.one (.k (.int .i64 (V 0))))), (13, .pv (.one (.k (.int .i64 (V 1)))))], [⟨true, 34, 31, [.k (.int .i64 (N 0)), .k (.nilslc), .k (.int .i64 (N 0)), .k (.int .i64 (N 0)), .k (.bool (B false)), .k (.nilslc), .k (.int .i64 (N 0)), .k (.int .i64 (N 0)), .k (.int .i64 (N 0)), .k (.int .i64 (N 0)), .k (.int .i64 (N 0)), .k (.int .i64 (N 0)), .k (.int .i64 (N 0)), .k (.int .i64 (N 0)), .k (.int .i64 (N 0)), .k (.int .i64 (N 0)), .k (.int .i64 (N 0)), .k (.int .i64 (N 0)), .k (.int .i64 (N 0)), .k (.int .i64 (N 0)), .k (.int .i64 (N 0)), .k (.int .i64 (N 0)), .k (.int .i64 (N 0)), .k (.int .i64 (N 0)), .k (.int .i64 (N 0)), .k (.int .i64 (N 0)), .k (.int .i64 (N 0)), .k (.int .i64 (N 0)), .k (.int .i64 (N 0)), .k (.int .i64 (N 0)), .k (.nilslc)], none⟩, ⟨true, 46, 2, [.k (.str (V 2)), .k (.int .i64 (V 3))], none⟩, ⟨true, 34, 31, [.k (.int .i64 (V 0)), .k (.nilslc), .k (.int .i64 (V 4)), .k (.int .i64 (V 5)), .k (.bool (V 6)), .k (.nilslc), .k (.int .i64 (N 0)), .k (.int .i64 (N 0)), .k (.int .i64 (N 0)), .k (.int .i64 (N 0)), .k (.int .i64 (N 0)), .k (.int .i64 (N 0)), .k (.int .i64 (N 0)), .k (.int .i64 (N 0)), .k (.int .i64 (N 0)), .k (.int .i64 (N 0)), .k (.int .i64 (N 0)), .k (.int .i64 (N 0)), .k (.int .i64 (N 0)), .k (.int .i64 (N 0)), .k (.int .i64 (N 0)), .k (.int .i64 (N 0)), .k (.int .i64 (N 0)), .k (.int .i64 (N 0)), .k (.int .i64 (N 0)), .k (.int .i64 (N 0)), .k (.int .i64 (N 0)), .k (.int .i64 (N 0)), .k (.int .i64 (N 0)), .k (.int .i64 (N 0)), .k (.nilslc)], none⟩, ⟨false, 0, 0, [], some ⟨true, 3, [.int .i64], V 7, V 0⟩⟩], B true⟩, [(.exit 0, ⟨Ez 25 [(1, .pv (.one (.k (.int .i64 (V 0))))), (6, .pv (.one (.k (.nilslc)))), (7, .pv (.one (.k (.lsl 3 (V 0))))), (9, .pv (.one (.k (.int .i64 (V 0))))), (10, .pv (.one (.k (.lsl 3 (V 0))))), (11, .pv (.one (.k (.lsl 3 (V 0)))))], [⟨true, 34, 31, [.k (.int .i64 (N 0)), .k (.nilslc), .k (.int .i64 (N 0)), .k (.int .i64 (N 0)), .k (.bool (B false)), .k (.nilslc), .k (.int .i64 (N 0)), .k (.int .i64 (N 0)), .k (.int .i64 (N 0)), .k (.int .i64 (N 0)), .k (.int .i64 (N 0)), .k (.int .i64 (N 0)), .k (.int .i64 (N 0)), .k (.int .i64 (N 0)), .k (.int .i64 (N 0)), .k (.int .i64 (N 0)), .k (.int .i64 (N 0)), .k (.int .i64 (N 0)), .k (.int .i64 (N 0)), .k (.int .i64 (N 0)), .k (.int .i64 (N 0)), .k (.int .i64 (N 0)), .k (.int .i64 (N 0)), .k (.int .i64 (N 0)), .k (.int .i64 (N 0)), .k (.int .i64 (N 0)), .k (.int .i64 (N 0)), .k (.int .i64 (N 0)), .k (.int .i64 (N 0)), .k (.int .i64 (N 0)), .k (.nilslc)], none⟩, ⟨true, 46, 2, [.k (.str (V 2)), .k (.int .i64 (V 8))], none⟩, ⟨true, 34, 31, [.k (.int .i64 (V 0)), .k (.nilslc), .k (.int .i64 (V 4)), .k (.int .i64 (V 5)), .k (.bool (V 6)), .k (.nilslc), .k (.int .i64 (N 0)), .k (.int .i64 (N 0)), .k (.int .i64 (N 0)), .k (.int .i64 (N 0)), .k (.int .i64 (N 0)), .k (.int .i64 (N 0)), .k (.int .i64 (N 0)), .k (.int .i64 (N 0)), .k (.int .i64 (N 0)), .k (.int .i64 (N 0)), .k (.int .i64 (N 0)), .k (.int .i64 (N 0)), .k (.int .i64 (N 0)), .k (.int .i64 (N 0)), .k (.int .i64 (N 0)), .k (.int .i64 (N 0)), .k (.int .i64 (N 0)), .k (.int .i64 (N 0)), .k (.int .i64 (N 0)), .k (.int .i64 (N 0)), .k (.int .i64 (N 0)), .k (.int .i64 (N 0)), .k (.int .i64 (N 0)), .k (.int .i64 (N 0)), .k (.nilslc)], none⟩, ⟨false, 0, 0, [], some ⟨true, 3, [.int .i64], V 9, V 0⟩⟩], B true⟩)], [true, false, true, false, true, true, true, false], [.i, .any]⟩
def Mc : G := ⟨33, [⟨32, (.ar .add .i64), [V 1, N 1]⟩, ⟨31, (.pset 0 1), [V 7, V 1, V 26]⟩, ⟨30, .imp, [V 8, V 29]⟩, ⟨29, .and, [V 28, V 8]⟩, ⟨28, (.cmp .leq), [N 0, V 1]⟩, ⟨27, .iteB, [V 17, V 17, V 16]⟩, ⟨26, .iteI, [V 17, V 24, N 0]⟩, ⟨25, .not, [V 17]⟩, ⟨24, (.conv .i64), [V 23]⟩, ⟨23, .sget, [V 2, V 18]⟩, ⟨22, .imp, [V 17, V 21]⟩, ⟨21, .and, [V 19, V 20]⟩, ⟨20, (.cmp .lss), [V 18, V 11]⟩, ⟨19, (.cmp .leq), [N 0, V 18]⟩, ⟨18, (.ar .sub .i64), [V 10, N 1]⟩, ⟨17, .and, [V 13, V 15]⟩, ⟨16, .and, [V 12, V 14]⟩, ⟨15, .and, [V 8, V 13]⟩, ⟨14, .and, [V 8, V 12]⟩, ⟨13, .not, [V 12]⟩, ⟨12, (.cmp .gtr), [V 10, V 11]⟩, ⟨11, .slen, [V 2]⟩, ⟨10, (.ar .add .i64), [V 3, N 1]⟩, ⟨9, .not, [V 8]⟩, ⟨8, (.cmp .lss), [V 1, V 0]⟩], [V 30, V 22], []⟩
def Ws (al : List A) : Nat := ((gi al 0) - (gi al 1)).toNat
theorem UL (e : Nat → A) (H : Ab T e Mc.defs) (hp : (Day.Kn (e 3).int (e 1).int (e 0).int (e 7)) = true) :
  ((e 30).bool = true ∧ (e 22).bool = true) ∧ ((e 8).bool = true → (Day.Kn (e 10).int (e 32).int (e 0).int (e 31)) = true ∧ (Day.H2 (e 10).int (e 32).int (e 0).int = Day.H2 (e 3).int (e 1).int (e 0).int ∧ Day.H0 (e 2).str 0 (e 10).int (e 32).int (e 0).int (e 31) = Day.H0 (e 2).str 0 (e 3).int (e 1).int (e 0).int (e 7)) ∧ ((e 0).int - (e 32).int).toNat < ((e 0).int - (e 1).int).toNat) ∧ ((e 9).bool = true → (e 3).int = Day.H2 (e 3).int (e 1).int (e 0).int ∧ (e 7) = Day.H0 (e 2).str 0 (e 3).int (e 1).int (e 0).int (e 7)) := by
 simp only [Mc, Ab, Def.q, BI, L.Ak, L.Aw, L.AS, L.AV, L.ev, A.Ai, A.Ao, A.AF, A.AT, List.map_cons, List.map_nil, Nat.zero_add, Nat.add_zero, and_true, true_and, Nat.reduceAdd, Nat.one_mul] at H
 simp only [D0, Ee, CW, Bg, Ef, Ey, BV, Fq, and_true, true_and] at H
 obtain ⟨⟨q32, -⟩, q31, q30, q29, q28, q27, ⟨q26, k26⟩, q25, ⟨q24, -⟩, ⟨q23, -⟩, q22, q21, q20, q19, ⟨q18, -⟩, q17, q16, q15, q14, q13, q12, q11, ⟨q10, -⟩, q9, q8⟩ := H
 unfold KW at k26
 generalize (e 0).int = x0, (e 1).int = x1, (e 2).str = x2, (e 3).int = x3, (e 4).int = x4, (e 5).int = x5, (e 6).int = x6, e 7 = x7, (e 8).bool = v8, (e 9).bool = v9, (e 10).int = v10, (e 11).int = v11, (e 12).bool = v12, (e 13).bool = v13, (e 14).bool = v14, (e 15).bool = v15, (e 16).bool = v16, (e 17).bool = v17, (e 18).int = v18, (e 19).bool = v19, (e 20).bool = v20, (e 21).bool = v21, (e 22).bool = v22, (e 23).int = v23, (e 24).int = v24, (e 25).bool = v25, (e 26).int = v26, (e 27).bool = v27, (e 28).bool = v28, (e 29).bool = v29, (e 30).bool = v30, e 31 = v31, (e 32).int = v32 at *
 rw [k26] at q31
 by_cases h : x1 < x0
 ·obtain ⟨t0, t1, i0, n1, l1, st⟩ := Day.JW (s := x2) (m := 0) hp h
  have t : v8 = true := by rw [q8]; exact decide_eq_true h
  have r := Day.Az x2 x3
  obtain ⟨w10, o22, e26⟩ := Day.Ox (by omega) (by omega) q10 q11 q12 q13 q15 q17 q18 q19 q20 q21 q22 q23 q24 q26
  have wn : v32 = x1 + 1 := by rw [q32]; exact wrap64 (by omega) (by omega)
  obtain ⟨s1, s2, s3, s4⟩ := st v31 (by rw [q31, e26, t, if_pos rfl]; rfl)
  rw [wn, w10]
  refine ⟨⟨by rw [q30]; exact Day.BF (by rw [q29, q28, t]; simp; omega), o22⟩, fun _ => ⟨s1, ⟨s2, s3⟩, s4⟩, fun hh => ?_⟩
  rw [q9, t] at hh
  cases hh
 ·obtain ⟨e1, e2, e3⟩ := Day.Nc (s := x2) (m := 0) hp h
  have t : v8 = false := by rw [q8]; exact decide_eq_false h
  refine ⟨by simp [q30, q22, q17, q15, t], fun hh => ?_, fun _ => ⟨e1.symm, e3.symm⟩⟩
  rw [t] at hh
  cases hh
theorem Wu (as : List A) (e : Nat → A) (h1 : as = (List.range 8).map e) (h2 : (IY as).1 = true) (H : Ab T e Mc.defs) : Bj e Mc.obs ∧
   (∀ pc ls, some (V 8, [V 0, V 32, V 2, V 10, V 4, V 5, V 6, V 31]) = some (pc, ls) → (pc.ev e).bool = true → (IY (ls.map (L.ev e))).1 = true ∧ (IY (ls.map (L.ev e))).2 = (IY as).2 ∧ Ws (ls.map (L.ev e)) < Ws as) ∧
   ∀ x ∈ ([(V 9, [some (V 3), some (V 7)])] : List (L × List (Option L))), (x.1.ev e).bool = true → ∀ (j : Nat) l, x.2[j]? = some (some l) → D6 (C3.tags.getD j .any) (l.ev e) ((IY as).2.getD j (.i 0)) := by
 subst h1
 obtain ⟨ho, h⟩ := UL e H h2
 refine ⟨⟨ho.1, ho.2, trivial⟩, fun pc ls hb hpc => ?_, ?_⟩
 ·injection hb with hb
  injection hb with h3 h4
  subst h3 h4
  have h := h.1 hpc
  refine ⟨h.1, ?_, h.2.2⟩
  have h5 := h.2.1
  obtain ⟨z0, z1⟩ := h5
  exact (A5 z0 (Fw z1 rfl))
 ·intro x hx hpc j l hj
  simp only [List.mem_cons, List.not_mem_nil, or_false] at hx
  rcases hx with rfl
  ·have h := h.2 hpc
   obtain ⟨z0, z1⟩ := h
   match j, hj with
   | 0, hj => cases hj; exact z0
   | 1, hj => cases hj; exact z1
   | _ + 2, hj => cases hj
def Dg : Lp := ⟨20, [false, true, false, true, true], 1244, 39, 4, 13, ⟨Ez 25 [(0, .pv (.one (.k (.ptr 1 0)))), (1, .pv (.one (.k (.int .i64 (V 0))))), (2, .pv (.one (.clo 21 [] []))), (6, .pv (.one (.k (.nilslc)))), (7, .pv (.one (.k (.lsl 12 (V 0))))), (9, .pv (.one (.k (.int .i64 (V 0))))), (10, .pv (.one (.k (.lsl 12 (V 0))))), (11, .pv (.one (.k (.lsl 12 (V 0))))), (12, .pv (.one (.k (.int .i64 (V 0))))), (13, .pv (.one (.k (.int .i64 (V 1)))))], [⟨true, 34, 31, [.k (.int .i64 (N 0)), .k (.nilslc), .k (.int .i64 (N 0)), .k (.int .i64 (N 0)), .k (.bool (B false)), .k (.nilslc), .k (.int .i64 (N 0)), .k (.int .i64 (N 0)), .k (.int .i64 (N 0)), .k (.int .i64 (N 0)), .k (.int .i64 (N 0)), .k (.int .i64 (N 0)), .k (.int .i64 (N 0)), .k (.int .i64 (N 0)), .k (.int .i64 (N 0)), .k (.int .i64 (N 0)), .k (.int .i64 (N 0)), .k (.int .i64 (N 0)), .k (.int .i64 (N 0)), .k (.int .i64 (N 0)), .k (.int .i64 (N 0)), .k (.int .i64 (N 0)), .k (.int .i64 (N 0)), .k (.int .i64 (N 0)), .k (.int .i64 (N 0)), .k (.int .i64 (N 0)), .k (.int .i64 (N 0)), .k (.int .i64 (N 0)), .k (.int .i64 (N 0)), .k (.int .i64 (N 0)), .k (.nilslc)], none⟩, ⟨true, 46, 2, [.k (.str (V 2)), .k (.int .i64 (V 3))], none⟩, ⟨true, 34, 31, [.k (.int .i64 (V 4)), .k (.lsl 9 (V 5)), .k (.int .i64 (V 6)), .k (.int .i64 (V 7)), .k (.bool (V 8)), .k (.lsl 8 (V 9)), .k (.int .i64 (V 10)), .k (.int .i64 (V 11)), .k (.int .i64 (V 12)), .k (.int .i64 (V 13)), .k (.int .i64 (V 14)), .k (.int .i64 (V 15)), .k (.int .i64 (V 16)), .k (.int .i64 (V 17)), .k (.int .i64 (V 18)), .k (.int .i64 (V 19)), .k (.int .i64 (V 20)), .k (.int .i64 (V 21)), .k (.int .i64 (V 22)), .k (.int .i64 (V 23)), .k (.int .i64 (V 24)), .k (.int .i64 (V 25)), .k (.int .i64 (V 26)), .k (.int .i64 (V 27)), .k (.int .i64 (V 28)), .k (.int .i64 (V 29)), .k (.int .i64 (V 30)), .k (.int .i64 (V 31)), .k (.int .i64 (V 32)), .k (.int .i64 (V 33)), .k (.lsl 10 (V 34))], none⟩, .dead, .dead, .dead, .dead, .dead, ⟨false, 0, 0, [], some ⟨true, 76, [.int .i64, .int .i64, .int .i64, .int .i64], V 35, V 9⟩⟩, ⟨false, 0, 0, [], some ⟨true, 3, [.int .i64], V 36, V 5⟩⟩, ⟨false, 0, 0, [], some ⟨true, 54, [.str, .str, .sl [.int .i64], .int .i64], V 37, V 34⟩⟩, ⟨true, 54, 4, [.k (.str (.s [])), .k (.str (.s [])), .k (.nilslc), .k (.int .i64 (N 0))], none⟩, ⟨false, 0, 0, [], some ⟨true, 3, [.int .i64], V 38, V 0⟩⟩], B true⟩, [(.exit 0, ⟨Ez 25 [(0, .pv (.one (.k (.ptr 1 0)))), (1, .pv (.one (.k (.int .i64 (V 0))))), (2, .pv (.one (.clo 21 [] []))), (6, .pv (.one (.k (.nilslc)))), (7, .pv (.one (.k (.lsl 12 (V 0))))), (9, .pv (.one (.k (.int .i64 (V 0))))), (10, .pv (.one (.k (.lsl 12 (V 0))))), (11, .pv (.one (.k (.lsl 12 (V 0))))), (12, .pv (.one (.k (.int .i64 (V 0))))), (13, .pv (.one (.k (.int .i64 (V 39))))), (14, .pv (.one (.k (.bool (V 40)))))], [⟨true, 34, 31, [.k (.int .i64 (N 0)), .k (.nilslc), .k (.int .i64 (N 0)), .k (.int .i64 (N 0)), .k (.bool (B false)), .k (.nilslc), .k (.int .i64 (N 0)), .k (.int .i64 (N 0)), .k (.int .i64 (N 0)), .k (.int .i64 (N 0)), .k (.int .i64 (N 0)), .k (.int .i64 (N 0)), .k (.int .i64 (N 0)), .k (.int .i64 (N 0)), .k (.int .i64 (N 0)), .k (.int .i64 (N 0)), .k (.int .i64 (N 0)), .k (.int .i64 (N 0)), .k (.int .i64 (N 0)), .k (.int .i64 (N 0)), .k (.int .i64 (N 0)), .k (.int .i64 (N 0)), .k (.int .i64 (N 0)), .k (.int .i64 (N 0)), .k (.int .i64 (N 0)), .k (.int .i64 (N 0)), .k (.int .i64 (N 0)), .k (.int .i64 (N 0)), .k (.int .i64 (N 0)), .k (.int .i64 (N 0)), .k (.nilslc)], none⟩, ⟨true, 46, 2, [.k (.str (V 2)), .k (.int .i64 (V 41))], none⟩, ⟨true, 34, 31, [.k (.int .i64 (V 4)), .k (.lsl 9 (V 5)), .k (.int .i64 (V 6)), .k (.int .i64 (V 7)), .k (.bool (V 8)), .k (.lsl 8 (V 9)), .k (.int .i64 (V 10)), .k (.int .i64 (V 11)), .k (.int .i64 (V 12)), .k (.int .i64 (V 13)), .k (.int .i64 (V 14)), .k (.int .i64 (V 15)), .k (.int .i64 (V 16)), .k (.int .i64 (V 17)), .k (.int .i64 (V 18)), .k (.int .i64 (V 19)), .k (.int .i64 (V 20)), .k (.int .i64 (V 21)), .k (.int .i64 (V 22)), .k (.int .i64 (V 23)), .k (.int .i64 (V 24)), .k (.int .i64 (V 25)), .k (.int .i64 (V 26)), .k (.int .i64 (V 27)), .k (.int .i64 (V 28)), .k (.int .i64 (V 29)), .k (.int .i64 (V 30)), .k (.int .i64 (V 31)), .k (.int .i64 (V 32)), .k (.int .i64 (V 33)), .k (.lsl 10 (V 34))], none⟩, .dead, .dead, .dead, .dead, .dead, ⟨false, 0, 0, [], some ⟨true, 76, [.int .i64, .int .i64, .int .i64, .int .i64], V 35, V 9⟩⟩, ⟨false, 0, 0, [], some ⟨true, 3, [.int .i64], V 36, V 5⟩⟩, ⟨false, 0, 0, [], some ⟨true, 54, [.str, .str, .sl [.int .i64], .int .i64], V 37, V 34⟩⟩, ⟨true, 54, 4, [.k (.str (.s [])), .k (.str (.s [])), .k (.nilslc), .k (.int .i64 (N 0))], none⟩, ⟨false, 0, 0, [], some ⟨true, 3, [.int .i64], V 42, V 0⟩⟩], B true⟩)], [true, false, true, false, true, true, true, true, true, true, true, true, true, true, true, true, true, true, true, true, true, true, true, true, true, true, true, true, true, true, true, true, true, true, true, true, true, true, false], [.i, .b, .i, .any]⟩
def Md : G := ⟨64, [⟨63, (.ar .add .i64), [V 1, N 1]⟩, ⟨62, (.pset 0 1), [V 38, V 1, V 57]⟩, ⟨61, .imp, [V 39, V 60]⟩, ⟨60, .and, [V 59, V 39]⟩, ⟨59, (.cmp .leq), [N 0, V 1]⟩, ⟨58, .iteB, [V 48, V 48, V 47]⟩, ⟨57, .iteI, [V 48, V 55, N 0]⟩, ⟨56, .not, [V 48]⟩, ⟨55, (.conv .i64), [V 54]⟩, ⟨54, .sget, [V 2, V 49]⟩, ⟨53, .imp, [V 48, V 52]⟩, ⟨52, .and, [V 50, V 51]⟩, ⟨51, (.cmp .lss), [V 49, V 42]⟩, ⟨50, (.cmp .leq), [N 0, V 49]⟩, ⟨49, (.ar .sub .i64), [V 41, N 1]⟩, ⟨48, .and, [V 44, V 46]⟩, ⟨47, .and, [V 43, V 45]⟩, ⟨46, .and, [V 39, V 44]⟩, ⟨45, .and, [V 39, V 43]⟩, ⟨44, .not, [V 43]⟩, ⟨43, (.cmp .gtr), [V 41, V 42]⟩, ⟨42, .slen, [V 2]⟩, ⟨41, (.ar .add .i64), [V 3, N 1]⟩, ⟨40, .not, [V 39]⟩, ⟨39, (.cmp .lss), [V 1, V 0]⟩], [V 61, V 53], []⟩
def Wv (al : List A) : Nat := ((gi al 0) - (gi al 1)).toNat
theorem UM (e : Nat → A) (H : Ab T e Md.defs) (hp : (Day.Kn (e 3).int (e 1).int (e 0).int (e 38)) = true) :
  ((e 61).bool = true ∧ (e 53).bool = true) ∧ ((e 39).bool = true → (Day.Kn (e 41).int (e 63).int (e 0).int (e 62)) = true ∧ ((e 0).int = (e 0).int ∧ false = false ∧ Day.H2 (e 41).int (e 63).int (e 0).int = Day.H2 (e 3).int (e 1).int (e 0).int ∧ Day.H0 (e 2).str 0 (e 41).int (e 63).int (e 0).int (e 62) = Day.H0 (e 2).str 0 (e 3).int (e 1).int (e 0).int (e 38)) ∧ ((e 0).int - (e 63).int).toNat < ((e 0).int - (e 1).int).toNat) ∧ ((e 40).bool = true → (e 1).int = (e 0).int ∧ (e 39).bool = false ∧ (e 3).int = Day.H2 (e 3).int (e 1).int (e 0).int ∧ (e 38) = Day.H0 (e 2).str 0 (e 3).int (e 1).int (e 0).int (e 38)) := by
 simp only [Md, Ab, Def.q, BI, L.Ak, L.Aw, L.AS, L.AV, L.ev, A.Ai, A.Ao, A.AF, A.AT, List.map_cons, List.map_nil, Nat.zero_add, Nat.add_zero, and_true, true_and, Nat.reduceAdd, Nat.one_mul] at H
 simp only [D0, Ee, CW, Bg, Ef, Ey, BV, Fq, and_true, true_and] at H
 obtain ⟨⟨q63, -⟩, q62, q61, q60, q59, q58, ⟨q57, k57⟩, q56, ⟨q55, -⟩, ⟨q54, -⟩, q53, q52, q51, q50, ⟨q49, -⟩, q48, q47, q46, q45, q44, q43, q42, ⟨q41, -⟩, q40, q39⟩ := H
 unfold KW at k57
 generalize (e 0).int = x0, (e 1).int = x1, (e 2).str = x2, (e 3).int = x3, (e 4).int = x4, (e 5).int = x5, (e 6).int = x6, (e 7).int = x7, (e 8).int = x8, (e 9).int = x9, (e 10).int = x10, (e 11).int = x11, (e 12).int = x12, (e 13).int = x13, (e 14).int = x14, (e 15).int = x15, (e 16).int = x16, (e 17).int = x17, (e 18).int = x18, (e 19).int = x19, (e 20).int = x20, (e 21).int = x21, (e 22).int = x22, (e 23).int = x23, (e 24).int = x24, (e 25).int = x25, (e 26).int = x26, (e 27).int = x27, (e 28).int = x28, (e 29).int = x29, (e 30).int = x30, (e 31).int = x31, (e 32).int = x32, (e 33).int = x33, (e 34).int = x34, (e 35).int = x35, (e 36).int = x36, (e 37).int = x37, e 38 = x38, (e 39).bool = v39, (e 40).bool = v40, (e 41).int = v41, (e 42).int = v42, (e 43).bool = v43, (e 44).bool = v44, (e 45).bool = v45, (e 46).bool = v46, (e 47).bool = v47, (e 48).bool = v48, (e 49).int = v49, (e 50).bool = v50, (e 51).bool = v51, (e 52).bool = v52, (e 53).bool = v53, (e 54).int = v54, (e 55).int = v55, (e 56).bool = v56, (e 57).int = v57, (e 58).bool = v58, (e 59).bool = v59, (e 60).bool = v60, (e 61).bool = v61, e 62 = v62, (e 63).int = v63 at *
 rw [k57] at q62
 by_cases h : x1 < x0
 ·obtain ⟨t0, t1, i0, n1, l1, st⟩ := Day.JW (s := x2) (m := 0) hp h
  have t : v39 = true := by rw [q39]; exact decide_eq_true h
  have r := Day.Az x2 x3
  obtain ⟨w41, o53, e57⟩ := Day.Ox (by omega) (by omega) q41 q42 q43 q44 q46 q48 q49 q50 q51 q52 q53 q54 q55 q57
  have wn : v63 = x1 + 1 := by rw [q63]; exact wrap64 (by omega) (by omega)
  obtain ⟨s1, s2, s3, s4⟩ := st v62 (by rw [q62, e57, t, if_pos rfl]; rfl)
  rw [wn, w41]
  refine ⟨⟨by rw [q61]; exact Day.BF (by rw [q60, q59, t]; simp; omega), o53⟩, fun _ => ⟨s1, ⟨rfl, rfl, s2, s3⟩, s4⟩, fun hh => ?_⟩
  rw [q40, t] at hh
  cases hh
 ·obtain ⟨e1, e2, e3⟩ := Day.Nc (s := x2) (m := 0) hp h
  have t : v39 = false := by rw [q39]; exact decide_eq_false h
  refine ⟨by simp [q61, q53, q48, q46, t], fun hh => ?_, fun _ => ⟨e2, t, e1.symm, e3.symm⟩⟩
  rw [t] at hh
  cases hh
theorem Ww (as : List A) (e : Nat → A) (h1 : as = (List.range 39).map e) (h2 : (IZ as).1 = true) (H : Ab T e Md.defs) : Bj e Md.obs ∧
   (∀ pc ls, some (V 39, [V 0, V 63, V 2, V 41, V 4, V 5, V 6, V 7, V 8, V 9, V 10, V 11, V 12, V 13, V 14, V 15, V 16, V 17, V 18, V 19, V 20, V 21, V 22, V 23, V 24, V 25, V 26, V 27, V 28, V 29, V 30, V 31, V 32, V 33, V 34, V 35, V 36, V 37, V 62]) = some (pc, ls) → (pc.ev e).bool = true → (IZ (ls.map (L.ev e))).1 = true ∧ (IZ (ls.map (L.ev e))).2 = (IZ as).2 ∧ Wv (ls.map (L.ev e)) < Wv as) ∧
   ∀ x ∈ ([(V 40, [some (V 1), some (V 39), some (V 3), some (V 38)])] : List (L × List (Option L))), (x.1.ev e).bool = true → ∀ (j : Nat) l, x.2[j]? = some (some l) → D6 (Dg.tags.getD j .any) (l.ev e) ((IZ as).2.getD j (.i 0)) := by
 subst h1
 obtain ⟨ho, h⟩ := UM e H h2
 refine ⟨⟨ho.1, ho.2, trivial⟩, fun pc ls hb hpc => ?_, ?_⟩
 ·injection hb with hb
  injection hb with h3 h4
  subst h3 h4
  have h := h.1 hpc
  refine ⟨h.1, ?_, h.2.2⟩
  have h5 := h.2.1
  obtain ⟨z0, z1, z2, z3⟩ := h5
  exact (A5 z0 (HF z1 (A5 z2 (Fw z3 rfl))))
 ·intro x hx hpc j l hj
  simp only [List.mem_cons, List.not_mem_nil, or_false] at hx
  rcases hx with rfl
  ·have h := h.2 hpc
   obtain ⟨z0, z1, z2, z3⟩ := h
   match j, hj with
   | 0, hj => cases hj; exact z0
   | 1, hj => cases hj; exact z1
   | 2, hj => cases hj; exact z2
   | 3, hj => cases hj; exact z3
   | _ + 4, hj => cases hj
def DP : Lp := ⟨39, [false, true, false, true, false, true, true, true, false, true, true, true], 1245, 46, 4, 13, ⟨Ez 39 [(0, .pv (.one (.k (.ptr 1 0)))), (1, .pv (.one (.k (.int .i64 (V 0))))), (4, .pv (.one (.k (.str (.s []))))), (5, .pv (.one (.k (.int .i64 (V 1))))), (6, .pv (.one (.k (.lsl 13 (V 2))))), (9, .pv (.one (.k (.ptr 1 0)))), (10, .pv (.one (.k (.int .i64 (V 3))))), (11, .pv (.one (.k (.int .i64 (V 1))))), (12, .pv (.one (.k (.int .i64 (V 1))))), (17, .pv (.one (.k (.bool (V 4))))), (18, .pv (.one (.k (.bool (V 4))))), (19, .pv (.one (.k (.bool (V 5))))), (20, .pv (.one (.k (.bool (V 5))))), (21, .pv (.one (.k (.ptr 1 0)))), (22, .pv (.one (.k (.ptr 1 0)))), (23, .pv (.one (.k (.int .i64 (V 6))))), (24, .pv (.one (.k (.int .i64 (V 7))))), (25, .pv (.one (.k (.lsl 12 (V 7))))), (26, .pv (.one (.k (.int .i64 (V 7))))), (27, .pv (.one (.k (.int .i64 (V 8)))))], [⟨true, 34, 31, [.k (.int .i64 (N 0)), .k (.nilslc), .k (.int .i64 (N 0)), .k (.int .i64 (N 0)), .k (.bool (B false)), .k (.nilslc), .k (.int .i64 (N 0)), .k (.int .i64 (N 0)), .k (.int .i64 (N 0)), .k (.int .i64 (N 0)), .k (.int .i64 (N 0)), .k (.int .i64 (N 0)), .k (.int .i64 (N 0)), .k (.int .i64 (N 0)), .k (.int .i64 (N 0)), .k (.int .i64 (N 0)), .k (.int .i64 (N 0)), .k (.int .i64 (N 0)), .k (.int .i64 (N 0)), .k (.int .i64 (N 0)), .k (.int .i64 (N 0)), .k (.int .i64 (N 0)), .k (.int .i64 (N 0)), .k (.int .i64 (N 0)), .k (.int .i64 (N 0)), .k (.int .i64 (N 0)), .k (.int .i64 (N 0)), .k (.int .i64 (N 0)), .k (.int .i64 (N 0)), .k (.int .i64 (N 0)), .k (.nilslc)], none⟩, ⟨true, 46, 2, [.k (.str (V 9)), .k (.int .i64 (V 10))], none⟩, ⟨true, 34, 31, [.k (.int .i64 (V 11)), .k (.lsl 9 (V 12)), .k (.int .i64 (V 13)), .k (.int .i64 (V 0)), .k (.bool (V 14)), .k (.lsl 8 (V 15)), .k (.int .i64 (V 16)), .k (.int .i64 (V 17)), .k (.int .i64 (V 18)), .k (.int .i64 (V 19)), .k (.int .i64 (V 20)), .k (.int .i64 (V 21)), .k (.int .i64 (V 22)), .k (.int .i64 (V 23)), .k (.int .i64 (V 24)), .k (.int .i64 (V 25)), .k (.int .i64 (V 26)), .k (.int .i64 (V 27)), .k (.int .i64 (V 28)), .k (.int .i64 (V 29)), .k (.int .i64 (V 30)), .k (.int .i64 (V 31)), .k (.int .i64 (V 32)), .k (.int .i64 (V 33)), .k (.int .i64 (V 34)), .k (.int .i64 (V 35)), .k (.int .i64 (V 36)), .k (.int .i64 (V 37)), .k (.int .i64 (V 38)), .k (.int .i64 (V 39)), .k (.lsl 10 (V 40))], none⟩, .dead, .dead, .dead, .dead, .dead, ⟨false, 0, 0, [], some ⟨true, 76, [.int .i64, .int .i64, .int .i64, .int .i64], V 41, V 15⟩⟩, ⟨false, 0, 0, [], some ⟨true, 3, [.int .i64], V 42, V 12⟩⟩, ⟨false, 0, 0, [], some ⟨true, 54, [.str, .str, .sl [.int .i64], .int .i64], V 43, V 40⟩⟩, ⟨true, 54, 4, [.k (.str (.s [])), .k (.str (.s [])), .k (.nilslc), .k (.int .i64 (N 0))], none⟩, ⟨false, 0, 0, [], some ⟨true, 3, [.int .i64], V 44, V 7⟩⟩, ⟨false, 0, 0, [], some ⟨true, 5, [.int .u8], V 45, V 2⟩⟩], B true⟩, [(.exit 1, ⟨Ez 39 [(0, .pv (.one (.k (.ptr 1 0)))), (1, .pv (.one (.k (.int .i64 (V 0))))), (4, .pv (.one (.k (.str (.s []))))), (5, .pv (.one (.k (.int .i64 (V 1))))), (6, .pv (.one (.k (.lsl 13 (V 46))))), (9, .pv (.one (.k (.ptr 1 0)))), (10, .pv (.one (.k (.int .i64 (V 3))))), (11, .pv (.one (.k (.int .i64 (V 1))))), (12, .pv (.one (.k (.int .i64 (V 1))))), (17, .pv (.one (.k (.bool (V 4))))), (18, .pv (.one (.k (.bool (V 4))))), (19, .pv (.one (.k (.bool (V 5))))), (20, .pv (.one (.k (.bool (V 5))))), (21, .pv (.one (.k (.ptr 1 0)))), (22, .pv (.one (.k (.ptr 1 0)))), (23, .pv (.one (.k (.int .i64 (V 6))))), (24, .pv (.one (.k (.int .i64 (V 7))))), (25, .pv (.one (.k (.lsl 12 (V 7))))), (26, .pv (.one (.k (.int .i64 (V 7))))), (27, .pv (.one (.k (.int .i64 (V 47))))), (28, .pv (.one (.k (.bool (V 48)))))], [⟨true, 34, 31, [.k (.int .i64 (N 0)), .k (.nilslc), .k (.int .i64 (N 0)), .k (.int .i64 (N 0)), .k (.bool (B false)), .k (.nilslc), .k (.int .i64 (N 0)), .k (.int .i64 (N 0)), .k (.int .i64 (N 0)), .k (.int .i64 (N 0)), .k (.int .i64 (N 0)), .k (.int .i64 (N 0)), .k (.int .i64 (N 0)), .k (.int .i64 (N 0)), .k (.int .i64 (N 0)), .k (.int .i64 (N 0)), .k (.int .i64 (N 0)), .k (.int .i64 (N 0)), .k (.int .i64 (N 0)), .k (.int .i64 (N 0)), .k (.int .i64 (N 0)), .k (.int .i64 (N 0)), .k (.int .i64 (N 0)), .k (.int .i64 (N 0)), .k (.int .i64 (N 0)), .k (.int .i64 (N 0)), .k (.int .i64 (N 0)), .k (.int .i64 (N 0)), .k (.int .i64 (N 0)), .k (.int .i64 (N 0)), .k (.nilslc)], none⟩, ⟨true, 46, 2, [.k (.str (V 9)), .k (.int .i64 (V 10))], none⟩, ⟨true, 34, 31, [.k (.int .i64 (V 11)), .k (.lsl 9 (V 12)), .k (.int .i64 (V 13)), .k (.int .i64 (V 0)), .k (.bool (V 14)), .k (.lsl 8 (V 15)), .k (.int .i64 (V 16)), .k (.int .i64 (V 17)), .k (.int .i64 (V 18)), .k (.int .i64 (V 19)), .k (.int .i64 (V 20)), .k (.int .i64 (V 21)), .k (.int .i64 (V 22)), .k (.int .i64 (V 23)), .k (.int .i64 (V 24)), .k (.int .i64 (V 25)), .k (.int .i64 (V 26)), .k (.int .i64 (V 27)), .k (.int .i64 (V 28)), .k (.int .i64 (V 29)), .k (.int .i64 (V 30)), .k (.int .i64 (V 31)), .k (.int .i64 (V 32)), .k (.int .i64 (V 33)), .k (.int .i64 (V 34)), .k (.int .i64 (V 35)), .k (.int .i64 (V 36)), .k (.int .i64 (V 37)), .k (.int .i64 (V 38)), .k (.int .i64 (V 39)), .k (.lsl 10 (V 40))], none⟩, .dead, .dead, .dead, .dead, .dead, ⟨false, 0, 0, [], some ⟨true, 76, [.int .i64, .int .i64, .int .i64, .int .i64], V 41, V 15⟩⟩, ⟨false, 0, 0, [], some ⟨true, 3, [.int .i64], V 42, V 12⟩⟩, ⟨false, 0, 0, [], some ⟨true, 54, [.str, .str, .sl [.int .i64], .int .i64], V 43, V 40⟩⟩, ⟨true, 54, 4, [.k (.str (.s [])), .k (.str (.s [])), .k (.nilslc), .k (.int .i64 (N 0))], none⟩, ⟨false, 0, 0, [], some ⟨true, 3, [.int .i64], V 44, V 7⟩⟩, ⟨false, 0, 0, [], some ⟨true, 5, [.int .u8], V 49, V 46⟩⟩], B true⟩)], [true, true, false, true, true, true, true, true, false, true, true, true, true, true, true, true, true, true, true, true, true, true, true, true, true, true, true, true, true, true, true, true, true, true, true, true, true, true, true, true, true, true, true, true, true, false], [.i, .i, .b, .any]⟩
def Me : G := ⟨61, [⟨60, (.ar .add .i64), [V 8, N 1]⟩, ⟨59, .imp, [V 46, V 58]⟩, ⟨58, .and, [V 56, V 57]⟩, ⟨57, (.cmp .lss), [V 55, N 1000001]⟩, ⟨56, (.cmp .leq), [N 0, V 55]⟩, ⟨55, (.lln 1), [V 54]⟩, ⟨54, .cat, [V 45, V 53]⟩, ⟨53, .mkl, [V 52]⟩, ⟨52, (.conv .u8), [V 51]⟩, ⟨51, (.pix 0 1), [V 44, V 8]⟩, ⟨50, .imp, [V 46, V 49]⟩, ⟨49, .and, [V 48, V 46]⟩, ⟨48, (.cmp .leq), [N 0, V 8]⟩, ⟨47, .not, [V 46]⟩, ⟨46, (.cmp .lss), [V 8, V 7]⟩], [V 59, V 50], []⟩
def Wx (al : List A) : Nat := ((gi al 7) - (gi al 8)).toNat
theorem UN (e : Nat → A) (H : Ab T e Me.defs) (hp : (Day.U0 (e 7).int (e 8).int (e 2).int (e 44) (e 45)) = true) :
  ((e 59).bool = true ∧ (e 50).bool = true) ∧ ((e 46).bool = true → (Day.U0 (e 7).int (e 60).int (e 55).int (e 44) (e 54)) = true ∧ ((e 7).int = (e 7).int ∧ (e 7).int = (e 7).int ∧ false = false ∧ Day.Uo (e 60).int (e 44) (e 54) = Day.Uo (e 8).int (e 44) (e 45)) ∧ ((e 7).int - (e 60).int).toNat < ((e 7).int - (e 8).int).toNat) ∧ ((e 47).bool = true → (e 2).int = (e 7).int ∧ (e 8).int = (e 7).int ∧ (e 46).bool = false ∧ (e 45) = Day.Uo (e 8).int (e 44) (e 45)) := by
 simp only [Me, Ab, Def.q, BI, L.Ak, L.Aw, L.AS, L.AV, L.ev, A.Ai, A.Ao, A.AF, A.AT, List.map_cons, List.map_nil, Nat.zero_add, Nat.add_zero, and_true, true_and, Nat.reduceAdd, Nat.one_mul] at H
 simp only [D0, Ee, CW, Bg, Ef, Ey, BV, Fq, and_true, true_and] at H
 obtain ⟨⟨q60, -⟩, q59, q58, q57, q56, q55, q54, q53, ⟨q52, k52⟩, q51, q50, q49, q48, q47, q46⟩ := H
 unfold KW at k52
 generalize (e 0).int = x0, (e 1).int = x1, (e 2).int = x2, (e 3).int = x3, (e 4).int = x4, (e 5).int = x5, (e 6).int = x6, (e 7).int = x7, (e 8).int = x8, (e 9).int = x9, (e 10).int = x10, (e 11).int = x11, (e 12).int = x12, (e 13).int = x13, (e 14).int = x14, (e 15).int = x15, (e 16).int = x16, (e 17).int = x17, (e 18).int = x18, (e 19).int = x19, (e 20).int = x20, (e 21).int = x21, (e 22).int = x22, (e 23).int = x23, (e 24).int = x24, (e 25).int = x25, (e 26).int = x26, (e 27).int = x27, (e 28).int = x28, (e 29).int = x29, (e 30).int = x30, (e 31).int = x31, (e 32).int = x32, (e 33).int = x33, (e 34).int = x34, (e 35).int = x35, (e 36).int = x36, (e 37).int = x37, (e 38).int = x38, (e 39).int = x39, (e 40).int = x40, (e 41).int = x41, (e 42).int = x42, (e 43).int = x43, e 44 = x44, e 45 = x45, (e 46).bool = v46, (e 47).bool = v47, (e 48).bool = v48, (e 49).bool = v49, (e 50).bool = v50, (e 52).int = v52, e 53 = v53, e 54 = v54, (e 55).int = v55, (e 56).bool = v56, (e 57).bool = v57, (e 58).bool = v58, (e 59).bool = v59, (e 60).int = v60 at *
 rw [k52] at q53
 replace q51 := congrArg A.int q51
 generalize (e 51).int = v51 at *
 by_cases h : x8 < x7
 ·obtain ⟨i0, n1, l1, st⟩ := Day.XC hp h
  have t : v46 = true := by rw [q46]; exact decide_eq_true h
  have wn : v60 = x8 + 1 := by rw [q60]; exact wrap64 (by omega) (by omega)
  have ez : v54 = .l (x45.AJ ++ [Day.u8A (x44.AJ.getD x8.toNat (.i 0))]) := by rw [q54, q53, q52, q51]; rfl
  have ed : v55 = (v54.AJ.length : Int) := by rw [q55, Nat.div_one]
  obtain ⟨s1, s2, s3⟩ := st v54 v55 ez ed
  have gd : v55 = x8 + 1 := by rw [ed, ez]; show ((x45.AJ ++ [_]).length : Int) = _; rw [List.length_append, List.length_singleton]; omega
  rw [wn]
  refine ⟨⟨by rw [q59]; exact Day.BF (by rw [q58, q56, q57, gd]; simp; omega), by rw [q50]; exact Day.BF (by rw [q49, q48, t]; simp; omega)⟩, fun _ => ⟨s1, ⟨rfl, rfl, rfl, s2⟩, s3⟩, fun hh => ?_⟩
  rw [q47, t] at hh
  cases hh
 ·obtain ⟨e1, e2, e3⟩ := Day.Aap hp h
  have t : v46 = false := by rw [q46]; exact decide_eq_false h
  refine ⟨by simp [q59, q50, t], fun hh => ?_, fun _ => ⟨e1, e2, t, e3.symm⟩⟩
  rw [t] at hh
  cases hh
theorem Wy (as : List A) (e : Nat → A) (h1 : as = (List.range 46).map e) (h2 : (I0 as).1 = true) (H : Ab T e Me.defs) : Bj e Me.obs ∧
   (∀ pc ls, some (V 46, [V 0, V 1, V 55, V 3, V 4, V 5, V 6, V 7, V 60, V 9, V 10, V 11, V 12, V 13, V 14, V 15, V 16, V 17, V 18, V 19, V 20, V 21, V 22, V 23, V 24, V 25, V 26, V 27, V 28, V 29, V 30, V 31, V 32, V 33, V 34, V 35, V 36, V 37, V 38, V 39, V 40, V 41, V 42, V 43, V 44, V 54]) = some (pc, ls) → (pc.ev e).bool = true → (I0 (ls.map (L.ev e))).1 = true ∧ (I0 (ls.map (L.ev e))).2 = (I0 as).2 ∧ Wx (ls.map (L.ev e)) < Wx as) ∧
   ∀ x ∈ ([(V 47, [some (V 2), some (V 8), some (V 46), some (V 45)])] : List (L × List (Option L))), (x.1.ev e).bool = true → ∀ (j : Nat) l, x.2[j]? = some (some l) → D6 (DP.tags.getD j .any) (l.ev e) ((I0 as).2.getD j (.i 0)) := by
 subst h1
 obtain ⟨ho, h⟩ := UN e H h2
 refine ⟨⟨ho.1, ho.2, trivial⟩, fun pc ls hb hpc => ?_, ?_⟩
 ·injection hb with hb
  injection hb with h3 h4
  subst h3 h4
  have h := h.1 hpc
  refine ⟨h.1, ?_, h.2.2⟩
  have h5 := h.2.1
  obtain ⟨z0, z1, z2, z3⟩ := h5
  exact (A5 z0 (A5 z1 (HF z2 (Fw z3 rfl))))
 ·intro x hx hpc j l hj
  simp only [List.mem_cons, List.not_mem_nil, or_false] at hx
  rcases hx with rfl
  ·have h := h.2 hpc
   obtain ⟨z0, z1, z2, z3⟩ := h
   match j, hj with
   | 0, hj => cases hj; exact z0
   | 1, hj => cases hj; exact z1
   | 2, hj => cases hj; exact z2
   | 3, hj => cases hj; exact z3
   | _ + 4, hj => cases hj
def Ec : Lp := ⟨20, [false, true, false, true, true], 1246, 40, 4, 15, ⟨Ez 25 [(0, .pv (.one (.k (.ptr 1 0)))), (1, .pv (.one (.k (.int .i64 (V 0))))), (2, .pv (.one (.clo 21 [] []))), (6, .pv (.one (.k (.nilslc)))), (7, .pv (.one (.k (.lsl 14 (V 0))))), (9, .pv (.one (.k (.int .i64 (V 0))))), (10, .pv (.one (.k (.lsl 14 (V 0))))), (11, .pv (.one (.k (.lsl 14 (V 0))))), (12, .pv (.one (.k (.int .i64 (V 0))))), (13, .pv (.one (.k (.int .i64 (V 1)))))], [⟨true, 34, 31, [.k (.int .i64 (N 0)), .k (.nilslc), .k (.int .i64 (N 0)), .k (.int .i64 (N 0)), .k (.bool (B false)), .k (.nilslc), .k (.int .i64 (N 0)), .k (.int .i64 (N 0)), .k (.int .i64 (N 0)), .k (.int .i64 (N 0)), .k (.int .i64 (N 0)), .k (.int .i64 (N 0)), .k (.int .i64 (N 0)), .k (.int .i64 (N 0)), .k (.int .i64 (N 0)), .k (.int .i64 (N 0)), .k (.int .i64 (N 0)), .k (.int .i64 (N 0)), .k (.int .i64 (N 0)), .k (.int .i64 (N 0)), .k (.int .i64 (N 0)), .k (.int .i64 (N 0)), .k (.int .i64 (N 0)), .k (.int .i64 (N 0)), .k (.int .i64 (N 0)), .k (.int .i64 (N 0)), .k (.int .i64 (N 0)), .k (.int .i64 (N 0)), .k (.int .i64 (N 0)), .k (.int .i64 (N 0)), .k (.nilslc)], none⟩, ⟨true, 46, 2, [.k (.str (V 2)), .k (.int .i64 (V 3))], none⟩, ⟨true, 34, 31, [.k (.int .i64 (V 4)), .k (.lsl 9 (V 5)), .k (.int .i64 (V 6)), .k (.int .i64 (V 7)), .k (.bool (V 8)), .k (.lsl 8 (V 9)), .k (.int .i64 (V 10)), .k (.int .i64 (V 11)), .k (.int .i64 (V 12)), .k (.int .i64 (V 13)), .k (.int .i64 (V 14)), .k (.int .i64 (V 15)), .k (.int .i64 (V 16)), .k (.int .i64 (V 17)), .k (.int .i64 (V 18)), .k (.int .i64 (V 19)), .k (.int .i64 (V 20)), .k (.int .i64 (V 21)), .k (.int .i64 (V 22)), .k (.int .i64 (V 23)), .k (.int .i64 (V 24)), .k (.int .i64 (V 25)), .k (.int .i64 (V 26)), .k (.int .i64 (V 27)), .k (.int .i64 (V 28)), .k (.int .i64 (V 29)), .k (.int .i64 (V 30)), .k (.int .i64 (V 31)), .k (.int .i64 (V 32)), .k (.int .i64 (V 33)), .k (.lsl 10 (V 34))], none⟩, .dead, .dead, .dead, .dead, .dead, ⟨false, 0, 0, [], some ⟨true, 76, [.int .i64, .int .i64, .int .i64, .int .i64], V 35, V 9⟩⟩, ⟨false, 0, 0, [], some ⟨true, 3, [.int .i64], V 36, V 5⟩⟩, ⟨false, 0, 0, [], some ⟨true, 54, [.str, .str, .sl [.int .i64], .int .i64], V 37, V 34⟩⟩, ⟨true, 54, 4, [.k (.str (V 38)), .k (.str (.s [])), .k (.nilslc), .k (.int .i64 (N 0))], none⟩, .dead, .dead, ⟨false, 0, 0, [], some ⟨true, 3, [.int .i64], V 39, V 0⟩⟩], B true⟩, [(.exit 0, ⟨Ez 25 [(0, .pv (.one (.k (.ptr 1 0)))), (1, .pv (.one (.k (.int .i64 (V 0))))), (2, .pv (.one (.clo 21 [] []))), (6, .pv (.one (.k (.nilslc)))), (7, .pv (.one (.k (.lsl 14 (V 0))))), (9, .pv (.one (.k (.int .i64 (V 0))))), (10, .pv (.one (.k (.lsl 14 (V 0))))), (11, .pv (.one (.k (.lsl 14 (V 0))))), (12, .pv (.one (.k (.int .i64 (V 0))))), (13, .pv (.one (.k (.int .i64 (V 40))))), (14, .pv (.one (.k (.bool (V 41)))))], [⟨true, 34, 31, [.k (.int .i64 (N 0)), .k (.nilslc), .k (.int .i64 (N 0)), .k (.int .i64 (N 0)), .k (.bool (B false)), .k (.nilslc), .k (.int .i64 (N 0)), .k (.int .i64 (N 0)), .k (.int .i64 (N 0)), .k (.int .i64 (N 0)), .k (.int .i64 (N 0)), .k (.int .i64 (N 0)), .k (.int .i64 (N 0)), .k (.int .i64 (N 0)), .k (.int .i64 (N 0)), .k (.int .i64 (N 0)), .k (.int .i64 (N 0)), .k (.int .i64 (N 0)), .k (.int .i64 (N 0)), .k (.int .i64 (N 0)), .k (.int .i64 (N 0)), .k (.int .i64 (N 0)), .k (.int .i64 (N 0)), .k (.int .i64 (N 0)), .k (.int .i64 (N 0)), .k (.int .i64 (N 0)), .k (.int .i64 (N 0)), .k (.int .i64 (N 0)), .k (.int .i64 (N 0)), .k (.int .i64 (N 0)), .k (.nilslc)], none⟩, ⟨true, 46, 2, [.k (.str (V 2)), .k (.int .i64 (V 42))], none⟩, ⟨true, 34, 31, [.k (.int .i64 (V 4)), .k (.lsl 9 (V 5)), .k (.int .i64 (V 6)), .k (.int .i64 (V 7)), .k (.bool (V 8)), .k (.lsl 8 (V 9)), .k (.int .i64 (V 10)), .k (.int .i64 (V 11)), .k (.int .i64 (V 12)), .k (.int .i64 (V 13)), .k (.int .i64 (V 14)), .k (.int .i64 (V 15)), .k (.int .i64 (V 16)), .k (.int .i64 (V 17)), .k (.int .i64 (V 18)), .k (.int .i64 (V 19)), .k (.int .i64 (V 20)), .k (.int .i64 (V 21)), .k (.int .i64 (V 22)), .k (.int .i64 (V 23)), .k (.int .i64 (V 24)), .k (.int .i64 (V 25)), .k (.int .i64 (V 26)), .k (.int .i64 (V 27)), .k (.int .i64 (V 28)), .k (.int .i64 (V 29)), .k (.int .i64 (V 30)), .k (.int .i64 (V 31)), .k (.int .i64 (V 32)), .k (.int .i64 (V 33)), .k (.lsl 10 (V 34))], none⟩, .dead, .dead, .dead, .dead, .dead, ⟨false, 0, 0, [], some ⟨true, 76, [.int .i64, .int .i64, .int .i64, .int .i64], V 35, V 9⟩⟩, ⟨false, 0, 0, [], some ⟨true, 3, [.int .i64], V 36, V 5⟩⟩, ⟨false, 0, 0, [], some ⟨true, 54, [.str, .str, .sl [.int .i64], .int .i64], V 37, V 34⟩⟩, ⟨true, 54, 4, [.k (.str (V 38)), .k (.str (.s [])), .k (.nilslc), .k (.int .i64 (N 0))], none⟩, .dead, .dead, ⟨false, 0, 0, [], some ⟨true, 3, [.int .i64], V 43, V 0⟩⟩], B true⟩)], [true, false, true, false, true, true, true, true, true, true, true, true, true, true, true, true, true, true, true, true, true, true, true, true, true, true, true, true, true, true, true, true, true, true, true, true, true, true, true, false], [.i, .b, .i, .any]⟩
def Mf : G := ⟨65, [⟨64, (.ar .add .i64), [V 1, N 1]⟩, ⟨63, (.pset 0 1), [V 39, V 1, V 58]⟩, ⟨62, .imp, [V 40, V 61]⟩, ⟨61, .and, [V 60, V 40]⟩, ⟨60, (.cmp .leq), [N 0, V 1]⟩, ⟨59, .iteB, [V 49, V 49, V 48]⟩, ⟨58, .iteI, [V 49, V 56, N 0]⟩, ⟨57, .not, [V 49]⟩, ⟨56, (.conv .i64), [V 55]⟩, ⟨55, .sget, [V 2, V 50]⟩, ⟨54, .imp, [V 49, V 53]⟩, ⟨53, .and, [V 51, V 52]⟩, ⟨52, (.cmp .lss), [V 50, V 43]⟩, ⟨51, (.cmp .leq), [N 0, V 50]⟩, ⟨50, (.ar .sub .i64), [V 42, N 1]⟩, ⟨49, .and, [V 45, V 47]⟩, ⟨48, .and, [V 44, V 46]⟩, ⟨47, .and, [V 40, V 45]⟩, ⟨46, .and, [V 40, V 44]⟩, ⟨45, .not, [V 44]⟩, ⟨44, (.cmp .gtr), [V 42, V 43]⟩, ⟨43, .slen, [V 2]⟩, ⟨42, (.ar .add .i64), [V 3, N 1]⟩, ⟨41, .not, [V 40]⟩, ⟨40, (.cmp .lss), [V 1, V 0]⟩], [V 62, V 54], []⟩
def Wz (al : List A) : Nat := ((gi al 0) - (gi al 1)).toNat
theorem UO (e : Nat → A) (H : Ab T e Mf.defs) (hp : (Day.Kn (e 3).int (e 1).int (e 0).int (e 39)) = true) :
  ((e 62).bool = true ∧ (e 54).bool = true) ∧ ((e 40).bool = true → (Day.Kn (e 42).int (e 64).int (e 0).int (e 63)) = true ∧ ((e 0).int = (e 0).int ∧ false = false ∧ Day.H2 (e 42).int (e 64).int (e 0).int = Day.H2 (e 3).int (e 1).int (e 0).int ∧ Day.H0 (e 2).str 0 (e 42).int (e 64).int (e 0).int (e 63) = Day.H0 (e 2).str 0 (e 3).int (e 1).int (e 0).int (e 39)) ∧ ((e 0).int - (e 64).int).toNat < ((e 0).int - (e 1).int).toNat) ∧ ((e 41).bool = true → (e 1).int = (e 0).int ∧ (e 40).bool = false ∧ (e 3).int = Day.H2 (e 3).int (e 1).int (e 0).int ∧ (e 39) = Day.H0 (e 2).str 0 (e 3).int (e 1).int (e 0).int (e 39)) := by
 simp only [Mf, Ab, Def.q, BI, L.Ak, L.Aw, L.AS, L.AV, L.ev, A.Ai, A.Ao, A.AF, A.AT, List.map_cons, List.map_nil, Nat.zero_add, Nat.add_zero, and_true, true_and, Nat.reduceAdd, Nat.one_mul] at H
 simp only [D0, Ee, CW, Bg, Ef, Ey, BV, Fq, and_true, true_and] at H
 obtain ⟨⟨q64, -⟩, q63, q62, q61, q60, q59, ⟨q58, k58⟩, q57, ⟨q56, -⟩, ⟨q55, -⟩, q54, q53, q52, q51, ⟨q50, -⟩, q49, q48, q47, q46, q45, q44, q43, ⟨q42, -⟩, q41, q40⟩ := H
 unfold KW at k58
 generalize (e 0).int = x0, (e 1).int = x1, (e 2).str = x2, (e 3).int = x3, (e 4).int = x4, (e 5).int = x5, (e 6).int = x6, (e 7).int = x7, (e 8).int = x8, (e 9).int = x9, (e 10).int = x10, (e 11).int = x11, (e 12).int = x12, (e 13).int = x13, (e 14).int = x14, (e 15).int = x15, (e 16).int = x16, (e 17).int = x17, (e 18).int = x18, (e 19).int = x19, (e 20).int = x20, (e 21).int = x21, (e 22).int = x22, (e 23).int = x23, (e 24).int = x24, (e 25).int = x25, (e 26).int = x26, (e 27).int = x27, (e 28).int = x28, (e 29).int = x29, (e 30).int = x30, (e 31).int = x31, (e 32).int = x32, (e 33).int = x33, (e 34).int = x34, (e 35).int = x35, (e 36).int = x36, (e 37).int = x37, (e 38).int = x38, e 39 = x39, (e 40).bool = v40, (e 41).bool = v41, (e 42).int = v42, (e 43).int = v43, (e 44).bool = v44, (e 45).bool = v45, (e 46).bool = v46, (e 47).bool = v47, (e 48).bool = v48, (e 49).bool = v49, (e 50).int = v50, (e 51).bool = v51, (e 52).bool = v52, (e 53).bool = v53, (e 54).bool = v54, (e 55).int = v55, (e 56).int = v56, (e 57).bool = v57, (e 58).int = v58, (e 59).bool = v59, (e 60).bool = v60, (e 61).bool = v61, (e 62).bool = v62, e 63 = v63, (e 64).int = v64 at *
 rw [k58] at q63
 by_cases h : x1 < x0
 ·obtain ⟨t0, t1, i0, n1, l1, st⟩ := Day.JW (s := x2) (m := 0) hp h
  have t : v40 = true := by rw [q40]; exact decide_eq_true h
  have r := Day.Az x2 x3
  obtain ⟨w42, o54, e58⟩ := Day.Ox (by omega) (by omega) q42 q43 q44 q45 q47 q49 q50 q51 q52 q53 q54 q55 q56 q58
  have wn : v64 = x1 + 1 := by rw [q64]; exact wrap64 (by omega) (by omega)
  obtain ⟨s1, s2, s3, s4⟩ := st v63 (by rw [q63, e58, t, if_pos rfl]; rfl)
  rw [wn, w42]
  refine ⟨⟨by rw [q62]; exact Day.BF (by rw [q61, q60, t]; simp; omega), o54⟩, fun _ => ⟨s1, ⟨rfl, rfl, s2, s3⟩, s4⟩, fun hh => ?_⟩
  rw [q41, t] at hh
  cases hh
 ·obtain ⟨e1, e2, e3⟩ := Day.Nc (s := x2) (m := 0) hp h
  have t : v40 = false := by rw [q40]; exact decide_eq_false h
  refine ⟨by simp [q62, q54, q49, q47, t], fun hh => ?_, fun _ => ⟨e2, t, e1.symm, e3.symm⟩⟩
  rw [t] at hh
  cases hh
theorem WA (as : List A) (e : Nat → A) (h1 : as = (List.range 40).map e) (h2 : (I1 as).1 = true) (H : Ab T e Mf.defs) : Bj e Mf.obs ∧
   (∀ pc ls, some (V 40, [V 0, V 64, V 2, V 42, V 4, V 5, V 6, V 7, V 8, V 9, V 10, V 11, V 12, V 13, V 14, V 15, V 16, V 17, V 18, V 19, V 20, V 21, V 22, V 23, V 24, V 25, V 26, V 27, V 28, V 29, V 30, V 31, V 32, V 33, V 34, V 35, V 36, V 37, V 38, V 63]) = some (pc, ls) → (pc.ev e).bool = true → (I1 (ls.map (L.ev e))).1 = true ∧ (I1 (ls.map (L.ev e))).2 = (I1 as).2 ∧ Wz (ls.map (L.ev e)) < Wz as) ∧
   ∀ x ∈ ([(V 41, [some (V 1), some (V 40), some (V 3), some (V 39)])] : List (L × List (Option L))), (x.1.ev e).bool = true → ∀ (j : Nat) l, x.2[j]? = some (some l) → D6 (Ec.tags.getD j .any) (l.ev e) ((I1 as).2.getD j (.i 0)) := by
 subst h1
 obtain ⟨ho, h⟩ := UO e H h2
 refine ⟨⟨ho.1, ho.2, trivial⟩, fun pc ls hb hpc => ?_, ?_⟩
 ·injection hb with hb
  injection hb with h3 h4
  subst h3 h4
  have h := h.1 hpc
  refine ⟨h.1, ?_, h.2.2⟩
  have h5 := h.2.1
  obtain ⟨z0, z1, z2, z3⟩ := h5
  exact (A5 z0 (HF z1 (A5 z2 (Fw z3 rfl))))
 ·intro x hx hpc j l hj
  simp only [List.mem_cons, List.not_mem_nil, or_false] at hx
  rcases hx with rfl
  ·have h := h.2 hpc
   obtain ⟨z0, z1, z2, z3⟩ := h
   match j, hj with
   | 0, hj => cases hj; exact z0
   | 1, hj => cases hj; exact z1
   | 2, hj => cases hj; exact z2
   | 3, hj => cases hj; exact z3
   | _ + 4, hj => cases hj
def EY : Lp := ⟨39, [false, true, false, true, false, true, true, true, false, true, true, true], 1247, 47, 4, 15, ⟨Ez 39 [(0, .pv (.one (.k (.ptr 1 0)))), (1, .pv (.one (.k (.int .i64 (V 0))))), (4, .pv (.one (.k (.str (.s []))))), (5, .pv (.one (.k (.int .i64 (V 1))))), (6, .pv (.one (.k (.lsl 15 (V 2))))), (9, .pv (.one (.k (.ptr 1 0)))), (10, .pv (.one (.k (.int .i64 (V 3))))), (11, .pv (.one (.k (.int .i64 (V 1))))), (12, .pv (.one (.k (.int .i64 (V 1))))), (17, .pv (.one (.k (.bool (V 4))))), (18, .pv (.one (.k (.bool (V 4))))), (19, .pv (.one (.k (.bool (V 5))))), (20, .pv (.one (.k (.bool (V 5))))), (21, .pv (.one (.k (.ptr 1 0)))), (22, .pv (.one (.k (.ptr 1 0)))), (23, .pv (.one (.k (.int .i64 (V 6))))), (24, .pv (.one (.k (.int .i64 (V 7))))), (25, .pv (.one (.k (.lsl 14 (V 7))))), (26, .pv (.one (.k (.int .i64 (V 7))))), (27, .pv (.one (.k (.int .i64 (V 8)))))], [⟨true, 34, 31, [.k (.int .i64 (N 0)), .k (.nilslc), .k (.int .i64 (N 0)), .k (.int .i64 (N 0)), .k (.bool (B false)), .k (.nilslc), .k (.int .i64 (N 0)), .k (.int .i64 (N 0)), .k (.int .i64 (N 0)), .k (.int .i64 (N 0)), .k (.int .i64 (N 0)), .k (.int .i64 (N 0)), .k (.int .i64 (N 0)), .k (.int .i64 (N 0)), .k (.int .i64 (N 0)), .k (.int .i64 (N 0)), .k (.int .i64 (N 0)), .k (.int .i64 (N 0)), .k (.int .i64 (N 0)), .k (.int .i64 (N 0)), .k (.int .i64 (N 0)), .k (.int .i64 (N 0)), .k (.int .i64 (N 0)), .k (.int .i64 (N 0)), .k (.int .i64 (N 0)), .k (.int .i64 (N 0)), .k (.int .i64 (N 0)), .k (.int .i64 (N 0)), .k (.int .i64 (N 0)), .k (.int .i64 (N 0)), .k (.nilslc)], none⟩, ⟨true, 46, 2, [.k (.str (V 9)), .k (.int .i64 (V 10))], none⟩, ⟨true, 34, 31, [.k (.int .i64 (V 11)), .k (.lsl 9 (V 12)), .k (.int .i64 (V 13)), .k (.int .i64 (V 0)), .k (.bool (V 14)), .k (.lsl 8 (V 15)), .k (.int .i64 (V 16)), .k (.int .i64 (V 17)), .k (.int .i64 (V 18)), .k (.int .i64 (V 19)), .k (.int .i64 (V 20)), .k (.int .i64 (V 21)), .k (.int .i64 (V 22)), .k (.int .i64 (V 23)), .k (.int .i64 (V 24)), .k (.int .i64 (V 25)), .k (.int .i64 (V 26)), .k (.int .i64 (V 27)), .k (.int .i64 (V 28)), .k (.int .i64 (V 29)), .k (.int .i64 (V 30)), .k (.int .i64 (V 31)), .k (.int .i64 (V 32)), .k (.int .i64 (V 33)), .k (.int .i64 (V 34)), .k (.int .i64 (V 35)), .k (.int .i64 (V 36)), .k (.int .i64 (V 37)), .k (.int .i64 (V 38)), .k (.int .i64 (V 39)), .k (.lsl 10 (V 40))], none⟩, .dead, .dead, .dead, .dead, .dead, ⟨false, 0, 0, [], some ⟨true, 76, [.int .i64, .int .i64, .int .i64, .int .i64], V 41, V 15⟩⟩, ⟨false, 0, 0, [], some ⟨true, 3, [.int .i64], V 42, V 12⟩⟩, ⟨false, 0, 0, [], some ⟨true, 54, [.str, .str, .sl [.int .i64], .int .i64], V 43, V 40⟩⟩, ⟨true, 54, 4, [.k (.str (V 44)), .k (.str (.s [])), .k (.nilslc), .k (.int .i64 (N 0))], none⟩, .dead, .dead, ⟨false, 0, 0, [], some ⟨true, 3, [.int .i64], V 45, V 7⟩⟩, ⟨false, 0, 0, [], some ⟨true, 5, [.int .u8], V 46, V 2⟩⟩], B true⟩, [(.exit 1, ⟨Ez 39 [(0, .pv (.one (.k (.ptr 1 0)))), (1, .pv (.one (.k (.int .i64 (V 0))))), (4, .pv (.one (.k (.str (.s []))))), (5, .pv (.one (.k (.int .i64 (V 1))))), (6, .pv (.one (.k (.lsl 15 (V 47))))), (9, .pv (.one (.k (.ptr 1 0)))), (10, .pv (.one (.k (.int .i64 (V 3))))), (11, .pv (.one (.k (.int .i64 (V 1))))), (12, .pv (.one (.k (.int .i64 (V 1))))), (17, .pv (.one (.k (.bool (V 4))))), (18, .pv (.one (.k (.bool (V 4))))), (19, .pv (.one (.k (.bool (V 5))))), (20, .pv (.one (.k (.bool (V 5))))), (21, .pv (.one (.k (.ptr 1 0)))), (22, .pv (.one (.k (.ptr 1 0)))), (23, .pv (.one (.k (.int .i64 (V 6))))), (24, .pv (.one (.k (.int .i64 (V 7))))), (25, .pv (.one (.k (.lsl 14 (V 7))))), (26, .pv (.one (.k (.int .i64 (V 7))))), (27, .pv (.one (.k (.int .i64 (V 48))))), (28, .pv (.one (.k (.bool (V 49)))))], [⟨true, 34, 31, [.k (.int .i64 (N 0)), .k (.nilslc), .k (.int .i64 (N 0)), .k (.int .i64 (N 0)), .k (.bool (B false)), .k (.nilslc), .k (.int .i64 (N 0)), .k (.int .i64 (N 0)), .k (.int .i64 (N 0)), .k (.int .i64 (N 0)), .k (.int .i64 (N 0)), .k (.int .i64 (N 0)), .k (.int .i64 (N 0)), .k (.int .i64 (N 0)), .k (.int .i64 (N 0)), .k (.int .i64 (N 0)), .k (.int .i64 (N 0)), .k (.int .i64 (N 0)), .k (.int .i64 (N 0)), .k (.int .i64 (N 0)), .k (.int .i64 (N 0)), .k (.int .i64 (N 0)), .k (.int .i64 (N 0)), .k (.int .i64 (N 0)), .k (.int .i64 (N 0)), .k (.int .i64 (N 0)), .k (.int .i64 (N 0)), .k (.int .i64 (N 0)), .k (.int .i64 (N 0)), .k (.int .i64 (N 0)), .k (.nilslc)], none⟩, ⟨true, 46, 2, [.k (.str (V 9)), .k (.int .i64 (V 10))], none⟩, ⟨true, 34, 31, [.k (.int .i64 (V 11)), .k (.lsl 9 (V 12)), .k (.int .i64 (V 13)), .k (.int .i64 (V 0)), .k (.bool (V 14)), .k (.lsl 8 (V 15)), .k (.int .i64 (V 16)), .k (.int .i64 (V 17)), .k (.int .i64 (V 18)), .k (.int .i64 (V 19)), .k (.int .i64 (V 20)), .k (.int .i64 (V 21)), .k (.int .i64 (V 22)), .k (.int .i64 (V 23)), .k (.int .i64 (V 24)), .k (.int .i64 (V 25)), .k (.int .i64 (V 26)), .k (.int .i64 (V 27)), .k (.int .i64 (V 28)), .k (.int .i64 (V 29)), .k (.int .i64 (V 30)), .k (.int .i64 (V 31)), .k (.int .i64 (V 32)), .k (.int .i64 (V 33)), .k (.int .i64 (V 34)), .k (.int .i64 (V 35)), .k (.int .i64 (V 36)), .k (.int .i64 (V 37)), .k (.int .i64 (V 38)), .k (.int .i64 (V 39)), .k (.lsl 10 (V 40))], none⟩, .dead, .dead, .dead, .dead, .dead, ⟨false, 0, 0, [], some ⟨true, 76, [.int .i64, .int .i64, .int .i64, .int .i64], V 41, V 15⟩⟩, ⟨false, 0, 0, [], some ⟨true, 3, [.int .i64], V 42, V 12⟩⟩, ⟨false, 0, 0, [], some ⟨true, 54, [.str, .str, .sl [.int .i64], .int .i64], V 43, V 40⟩⟩, ⟨true, 54, 4, [.k (.str (V 44)), .k (.str (.s [])), .k (.nilslc), .k (.int .i64 (N 0))], none⟩, .dead, .dead, ⟨false, 0, 0, [], some ⟨true, 3, [.int .i64], V 45, V 7⟩⟩, ⟨false, 0, 0, [], some ⟨true, 5, [.int .u8], V 50, V 47⟩⟩], B true⟩)], [true, true, false, true, true, true, true, true, false, true, true, true, true, true, true, true, true, true, true, true, true, true, true, true, true, true, true, true, true, true, true, true, true, true, true, true, true, true, true, true, true, true, true, true, true, true, false], [.i, .i, .b, .any]⟩
def Mg : G := ⟨62, [⟨61, (.ar .add .i64), [V 8, N 1]⟩, ⟨60, .imp, [V 47, V 59]⟩, ⟨59, .and, [V 57, V 58]⟩, ⟨58, (.cmp .lss), [V 56, N 1000001]⟩, ⟨57, (.cmp .leq), [N 0, V 56]⟩, ⟨56, (.lln 1), [V 55]⟩, ⟨55, .cat, [V 46, V 54]⟩, ⟨54, .mkl, [V 53]⟩, ⟨53, (.conv .u8), [V 52]⟩, ⟨52, (.pix 0 1), [V 45, V 8]⟩, ⟨51, .imp, [V 47, V 50]⟩, ⟨50, .and, [V 49, V 47]⟩, ⟨49, (.cmp .leq), [N 0, V 8]⟩, ⟨48, .not, [V 47]⟩, ⟨47, (.cmp .lss), [V 8, V 7]⟩], [V 60, V 51], []⟩
def WB (al : List A) : Nat := ((gi al 7) - (gi al 8)).toNat
theorem UP (e : Nat → A) (H : Ab T e Mg.defs) (hp : (Day.U0 (e 7).int (e 8).int (e 2).int (e 45) (e 46)) = true) :
  ((e 60).bool = true ∧ (e 51).bool = true) ∧ ((e 47).bool = true → (Day.U0 (e 7).int (e 61).int (e 56).int (e 45) (e 55)) = true ∧ ((e 7).int = (e 7).int ∧ (e 7).int = (e 7).int ∧ false = false ∧ Day.Uo (e 61).int (e 45) (e 55) = Day.Uo (e 8).int (e 45) (e 46)) ∧ ((e 7).int - (e 61).int).toNat < ((e 7).int - (e 8).int).toNat) ∧ ((e 48).bool = true → (e 2).int = (e 7).int ∧ (e 8).int = (e 7).int ∧ (e 47).bool = false ∧ (e 46) = Day.Uo (e 8).int (e 45) (e 46)) := by
 simp only [Mg, Ab, Def.q, BI, L.Ak, L.Aw, L.AS, L.AV, L.ev, A.Ai, A.Ao, A.AF, A.AT, List.map_cons, List.map_nil, Nat.zero_add, Nat.add_zero, and_true, true_and, Nat.reduceAdd, Nat.one_mul] at H
 simp only [D0, Ee, CW, Bg, Ef, Ey, BV, Fq, and_true, true_and] at H
 obtain ⟨⟨q61, -⟩, q60, q59, q58, q57, q56, q55, q54, ⟨q53, k53⟩, q52, q51, q50, q49, q48, q47⟩ := H
 unfold KW at k53
 generalize (e 0).int = x0, (e 1).int = x1, (e 2).int = x2, (e 3).int = x3, (e 4).int = x4, (e 5).int = x5, (e 6).int = x6, (e 7).int = x7, (e 8).int = x8, (e 9).int = x9, (e 10).int = x10, (e 11).int = x11, (e 12).int = x12, (e 13).int = x13, (e 14).int = x14, (e 15).int = x15, (e 16).int = x16, (e 17).int = x17, (e 18).int = x18, (e 19).int = x19, (e 20).int = x20, (e 21).int = x21, (e 22).int = x22, (e 23).int = x23, (e 24).int = x24, (e 25).int = x25, (e 26).int = x26, (e 27).int = x27, (e 28).int = x28, (e 29).int = x29, (e 30).int = x30, (e 31).int = x31, (e 32).int = x32, (e 33).int = x33, (e 34).int = x34, (e 35).int = x35, (e 36).int = x36, (e 37).int = x37, (e 38).int = x38, (e 39).int = x39, (e 40).int = x40, (e 41).int = x41, (e 42).int = x42, (e 43).int = x43, (e 44).int = x44, e 45 = x45, e 46 = x46, (e 47).bool = v47, (e 48).bool = v48, (e 49).bool = v49, (e 50).bool = v50, (e 51).bool = v51, (e 53).int = v53, e 54 = v54, e 55 = v55, (e 56).int = v56, (e 57).bool = v57, (e 58).bool = v58, (e 59).bool = v59, (e 60).bool = v60, (e 61).int = v61 at *
 rw [k53] at q54
 replace q52 := congrArg A.int q52
 generalize (e 52).int = v52 at *
 by_cases h : x8 < x7
 ·obtain ⟨i0, n1, l1, st⟩ := Day.XC hp h
  have t : v47 = true := by rw [q47]; exact decide_eq_true h
  have wn : v61 = x8 + 1 := by rw [q61]; exact wrap64 (by omega) (by omega)
  have ez : v55 = .l (x46.AJ ++ [Day.u8A (x45.AJ.getD x8.toNat (.i 0))]) := by rw [q55, q54, q53, q52]; rfl
  have ed : v56 = (v55.AJ.length : Int) := by rw [q56, Nat.div_one]
  obtain ⟨s1, s2, s3⟩ := st v55 v56 ez ed
  have gd : v56 = x8 + 1 := by rw [ed, ez]; show ((x46.AJ ++ [_]).length : Int) = _; rw [List.length_append, List.length_singleton]; omega
  rw [wn]
  refine ⟨⟨by rw [q60]; exact Day.BF (by rw [q59, q57, q58, gd]; simp; omega), by rw [q51]; exact Day.BF (by rw [q50, q49, t]; simp; omega)⟩, fun _ => ⟨s1, ⟨rfl, rfl, rfl, s2⟩, s3⟩, fun hh => ?_⟩
  rw [q48, t] at hh
  cases hh
 ·obtain ⟨e1, e2, e3⟩ := Day.Aap hp h
  have t : v47 = false := by rw [q47]; exact decide_eq_false h
  refine ⟨by simp [q60, q51, t], fun hh => ?_, fun _ => ⟨e1, e2, t, e3.symm⟩⟩
  rw [t] at hh
  cases hh
theorem WC (as : List A) (e : Nat → A) (h1 : as = (List.range 47).map e) (h2 : (I2 as).1 = true) (H : Ab T e Mg.defs) : Bj e Mg.obs ∧
   (∀ pc ls, some (V 47, [V 0, V 1, V 56, V 3, V 4, V 5, V 6, V 7, V 61, V 9, V 10, V 11, V 12, V 13, V 14, V 15, V 16, V 17, V 18, V 19, V 20, V 21, V 22, V 23, V 24, V 25, V 26, V 27, V 28, V 29, V 30, V 31, V 32, V 33, V 34, V 35, V 36, V 37, V 38, V 39, V 40, V 41, V 42, V 43, V 44, V 45, V 55]) = some (pc, ls) → (pc.ev e).bool = true → (I2 (ls.map (L.ev e))).1 = true ∧ (I2 (ls.map (L.ev e))).2 = (I2 as).2 ∧ WB (ls.map (L.ev e)) < WB as) ∧
   ∀ x ∈ ([(V 48, [some (V 2), some (V 8), some (V 47), some (V 46)])] : List (L × List (Option L))), (x.1.ev e).bool = true → ∀ (j : Nat) l, x.2[j]? = some (some l) → D6 (EY.tags.getD j .any) (l.ev e) ((I2 as).2.getD j (.i 0)) := by
 subst h1
 obtain ⟨ho, h⟩ := UP e H h2
 refine ⟨⟨ho.1, ho.2, trivial⟩, fun pc ls hb hpc => ?_, ?_⟩
 ·injection hb with hb
  injection hb with h3 h4
  subst h3 h4
  have h := h.1 hpc
  refine ⟨h.1, ?_, h.2.2⟩
  have h5 := h.2.1
  obtain ⟨z0, z1, z2, z3⟩ := h5
  exact (A5 z0 (A5 z1 (HF z2 (Fw z3 rfl))))
 ·intro x hx hpc j l hj
  simp only [List.mem_cons, List.not_mem_nil, or_false] at hx
  rcases hx with rfl
  ·have h := h.2 hpc
   obtain ⟨z0, z1, z2, z3⟩ := h
   match j, hj with
   | 0, hj => cases hj; exact z0
   | 1, hj => cases hj; exact z1
   | 2, hj => cases hj; exact z2
   | 3, hj => cases hj; exact z3
   | _ + 4, hj => cases hj
def F1 : Lp := ⟨20, [false, true, false, true, true], 1248, 38, 4, 14, ⟨Ez 25 [(0, .pv (.one (.k (.ptr 1 0)))), (1, .pv (.one (.k (.int .i64 (V 0))))), (2, .pv (.one (.clo 51 [] [.ptr 12 0]))), (6, .pv (.one (.k (.nilslc)))), (7, .pv (.one (.k (.lsl 13 (V 0))))), (9, .pv (.one (.k (.int .i64 (V 0))))), (10, .pv (.one (.k (.lsl 13 (V 0))))), (11, .pv (.one (.k (.lsl 13 (V 0))))), (12, .pv (.one (.k (.int .i64 (V 0))))), (13, .pv (.one (.k (.int .i64 (V 1)))))], [⟨true, 34, 31, [.k (.int .i64 (N 0)), .k (.nilslc), .k (.int .i64 (N 0)), .k (.int .i64 (N 0)), .k (.bool (B false)), .k (.nilslc), .k (.int .i64 (N 0)), .k (.int .i64 (N 0)), .k (.int .i64 (N 0)), .k (.int .i64 (N 0)), .k (.int .i64 (N 0)), .k (.int .i64 (N 0)), .k (.int .i64 (N 0)), .k (.int .i64 (N 0)), .k (.int .i64 (N 0)), .k (.int .i64 (N 0)), .k (.int .i64 (N 0)), .k (.int .i64 (N 0)), .k (.int .i64 (N 0)), .k (.int .i64 (N 0)), .k (.int .i64 (N 0)), .k (.int .i64 (N 0)), .k (.int .i64 (N 0)), .k (.int .i64 (N 0)), .k (.int .i64 (N 0)), .k (.int .i64 (N 0)), .k (.int .i64 (N 0)), .k (.int .i64 (N 0)), .k (.int .i64 (N 0)), .k (.int .i64 (N 0)), .k (.nilslc)], none⟩, ⟨true, 46, 2, [.k (.str (V 2)), .k (.int .i64 (V 3))], none⟩, ⟨true, 34, 31, [.k (.int .i64 (V 0)), .k (.lsl 9 (V 4)), .k (.int .i64 (V 5)), .k (.int .i64 (V 6)), .k (.bool (V 7)), .k (.lsl 8 (V 8)), .k (.int .i64 (V 9)), .k (.int .i64 (V 10)), .k (.int .i64 (V 11)), .k (.int .i64 (V 12)), .k (.int .i64 (V 13)), .k (.int .i64 (V 14)), .k (.int .i64 (V 15)), .k (.int .i64 (V 16)), .k (.int .i64 (V 17)), .k (.int .i64 (V 18)), .k (.int .i64 (V 19)), .k (.int .i64 (V 20)), .k (.int .i64 (V 21)), .k (.int .i64 (V 22)), .k (.int .i64 (V 23)), .k (.int .i64 (V 24)), .k (.int .i64 (V 25)), .k (.int .i64 (V 26)), .k (.int .i64 (V 27)), .k (.int .i64 (V 28)), .k (.int .i64 (V 29)), .k (.int .i64 (V 30)), .k (.int .i64 (V 31)), .k (.int .i64 (V 32)), .k (.lsl 10 (V 33))], none⟩, .dead, .dead, .dead, .dead, .dead, ⟨false, 0, 0, [], some ⟨true, 76, [.int .i64, .int .i64, .int .i64, .int .i64], V 34, V 8⟩⟩, ⟨false, 0, 0, [], some ⟨true, 3, [.int .i64], V 35, V 4⟩⟩, ⟨false, 0, 0, [], some ⟨true, 54, [.str, .str, .sl [.int .i64], .int .i64], V 36, V 33⟩⟩, ⟨true, 54, 4, [.k (.str (.s [])), .k (.str (.s [])), .k (.nilslc), .k (.int .i64 (N 0))], none⟩, ⟨true, 3, 1, [.k (.int .i64 (N 3))], none⟩, ⟨false, 0, 0, [], some ⟨true, 3, [.int .i64], V 37, V 0⟩⟩], B true⟩, [(.exit 0, ⟨Ez 25 [(0, .pv (.one (.k (.ptr 1 0)))), (1, .pv (.one (.k (.int .i64 (V 0))))), (2, .pv (.one (.clo 51 [] [.ptr 12 0]))), (6, .pv (.one (.k (.nilslc)))), (7, .pv (.one (.k (.lsl 13 (V 0))))), (9, .pv (.one (.k (.int .i64 (V 0))))), (10, .pv (.one (.k (.lsl 13 (V 0))))), (11, .pv (.one (.k (.lsl 13 (V 0))))), (12, .pv (.one (.k (.int .i64 (V 0))))), (13, .pv (.one (.k (.int .i64 (V 38))))), (14, .pv (.one (.k (.bool (V 39)))))], [⟨true, 34, 31, [.k (.int .i64 (N 0)), .k (.nilslc), .k (.int .i64 (N 0)), .k (.int .i64 (N 0)), .k (.bool (B false)), .k (.nilslc), .k (.int .i64 (N 0)), .k (.int .i64 (N 0)), .k (.int .i64 (N 0)), .k (.int .i64 (N 0)), .k (.int .i64 (N 0)), .k (.int .i64 (N 0)), .k (.int .i64 (N 0)), .k (.int .i64 (N 0)), .k (.int .i64 (N 0)), .k (.int .i64 (N 0)), .k (.int .i64 (N 0)), .k (.int .i64 (N 0)), .k (.int .i64 (N 0)), .k (.int .i64 (N 0)), .k (.int .i64 (N 0)), .k (.int .i64 (N 0)), .k (.int .i64 (N 0)), .k (.int .i64 (N 0)), .k (.int .i64 (N 0)), .k (.int .i64 (N 0)), .k (.int .i64 (N 0)), .k (.int .i64 (N 0)), .k (.int .i64 (N 0)), .k (.int .i64 (N 0)), .k (.nilslc)], none⟩, ⟨true, 46, 2, [.k (.str (V 2)), .k (.int .i64 (V 40))], none⟩, ⟨true, 34, 31, [.k (.int .i64 (V 0)), .k (.lsl 9 (V 4)), .k (.int .i64 (V 5)), .k (.int .i64 (V 6)), .k (.bool (V 7)), .k (.lsl 8 (V 8)), .k (.int .i64 (V 9)), .k (.int .i64 (V 10)), .k (.int .i64 (V 11)), .k (.int .i64 (V 12)), .k (.int .i64 (V 13)), .k (.int .i64 (V 14)), .k (.int .i64 (V 15)), .k (.int .i64 (V 16)), .k (.int .i64 (V 17)), .k (.int .i64 (V 18)), .k (.int .i64 (V 19)), .k (.int .i64 (V 20)), .k (.int .i64 (V 21)), .k (.int .i64 (V 22)), .k (.int .i64 (V 23)), .k (.int .i64 (V 24)), .k (.int .i64 (V 25)), .k (.int .i64 (V 26)), .k (.int .i64 (V 27)), .k (.int .i64 (V 28)), .k (.int .i64 (V 29)), .k (.int .i64 (V 30)), .k (.int .i64 (V 31)), .k (.int .i64 (V 32)), .k (.lsl 10 (V 33))], none⟩, .dead, .dead, .dead, .dead, .dead, ⟨false, 0, 0, [], some ⟨true, 76, [.int .i64, .int .i64, .int .i64, .int .i64], V 34, V 8⟩⟩, ⟨false, 0, 0, [], some ⟨true, 3, [.int .i64], V 35, V 4⟩⟩, ⟨false, 0, 0, [], some ⟨true, 54, [.str, .str, .sl [.int .i64], .int .i64], V 36, V 33⟩⟩, ⟨true, 54, 4, [.k (.str (.s [])), .k (.str (.s [])), .k (.nilslc), .k (.int .i64 (N 0))], none⟩, ⟨true, 3, 1, [.k (.int .i64 (N 3))], none⟩, ⟨false, 0, 0, [], some ⟨true, 3, [.int .i64], V 41, V 0⟩⟩], B true⟩)], [true, false, true, false, true, true, true, true, true, true, true, true, true, true, true, true, true, true, true, true, true, true, true, true, true, true, true, true, true, true, true, true, true, true, true, true, true, false], [.i, .b, .i, .any]⟩
def Mh : G := ⟨64, [⟨63, (.ar .add .i64), [V 1, N 1]⟩, ⟨62, (.pset 0 1), [V 37, V 1, V 58]⟩, ⟨61, .imp, [V 38, V 60]⟩, ⟨60, .and, [V 59, V 38]⟩, ⟨59, (.cmp .leq), [N 0, V 1]⟩, ⟨58, (.dv .rem .i64), [V 56, N 3]⟩, ⟨57, .iteB, [V 47, V 47, V 46]⟩, ⟨56, .iteI, [V 47, V 54, N 0]⟩, ⟨55, .not, [V 47]⟩, ⟨54, (.conv .i64), [V 53]⟩, ⟨53, .sget, [V 2, V 48]⟩, ⟨52, .imp, [V 47, V 51]⟩, ⟨51, .and, [V 49, V 50]⟩, ⟨50, (.cmp .lss), [V 48, V 41]⟩, ⟨49, (.cmp .leq), [N 0, V 48]⟩, ⟨48, (.ar .sub .i64), [V 40, N 1]⟩, ⟨47, .and, [V 43, V 45]⟩, ⟨46, .and, [V 42, V 44]⟩, ⟨45, .and, [V 38, V 43]⟩, ⟨44, .and, [V 38, V 42]⟩, ⟨43, .not, [V 42]⟩, ⟨42, (.cmp .gtr), [V 40, V 41]⟩, ⟨41, .slen, [V 2]⟩, ⟨40, (.ar .add .i64), [V 3, N 1]⟩, ⟨39, .not, [V 38]⟩, ⟨38, (.cmp .lss), [V 1, V 0]⟩], [V 61, V 52], []⟩
def WD (al : List A) : Nat := ((gi al 0) - (gi al 1)).toNat
theorem UQ (e : Nat → A) (H : Ab T e Mh.defs) (hp : (Day.Kn (e 3).int (e 1).int (e 0).int (e 37)) = true) :
  ((e 61).bool = true ∧ (e 52).bool = true) ∧ ((e 38).bool = true → (Day.Kn (e 40).int (e 63).int (e 0).int (e 62)) = true ∧ ((e 0).int = (e 0).int ∧ false = false ∧ Day.H2 (e 40).int (e 63).int (e 0).int = Day.H2 (e 3).int (e 1).int (e 0).int ∧ Day.H0 (e 2).str 3 (e 40).int (e 63).int (e 0).int (e 62) = Day.H0 (e 2).str 3 (e 3).int (e 1).int (e 0).int (e 37)) ∧ ((e 0).int - (e 63).int).toNat < ((e 0).int - (e 1).int).toNat) ∧ ((e 39).bool = true → (e 1).int = (e 0).int ∧ (e 38).bool = false ∧ (e 3).int = Day.H2 (e 3).int (e 1).int (e 0).int ∧ (e 37) = Day.H0 (e 2).str 3 (e 3).int (e 1).int (e 0).int (e 37)) := by
 simp only [Mh, Ab, Def.q, BI, L.Ak, L.Aw, L.AS, L.AV, L.ev, A.Ai, A.Ao, A.AF, A.AT, List.map_cons, List.map_nil, Nat.zero_add, Nat.add_zero, and_true, true_and, Nat.reduceAdd, Nat.one_mul] at H
 simp only [D0, Ee, CW, Bg, Ef, Ey, BV, Fq, and_true, true_and] at H
 obtain ⟨⟨q63, -⟩, q62, q61, q60, q59, ⟨q58, k58⟩, q57, ⟨q56, -⟩, q55, ⟨q54, -⟩, ⟨q53, -⟩, q52, q51, q50, q49, ⟨q48, -⟩, q47, q46, q45, q44, q43, q42, q41, ⟨q40, -⟩, q39, q38⟩ := H
 unfold KW at k58
 generalize (e 0).int = x0, (e 1).int = x1, (e 2).str = x2, (e 3).int = x3, (e 4).int = x4, (e 5).int = x5, (e 6).int = x6, (e 7).int = x7, (e 8).int = x8, (e 9).int = x9, (e 10).int = x10, (e 11).int = x11, (e 12).int = x12, (e 13).int = x13, (e 14).int = x14, (e 15).int = x15, (e 16).int = x16, (e 17).int = x17, (e 18).int = x18, (e 19).int = x19, (e 20).int = x20, (e 21).int = x21, (e 22).int = x22, (e 23).int = x23, (e 24).int = x24, (e 25).int = x25, (e 26).int = x26, (e 27).int = x27, (e 28).int = x28, (e 29).int = x29, (e 30).int = x30, (e 31).int = x31, (e 32).int = x32, (e 33).int = x33, (e 34).int = x34, (e 35).int = x35, (e 36).int = x36, e 37 = x37, (e 38).bool = v38, (e 39).bool = v39, (e 40).int = v40, (e 41).int = v41, (e 42).bool = v42, (e 43).bool = v43, (e 44).bool = v44, (e 45).bool = v45, (e 46).bool = v46, (e 47).bool = v47, (e 48).int = v48, (e 49).bool = v49, (e 50).bool = v50, (e 51).bool = v51, (e 52).bool = v52, (e 53).int = v53, (e 54).int = v54, (e 55).bool = v55, (e 56).int = v56, (e 57).bool = v57, (e 58).int = v58, (e 59).bool = v59, (e 60).bool = v60, (e 61).bool = v61, e 62 = v62, (e 63).int = v63 at *
 rw [k58] at q62
 by_cases h : x1 < x0
 ·obtain ⟨t0, t1, i0, n1, l1, st⟩ := Day.JW (s := x2) (m := 3) hp h
  have t : v38 = true := by rw [q38]; exact decide_eq_true h
  have r := Day.Az x2 x3
  obtain ⟨w40, o52, e56⟩ := Day.Ox (by omega) (by omega) q40 q41 q42 q43 q45 q47 q48 q49 q50 q51 q52 q53 q54 q56
  have wn : v63 = x1 + 1 := by rw [q63]; exact wrap64 (by omega) (by omega)
  obtain ⟨s1, s2, s3, s4⟩ := st v62 (by rw [q62, q58, e56, t, if_pos rfl, Int.tmod_eq_emod_of_nonneg r.1]; rfl)
  rw [wn, w40]
  refine ⟨⟨by rw [q61]; exact Day.BF (by rw [q60, q59, t]; simp; omega), o52⟩, fun _ => ⟨s1, ⟨rfl, rfl, s2, s3⟩, s4⟩, fun hh => ?_⟩
  rw [q39, t] at hh
  cases hh
 ·obtain ⟨e1, e2, e3⟩ := Day.Nc (s := x2) (m := 3) hp h
  have t : v38 = false := by rw [q38]; exact decide_eq_false h
  refine ⟨by simp [q61, q52, q47, q45, t], fun hh => ?_, fun _ => ⟨e2, t, e1.symm, e3.symm⟩⟩
  rw [t] at hh
  cases hh
theorem WE (as : List A) (e : Nat → A) (h1 : as = (List.range 38).map e) (h2 : (I3 as).1 = true) (H : Ab T e Mh.defs) : Bj e Mh.obs ∧
   (∀ pc ls, some (V 38, [V 0, V 63, V 2, V 40, V 4, V 5, V 6, V 7, V 8, V 9, V 10, V 11, V 12, V 13, V 14, V 15, V 16, V 17, V 18, V 19, V 20, V 21, V 22, V 23, V 24, V 25, V 26, V 27, V 28, V 29, V 30, V 31, V 32, V 33, V 34, V 35, V 36, V 62]) = some (pc, ls) → (pc.ev e).bool = true → (I3 (ls.map (L.ev e))).1 = true ∧ (I3 (ls.map (L.ev e))).2 = (I3 as).2 ∧ WD (ls.map (L.ev e)) < WD as) ∧
   ∀ x ∈ ([(V 39, [some (V 1), some (V 38), some (V 3), some (V 37)])] : List (L × List (Option L))), (x.1.ev e).bool = true → ∀ (j : Nat) l, x.2[j]? = some (some l) → D6 (F1.tags.getD j .any) (l.ev e) ((I3 as).2.getD j (.i 0)) := by
 subst h1
 obtain ⟨ho, h⟩ := UQ e H h2
 refine ⟨⟨ho.1, ho.2, trivial⟩, fun pc ls hb hpc => ?_, ?_⟩
 ·injection hb with hb
  injection hb with h3 h4
  subst h3 h4
  have h := h.1 hpc
  refine ⟨h.1, ?_, h.2.2⟩
  have h5 := h.2.1
  obtain ⟨z0, z1, z2, z3⟩ := h5
  exact (A5 z0 (HF z1 (A5 z2 (Fw z3 rfl))))
 ·intro x hx hpc j l hj
  simp only [List.mem_cons, List.not_mem_nil, or_false] at hx
  rcases hx with rfl
  ·have h := h.2 hpc
   obtain ⟨z0, z1, z2, z3⟩ := h
   match j, hj with
   | 0, hj => cases hj; exact z0
   | 1, hj => cases hj; exact z1
   | 2, hj => cases hj; exact z2
   | 3, hj => cases hj; exact z3
   | _ + 4, hj => cases hj
def Ht : Lp := ⟨9, [false, true, false, true, true, true, true, true, true, true, true], 1249, 46, 3, 10, ⟨Ez 97 [(0, .pv (.one (.k (.str (V 0))))), (2, .pv (.one (.k (.ptr 0 0)))), (3, .pv (.one (.k (.ptr 1 0)))), (4, .pv (.one (.k (.ptr 2 0)))), (5, .pv (.one (.k (.int .i64 (V 1))))), (6, .pv (.one (.k (.int .i64 (V 2))))), (7, .pv (.one (.k (.int .i64 (V 3))))), (8, .pv (.one (.k (.str (V 0))))), (9, .pv (.agg [.k (.str (V 0)), .k (.int .i64 (N 0))])), (10, .pv (.one (.k (.ptr 1 0)))), (11, .pv (.one (.k (.ptr 1 0)))), (12, .pv (.one (.k (.int .i64 (V 4))))), (13, .pv (.one (.k (.int .i64 (V 5))))), (14, .pv (.one (.k (.int .i64 (V 6))))), (15, .pv (.agg [.k (.int .i64 (V 6)), .k (.nilslc), .k (.int .i64 (N 0)), .k (.int .i64 (N 0)), .k (.bool (B false)), .k (.nilslc), .k (.int .i64 (N 0)), .k (.int .i64 (N 0)), .k (.int .i64 (N 0)), .k (.int .i64 (N 0)), .k (.int .i64 (N 0)), .k (.int .i64 (N 0)), .k (.int .i64 (N 0)), .k (.int .i64 (N 0)), .k (.int .i64 (N 0)), .k (.int .i64 (N 0)), .k (.int .i64 (N 0)), .k (.int .i64 (N 0)), .k (.int .i64 (N 0)), .k (.int .i64 (N 0)), .k (.int .i64 (N 0)), .k (.int .i64 (N 0)), .k (.int .i64 (N 0)), .k (.int .i64 (N 0)), .k (.int .i64 (N 0)), .k (.int .i64 (N 0)), .k (.int .i64 (N 0)), .k (.int .i64 (N 0)), .k (.int .i64 (N 0)), .k (.int .i64 (N 0)), .k (.nilslc)])), (16, .pv (.one (.k (.ptr 2 0)))), (17, .pv (.one (.k (.ptr 1 0)))), (18, .pv (.one (.k (.int .i64 (V 1))))), (19, .pv (.one (.k (.ptr 1 0)))), (20, .pv (.one (.k (.int .i64 (V 2))))), (21, .pv (.one (.k (.ptr 2 0)))), (22, .pv (.one (.k (.ptr 2 0)))), (23, .pv (.one (.k (.int .i64 (V 1))))), (24, .pv (.one (.k (.int .i64 (V 7))))), (25, .pv (.one (.k (.int .i64 (V 1))))), (26, .pv (.one (.k (.int .i64 (V 8))))), (27, .pv (.one (.k (.int .i64 (V 9))))), (28, .pv (.one (.k (.bool (V 10))))), (29, .pv (.one (.k (.ptr 2 0)))), (30, .pv (.one (.k (.ptr 2 2)))), (31, .pv (.one (.k (.ptr 2 2)))), (32, .pv (.one (.k (.ptr 2 0)))), (33, .pv (.one (.k (.ptr 2 4)))), (34, .pv (.one (.k (.ptr 2 0)))), (35, .pv (.one (.k (.ptr 2 0)))), (36, .pv (.one (.k (.ptr 2 2)))), (37, .pv (.one (.k (.ptr 2 2)))), (38, .pv (.one (.k (.int .i64 (V 7))))), (39, .pv (.one (.k (.bool (V 11))))), (40, .pv (.one (.k (.bool (V 11))))), (59, .pv (.one (.k (.ptr 2 0)))), (60, .pv (.one (.k (.ptr 2 0)))), (61, .pv (.one (.k (.ptr 2 4)))), (62, .pv (.one (.k (.bool (V 10))))), (75, .pv (.one (.k (.ptr 1 0)))), (76, .pv (.one (.k (.int .i64 (V 12))))), (77, .pv (.one (.k (.int .i64 (V 3))))), (78, .pv (.one (.k (.int .i64 (V 3))))), (79, .pv (.one (.k (.int .i64 (V 13)))))], [⟨true, 34, 31, [.k (.int .i64 (N 0)), .k (.nilslc), .k (.int .i64 (N 0)), .k (.int .i64 (N 0)), .k (.bool (B false)), .k (.nilslc), .k (.int .i64 (N 0)), .k (.int .i64 (N 0)), .k (.int .i64 (N 0)), .k (.int .i64 (N 0)), .k (.int .i64 (N 0)), .k (.int .i64 (N 0)), .k (.int .i64 (N 0)), .k (.int .i64 (N 0)), .k (.int .i64 (N 0)), .k (.int .i64 (N 0)), .k (.int .i64 (N 0)), .k (.int .i64 (N 0)), .k (.int .i64 (N 0)), .k (.int .i64 (N 0)), .k (.int .i64 (N 0)), .k (.int .i64 (N 0)), .k (.int .i64 (N 0)), .k (.int .i64 (N 0)), .k (.int .i64 (N 0)), .k (.int .i64 (N 0)), .k (.int .i64 (N 0)), .k (.int .i64 (N 0)), .k (.int .i64 (N 0)), .k (.int .i64 (N 0)), .k (.nilslc)], none⟩, ⟨true, 46, 2, [.k (.str (V 0)), .k (.int .i64 (V 14))], none⟩, ⟨true, 34, 31, [.k (.int .i64 (V 6)), .k (.lsl 9 (V 15)), .k (.int .i64 (V 7)), .k (.int .i64 (V 16)), .k (.bool (V 10)), .k (.lsl 8 (V 17)), .k (.int .i64 (V 18)), .k (.int .i64 (V 19)), .k (.int .i64 (V 20)), .k (.int .i64 (V 21)), .k (.int .i64 (V 22)), .k (.int .i64 (V 23)), .k (.int .i64 (V 24)), .k (.int .i64 (V 25)), .k (.int .i64 (V 26)), .k (.int .i64 (V 27)), .k (.int .i64 (V 28)), .k (.int .i64 (V 29)), .k (.int .i64 (V 30)), .k (.int .i64 (V 31)), .k (.int .i64 (V 32)), .k (.int .i64 (V 33)), .k (.int .i64 (V 34)), .k (.int .i64 (V 35)), .k (.int .i64 (V 36)), .k (.int .i64 (V 37)), .k (.int .i64 (V 38)), .k (.int .i64 (V 39)), .k (.int .i64 (V 40)), .k (.int .i64 (V 41)), .k (.lsl 10 (V 42))], none⟩, .dead, .dead, .dead, .dead, .dead, ⟨false, 0, 0, [], some ⟨true, 76, [.int .i64, .int .i64, .int .i64, .int .i64], V 43, V 17⟩⟩, ⟨false, 0, 0, [], some ⟨true, 3, [.int .i64], V 44, V 15⟩⟩, ⟨false, 0, 0, [], some ⟨true, 54, [.str, .str, .sl [.int .i64], .int .i64], V 45, V 42⟩⟩], B true⟩, [(.exit 1, ⟨Ez 97 [(0, .pv (.one (.k (.str (V 0))))), (2, .pv (.one (.k (.ptr 0 0)))), (3, .pv (.one (.k (.ptr 1 0)))), (4, .pv (.one (.k (.ptr 2 0)))), (5, .pv (.one (.k (.int .i64 (V 1))))), (6, .pv (.one (.k (.int .i64 (V 2))))), (7, .pv (.one (.k (.int .i64 (V 3))))), (8, .pv (.one (.k (.str (V 0))))), (9, .pv (.agg [.k (.str (V 0)), .k (.int .i64 (N 0))])), (10, .pv (.one (.k (.ptr 1 0)))), (11, .pv (.one (.k (.ptr 1 0)))), (12, .pv (.one (.k (.int .i64 (V 4))))), (13, .pv (.one (.k (.int .i64 (V 5))))), (14, .pv (.one (.k (.int .i64 (V 6))))), (15, .pv (.agg [.k (.int .i64 (V 6)), .k (.nilslc), .k (.int .i64 (N 0)), .k (.int .i64 (N 0)), .k (.bool (B false)), .k (.nilslc), .k (.int .i64 (N 0)), .k (.int .i64 (N 0)), .k (.int .i64 (N 0)), .k (.int .i64 (N 0)), .k (.int .i64 (N 0)), .k (.int .i64 (N 0)), .k (.int .i64 (N 0)), .k (.int .i64 (N 0)), .k (.int .i64 (N 0)), .k (.int .i64 (N 0)), .k (.int .i64 (N 0)), .k (.int .i64 (N 0)), .k (.int .i64 (N 0)), .k (.int .i64 (N 0)), .k (.int .i64 (N 0)), .k (.int .i64 (N 0)), .k (.int .i64 (N 0)), .k (.int .i64 (N 0)), .k (.int .i64 (N 0)), .k (.int .i64 (N 0)), .k (.int .i64 (N 0)), .k (.int .i64 (N 0)), .k (.int .i64 (N 0)), .k (.int .i64 (N 0)), .k (.nilslc)])), (16, .pv (.one (.k (.ptr 2 0)))), (17, .pv (.one (.k (.ptr 1 0)))), (18, .pv (.one (.k (.int .i64 (V 1))))), (19, .pv (.one (.k (.ptr 1 0)))), (20, .pv (.one (.k (.int .i64 (V 2))))), (21, .pv (.one (.k (.ptr 2 0)))), (22, .pv (.one (.k (.ptr 2 0)))), (23, .pv (.one (.k (.int .i64 (V 1))))), (24, .pv (.one (.k (.int .i64 (V 7))))), (25, .pv (.one (.k (.int .i64 (V 1))))), (26, .pv (.one (.k (.int .i64 (V 8))))), (27, .pv (.one (.k (.int .i64 (V 9))))), (28, .pv (.one (.k (.bool (V 10))))), (29, .pv (.one (.k (.ptr 2 0)))), (30, .pv (.one (.k (.ptr 2 2)))), (31, .pv (.one (.k (.ptr 2 2)))), (32, .pv (.one (.k (.ptr 2 0)))), (33, .pv (.one (.k (.ptr 2 4)))), (34, .pv (.one (.k (.ptr 2 0)))), (35, .pv (.one (.k (.ptr 2 0)))), (36, .pv (.one (.k (.ptr 2 2)))), (37, .pv (.one (.k (.ptr 2 2)))), (38, .pv (.one (.k (.int .i64 (V 7))))), (39, .pv (.one (.k (.bool (V 11))))), (40, .pv (.one (.k (.bool (V 11))))), (59, .pv (.one (.k (.ptr 2 0)))), (60, .pv (.one (.k (.ptr 2 0)))), (61, .pv (.one (.k (.ptr 2 4)))), (62, .pv (.one (.k (.bool (V 10))))), (75, .pv (.one (.k (.ptr 1 0)))), (76, .pv (.one (.k (.int .i64 (V 12))))), (77, .pv (.one (.k (.int .i64 (V 3)))))], [⟨true, 34, 31, [.k (.int .i64 (N 0)), .k (.nilslc), .k (.int .i64 (N 0)), .k (.int .i64 (N 0)), .k (.bool (B false)), .k (.nilslc), .k (.int .i64 (N 0)), .k (.int .i64 (N 0)), .k (.int .i64 (N 0)), .k (.int .i64 (N 0)), .k (.int .i64 (N 0)), .k (.int .i64 (N 0)), .k (.int .i64 (N 0)), .k (.int .i64 (N 0)), .k (.int .i64 (N 0)), .k (.int .i64 (N 0)), .k (.int .i64 (N 0)), .k (.int .i64 (N 0)), .k (.int .i64 (N 0)), .k (.int .i64 (N 0)), .k (.int .i64 (N 0)), .k (.int .i64 (N 0)), .k (.int .i64 (N 0)), .k (.int .i64 (N 0)), .k (.int .i64 (N 0)), .k (.int .i64 (N 0)), .k (.int .i64 (N 0)), .k (.int .i64 (N 0)), .k (.int .i64 (N 0)), .k (.int .i64 (N 0)), .k (.nilslc)], none⟩, ⟨true, 46, 2, [.k (.str (V 0)), .k (.int .i64 (V 46))], none⟩, ⟨true, 34, 31, [.k (.int .i64 (V 6)), .k (.lsl 9 (V 15)), .k (.int .i64 (V 7)), .k (.int .i64 (V 16)), .k (.bool (V 10)), .k (.lsl 8 (V 17)), .k (.int .i64 (V 18)), .k (.int .i64 (V 19)), .k (.int .i64 (V 20)), .k (.int .i64 (V 21)), .k (.int .i64 (V 22)), .k (.int .i64 (V 23)), .k (.int .i64 (V 24)), .k (.int .i64 (V 25)), .k (.int .i64 (V 26)), .k (.int .i64 (V 27)), .k (.int .i64 (V 28)), .k (.int .i64 (V 29)), .k (.int .i64 (V 30)), .k (.int .i64 (V 31)), .k (.int .i64 (V 32)), .k (.int .i64 (V 33)), .k (.int .i64 (V 34)), .k (.int .i64 (V 35)), .k (.int .i64 (V 36)), .k (.int .i64 (V 37)), .k (.int .i64 (V 38)), .k (.int .i64 (V 39)), .k (.int .i64 (V 40)), .k (.int .i64 (V 41)), .k (.lsl 10 (V 47))], none⟩, .dead, .dead, .dead, .dead, .dead, ⟨false, 0, 0, [], some ⟨true, 76, [.int .i64, .int .i64, .int .i64, .int .i64], V 43, V 17⟩⟩, ⟨false, 0, 0, [], some ⟨true, 3, [.int .i64], V 44, V 15⟩⟩, ⟨false, 0, 0, [], some ⟨true, 54, [.str, .str, .sl [.int .i64], .int .i64], V 48, V 47⟩⟩], B true⟩)], [true, true, true, true, true, true, true, true, true, true, true, true, true, false, false, true, true, true, true, true, true, true, true, true, true, true, true, true, true, true, true, true, true, true, true, true, true, true, true, true, true, true, false, true, true, false], [.i, .i, .any]⟩
def Mi : G := ⟨246, [⟨245, .and, [V 244, V 47]⟩, ⟨244, .not, [V 46]⟩, ⟨243, (.ar .add .i64), [V 13, N 1]⟩, ⟨242, .imp, [V 46, V 241]⟩, ⟨241, .and, [V 239, V 240]⟩, ⟨240, (.cmp .lss), [V 238, N 1000001]⟩, ⟨239, (.cmp .leq), [N 0, V 238]⟩, ⟨238, (.lln 4), [V 237]⟩, ⟨237, .cat, [V 45, V 236]⟩, ⟨236, .mkl, [V 231, V 232, V 235, V 234]⟩, ⟨235, .iteA, [V 48, .e, V 229]⟩, ⟨234, .iteI, [V 48, N 0, V 228]⟩, ⟨233, .iteI, [V 48, N 0, V 227]⟩, ⟨232, .iteV, [V 48, V 190, .s []]⟩, ⟨231, .iteV, [V 48, V 120, .s []]⟩, ⟨230, .iteI, [V 48, V 191, V 226]⟩, ⟨229, .iteA, [V 192, V 205, .e]⟩, ⟨228, .iteI, [V 192, V 225, N 0]⟩, ⟨227, .iteI, [V 192, V 6, N 0]⟩, ⟨226, .iteI, [V 192, V 207, V 14]⟩, ⟨225, (.dv .rem .i64), [V 223, N 2]⟩, ⟨224, .iteB, [V 214, V 214, V 213]⟩, ⟨223, .iteI, [V 214, V 221, N 0]⟩, ⟨222, .not, [V 214]⟩, ⟨221, (.conv .i64), [V 220]⟩, ⟨220, .sget, [V 0, V 215]⟩, ⟨219, .imp, [V 214, V 218]⟩, ⟨218, .and, [V 216, V 217]⟩, ⟨217, (.cmp .lss), [V 215, V 208]⟩, ⟨216, (.cmp .leq), [N 0, V 215]⟩, ⟨215, (.ar .sub .i64), [V 207, N 1]⟩, ⟨214, .and, [V 210, V 212]⟩, ⟨213, .and, [V 209, V 211]⟩, ⟨212, .and, [V 194, V 210]⟩, ⟨211, .and, [V 194, V 209]⟩, ⟨210, .not, [V 209]⟩, ⟨209, (.cmp .gtr), [V 207, V 208]⟩, ⟨208, .slen, [V 0]⟩, ⟨207, (.ar .add .i64), [V 204, N 1]⟩, ⟨206, .imp, [V 194, V 201]⟩, ⟨201, (.call 1248), [V 6, N 0, V 0, V 14, V 15, V 7, V 16, V 10, V 17, V 18, V 19, V 20, V 21, V 22, V 23, V 24, V 25, V 26, V 27, V 28, V 29, V 30, V 31, V 32, V 33, V 34, V 35, V 36, V 37, V 38, V 39, V 40, V 41, V 42, V 43, V 44, V 45, V 200]⟩, ⟨200, .rep, [V 6, N 0]⟩, ⟨199, .imp, [V 194, V 198]⟩, ⟨198, .and, [V 196, V 197]⟩, ⟨197, (.cmp .lss), [V 6, N 1000001]⟩, ⟨196, (.cmp .leq), [N 0, V 6]⟩, ⟨195, .and, [V 51, V 193]⟩, ⟨194, .and, [V 51, V 192]⟩, ⟨193, .not, [V 192]⟩, ⟨192, (.cmp .eql), [V 7, N 2]⟩, ⟨191, .iteI, [V 141, V 122, V 189]⟩, ⟨190, .iteV, [V 141, .s [], V 188]⟩, ⟨189, .iteI, [V 145, V 175, V 122]⟩, ⟨188, .iteV, [V 145, V 184, V 186]⟩, ⟨187, .imp, [V 148, V 185]⟩, ⟨185, (.call 50), [V 140, V 16]⟩, ⟨184, .mks, [V 182]⟩, ⟨183, .imp, [V 147, V 178]⟩, ⟨178, (.call 1247), [V 16, V 140, N 0, V 138, V 141, V 145, V 164, V 166, N 0, V 0, V 175, V 6, V 15, V 7, V 10, V 17, V 18, V 19, V 20, V 21, V 22, V 23, V 24, V 25, V 26, V 27, V 28, V 29, V 30, V 31, V 32, V 33, V 34, V 35, V 36, V 37, V 38, V 39, V 40, V 41, V 42, V 43, V 44, V 45, V 120, V 176, .e]⟩, ⟨177, .imp, [V 147, V 172]⟩, ⟨172, (.call 1246), [V 166, N 0, V 0, V 149, V 6, V 15, V 7, V 16, V 10, V 17, V 18, V 19, V 20, V 21, V 22, V 23, V 24, V 25, V 26, V 27, V 28, V 29, V 30, V 31, V 32, V 33, V 34, V 35, V 36, V 37, V 38, V 39, V 40, V 41, V 42, V 43, V 44, V 45, V 120, V 171]⟩, ⟨171, .rep, [V 166, N 0]⟩, ⟨170, .imp, [V 147, V 169]⟩, ⟨169, .and, [V 167, V 168]⟩, ⟨168, (.cmp .lss), [V 166, N 1000001]⟩, ⟨167, (.cmp .leq), [N 0, V 166]⟩, ⟨166, (.dv .rem .i64), [V 164, N 16]⟩, ⟨165, .iteB, [V 155, V 155, V 154]⟩, ⟨164, .iteI, [V 155, V 162, N 0]⟩, ⟨163, .not, [V 155]⟩, ⟨162, (.conv .i64), [V 161]⟩, ⟨161, .sget, [V 0, V 156]⟩, ⟨160, .imp, [V 155, V 159]⟩, ⟨159, .and, [V 157, V 158]⟩, ⟨158, (.cmp .lss), [V 156, V 123]⟩, ⟨157, (.cmp .leq), [N 0, V 156]⟩, ⟨156, (.ar .sub .i64), [V 149, N 1]⟩, ⟨155, .and, [V 151, V 153]⟩, ⟨154, .and, [V 150, V 152]⟩, ⟨153, .and, [V 147, V 151]⟩, ⟨152, .and, [V 147, V 150]⟩, ⟨151, .not, [V 150]⟩, ⟨150, (.cmp .gtr), [V 149, V 123]⟩, ⟨149, (.ar .add .i64), [V 122, N 1]⟩, ⟨148, .and, [V 144, V 146]⟩, ⟨147, .and, [V 144, V 145]⟩, ⟨146, .not, [V 145]⟩, ⟨145, (.cmp .eql), [V 140, N 3]⟩, ⟨144, .and, [V 50, V 142]⟩, ⟨143, .and, [V 50, V 141]⟩, ⟨142, .not, [V 141]⟩, ⟨141, (.cmp .eql), [V 140, N 0]⟩, ⟨140, (.dv .rem .i64), [V 138, N 4]⟩, ⟨139, .iteB, [V 129, V 129, V 128]⟩, ⟨138, .iteI, [V 129, V 136, N 0]⟩, ⟨137, .not, [V 129]⟩, ⟨136, (.conv .i64), [V 135]⟩, ⟨135, .sget, [V 0, V 130]⟩, ⟨134, .imp, [V 129, V 133]⟩, ⟨133, .and, [V 131, V 132]⟩, ⟨132, (.cmp .lss), [V 130, V 123]⟩, ⟨131, (.cmp .leq), [N 0, V 130]⟩, ⟨130, (.ar .sub .i64), [V 122, N 1]⟩, ⟨129, .and, [V 125, V 127]⟩, ⟨128, .and, [V 124, V 126]⟩, ⟨127, .and, [V 50, V 125]⟩, ⟨126, .and, [V 50, V 124]⟩, ⟨125, .not, [V 124]⟩, ⟨124, (.cmp .gtr), [V 122, V 123]⟩, ⟨123, .slen, [V 0]⟩, ⟨122, (.ar .add .i64), [V 121, N 1]⟩, ⟨121, .iteI, [V 71, V 52, V 119]⟩, ⟨120, .iteV, [V 71, .s [], V 118]⟩, ⟨119, .iteI, [V 75, V 105, V 52]⟩, ⟨118, .iteV, [V 75, V 114, V 116]⟩, ⟨117, .imp, [V 78, V 115]⟩, ⟨115, (.call 50), [V 70, V 16]⟩, ⟨114, .mks, [V 112]⟩, ⟨113, .imp, [V 77, V 108]⟩, ⟨108, (.call 1245), [V 16, V 70, N 0, V 68, V 71, V 75, V 94, V 96, N 0, V 0, V 105, V 6, V 15, V 7, V 10, V 17, V 18, V 19, V 20, V 21, V 22, V 23, V 24, V 25, V 26, V 27, V 28, V 29, V 30, V 31, V 32, V 33, V 34, V 35, V 36, V 37, V 38, V 39, V 40, V 41, V 42, V 43, V 44, V 45, V 106, .e]⟩, ⟨107, .imp, [V 77, V 102]⟩, ⟨102, (.call 1244), [V 96, N 0, V 0, V 79, V 6, V 15, V 7, V 16, V 10, V 17, V 18, V 19, V 20, V 21, V 22, V 23, V 24, V 25, V 26, V 27, V 28, V 29, V 30, V 31, V 32, V 33, V 34, V 35, V 36, V 37, V 38, V 39, V 40, V 41, V 42, V 43, V 44, V 45, V 101]⟩, ⟨101, .rep, [V 96, N 0]⟩, ⟨100, .imp, [V 77, V 99]⟩, ⟨99, .and, [V 97, V 98]⟩, ⟨98, (.cmp .lss), [V 96, N 1000001]⟩, ⟨97, (.cmp .leq), [N 0, V 96]⟩, ⟨96, (.dv .rem .i64), [V 94, N 16]⟩, ⟨95, .iteB, [V 85, V 85, V 84]⟩, ⟨94, .iteI, [V 85, V 92, N 0]⟩, ⟨93, .not, [V 85]⟩, ⟨92, (.conv .i64), [V 91]⟩, ⟨91, .sget, [V 0, V 86]⟩, ⟨90, .imp, [V 85, V 89]⟩, ⟨89, .and, [V 87, V 88]⟩, ⟨88, (.cmp .lss), [V 86, V 53]⟩, ⟨87, (.cmp .leq), [N 0, V 86]⟩, ⟨86, (.ar .sub .i64), [V 79, N 1]⟩, ⟨85, .and, [V 81, V 83]⟩, ⟨84, .and, [V 80, V 82]⟩, ⟨83, .and, [V 77, V 81]⟩, ⟨82, .and, [V 77, V 80]⟩, ⟨81, .not, [V 80]⟩, ⟨80, (.cmp .gtr), [V 79, V 53]⟩, ⟨79, (.ar .add .i64), [V 52, N 1]⟩, ⟨78, .and, [V 74, V 76]⟩, ⟨77, .and, [V 74, V 75]⟩, ⟨76, .not, [V 75]⟩, ⟨75, (.cmp .eql), [V 70, N 3]⟩, ⟨74, .and, [V 50, V 72]⟩, ⟨73, .and, [V 50, V 71]⟩, ⟨72, .not, [V 71]⟩, ⟨71, (.cmp .eql), [V 70, N 0]⟩, ⟨70, (.dv .rem .i64), [V 68, N 4]⟩, ⟨69, .iteB, [V 59, V 59, V 58]⟩, ⟨68, .iteI, [V 59, V 66, N 0]⟩, ⟨67, .not, [V 59]⟩, ⟨66, (.conv .i64), [V 65]⟩, ⟨65, .sget, [V 0, V 60]⟩, ⟨64, .imp, [V 59, V 63]⟩, ⟨63, .and, [V 61, V 62]⟩, ⟨62, (.cmp .lss), [V 60, V 53]⟩, ⟨61, (.cmp .leq), [N 0, V 60]⟩, ⟨60, (.ar .sub .i64), [V 52, N 1]⟩, ⟨59, .and, [V 55, V 57]⟩, ⟨58, .and, [V 54, V 56]⟩, ⟨57, .and, [V 50, V 55]⟩, ⟨56, .and, [V 50, V 54]⟩, ⟨55, .not, [V 54]⟩, ⟨54, (.cmp .gtr), [V 52, V 53]⟩, ⟨53, .slen, [V 0]⟩, ⟨52, (.ar .add .i64), [V 14, N 1]⟩, ⟨51, .and, [V 46, V 49]⟩, ⟨50, .and, [V 46, V 48]⟩, ⟨49, .not, [V 48]⟩, ⟨48, (.cmp .eql), [V 7, N 1]⟩, ⟨47, .not, [V 46]⟩, ⟨46, (.cmp .lss), [V 13, V 3]⟩], [V 242, V 219, V 206, V 199, V 187, V 183, V 177, V 170, V 160, V 134, V 117, V 113, V 107, V 100, V 90, V 64], []⟩
def WG (al : List A) : Nat := ((gi al 3) - (gi al 13)).toNat
theorem UR (e : Nat → A) (H : Ab T e Mi.defs) (hp : (Day.UZ (e 3).int (e 13).int (e 14).int (e 6).int (Day.L1.mk (e 45) (e 42).int) && Day.FC (e 0).str) = true) :
  ((e 242).bool = true ∧ (e 219).bool = true ∧ (e 206).bool = true ∧ (e 199).bool = true ∧ (e 187).bool = true ∧ (e 183).bool = true ∧ (e 177).bool = true ∧ (e 170).bool = true ∧ (e 160).bool = true ∧ (e 134).bool = true ∧ (e 117).bool = true ∧ (e 113).bool = true ∧ (e 107).bool = true ∧ (e 100).bool = true ∧ (e 90).bool = true ∧ (e 64).bool = true) ∧ ((e 46).bool = true → (Day.UZ (e 3).int (e 243).int (e 230).int (e 6).int (Day.L1.mk (e 237) (e 238).int) && Day.FC (e 0).str) = true ∧ (Day.Xx (e 0).str (e 6).int (e 7).int ((e 3).int - (e 243).int).toNat (e 230).int = Day.Xx (e 0).str (e 6).int (e 7).int ((e 3).int - (e 13).int).toNat (e 14).int ∧ (e 3).int = (e 3).int ∧ Day.Um (e 0).str (e 3).int (e 243).int (e 230).int (e 6).int (e 7).int (e 16).int (Day.L1.mk (e 237) (e 238).int) = Day.Um (e 0).str (e 3).int (e 13).int (e 14).int (e 6).int (e 7).int (e 16).int (Day.L1.mk (e 45) (e 42).int)) ∧ ((e 3).int - (e 243).int).toNat < ((e 3).int - (e 13).int).toNat) ∧ ((e 245).bool = true → (e 14).int = Day.Xx (e 0).str (e 6).int (e 7).int ((e 3).int - (e 13).int).toNat (e 14).int ∧ (e 42).int = (e 3).int ∧ (e 45) = Day.Um (e 0).str (e 3).int (e 13).int (e 14).int (e 6).int (e 7).int (e 16).int (Day.L1.mk (e 45) (e 42).int)) := by
 simp only [Mi, Ab, Def.q, BI, L.Ak, L.Aw, L.AS, L.AV, L.ev, A.Ai, A.Ao, A.AF, A.AT, List.map_cons, List.map_nil, Nat.zero_add, Nat.add_zero, and_true, true_and, Nat.reduceAdd, Nat.one_mul] at H
 simp only [D0, Ee, CW, Bg, Ef, Ey, BV, Fq, and_true, true_and] at H
 revert H
 simp only [and_imp]
 rintro q245 q244 q243 - q242 q241 q240 q239 q238 q237 q236 q235 q234 k234 q233 - - q232 k232 - q231 k231 q230 - q229 q228 - q227 - q226 - q225 - q224 q223 - q222 q221 - q220 - q219 q218 q217 q216 q215 - q214 q213 q212 q211 q210 q209 q208 q207 - q206 q201 q200 q199 q198 q197 q196 q195 q194 q193 q192 q191 - - q190 k190 q189 - - q188 k188 q187 q185 q184 k184 q183 q178 q177 q172 q171 q170 q169 q168 q167 q166 - q165 q164 - q163 q162 - q161 - q160 q159 q158 q157 q156 - q155 q154 q153 q152 q151 q150 q149 - q148 q147 q146 q145 q144 q143 q142 q141 q140 - q139 q138 - q137 q136 - q135 - q134 q133 q132 q131 q130 - q129 q128 q127 q126 q125 q124 q123 q122 - q121 - - q120 k120 q119 - - q118 k118 q117 q115 q114 k114 q113 q108 q107 q102 q101 q100 q99 q98 q97 q96 - q95 q94 - q93 q92 - q91 - q90 q89 q88 q87 q86 - q85 q84 q83 q82 q81 q80 q79 - q78 q77 q76 q75 q74 q73 q72 q71 q70 - q69 q68 - q67 q66 - q65 - q64 q63 q62 q61 q60 - q59 q58 q57 q56 q55 q54 q53 q52 - q51 q50 q49 q48 q47 q46
 obtain k186 := Ko q185
 obtain k116 := Ko q115
 replace k118 := k118 k114 k116
 replace k120 := k120 (RT e _) k118
 replace k188 := k188 k184 k186
 replace k190 := k190 (RT e _) k188
 replace k231 := k231 k120 (RT e _)
 replace k232 := k232 k190 (RT e _)
 unfold Z4 at k114 k116 k118 k120 k184 k186 k188 k190 k231 k232
 replace q201 := YL q201
 obtain ⟨q201, q202, q203, q204, q205⟩ := q201
 replace q185 := LK q185
 obtain ⟨q185, q186⟩ := q185
 replace q178 := YK q178
 obtain ⟨q178, q179, q180, q181, q182⟩ := q178
 replace q172 := YJ q172
 obtain ⟨q172, q173, q174, q175, q176⟩ := q172
 replace q115 := LK q115
 obtain ⟨q115, q116⟩ := q115
 replace q108 := YI q108
 obtain ⟨q108, q109, q110, q111, q112⟩ := q108
 replace q102 := YH q102
 obtain ⟨q102, q103, q104, q105, q106⟩ := q102
 unfold KW at k234
 simp only [L.Ak, L.Aw, L.AS, L.AV, L.ev, A.Ai, A.Ao, A.AF] at q201 q202 q203 q204 q205 q185 q186 q178 q179 q180 q181 q182 q172 q173 q174 q175 q176 q115 q116 q108 q109 q110 q111 q112 q102 q103 q104 q105 q106
 generalize (e 0).str = x0, (e 1).int = x1, (e 2).int = x2, (e 3).int = x3, (e 4).int = x4, (e 5).int = x5, (e 6).int = x6, (e 7).int = x7, (e 8).int = x8, (e 9).int = x9, (e 10).int = x10, (e 11).int = x11, (e 12).int = x12, (e 13).int = x13, (e 14).int = x14, (e 15).int = x15, (e 16).int = x16, (e 17).int = x17, (e 18).int = x18, (e 19).int = x19, (e 20).int = x20, (e 21).int = x21, (e 22).int = x22, (e 23).int = x23, (e 24).int = x24, (e 25).int = x25, (e 26).int = x26, (e 27).int = x27, (e 28).int = x28, (e 29).int = x29, (e 30).int = x30, (e 31).int = x31, (e 32).int = x32, (e 33).int = x33, (e 34).int = x34, (e 35).int = x35, (e 36).int = x36, (e 37).int = x37, (e 38).int = x38, (e 39).int = x39, (e 40).int = x40, (e 41).int = x41, (e 42).int = x42, (e 43).int = x43, (e 44).int = x44, e 45 = x45, (e 46).bool = v46, (e 47).bool = v47, (e 48).bool = v48, (e 49).bool = v49, (e 50).bool = v50, (e 51).bool = v51, (e 52).int = v52, (e 53).int = v53, (e 54).bool = v54, (e 55).bool = v55, (e 56).bool = v56, (e 57).bool = v57, (e 58).bool = v58, (e 59).bool = v59, (e 60).int = v60, (e 61).bool = v61, (e 62).bool = v62, (e 63).bool = v63, (e 64).bool = v64, (e 65).int = v65, (e 66).int = v66, (e 67).bool = v67, (e 68).int = v68, (e 69).bool = v69, (e 70).int = v70, (e 71).bool = v71, (e 72).bool = v72, (e 73).bool = v73, (e 74).bool = v74, (e 75).bool = v75, (e 76).bool = v76, (e 77).bool = v77, (e 78).bool = v78, (e 79).int = v79, (e 80).bool = v80, (e 81).bool = v81, (e 82).bool = v82, (e 83).bool = v83, (e 84).bool = v84, (e 85).bool = v85, (e 86).int = v86, (e 87).bool = v87, (e 88).bool = v88, (e 89).bool = v89, (e 90).bool = v90, (e 91).int = v91, (e 92).int = v92, (e 93).bool = v93, (e 94).int = v94, (e 95).bool = v95, (e 96).int = v96, (e 97).bool = v97, (e 98).bool = v98, (e 99).bool = v99, (e 100).bool = v100, e 101 = v101, (e 102).bool = v102, (e 103).int = v103, (e 104).bool = v104, (e 105).int = v105, e 106 = v106, (e 107).bool = v107, (e 108).bool = v108, (e 109).int = v109, (e 110).int = v110, (e 111).bool = v111, e 112 = v112, (e 113).bool = v113, (e 114).str = v114, (e 115).bool = v115, (e 116).str = v116, (e 117).bool = v117, (e 118).str = v118, (e 119).int = v119, (e 120).str = v120, (e 121).int = v121, (e 122).int = v122, (e 123).int = v123, (e 124).bool = v124, (e 125).bool = v125, (e 126).bool = v126, (e 127).bool = v127, (e 128).bool = v128, (e 129).bool = v129, (e 130).int = v130, (e 131).bool = v131, (e 132).bool = v132, (e 133).bool = v133, (e 134).bool = v134, (e 135).int = v135, (e 136).int = v136, (e 137).bool = v137, (e 138).int = v138, (e 139).bool = v139, (e 140).int = v140, (e 141).bool = v141, (e 142).bool = v142, (e 143).bool = v143, (e 144).bool = v144, (e 145).bool = v145, (e 146).bool = v146, (e 147).bool = v147, (e 148).bool = v148, (e 149).int = v149, (e 150).bool = v150, (e 151).bool = v151, (e 152).bool = v152, (e 153).bool = v153, (e 154).bool = v154, (e 155).bool = v155, (e 156).int = v156, (e 157).bool = v157, (e 158).bool = v158, (e 159).bool = v159, (e 160).bool = v160, (e 161).int = v161, (e 162).int = v162, (e 163).bool = v163, (e 164).int = v164, (e 165).bool = v165, (e 166).int = v166, (e 167).bool = v167, (e 168).bool = v168, (e 169).bool = v169, (e 170).bool = v170, e 171 = v171, (e 172).bool = v172, (e 173).int = v173, (e 174).bool = v174, (e 175).int = v175, e 176 = v176, (e 177).bool = v177, (e 178).bool = v178, (e 179).int = v179, (e 180).int = v180, (e 181).bool = v181, e 182 = v182, (e 183).bool = v183, (e 184).str = v184, (e 185).bool = v185, (e 186).str = v186, (e 187).bool = v187, (e 188).str = v188, (e 189).int = v189, (e 190).str = v190, (e 191).int = v191, (e 192).bool = v192, (e 193).bool = v193, (e 194).bool = v194, (e 195).bool = v195, (e 196).bool = v196, (e 197).bool = v197, (e 198).bool = v198, (e 199).bool = v199, e 200 = v200, (e 201).bool = v201, (e 202).int = v202, (e 203).bool = v203, (e 204).int = v204, e 205 = v205, (e 206).bool = v206, (e 207).int = v207, (e 208).int = v208, (e 209).bool = v209, (e 210).bool = v210, (e 211).bool = v211, (e 212).bool = v212, (e 213).bool = v213, (e 214).bool = v214, (e 215).int = v215, (e 216).bool = v216, (e 217).bool = v217, (e 218).bool = v218, (e 219).bool = v219, (e 220).int = v220, (e 221).int = v221, (e 222).bool = v222, (e 223).int = v223, (e 224).bool = v224, (e 225).int = v225, (e 226).int = v226, (e 227).int = v227, (e 228).int = v228, e 229 = v229, (e 230).int = v230, (e 231).str = v231, (e 232).str = v232, (e 233).int = v233, (e 234).int = v234, e 235 = v235, e 236 = v236, e 237 = v237, (e 238).int = v238, (e 239).bool = v239, (e 240).bool = v240, (e 241).bool = v241, (e 242).bool = v242, (e 243).int = v243, (e 244).bool = v244, (e 245).bool = v245 at *
 rw [k234] at q236
 rw [k231] at q236
 rw [k232] at q236
 simp only [Bool.and_eq_true] at hp
 obtain ⟨hp, hsh⟩ := hp
 by_cases h : x13 < x3
 ·obtain ⟨k0, m1, i0, i1, n0, n1, l1, st⟩ := Day.Xy (cls := x7) (who := x16) hp h
  have l1 : (x45.AJ.length : Int) = 4 * x13 := l1
  have t46 : v46 = true := by rw [q46]; exact decide_eq_true h
  obtain ⟨w52, o64, e68⟩ := Day.Ox (by omega) (by omega) q52 q53 q54 q55 q57 q59 q60 q61 q62 q63 q64 q65 q66 q68
  obtain ⟨w79, o90, e94⟩ := Day.Ox (by omega) (by omega) q79 q53 q80 q81 q83 q85 q86 q87 q88 q89 q90 q91 q92 q94
  have r68 : 0 ≤ v68 ∧ v68 ≤ 255 := by rw [e68]; split; exact Day.Az _ _; omega
  have e70 : v70 = v68 % 4 := by rw [q70]; exact Int.tmod_eq_emod_of_nonneg r68.1
  have r94 : 0 ≤ v94 ∧ v94 ≤ 255 := by rw [e94]; split; exact Day.Az _ _; omega
  have e96 : v96 = v94 % 16 := by rw [q96]; exact Int.tmod_eq_emod_of_nonneg r94.1
  have b96 : 0 ≤ v96 ∧ v96 ≤ 15 := by omega
  obtain ⟨so1, so2, so3⟩ := Day.JX (s := x0) (m := 0) (t := v79) b96.1 (by omega) (by omega) (by omega)
  rw [q101] at q102 q106
  rw [so1] at q102
  rw [so2] at q105
  rw [so3] at q106
  rw [Day.XD b96.1 (by omega) (by rw [q106]; show ((Day.K6 _).length : Int) = _; rw [Day.K6, List.length_map, Day.Hg]; omega)] at q108
  rw [q112, Day.Aaq q106] at q114
  have b121 : x14 + 1 ≤ v121 ∧ v121 ≤ x14 + 17 := by
   rw [q121, q119]
   split
   ·omega
   ·split <;> omega
  have L0 : v50 = true → v120 = Day.HE x0 x14 x16 ∧ v121 = Day.DS x0 x14 := fun c => by
   rw [c, if_pos rfl] at e68
   unfold Day.HE Day.DS
   rw [← e68, ← e70, q120, q121, q118, q119]
   by_cases k0 : v70 = 0
   ·have z : v71 = true := by rw [q71, k0]; rfl
    rw [if_pos k0, if_pos z, if_pos z, if_neg (by omega)]
    exact ⟨rfl, w52⟩
   ·have z : v71 = false := by rw [q71]; simpa using k0
    rw [if_neg k0, z]
    by_cases k3 : v70 = 3
    ·have y : v75 = true := by rw [q75, k3]; rfl
     have d : v77 = true := by rw [q77, q74, q72, c, z, y]; rfl
     rw [d, if_pos rfl, w52] at e94
     rw [if_pos k3, if_pos k3, y, q114, q105, e96, e94, w79, w52]
     simp only [Bool.false_eq_true, if_false, if_true]
     rw [show x14 + 1 + 1 = x14 + 2 by omega]
     refine ⟨?_, ?_⟩ <;> first | exact trivial | rfl
    ·have y : v75 = false := by rw [q75]; simpa using k3
     rw [if_neg k3, if_neg k3, y, q116]
     simp only [Bool.false_eq_true, if_false]
     exact ⟨trivial, w52⟩
  obtain ⟨w122, o134, e138⟩ := Day.Ox (by omega) (by omega) q122 q123 q124 q125 q127 q129 q130 q131 q132 q133 q134 q135 q136 q138
  obtain ⟨w149, o160, e164⟩ := Day.Ox (by omega) (by omega) q149 q123 q150 q151 q153 q155 q156 q157 q158 q159 q160 q161 q162 q164
  have r138 : 0 ≤ v138 ∧ v138 ≤ 255 := by rw [e138]; split; exact Day.Az _ _; omega
  have e140 : v140 = v138 % 4 := by rw [q140]; exact Int.tmod_eq_emod_of_nonneg r138.1
  have r164 : 0 ≤ v164 ∧ v164 ≤ 255 := by rw [e164]; split; exact Day.Az _ _; omega
  have e166 : v166 = v164 % 16 := by rw [q166]; exact Int.tmod_eq_emod_of_nonneg r164.1
  have b166 : 0 ≤ v166 ∧ v166 ≤ 15 := by omega
  obtain ⟨so71, so72, so73⟩ := Day.JX (s := x0) (m := 0) (t := v149) b166.1 (by omega) (by omega) (by omega)
  rw [q171] at q172 q176
  rw [so71] at q172
  rw [so72] at q175
  rw [so73] at q176
  rw [Day.XD b166.1 (by omega) (by rw [q176]; show ((Day.K6 _).length : Int) = _; rw [Day.K6, List.length_map, Day.Hg]; omega)] at q178
  rw [q182, Day.Aaq q176] at q184
  have b191 : v121 + 1 ≤ v191 ∧ v191 ≤ v121 + 17 := by
   rw [q191, q189]
   split
   ·omega
   ·split <;> omega
  have L70 : v50 = true → v190 = Day.HE x0 v121 x16 ∧ v191 = Day.DS x0 v121 := fun c => by
   rw [c, if_pos rfl] at e138
   unfold Day.HE Day.DS
   rw [← e138, ← e140, q190, q191, q188, q189]
   by_cases k0 : v140 = 0
   ·have z : v141 = true := by rw [q141, k0]; rfl
    rw [if_pos k0, if_pos z, if_pos z, if_neg (by omega)]
    exact ⟨rfl, w122⟩
   ·have z : v141 = false := by rw [q141]; simpa using k0
    rw [if_neg k0, z]
    by_cases k3 : v140 = 3
    ·have y : v145 = true := by rw [q145, k3]; rfl
     have d : v147 = true := by rw [q147, q144, q142, c, z, y]; rfl
     rw [d, if_pos rfl, w122] at e164
     rw [if_pos k3, if_pos k3, y, q184, q175, e166, e164, w149, w122]
     simp only [Bool.false_eq_true, if_false, if_true]
     rw [show v121 + 1 + 1 = v121 + 2 by omega]
     refine ⟨?_, ?_⟩ <;> first | exact trivial | rfl
    ·have y : v145 = false := by rw [q145]; simpa using k3
     rw [if_neg k3, if_neg k3, y, q186]
     simp only [Bool.false_eq_true, if_false]
     exact ⟨trivial, w122⟩
  obtain ⟨p1, p2, p3⟩ := Day.JX (s := x0) (m := 3) (t := x14) n0 (by omega : x6 ≤ 1000) (by omega) (by omega)
  rw [q200] at q201 q205
  rw [p1] at q201
  rw [p2] at q204
  rw [p3] at q205
  obtain ⟨w207, o219, e223⟩ := Day.Ox (by omega) (by omega) q207 q208 q209 q210 q212 q214 q215 q216 q217 q218 q219 q220 q221 q223
  have w243 : v243 = x13 + 1 := by rw [q243]; exact wrap64 (by omega) (by omega)
  have key : v230 = Day.HY x0 x14 x6 x7 ∧ ([.v (.string v231), .v (.string v232), v235, .i v234] : List A) = Day.ID (Day.GI x0 x14 x6 x7 x16) := by
   by_cases c1 : x7 = 1
   ·have t48 : v48 = true := by rw [q48, c1]; rfl
    have t50 : v50 = true := by rw [q50, t46, t48]; rfl
    subst c1
    rw [Day.Aai, Day.Aal, ← (L0 t50).2, ← (L0 t50).1, ← (L70 t50).1, ← (L70 t50).2]
    simp only [q230, q231, q232, q235, q234, t48, if_true]
    refine ⟨?_, ?_⟩ <;> first | exact trivial | rfl
   ·have t48 : v48 = false := by rw [q48]; simpa using c1
    by_cases c2 : x7 = 2
    ·have t192 : v192 = true := by rw [q192, c2]; rfl
     have t194 : v194 = true := by rw [q194, q51, q49, t46, t48, t192]; rfl
     subst c2
     rw [t194, if_pos rfl, q204] at e223
     have e225 : v225 = Day.Ci x0 (x14 + x6) % 2 := by rw [q225, e223]; exact Int.tmod_eq_emod_of_nonneg (Day.Az _ _).1
     rw [Day.Aaj, Day.Aam]
     simp only [q230, q231, q232, q235, q234, t48, t192, if_true, Bool.false_eq_true, if_false, q226, q228, q229, w207, e225, q204, q205]
     refine ⟨?_, ?_⟩ <;> first | exact trivial | rfl
    ·have t192 : v192 = false := by rw [q192]; simpa using c2
     rw [Day.Aak c1 c2, Day.Aan c1 c2]
     simp only [q230, q231, q232, q235, q234, t48, t192, Bool.false_eq_true, if_false, q226, q228, q229]
     refine ⟨?_, ?_⟩ <;> first | exact trivial | rfl
  have e237 : v237 = .l (x45.AJ ++ Day.ID (Day.GI x0 x14 x6 x7 x16)) := by rw [q237, q236, ← key.2]; rfl
  obtain ⟨s1, s2, s3, s4⟩ := st ⟨v237, v238⟩ e237 q238
  have g238 : v238 = x13 + 1 := by
   have : v237.AJ.length = x45.AJ.length + 4 := by rw [e237]; show (x45.AJ ++ Day.ID _).length = _; rw [List.length_append]; rfl
   rw [q238, this]
   omega
  rw [w243, key.1]
  refine ⟨⟨by rw [q242]; exact Day.BF (by rw [q241, q239, q240, g238]; simp; omega), o219, by rw [q206]; exact Day.BF q201, by rw [q199]; exact Day.BF (by rw [q198, q196, q197]; simp; omega), by rw [q187]; exact Day.BF q185, by rw [q183]; exact Day.BF q178, by rw [q177]; exact Day.BF q172, by rw [q170]; exact Day.BF (by rw [q169, q167, q168]; simp; omega), o160, o134, by rw [q117]; exact Day.BF q115, by rw [q113]; exact Day.BF q108, by rw [q107]; exact Day.BF q102, by rw [q100]; exact Day.BF (by rw [q99, q97, q98]; simp; omega), o90, o64⟩, fun _ => ⟨Bool.and_eq_true_iff.2 ⟨s1, hsh⟩, ⟨s2, trivial, s3⟩, s4⟩, fun hh => ?_⟩
  rw [q245, q244, t46] at hh
  cases hh
 ·obtain ⟨e1, e2, e3⟩ := Day.Aah (cls := x7) (who := x16) hp h
  have t46 : v46 = false := by rw [q46]; exact decide_eq_false h
  refine ⟨by simp [q242, q219, q206, q199, q187, q183, q177, q170, q160, q134, q117, q113, q107, q100, q90, q64, q214, q212, q194, q148, q147, q155, q153, q144, q143, q129, q127, q78, q77, q85, q83, q74, q73, q59, q57, q51, q50, t46], fun hh => ?_, fun _ => ⟨e1.symm, e2, e3.symm⟩⟩
  rw [t46] at hh
  cases hh
theorem WH (as : List A) (e : Nat → A) (h1 : as = (List.range 46).map e) (h2 : (I4 as).1 = true) (H : Ab T e Mi.defs) : Bj e Mi.obs ∧
   (∀ pc ls, some (V 46, [V 0, V 1, V 2, V 3, V 4, V 5, V 6, V 7, V 8, V 9, V 10, V 11, V 12, V 243, V 230, V 15, V 16, V 17, V 18, V 19, V 20, V 21, V 22, V 23, V 24, V 25, V 26, V 27, V 28, V 29, V 30, V 31, V 32, V 33, V 34, V 35, V 36, V 37, V 38, V 39, V 40, V 41, V 238, V 43, V 44, V 237]) = some (pc, ls) → (pc.ev e).bool = true → (I4 (ls.map (L.ev e))).1 = true ∧ (I4 (ls.map (L.ev e))).2 = (I4 as).2 ∧ WG (ls.map (L.ev e)) < WG as) ∧
   ∀ x ∈ ([(V 245, [some (V 14), some (V 42), some (V 45)])] : List (L × List (Option L))), (x.1.ev e).bool = true → ∀ (j : Nat) l, x.2[j]? = some (some l) → D6 (Ht.tags.getD j .any) (l.ev e) ((I4 as).2.getD j (.i 0)) := by
 subst h1
 obtain ⟨ho, h⟩ := UR e H h2
 refine ⟨⟨ho.1, ho.2.1, ho.2.2.1, ho.2.2.2.1, ho.2.2.2.2.1, ho.2.2.2.2.2.1, ho.2.2.2.2.2.2.1, ho.2.2.2.2.2.2.2.1, ho.2.2.2.2.2.2.2.2.1, ho.2.2.2.2.2.2.2.2.2.1, ho.2.2.2.2.2.2.2.2.2.2.1, ho.2.2.2.2.2.2.2.2.2.2.2.1, ho.2.2.2.2.2.2.2.2.2.2.2.2.1, ho.2.2.2.2.2.2.2.2.2.2.2.2.2.1, ho.2.2.2.2.2.2.2.2.2.2.2.2.2.2.1, ho.2.2.2.2.2.2.2.2.2.2.2.2.2.2.2, trivial⟩, fun pc ls hb hpc => ?_, ?_⟩
 ·injection hb with hb
  injection hb with h3 h4
  subst h3 h4
  have h := h.1 hpc
  refine ⟨h.1, ?_, h.2.2⟩
  have h5 := h.2.1
  obtain ⟨z0, z1, z2⟩ := h5
  exact (A5 z0 (A5 z1 (Fw z2 rfl)))
 ·intro x hx hpc j l hj
  simp only [List.mem_cons, List.not_mem_nil, or_false] at hx
  rcases hx with rfl
  ·have h := h.2 hpc
   obtain ⟨z0, z1, z2⟩ := h
   match j, hj with
   | 0, hj => cases hj; exact z0
   | 1, hj => cases hj; exact z1
   | 2, hj => cases hj; exact z2
   | _ + 3, hj => cases hj
def Gi : G := ⟨305, [⟨301, (.call 1249), [V 0, V 20, V 29, V 300, V 9, V 11, V 12, V 31, V 32, V 33, V 34, V 35, V 299, N 0, V 286, V 243, V 46, V 244, V 245, V 246, V 247, V 248, V 249, V 250, V 251, V 252, V 253, V 254, V 255, V 256, V 257, V 258, V 259, V 260, V 261, V 262, V 263, V 264, V 265, V 266, V 267, V 268, N 0, V 269, V 270, .e]⟩, ⟨300, .mn, [V 299, N 2000]⟩, ⟨299, (.bt .or .i64), [V 285, V 297]⟩, ⟨298, .iteB, [V 288, V 288, V 287]⟩, ⟨297, .iteI, [V 288, V 295, N 0]⟩, ⟨296, .not, [V 288]⟩, ⟨295, (.conv .i64), [V 294]⟩, ⟨294, .sget, [V 0, V 289]⟩, ⟨293, .imp, [V 288, V 292]⟩, ⟨292, .and, [V 290, V 291]⟩, ⟨291, (.cmp .lss), [V 289, V 272]⟩, ⟨290, (.cmp .leq), [N 0, V 289]⟩, ⟨289, (.ar .sub .i64), [V 286, N 1]⟩, ⟨288, .not, [V 287]⟩, ⟨287, (.cmp .gtr), [V 286, V 272]⟩, ⟨286, (.ar .add .i64), [V 271, N 1]⟩, ⟨285, (.sh .shl .i64), [V 283, N 8]⟩, ⟨284, .iteB, [V 274, V 274, V 273]⟩, ⟨283, .iteI, [V 274, V 281, N 0]⟩, ⟨282, .not, [V 274]⟩, ⟨281, (.conv .i64), [V 280]⟩, ⟨280, .sget, [V 0, V 275]⟩, ⟨279, .imp, [V 274, V 278]⟩, ⟨278, .and, [V 276, V 277]⟩, ⟨277, (.cmp .lss), [V 275, V 272]⟩, ⟨276, (.cmp .leq), [N 0, V 275]⟩, ⟨275, (.ar .sub .i64), [V 271, N 1]⟩, ⟨274, .not, [V 273]⟩, ⟨273, (.cmp .gtr), [V 271, V 272]⟩, ⟨272, .slen, [V 0]⟩, ⟨271, (.ar .add .i64), [V 242, N 1]⟩, ⟨270, .iteA, [V 34, .e, V 240]⟩, ⟨269, .iteA, [V 34, V 55, .e]⟩, ⟨268, .iteI, [V 34, V 231, N 0]⟩, ⟨267, .iteI, [V 34, V 214, N 0]⟩, ⟨266, .iteI, [V 34, V 196, N 0]⟩, ⟨265, .iteI, [V 34, V 179, N 0]⟩, ⟨264, .iteI, [V 34, V 162, N 0]⟩, ⟨263, .iteI, [V 34, V 161, N 0]⟩, ⟨262, .iteI, [V 34, V 160, N 0]⟩, ⟨261, .iteI, [V 34, V 159, N 0]⟩, ⟨260, .iteI, [V 34, V 158, N 0]⟩, ⟨259, .iteI, [V 34, V 157, N 0]⟩, ⟨258, .iteI, [V 34, V 156, N 0]⟩, ⟨257, .iteI, [V 34, V 155, N 0]⟩, ⟨256, .iteI, [V 34, V 141, N 0]⟩, ⟨255, .iteI, [V 34, V 124, N 0]⟩, ⟨254, .iteI, [V 34, V 106, N 0]⟩, ⟨253, .iteI, [V 34, V 89, N 0]⟩, ⟨252, .iteI, [V 34, V 72, N 0]⟩, ⟨251, .iteI, [V 34, V 71, N 0]⟩, ⟨250, .iteI, [V 34, V 70, N 0]⟩, ⟨249, .iteI, [V 34, V 69, N 0]⟩, ⟨248, .iteI, [V 34, V 68, N 0]⟩, ⟨247, .iteI, [V 34, V 67, N 0]⟩, ⟨246, .iteI, [V 34, V 66, N 0]⟩, ⟨245, .iteI, [V 34, V 65, N 0]⟩, ⟨244, .iteI, [V 34, V 12, N 0]⟩, ⟨243, .iteI, [V 34, N 0, V 12]⟩, ⟨242, .iteI, [V 34, V 216, V 239]⟩, ⟨241, .imp, [V 47, V 238]⟩, ⟨238, (.call 1233), [V 12, N 0, V 0, N 3, V 31, V 46, V 34, V 237]⟩, ⟨237, .rep, [V 12, N 0]⟩, ⟨236, .imp, [V 47, V 235]⟩, ⟨235, .and, [V 233, V 234]⟩, ⟨234, (.cmp .lss), [V 12, N 1000001]⟩, ⟨233, (.cmp .leq), [N 0, V 12]⟩, ⟨232, .iteB, [V 222, V 222, V 221]⟩, ⟨231, .iteI, [V 222, V 229, N 0]⟩, ⟨230, .not, [V 222]⟩, ⟨229, (.conv .i64), [V 228]⟩, ⟨228, .sget, [V 0, V 223]⟩, ⟨227, .imp, [V 222, V 226]⟩, ⟨226, .and, [V 224, V 225]⟩, ⟨225, (.cmp .lss), [V 223, V 206]⟩, ⟨224, (.cmp .leq), [N 0, V 223]⟩, ⟨223, (.ar .sub .i64), [V 216, N 1]⟩, ⟨222, .and, [V 218, V 220]⟩, ⟨221, .and, [V 217, V 219]⟩, ⟨220, .and, [V 34, V 218]⟩, ⟨219, .and, [V 34, V 217]⟩, ⟨218, .not, [V 217]⟩, ⟨217, (.cmp .gtr), [V 216, V 206]⟩, ⟨216, (.ar .add .i64), [V 198, N 1]⟩, ⟨215, .iteB, [V 204, V 204, V 203]⟩, ⟨214, .iteI, [V 204, V 212, N 0]⟩, ⟨213, .not, [V 204]⟩, ⟨212, (.conv .i64), [V 211]⟩, ⟨211, .sget, [V 0, V 205]⟩, ⟨210, .imp, [V 204, V 209]⟩, ⟨209, .and, [V 207, V 208]⟩, ⟨208, (.cmp .lss), [V 205, V 206]⟩, ⟨207, (.cmp .leq), [N 0, V 205]⟩, ⟨206, .slen, [V 0]⟩, ⟨205, (.ar .sub .i64), [V 198, N 1]⟩, ⟨204, .and, [V 200, V 202]⟩, ⟨203, .and, [V 199, V 201]⟩, ⟨202, .and, [V 34, V 200]⟩, ⟨201, .and, [V 34, V 199]⟩, ⟨200, .not, [V 199]⟩, ⟨199, (.cmp .gtr), [V 198, V 164]⟩, ⟨198, (.ar .add .i64), [V 181, N 1]⟩, ⟨197, .iteB, [V 187, V 187, V 186]⟩, ⟨196, .iteI, [V 187, V 194, N 0]⟩, ⟨195, .not, [V 187]⟩, ⟨194, (.conv .i64), [V 193]⟩, ⟨193, .sget, [V 0, V 188]⟩, ⟨192, .imp, [V 187, V 191]⟩, ⟨191, .and, [V 189, V 190]⟩, ⟨190, (.cmp .lss), [V 188, V 164]⟩, ⟨189, (.cmp .leq), [N 0, V 188]⟩, ⟨188, (.ar .sub .i64), [V 181, N 1]⟩, ⟨187, .and, [V 183, V 185]⟩, ⟨186, .and, [V 182, V 184]⟩, ⟨185, .and, [V 34, V 183]⟩, ⟨184, .and, [V 34, V 182]⟩, ⟨183, .not, [V 182]⟩, ⟨182, (.cmp .gtr), [V 181, V 164]⟩, ⟨181, (.ar .add .i64), [V 163, N 1]⟩, ⟨180, .iteB, [V 170, V 170, V 169]⟩, ⟨179, .iteI, [V 170, V 177, N 0]⟩, ⟨178, .not, [V 170]⟩, ⟨177, (.conv .i64), [V 176]⟩, ⟨176, .sget, [V 0, V 171]⟩, ⟨175, .imp, [V 170, V 174]⟩, ⟨174, .and, [V 172, V 173]⟩, ⟨173, (.cmp .lss), [V 171, V 164]⟩, ⟨172, (.cmp .leq), [N 0, V 171]⟩, ⟨171, (.ar .sub .i64), [V 163, N 1]⟩, ⟨170, .and, [V 166, V 168]⟩, ⟨169, .and, [V 165, V 167]⟩, ⟨168, .and, [V 34, V 166]⟩, ⟨167, .and, [V 34, V 165]⟩, ⟨166, .not, [V 165]⟩, ⟨165, (.cmp .gtr), [V 163, V 164]⟩, ⟨164, .slen, [V 0]⟩, ⟨163, (.ar .add .i64), [V 149, N 1]⟩, ⟨162, (.pix 0 1), [V 154, N 7]⟩, ⟨161, (.pix 0 1), [V 154, N 6]⟩, ⟨160, (.pix 0 1), [V 154, N 5]⟩, ⟨159, (.pix 0 1), [V 154, N 4]⟩, ⟨158, (.pix 0 1), [V 154, N 3]⟩, ⟨157, (.pix 0 1), [V 154, N 2]⟩, ⟨156, (.pix 0 1), [V 154, N 1]⟩, ⟨155, (.pix 0 1), [V 154, N 0]⟩, ⟨154, .cpy, [V 153, V 150, V 152]⟩, ⟨153, .mkl, [N 0, N 0, N 0, N 0, N 0, N 0, N 0, N 0]⟩, ⟨152, .mn, [N 8, V 12]⟩, ⟨151, .imp, [V 34, V 148]⟩, ⟨148, (.call 1232), [V 12, N 0, V 0, V 126, V 31, V 46, V 34, V 65, V 66, V 67, V 68, V 69, V 70, V 71, V 72, V 89, V 106, V 124, V 141, V 55, V 60, V 147]⟩, ⟨147, .rep, [V 12, N 0]⟩, ⟨146, .imp, [V 34, V 145]⟩, ⟨145, .and, [V 143, V 144]⟩, ⟨144, (.cmp .lss), [V 12, N 1000001]⟩, ⟨143, (.cmp .leq), [N 0, V 12]⟩, ⟨142, .iteB, [V 132, V 132, V 131]⟩, ⟨141, .iteI, [V 132, V 139, N 0]⟩, ⟨140, .not, [V 132]⟩, ⟨139, (.conv .i64), [V 138]⟩, ⟨138, .sget, [V 0, V 133]⟩, ⟨137, .imp, [V 132, V 136]⟩, ⟨136, .and, [V 134, V 135]⟩, ⟨135, (.cmp .lss), [V 133, V 116]⟩, ⟨134, (.cmp .leq), [N 0, V 133]⟩, ⟨133, (.ar .sub .i64), [V 126, N 1]⟩, ⟨132, .and, [V 128, V 130]⟩, ⟨131, .and, [V 127, V 129]⟩, ⟨130, .and, [V 34, V 128]⟩, ⟨129, .and, [V 34, V 127]⟩, ⟨128, .not, [V 127]⟩, ⟨127, (.cmp .gtr), [V 126, V 116]⟩, ⟨126, (.ar .add .i64), [V 108, N 1]⟩, ⟨125, .iteB, [V 114, V 114, V 113]⟩, ⟨124, .iteI, [V 114, V 122, N 0]⟩, ⟨123, .not, [V 114]⟩, ⟨122, (.conv .i64), [V 121]⟩, ⟨121, .sget, [V 0, V 115]⟩, ⟨120, .imp, [V 114, V 119]⟩, ⟨119, .and, [V 117, V 118]⟩, ⟨118, (.cmp .lss), [V 115, V 116]⟩, ⟨117, (.cmp .leq), [N 0, V 115]⟩, ⟨116, .slen, [V 0]⟩, ⟨115, (.ar .sub .i64), [V 108, N 1]⟩, ⟨114, .and, [V 110, V 112]⟩, ⟨113, .and, [V 109, V 111]⟩, ⟨112, .and, [V 34, V 110]⟩, ⟨111, .and, [V 34, V 109]⟩, ⟨110, .not, [V 109]⟩, ⟨109, (.cmp .gtr), [V 108, V 74]⟩, ⟨108, (.ar .add .i64), [V 91, N 1]⟩, ⟨107, .iteB, [V 97, V 97, V 96]⟩, ⟨106, .iteI, [V 97, V 104, N 0]⟩, ⟨105, .not, [V 97]⟩, ⟨104, (.conv .i64), [V 103]⟩, ⟨103, .sget, [V 0, V 98]⟩, ⟨102, .imp, [V 97, V 101]⟩, ⟨101, .and, [V 99, V 100]⟩, ⟨100, (.cmp .lss), [V 98, V 74]⟩, ⟨99, (.cmp .leq), [N 0, V 98]⟩, ⟨98, (.ar .sub .i64), [V 91, N 1]⟩, ⟨97, .and, [V 93, V 95]⟩, ⟨96, .and, [V 92, V 94]⟩, ⟨95, .and, [V 34, V 93]⟩, ⟨94, .and, [V 34, V 92]⟩, ⟨93, .not, [V 92]⟩, ⟨92, (.cmp .gtr), [V 91, V 74]⟩, ⟨91, (.ar .add .i64), [V 73, N 1]⟩, ⟨90, .iteB, [V 80, V 80, V 79]⟩, ⟨89, .iteI, [V 80, V 87, N 0]⟩, ⟨88, .not, [V 80]⟩, ⟨87, (.conv .i64), [V 86]⟩, ⟨86, .sget, [V 0, V 81]⟩, ⟨85, .imp, [V 80, V 84]⟩, ⟨84, .and, [V 82, V 83]⟩, ⟨83, (.cmp .lss), [V 81, V 74]⟩, ⟨82, (.cmp .leq), [N 0, V 81]⟩, ⟨81, (.ar .sub .i64), [V 73, N 1]⟩, ⟨80, .and, [V 76, V 78]⟩, ⟨79, .and, [V 75, V 77]⟩, ⟨78, .and, [V 34, V 76]⟩, ⟨77, .and, [V 34, V 75]⟩, ⟨76, .not, [V 75]⟩, ⟨75, (.cmp .gtr), [V 73, V 74]⟩, ⟨74, .slen, [V 0]⟩, ⟨73, (.ar .add .i64), [V 59, N 1]⟩, ⟨72, (.pix 0 1), [V 64, N 7]⟩, ⟨71, (.pix 0 1), [V 64, N 6]⟩, ⟨70, (.pix 0 1), [V 64, N 5]⟩, ⟨69, (.pix 0 1), [V 64, N 4]⟩, ⟨68, (.pix 0 1), [V 64, N 3]⟩, ⟨67, (.pix 0 1), [V 64, N 2]⟩, ⟨66, (.pix 0 1), [V 64, N 1]⟩, ⟨65, (.pix 0 1), [V 64, N 0]⟩, ⟨64, .cpy, [V 63, V 60, V 62]⟩, ⟨63, .mkl, [N 0, N 0, N 0, N 0, N 0, N 0, N 0, N 0]⟩, ⟨62, .mn, [N 8, V 12]⟩, ⟨61, .imp, [V 34, V 58]⟩, ⟨58, (.call 1231), [V 12, N 0, V 0, V 54, V 31, V 46, V 34, V 55, V 57]⟩, ⟨57, .rep, [V 12, N 0]⟩, ⟨56, .imp, [V 34, V 53]⟩, ⟨53, (.call 1230), [V 12, N 0, V 0, N 3, V 31, V 46, V 34, V 52]⟩, ⟨52, .rep, [V 12, N 0, N 0, N 0, N 0]⟩, ⟨51, .imp, [V 34, V 50]⟩, ⟨50, .and, [V 48, V 49]⟩, ⟨49, (.cmp .lss), [V 12, N 1000001]⟩, ⟨48, (.cmp .leq), [N 0, V 12]⟩, ⟨47, .not, [V 34]⟩, ⟨46, .iteI, [V 35, V 39, V 45]⟩, ⟨45, .iteI, [V 40, V 44, N 0]⟩, ⟨44, (.bt .and .i64), [V 29, N 1]⟩, ⟨43, .and, [V 36, V 41]⟩, ⟨42, .and, [V 36, V 40]⟩, ⟨41, .not, [V 40]⟩, ⟨40, (.cmp .eql), [V 31, N 2]⟩, ⟨39, (.dv .rem .i64), [V 29, V 12]⟩, ⟨38, .imp, [V 35, V 37]⟩, ⟨37, (.cmp .neq), [V 12, N 0]⟩, ⟨36, .not, [V 35]⟩, ⟨35, (.cmp .eql), [V 31, N 1]⟩, ⟨34, (.cmp .eql), [V 33, N 1]⟩, ⟨33, (.bt .and .i64), [V 32, N 1]⟩, ⟨32, (.dv .quo .i64), [V 20, N 3]⟩, ⟨31, (.dv .rem .i64), [V 20, N 3]⟩, ⟨30, .iteB, [V 23, V 23, V 22]⟩, ⟨29, .iteI, [V 23, V 27, N 0]⟩, ⟨28, .not, [V 23]⟩, ⟨27, (.conv .i64), [V 26]⟩, ⟨26, .sget, [V 0, N 2]⟩, ⟨25, .imp, [V 23, V 24]⟩, ⟨24, (.cmp .lss), [N 2, V 1]⟩, ⟨23, .not, [V 22]⟩, ⟨22, (.cmp .gtr), [N 3, V 1]⟩, ⟨21, .iteB, [V 14, V 14, V 13]⟩, ⟨20, .iteI, [V 14, V 18, N 0]⟩, ⟨19, .not, [V 14]⟩, ⟨18, (.conv .i64), [V 17]⟩, ⟨17, .sget, [V 0, N 1]⟩, ⟨16, .imp, [V 14, V 15]⟩, ⟨15, (.cmp .lss), [N 1, V 1]⟩, ⟨14, .not, [V 13]⟩, ⟨13, (.cmp .gtr), [N 2, V 1]⟩, ⟨12, (.ar .add .i64), [V 11, N 3]⟩, ⟨11, (.dv .rem .i64), [V 9, N 6]⟩, ⟨10, .iteB, [V 3, V 3, V 2]⟩, ⟨9, .iteI, [V 3, V 7, N 0]⟩, ⟨8, .not, [V 3]⟩, ⟨7, (.conv .i64), [V 6]⟩, ⟨6, .sget, [V 0, N 0]⟩, ⟨5, .imp, [V 3, V 4]⟩, ⟨4, (.cmp .lss), [N 0, V 1]⟩, ⟨3, .not, [V 2]⟩, ⟨2, (.cmp .gtr), [N 1, V 1]⟩, ⟨1, .slen, [V 0]⟩], [V 301, V 293, V 279, V 241, V 236, V 227, V 210, V 192, V 175, V 151, V 146, V 137, V 120, V 102, V 85, V 61, V 56, V 51, V 38, V 25, V 16, V 5], []⟩
theorem Ns (e : Nat → A) (H : Ab T e Gi.defs) : ∀ r0, r0 = Day.Cu (e 0).str → (Day.FC (e 0).str) = true →
  ((e 301).bool = true ∧ (e 293).bool = true ∧ (e 279).bool = true ∧ (e 241).bool = true ∧ (e 236).bool = true ∧ (e 227).bool = true ∧ (e 210).bool = true ∧ (e 192).bool = true ∧ (e 175).bool = true ∧ (e 151).bool = true ∧ (e 146).bool = true ∧ (e 137).bool = true ∧ (e 120).bool = true ∧ (e 102).bool = true ∧ (e 85).bool = true ∧ (e 61).bool = true ∧ (e 56).bool = true ∧ (e 51).bool = true ∧ (e 38).bool = true ∧ (e 25).bool = true ∧ (e 16).bool = true ∧ (e 5).bool = true) ∧ (((r0)).n = (e 12).int ∧ ((r0)).px = (e 270) ∧ ((r0)).pn = (e 243).int ∧ ((r0)).cls = (e 31).int ∧ ((r0)).who = (e 46).int ∧ ((r0)).ld = (e 34).bool ∧ ((r0)).nx = (e 269) ∧ ((r0)).nn = (e 244).int ∧ ((r0)).h0.a 0 = (e 245).int ∧ ((r0)).h0.a 1 = (e 246).int ∧ ((r0)).h0.a 2 = (e 247).int ∧ ((r0)).h0.a 3 = (e 248).int ∧ ((r0)).h0.a 4 = (e 249).int ∧ ((r0)).h0.a 5 = (e 250).int ∧ ((r0)).h0.a 6 = (e 251).int ∧ ((r0)).h0.a 7 = (e 252).int ∧ ((r0)).h0.port = (e 253).int ∧ ((r0)).h0.age = (e 254).int ∧ ((r0)).h0.hold = (e 255).int ∧ ((r0)).h0.pos = (e 256).int ∧ ((r0)).h1.a 0 = (e 257).int ∧ ((r0)).h1.a 1 = (e 258).int ∧ ((r0)).h1.a 2 = (e 259).int ∧ ((r0)).h1.a 3 = (e 260).int ∧ ((r0)).h1.a 4 = (e 261).int ∧ ((r0)).h1.a 5 = (e 262).int ∧ ((r0)).h1.a 6 = (e 263).int ∧ ((r0)).h1.a 7 = (e 264).int ∧ ((r0)).h1.port = (e 265).int ∧ ((r0)).h1.age = (e 266).int ∧ ((r0)).h1.hold = (e 267).int ∧ ((r0)).h1.pos = (e 268).int ∧ ((r0)).tx = (e 304) ∧ ((r0)).tn = (e 303).int) := by
 intro r0 hr0 hp
 subst hr0
 simp only [Gi, Ab, Def.q, BI, L.Ak, L.Aw, L.AS, L.AV, L.ev, A.Ai, A.Ao, A.AF, A.AT, List.map_cons, List.map_nil, Nat.zero_add, Nat.add_zero, and_true, true_and, Nat.reduceAdd, Nat.one_mul] at H
 simp only [D0, Ee, CW, Bg, Ef, Ey, BV, Fq, and_true, true_and] at H
 revert H
 simp only [and_imp]
 rintro q301 q300 q299 - q298 q297 - q296 q295 - q294 - q293 q292 q291 q290 q289 - q288 q287 q286 - q285 - q284 q283 - q282 q281 - q280 - q279 q278 q277 q276 q275 - q274 q273 q272 q271 - q270 q269 q268 - q267 - q266 - q265 - q264 - q263 - q262 - q261 - q260 - q259 - q258 - q257 - q256 - q255 - q254 - q253 - q252 - q251 - q250 - q249 - q248 - q247 - q246 - q245 - q244 - q243 - q242 - q241 q238 q237 q236 q235 q234 q233 q232 q231 - q230 q229 - q228 - q227 q226 q225 q224 q223 - q222 q221 q220 q219 q218 q217 q216 - q215 q214 - q213 q212 - q211 - q210 q209 q208 q207 q206 q205 - q204 q203 q202 q201 q200 q199 q198 - q197 q196 - q195 q194 - q193 - q192 q191 q190 q189 q188 - q187 q186 q185 q184 q183 q182 q181 - q180 q179 - q178 q177 - q176 - q175 q174 q173 q172 q171 - q170 q169 q168 q167 q166 q165 q164 q163 - q162 q161 q160 q159 q158 q157 q156 q155 q154 q153 q152 q151 q148 q147 q146 q145 q144 q143 q142 q141 - q140 q139 - q138 - q137 q136 q135 q134 q133 - q132 q131 q130 q129 q128 q127 q126 - q125 q124 - q123 q122 - q121 - q120 q119 q118 q117 q116 q115 - q114 q113 q112 q111 q110 q109 q108 - q107 q106 - q105 q104 - q103 - q102 q101 q100 q99 q98 - q97 q96 q95 q94 q93 q92 q91 - q90 q89 - q88 q87 - q86 - q85 q84 q83 q82 q81 - q80 q79 q78 q77 q76 q75 q74 q73 - q72 q71 q70 q69 q68 q67 q66 q65 q64 q63 q62 q61 q58 q57 q56 q53 q52 q51 q50 q49 q48 q47 q46 - q45 - q44 - q43 q42 q41 q40 q39 - q38 q37 q36 q35 q34 q33 - q32 - q31 - q30 q29 - q28 q27 - q26 - q25 q24 q23 q22 q21 q20 - q19 q18 - q17 - q16 q15 q14 q13 q12 - q11 - q10 q9 - q8 q7 - q6 - q5 q4 q3 q2 q1
 replace q301 := YM q301
 obtain ⟨q301, q302, q303, q304⟩ := q301
 replace q238 := YG q238
 obtain ⟨q238, q239, q240⟩ := q238
 replace q148 := YF q148
 obtain ⟨q148, q149, q150⟩ := q148
 replace q58 := YE q58
 obtain ⟨q58, q59, q60⟩ := q58
 replace q53 := YD q53
 obtain ⟨q53, q54, q55⟩ := q53
 simp only [L.Ak, L.Aw, L.AS, L.AV, L.ev, A.Ai, A.Ao, A.AF] at q301 q302 q303 q304 q238 q239 q240 q148 q149 q150 q58 q59 q60 q53 q54 q55
 generalize (e 0).str = x0, (e 1).int = v1, (e 2).bool = v2, (e 3).bool = v3, (e 4).bool = v4, (e 5).bool = v5, (e 6).int = v6, (e 7).int = v7, (e 8).bool = v8, (e 9).int = v9, (e 10).bool = v10, (e 11).int = v11, (e 12).int = v12, (e 13).bool = v13, (e 14).bool = v14, (e 15).bool = v15, (e 16).bool = v16, (e 17).int = v17, (e 18).int = v18, (e 19).bool = v19, (e 20).int = v20, (e 21).bool = v21, (e 22).bool = v22, (e 23).bool = v23, (e 24).bool = v24, (e 25).bool = v25, (e 26).int = v26, (e 27).int = v27, (e 28).bool = v28, (e 29).int = v29, (e 30).bool = v30, (e 31).int = v31, (e 32).int = v32, (e 33).int = v33, (e 34).bool = v34, (e 35).bool = v35, (e 36).bool = v36, (e 37).bool = v37, (e 38).bool = v38, (e 39).int = v39, (e 40).bool = v40, (e 41).bool = v41, (e 42).bool = v42, (e 43).bool = v43, (e 44).int = v44, (e 45).int = v45, (e 46).int = v46, (e 47).bool = v47, (e 48).bool = v48, (e 49).bool = v49, (e 50).bool = v50, (e 51).bool = v51, e 52 = v52, (e 53).bool = v53, (e 54).int = v54, e 55 = v55, (e 56).bool = v56, e 57 = v57, (e 58).bool = v58, (e 59).int = v59, e 60 = v60, (e 61).bool = v61, (e 62).int = v62, e 63 = v63, e 64 = v64, (e 73).int = v73, (e 74).int = v74, (e 75).bool = v75, (e 76).bool = v76, (e 77).bool = v77, (e 78).bool = v78, (e 79).bool = v79, (e 80).bool = v80, (e 81).int = v81, (e 82).bool = v82, (e 83).bool = v83, (e 84).bool = v84, (e 85).bool = v85, (e 86).int = v86, (e 87).int = v87, (e 88).bool = v88, (e 89).int = v89, (e 90).bool = v90, (e 91).int = v91, (e 92).bool = v92, (e 93).bool = v93, (e 94).bool = v94, (e 95).bool = v95, (e 96).bool = v96, (e 97).bool = v97, (e 98).int = v98, (e 99).bool = v99, (e 100).bool = v100, (e 101).bool = v101, (e 102).bool = v102, (e 103).int = v103, (e 104).int = v104, (e 105).bool = v105, (e 106).int = v106, (e 107).bool = v107, (e 108).int = v108, (e 109).bool = v109, (e 110).bool = v110, (e 111).bool = v111, (e 112).bool = v112, (e 113).bool = v113, (e 114).bool = v114, (e 115).int = v115, (e 116).int = v116, (e 117).bool = v117, (e 118).bool = v118, (e 119).bool = v119, (e 120).bool = v120, (e 121).int = v121, (e 122).int = v122, (e 123).bool = v123, (e 124).int = v124, (e 125).bool = v125, (e 126).int = v126, (e 127).bool = v127, (e 128).bool = v128, (e 129).bool = v129, (e 130).bool = v130, (e 131).bool = v131, (e 132).bool = v132, (e 133).int = v133, (e 134).bool = v134, (e 135).bool = v135, (e 136).bool = v136, (e 137).bool = v137, (e 138).int = v138, (e 139).int = v139, (e 140).bool = v140, (e 141).int = v141, (e 142).bool = v142, (e 143).bool = v143, (e 144).bool = v144, (e 145).bool = v145, (e 146).bool = v146, e 147 = v147, (e 148).bool = v148, (e 149).int = v149, e 150 = v150, (e 151).bool = v151, (e 152).int = v152, e 153 = v153, e 154 = v154, (e 163).int = v163, (e 164).int = v164, (e 165).bool = v165, (e 166).bool = v166, (e 167).bool = v167, (e 168).bool = v168, (e 169).bool = v169, (e 170).bool = v170, (e 171).int = v171, (e 172).bool = v172, (e 173).bool = v173, (e 174).bool = v174, (e 175).bool = v175, (e 176).int = v176, (e 177).int = v177, (e 178).bool = v178, (e 179).int = v179, (e 180).bool = v180, (e 181).int = v181, (e 182).bool = v182, (e 183).bool = v183, (e 184).bool = v184, (e 185).bool = v185, (e 186).bool = v186, (e 187).bool = v187, (e 188).int = v188, (e 189).bool = v189, (e 190).bool = v190, (e 191).bool = v191, (e 192).bool = v192, (e 193).int = v193, (e 194).int = v194, (e 195).bool = v195, (e 196).int = v196, (e 197).bool = v197, (e 198).int = v198, (e 199).bool = v199, (e 200).bool = v200, (e 201).bool = v201, (e 202).bool = v202, (e 203).bool = v203, (e 204).bool = v204, (e 205).int = v205, (e 206).int = v206, (e 207).bool = v207, (e 208).bool = v208, (e 209).bool = v209, (e 210).bool = v210, (e 211).int = v211, (e 212).int = v212, (e 213).bool = v213, (e 214).int = v214, (e 215).bool = v215, (e 216).int = v216, (e 217).bool = v217, (e 218).bool = v218, (e 219).bool = v219, (e 220).bool = v220, (e 221).bool = v221, (e 222).bool = v222, (e 223).int = v223, (e 224).bool = v224, (e 225).bool = v225, (e 226).bool = v226, (e 227).bool = v227, (e 228).int = v228, (e 229).int = v229, (e 230).bool = v230, (e 231).int = v231, (e 232).bool = v232, (e 233).bool = v233, (e 234).bool = v234, (e 235).bool = v235, (e 236).bool = v236, e 237 = v237, (e 238).bool = v238, (e 239).int = v239, e 240 = v240, (e 241).bool = v241, (e 242).int = v242, (e 243).int = v243, (e 244).int = v244, (e 245).int = v245, (e 246).int = v246, (e 247).int = v247, (e 248).int = v248, (e 249).int = v249, (e 250).int = v250, (e 251).int = v251, (e 252).int = v252, (e 253).int = v253, (e 254).int = v254, (e 255).int = v255, (e 256).int = v256, (e 257).int = v257, (e 258).int = v258, (e 259).int = v259, (e 260).int = v260, (e 261).int = v261, (e 262).int = v262, (e 263).int = v263, (e 264).int = v264, (e 265).int = v265, (e 266).int = v266, (e 267).int = v267, (e 268).int = v268, e 269 = v269, e 270 = v270, (e 271).int = v271, (e 272).int = v272, (e 273).bool = v273, (e 274).bool = v274, (e 275).int = v275, (e 276).bool = v276, (e 277).bool = v277, (e 278).bool = v278, (e 279).bool = v279, (e 280).int = v280, (e 281).int = v281, (e 282).bool = v282, (e 283).int = v283, (e 284).bool = v284, (e 285).int = v285, (e 286).int = v286, (e 287).bool = v287, (e 288).bool = v288, (e 289).int = v289, (e 290).bool = v290, (e 291).bool = v291, (e 292).bool = v292, (e 293).bool = v293, (e 294).int = v294, (e 295).int = v295, (e 296).bool = v296, (e 297).int = v297, (e 298).bool = v298, (e 299).int = v299, (e 300).int = v300, (e 301).bool = v301, (e 302).int = v302, (e 303).int = v303, e 304 = v304 at *
 replace q65 := congrArg A.int q65
 generalize (e 65).int = v65 at *
 replace q66 := congrArg A.int q66
 generalize (e 66).int = v66 at *
 replace q67 := congrArg A.int q67
 generalize (e 67).int = v67 at *
 replace q68 := congrArg A.int q68
 generalize (e 68).int = v68 at *
 replace q69 := congrArg A.int q69
 generalize (e 69).int = v69 at *
 replace q70 := congrArg A.int q70
 generalize (e 70).int = v70 at *
 replace q71 := congrArg A.int q71
 generalize (e 71).int = v71 at *
 replace q72 := congrArg A.int q72
 generalize (e 72).int = v72 at *
 replace q155 := congrArg A.int q155
 generalize (e 155).int = v155 at *
 replace q156 := congrArg A.int q156
 generalize (e 156).int = v156 at *
 replace q157 := congrArg A.int q157
 generalize (e 157).int = v157 at *
 replace q158 := congrArg A.int q158
 generalize (e 158).int = v158 at *
 replace q159 := congrArg A.int q159
 generalize (e 159).int = v159 at *
 replace q160 := congrArg A.int q160
 generalize (e 160).int = v160 at *
 replace q161 := congrArg A.int q161
 generalize (e 161).int = v161 at *
 replace q162 := congrArg A.int q162
 generalize (e 162).int = v162 at *
 have rn := Day.GM x0
 have ri := Day.JU x0
 have rk := Day.JV x0
 have b2 := Day.Az x0 0
 have b6 := Day.Az x0 1
 have b16 := Day.Az x0 2
 obtain ⟨o5, e9⟩ := Day.Ack (k := 0) (by omega) (by omega) q1 q2 q3 q4 q5 q6 q7 q9
 obtain ⟨o16, e20⟩ := Day.Ack (k := 1) (by omega) (by omega) q1 q13 q14 q15 q16 q17 q18 q20
 obtain ⟨o25, e29⟩ := Day.Ack (k := 2) (by omega) (by omega) q1 q22 q23 q24 q25 q26 q27 q29
 have e11 : v11 = Day.Ci x0 0 % 6 := by rw [q11, e9]; exact Int.tmod_eq_emod_of_nonneg b2.1
 have e12 : v12 = Day.DT x0 := by unfold Day.DT; rw [q12, e11, wrap64 (by omega) (by omega)]; omega
 have e32 : v32 = Day.Ci x0 1 / 3 := by rw [q32, e20, Int.tdiv_eq_ediv_of_nonneg b6.1]; exact wrap64 (by omega) (by omega)
 have e33 : v33 = Day.Ci x0 1 / 3 % 2 := by rw [Day.and_1 (a := v32) (by omega) q33, e32]
 have e34 : v34 = Day.HZ x0 := by rw [q34, e33]; rfl
 have e31 : v31 = Day.EE x0 := by rw [q31, e20]; exact Int.tmod_eq_emod_of_nonneg b6.1
 have e39 : v39 = Day.Ci x0 2 % Day.DT x0 := by rw [q39, e29, e12]; exact Int.tmod_eq_emod_of_nonneg b16.1
 have e44 : v44 = Day.Ci x0 2 % 2 := by rw [Day.and_1 (a := v29) (by omega) q44, e29]
 have e46 : v46 = Day.Kl x0 := by
  unfold Day.Kl
  rw [q46, q45, q40, q35, e31, e39, e44]
  by_cases h1 : Day.EE x0 = 1
  ·simp [h1]
  ·by_cases h2 : Day.EE x0 = 2 <;> simp [h1, h2]
 have w12 : 3 ≤ v12 ∧ v12 ≤ 8 := by rw [e12]; exact rn
 obtain ⟨no1, no2, no3⟩ := Day.Abe (s := x0) (t := 3) (n := v12) (by omega) (by omega) (by omega) (by omega)
 rw [q52] at q53 q55
 have q53 : v53 = true := by rw [q53]; exact Bool.and_eq_true_iff.2 ⟨rfl, no1⟩
 rw [no2] at q54
 have q55 : v55 = .l (Day.Fv x0 v12.toNat 0 3) := q55.trans no3
 obtain ⟨sa1, sa2, sa3⟩ := Day.JX (s := x0) (m := 0) (t := v54) (n := v12) (by omega) (by omega) (by omega) (by omega)
 rw [q57] at q58 q60
 rw [sa1] at q58
 rw [sa2] at q59
 rw [sa3] at q60
 have e62 : v62 = v12 := by rw [q62]; split <;> omega
 rw [e62] at q64
 obtain ⟨w73, o85, e89⟩ := Day.Ox (by omega) (by omega) q73 q74 q75 q76 q78 q80 q81 q82 q83 q84 q85 q86 q87 q89
 obtain ⟨w91, o102, e106⟩ := Day.Ox (by omega) (by omega) q91 q74 q92 q93 q95 q97 q98 q99 q100 q101 q102 q103 q104 q106
 rw [show v116 = v74 by rw [q116, q74]] at q118
 obtain ⟨w108, o120, e124⟩ := Day.Ox (by omega) (by omega) q108 q74 q109 q110 q112 q114 q115 q117 q118 q119 q120 q121 q122 q124
 obtain ⟨w126, o137, e141⟩ := Day.Ox (by omega) (by omega) q126 q116 q127 q128 q130 q132 q133 q134 q135 q136 q137 q138 q139 q141
 obtain ⟨sb1, sb2, sb3⟩ := Day.JX (s := x0) (m := 0) (t := v126) (n := v12) (by omega) (by omega) (by omega) (by omega)
 rw [q147] at q148 q150
 rw [sb1] at q148
 rw [sb2] at q149
 rw [sb3] at q150
 have e152 : v152 = v12 := by rw [q152]; split <;> omega
 rw [e152] at q154
 obtain ⟨w163, o175, e179⟩ := Day.Ox (by omega) (by omega) q163 q164 q165 q166 q168 q170 q171 q172 q173 q174 q175 q176 q177 q179
 obtain ⟨w181, o192, e196⟩ := Day.Ox (by omega) (by omega) q181 q164 q182 q183 q185 q187 q188 q189 q190 q191 q192 q193 q194 q196
 rw [show v206 = v164 by rw [q206, q164]] at q208
 obtain ⟨w198, o210, e214⟩ := Day.Ox (by omega) (by omega) q198 q164 q199 q200 q202 q204 q205 q207 q208 q209 q210 q211 q212 q214
 obtain ⟨w216, o227, e231⟩ := Day.Ox (by omega) (by omega) q216 q206 q217 q218 q220 q222 q223 q224 q225 q226 q227 q228 q229 q231
 obtain ⟨sc1, sc2, sc3⟩ := Day.JX (s := x0) (m := 0) (t := 3) (n := v12) (by omega) (by omega) (by omega) (by omega)
 rw [q237] at q238 q240
 rw [sc1] at q238
 rw [sc2] at q239
 rw [sc3] at q240
 have e242 : v242 = Day.Uh x0 := by
  unfold Day.Uh
  rw [q242, ← e34, ← e12]
  cases v34 <;> simp <;> omega
 obtain ⟨w271, o279, e283⟩ := Day.Ac8 (by omega) (by omega) q271 q272 q273 q274 q275 q276 q277 q278 q279 q280 q281 q283
 obtain ⟨w286, o293, e297⟩ := Day.Ac8 (by omega) (by omega) q286 q272 q287 q288 q289 q290 q291 q292 q293 q294 q295 q297
 have e299 : v299 = Day.J3 x0 (Day.Uh x0) := by
  rw [Day.Aar (by rw [e283]; exact Day.Az _ _) (by rw [e297]; exact Day.Az _ _) q285 q299, e283, e297, w271, e242]
  rfl
 have e300 : v300 = Day.Yg x0 := by
  unfold Day.Yg
  rw [q300, e299]
  split <;> omega
 have e286 : v286 = Day.Uh x0 + 2 := by omega
 have hA : ∀ j : Nat, j < 8 → (Day.Ug x0 (Day.DT x0) (3 + 4 * Day.DT x0)).a j = Day.BT x0 v54 v12 0 0 j := fun j hj => by rw [Day.Xz (by omega) (by omega) j hj, q54, e12]
 have hB : ∀ j : Nat, j < 8 → (Day.Ug x0 (Day.DT x0) (3 + 4 * Day.DT x0 + (Day.DT x0 + 4))).a j = Day.BT x0 v126 v12 0 0 j := fun j hj => by rw [Day.Xz (by omega) (by omega) j hj, e12, show v126 = 3 + 4 * Day.DT x0 + (Day.DT x0 + 4) by omega]
 have g1 : ∀ (v : Int) (j : Nat), j < 8 → v = (v64.AJ.getD j (A.i 0)).int → Day.BT x0 v54 v12 0 0 j = v := fun v j hj hv => by rw [hv]; exact (Day.Ac9 q60 q63 q64 (by omega) (by omega) j hj).symm
 have g2 : ∀ (v : Int) (j : Nat), j < 8 → v = (v154.AJ.getD j (A.i 0)).int → Day.BT x0 v126 v12 0 0 j = v := fun v j hj hv => by rw [hv]; exact (Day.Ac9 q150 q153 q154 (by omega) (by omega) j hj).symm
 refine ⟨⟨by rw [q301, e300, e286, e12]; exact Bool.and_eq_true_iff.2 ⟨Day.XA x0, hp⟩, o293, o279, by rw [q241]; exact Day.BF q238, by rw [q236]; exact Day.BF (by rw [q235, q233, q234]; simp; omega), o227, o210, o192, o175, by rw [q151]; exact Day.BF q148, by rw [q146]; exact Day.BF (by rw [q145, q143, q144]; simp; omega), o137, o120, o102, o85, by rw [q61]; exact Day.BF q58, by rw [q56]; exact Day.BF q53, by rw [q51]; exact Day.BF (by rw [q50, q48, q49]; simp; omega), by rw [q38]; exact Day.BF (by rw [q37]; simp; omega), o25, o16, o5⟩, ?_⟩
 have g45 : 3 + 4 * Day.DT x0 + Day.DT x0 = v59 := by omega
 have g84 : 3 + 4 * Day.DT x0 + (Day.DT x0 + 4) + Day.DT x0 = v149 := by omega
 have e2 : ∀ x : Int, x + 1 + 1 = x + 2 := fun x => by omega
 have e3 : ∀ x : Int, x + 1 + 1 + 1 = x + 3 := fun x => by omega
 unfold Day.Cu
 simp only []
 rw [← e12, ← e31, ← e46, ← e34, ← e300, ← e286] at *
 rw [q243, q244, q269, q270, q55, q240, q303, q304]
 refine ⟨rfl, by cases v34 <;> rfl, by cases v34 <;> rfl, rfl, rfl, rfl, by cases v34 <;> rfl, by cases v34 <;> rfl, ?_⟩
 rw [q245, q246, q247, q248, q249, q250, q251, q252, q253, q254, q255, q256, q257, q258, q259, q260, q261, q262, q263, q264, q265, q266, q267, q268]
 clear o5 o16 o25 o85 o102 o120 o137 o175 o192 o210 o227
 cases v34
 ·exact ⟨rfl, rfl, rfl, rfl, rfl, rfl, rfl, rfl, rfl, rfl, rfl, rfl, rfl, rfl, rfl, rfl, rfl, rfl, rfl, rfl, rfl, rfl, rfl, rfl, Day.XB, rfl⟩
 ·simp only [if_true] at *
  exact ⟨(hA 0 (by omega)).trans (g1 _ 0 (by omega) q65), (hA 1 (by omega)).trans (g1 _ 1 (by omega) q66), (hA 2 (by omega)).trans (g1 _ 2 (by omega) q67), (hA 3 (by omega)).trans (g1 _ 3 (by omega) q68), (hA 4 (by omega)).trans (g1 _ 4 (by omega) q69), (hA 5 (by omega)).trans (g1 _ 5 (by omega) q70), (hA 6 (by omega)).trans (g1 _ 6 (by omega) q71), (hA 7 (by omega)).trans (g1 _ 7 (by omega) q72), by rw [e89, ← g45]; rfl, by rw [e106, w73, ← g45]; rfl, by rw [e124, w91, w73, e2, ← g45]; rfl, by rw [e141, w108, w91, w73, e3, ← g45]; rfl, (hB 0 (by omega)).trans (g2 _ 0 (by omega) q155), (hB 1 (by omega)).trans (g2 _ 1 (by omega) q156), (hB 2 (by omega)).trans (g2 _ 2 (by omega) q157), (hB 3 (by omega)).trans (g2 _ 3 (by omega) q158), (hB 4 (by omega)).trans (g2 _ 4 (by omega) q159), (hB 5 (by omega)).trans (g2 _ 5 (by omega) q160), (hB 6 (by omega)).trans (g2 _ 6 (by omega) q161), (hB 7 (by omega)).trans (g2 _ 7 (by omega) q162), by rw [e179, ← g84]; rfl, by rw [e196, w163, ← g84]; rfl, by rw [e214, w181, w163, e2, ← g84]; rfl, by rw [e231, w198, w181, w163, e3, ← g84]; rfl, Day.XB, trivial⟩
end Rx.S
