/- For all clusters and nodes: it says a frame of its own Id or nothing, and something just where it is due. -/
import Derived.Test.YtjipnabidebgbaaXb
import Derived.Test.YtjipnabidebgbaaXc
import Derived.Test.YtjipnabidebgbaaXnode
import Derived.Test.YtjipnabidebgbaaXsay
import Derived.Test.YtjipnabidebgbaaXlaw08
import Derived.Test.YtjipnabidebgbaaRows
import Derived.Test.YtjipnabidebgbaaSeat
import Derived.WalkKit
import Derived.ProofKit
import Derived.OpenShut
import Derived.ShutString
import Derived.ChangeOld
import Derived.Below
import Derived.SizedLaws
set_option linter.unusedVariables false
set_option linter.unusedSimpArgs false
namespace Rx.S
open Go Rx Go.Proofs
set_option maxRecDepth 100000
set_option linter.unusedVariables false
def c_law08_SayOwn : Ctr := { f := 12, ps := [.c false [.int .u8], .c true [.int .i64, .int .i64, .int .i64, .int .i64]], rs := [(false, [.bool])], ok := fun _ => true }
noncomputable def fns_law08_SayOwn : List (Nat × Func) := [(12, Try.f12), (64, Try.f64), (84, Try.f84), (86, Try.f86), (87, Try.f87)]
theorem fnsOk_law08_SayOwn : FnsAll Try.prog fns_law08_SayOwn := ⟨fn12, fn64, fn84, fn86, fn87, trivial⟩
noncomputable def X_law08_SayOwn : Ctx := { tys := tys, eqs := eqs, fns := fun f => look f fns_law08_SayOwn, ctr := [(64, c_ref06_Right), (87, c_say_Due), (84, c_say_Of), (86, c_law08_awake)], lim := 30 }
theorem xok_law08_SayOwn : XOK Try.prog T X_law08_SayOwn where
  tys := tysOk
  eqs := eqsOk
  mixed := mixed
  ctr := ctrsOK_of ⟨⟨rfl, ctr_ref06_Right⟩, ⟨rfl, ctr_say_Due⟩, ⟨rfl, ctr_say_Of⟩, ⟨rfl, ctr_law08_awake⟩, trivial⟩
  fns := fnsOK_of fnsOk_law08_SayOwn
def g_law08_SayOwn : G := { next := 88, defs := [⟨87, .iteB, [.var 17, .var 84, .var 16]⟩, ⟨86, .iteB, [.var 17, .var 83, .var 28]⟩, ⟨85, .not, [.var 17]⟩, ⟨84, .iteB, [.var 47, .var 47, .var 46]⟩, ⟨83, .iteB, [.var 47, .var 81, .var 45]⟩, ⟨82, .not, [.var 47]⟩, ⟨81, .iteB, [.var 76, .var 80, .t false]⟩, ⟨80, (.cmp .neq), [.var 2, .n 0]⟩, ⟨79, .and, [.var 47, .var 76]⟩, ⟨78, .and, [.var 47, .var 76]⟩, ⟨77, .and, [.var 47, .var 76]⟩, ⟨76, .iteB, [.var 65, .var 75, .t false]⟩, ⟨75, .eqB, [.var 69, .var 73]⟩, ⟨74, .and, [.var 47, .var 65]⟩, ⟨73, (.cmp .eql), [.var 2, .n 3]⟩, ⟨72, .and, [.var 47, .var 65]⟩, ⟨71, .and, [.var 47, .var 65]⟩, ⟨70, .and, [.var 47, .var 65]⟩, ⟨69, (.cmp .eql), [.var 9, .n 2]⟩, ⟨68, .and, [.var 47, .var 65]⟩, ⟨67, .and, [.var 47, .var 65]⟩, ⟨66, .and, [.var 47, .var 65]⟩, ⟨65, .iteB, [.var 58, .var 64, .t false]⟩, ⟨64, (.cmp .eql), [.var 10, .var 1]⟩, ⟨63, .and, [.var 47, .var 58]⟩, ⟨62, .and, [.var 47, .var 58]⟩, ⟨61, .and, [.var 47, .var 58]⟩, ⟨60, .and, [.var 47, .var 58]⟩, ⟨59, .and, [.var 47, .var 58]⟩, ⟨58, .iteB, [.var 54, .var 57, .t false]⟩, ⟨57, (.cmp .eql), [.var 13, .n 0]⟩, ⟨56, .and, [.var 47, .var 54]⟩, ⟨55, .and, [.var 47, .var 54]⟩, ⟨54, .iteB, [.var 49, .var 53, .t false]⟩, ⟨53, (.cmp .eql), [.var 11, .n 0]⟩, ⟨52, .and, [.var 47, .var 49]⟩, ⟨51, .and, [.var 47, .var 49]⟩, ⟨50, .imp, [.var 47, .var 48]⟩, ⟨48, (.call 86), []⟩, ⟨47, .and, [.var 32, .var 34]⟩, ⟨46, .and, [.var 31, .var 33]⟩, ⟨45, .iteB, [.var 41, .var 44, .t false]⟩, ⟨44, (.cmp .neq), [.var 13, .n 0]⟩, ⟨43, .and, [.var 33, .var 41]⟩, ⟨42, .and, [.var 33, .var 41]⟩, ⟨41, .iteB, [.var 36, .var 40, .t false]⟩, ⟨40, (.cmp .eql), [.var 11, .n 0]⟩, ⟨39, .and, [.var 33, .var 36]⟩, ⟨38, .and, [.var 33, .var 36]⟩, ⟨37, .imp, [.var 33, .var 35]⟩, ⟨35, (.call 86), []⟩, ⟨34, .and, [.var 17, .var 32]⟩, ⟨33, .and, [.var 17, .var 31]⟩, ⟨32, .not, [.var 31]⟩, ⟨31, .and, [.var 30, .var 29]⟩, ⟨30, (.cmp .eql), [.var 9, .n 0]⟩, ⟨29, (.cmp .eql), [.var 10, .n 0]⟩, ⟨28, .iteB, [.var 24, .var 27, .t false]⟩, ⟨27, (.cmp .eql), [.var 13, .n (-1)]⟩, ⟨26, .and, [.var 16, .var 24]⟩, ⟨25, .and, [.var 16, .var 24]⟩, ⟨24, .iteB, [.var 19, .var 23, .t false]⟩, ⟨23, (.cmp .eql), [.var 11, .n 1]⟩, ⟨22, .and, [.var 16, .var 19]⟩, ⟨21, .and, [.var 16, .var 19]⟩, ⟨20, .imp, [.var 16, .var 18]⟩, ⟨18, (.call 86), []⟩, ⟨17, .not, [.var 16]⟩, ⟨16, .not, [.var 15]⟩, ⟨14, (.call 64), [.var 7, .var 1, .var 2, .var 3, .var 4]⟩, ⟨12, (.call 87), [.var 7, .var 1, .var 2, .var 3, .var 4]⟩, ⟨8, (.call 84), [.var 7, .var 1, .var 2, .var 3, .var 4]⟩, ⟨7, (.ar .add .i64), [.n 3, .var 6]⟩, ⟨6, (.conv .i64), [.var 5]⟩, ⟨5, (.dv .rem .u8), [.var 0, .n 6]⟩], obs := [.var 50, .var 37, .var 20, .var 14, .var 12, .var 8], known := [] }
theorem run_law08_SayOwn : run X_law08_SayOwn 2000 12 ([.one (.k (.int .u8 (.var 0))), .agg [.k (.int .i64 (.var 1)), .k (.int .i64 (.var 2)), .k (.int .i64 (.var 3)), .k (.int .i64 (.var 4))]]) ([]) 5 [] = some (.pv (.one (.k (.bool (.var 86)))), [{ own := true, ty := 42, es := 4, cells := [.k (.int .i64 (.var 1)), .k (.int .i64 (.var 2)), .k (.int .i64 (.var 3)), .k (.int .i64 (.var 4))] }, { own := true, ty := 57, es := 2, cells := [.k (.int .i64 (.var 9)), .k (.int .i64 (.var 10))] }], g_law08_SayOwn) := by kernel_rfl
theorem pure_law08_SayOwn (x0 : Int) (x1 : Int) (x2 : Int) (x3 : Int) (x4 : Int) (v5 : Int) (v6 : Int) (v7 : Int) (v8 : Bool) (v9 : Int) (v10 : Int) (v11 : Int) (v12 : Bool) (v13 : Int) (v14 : Bool) (v15 : Bool) (v16 : Bool) (v17 : Bool) (v18 : Bool) (v19 : Bool) (v20 : Bool) (v21 : Bool) (v22 : Bool) (v23 : Bool) (v24 : Bool) (v25 : Bool) (v26 : Bool) (v27 : Bool) (v28 : Bool) (v29 : Bool) (v30 : Bool) (v31 : Bool) (v32 : Bool) (v33 : Bool) (v34 : Bool) (v35 : Bool) (v36 : Bool) (v37 : Bool) (v38 : Bool) (v39 : Bool) (v40 : Bool) (v41 : Bool) (v42 : Bool) (v43 : Bool) (v44 : Bool) (v45 : Bool) (v46 : Bool) (v47 : Bool) (v48 : Bool) (v49 : Bool) (v50 : Bool) (v51 : Bool) (v52 : Bool) (v53 : Bool) (v54 : Bool) (v55 : Bool) (v56 : Bool) (v57 : Bool) (v58 : Bool) (v59 : Bool) (v60 : Bool) (v61 : Bool) (v62 : Bool) (v63 : Bool) (v64 : Bool) (v65 : Bool) (v66 : Bool) (v67 : Bool) (v68 : Bool) (v69 : Bool) (v70 : Bool) (v71 : Bool) (v72 : Bool) (v73 : Bool) (v74 : Bool) (v75 : Bool) (v76 : Bool) (v77 : Bool) (v78 : Bool) (v79 : Bool) (v80 : Bool) (v81 : Bool) (v82 : Bool) (v83 : Bool) (v84 : Bool) (v85 : Bool) (v86 : Bool) (v87 : Bool)
    (q5 : v5 = (Int.tmod x0 (6 : Int)))
    (q6 : v6 = (IntKind.wrap .i64 v5))
    (q7 : v7 = (IntKind.wrap .i64 ((3 : Int) + v6)))
    (q8 : v8 = (Day.ND.i64 (Day.ND.mk x1 x2 x3 x4)))
    (q9 : v9 = (((Day.ofR v7 (Day.ND.mk x1 x2 x3 x4))).kind))
    (q10 : v10 = (((Day.ofR v7 (Day.ND.mk x1 x2 x3 x4))).id))
    (q11 : v11 = (Day.ofE v7 (Day.ND.mk x1 x2 x3 x4)))
    (q12 : v12 = (Day.ND.i64 (Day.ND.mk x1 x2 x3 x4)))
    (q13 : v13 = (Day.dueR v7 (Day.ND.mk x1 x2 x3 x4)))
    (q14 : v14 = (Day.ND.i64 (Day.ND.mk x1 x2 x3 x4)))
    (q15 : v15 = (Day.rightN v7 (Day.ND.mk x1 x2 x3 x4)))
    (q16 : v16 = ((!v15)))
    (q17 : v17 = ((!v16)))
    (q18 : v18 = (true))
    (q19 : v19 = (true))
    (q20 : v20 = ((!v16 || v18)))
    (q21 : v21 = ((v16 && v19)))
    (q22 : v22 = ((v16 && v19)))
    (q23 : v23 = ((v11 == (1 : Int))))
    (q24 : v24 = ((if v19 then v23 else false)))
    (q25 : v25 = ((v16 && v24)))
    (q26 : v26 = ((v16 && v24)))
    (q27 : v27 = ((v13 == (-1))))
    (q28 : v28 = ((if v24 then v27 else false)))
    (q29 : v29 = ((v10 == (0 : Int))))
    (q30 : v30 = ((v9 == (0 : Int))))
    (q31 : v31 = ((v30 && v29)))
    (q32 : v32 = ((!v31)))
    (q33 : v33 = ((v17 && v31)))
    (q34 : v34 = ((v17 && v32)))
    (q35 : v35 = (true))
    (q36 : v36 = (true))
    (q37 : v37 = ((!v33 || v35)))
    (q38 : v38 = ((v33 && v36)))
    (q39 : v39 = ((v33 && v36)))
    (q40 : v40 = ((v11 == (0 : Int))))
    (q41 : v41 = ((if v36 then v40 else false)))
    (q42 : v42 = ((v33 && v41)))
    (q43 : v43 = ((v33 && v41)))
    (q44 : v44 = ((v13 != (0 : Int))))
    (q45 : v45 = ((if v41 then v44 else false)))
    (q46 : v46 = ((v31 && v33)))
    (q47 : v47 = ((v32 && v34)))
    (q48 : v48 = (true))
    (q49 : v49 = (true))
    (q50 : v50 = ((!v47 || v48)))
    (q51 : v51 = ((v47 && v49)))
    (q52 : v52 = ((v47 && v49)))
    (q53 : v53 = ((v11 == (0 : Int))))
    (q54 : v54 = ((if v49 then v53 else false)))
    (q55 : v55 = ((v47 && v54)))
    (q56 : v56 = ((v47 && v54)))
    (q57 : v57 = ((v13 == (0 : Int))))
    (q58 : v58 = ((if v54 then v57 else false)))
    (q59 : v59 = ((v47 && v58)))
    (q60 : v60 = ((v47 && v58)))
    (q61 : v61 = ((v47 && v58)))
    (q62 : v62 = ((v47 && v58)))
    (q63 : v63 = ((v47 && v58)))
    (q64 : v64 = ((v10 == x1)))
    (q65 : v65 = ((if v58 then v64 else false)))
    (q66 : v66 = ((v47 && v65)))
    (q67 : v67 = ((v47 && v65)))
    (q68 : v68 = ((v47 && v65)))
    (q69 : v69 = ((v9 == (2 : Int))))
    (q70 : v70 = ((v47 && v65)))
    (q71 : v71 = ((v47 && v65)))
    (q72 : v72 = ((v47 && v65)))
    (q73 : v73 = ((x2 == (3 : Int))))
    (q74 : v74 = ((v47 && v65)))
    (q75 : v75 = ((v69 == v73)))
    (q76 : v76 = ((if v65 then v75 else false)))
    (q77 : v77 = ((v47 && v76)))
    (q78 : v78 = ((v47 && v76)))
    (q79 : v79 = ((v47 && v76)))
    (q80 : v80 = ((x2 != (0 : Int))))
    (q81 : v81 = ((if v76 then v80 else false)))
    (q82 : v82 = ((!v47)))
    (q83 : v83 = ((if v47 then v81 else v45)))
    (q84 : v84 = ((if v47 then v47 else v46)))
    (q85 : v85 = ((!v17)))
    (q86 : v86 = ((if v17 then v83 else v28)))
    (q87 : v87 = ((if v17 then v84 else v16)))
    (hp : (Day.u8 x0 && Day.ND.i64 (Day.ND.mk x1 x2 x3 x4)) = true)  :
    (v50 = true ∧ v37 = true ∧ v20 = true ∧ v14 = true ∧ v12 = true ∧ v8 = true) ∧ (true = v86) := by
  grind [Day.clampR, Day.upR, Day.downR, Day.sm, Day.i64, Day.u8, Day.u16, Day.u32, Day.right, Day.times, Day.ownE, Day.ownR, Day.idE, Day.freshN, Day.noND, Day.cleanN, Day.wakeN, Day.rightN, Day.ND.i64, Day.waitR, Day.dueR, Day.ofR, Day.ofE, Day.noFr, wrap64, Day.modP, Day.modR, Day.slotP, Day.nextR, Day.atP, Day.atR, Day.aheadP, Day.aheadR]
theorem bridge_law08_SayOwn {e : Nat → A} {al more : List A} (hlen : al.length = 5) (he : ∀ j a, (al ++ more)[j]? = some a → e j = a) (hd : ∀ d ∈ g_law08_SayOwn.defs, d.holds T e) (hp : (t_12 al).1 = true) :
    (∀ x ∈ g_law08_SayOwn.known, x.holds T e) ∧ (∀ o ∈ g_law08_SayOwn.obs, (o.ev e).bool = true) ∧ semMany (c_law08_SayOwn.rs.flatMap (·.2)) (t_12 al).2 = semMany (c_law08_SayOwn.rs.flatMap (·.2)) ([.var 86].map (L.ev e)) := by
  have y0 : gi al 0 = (e 0).int := gi_e he (by omega)
  have y1 : gi al 1 = (e 1).int := gi_e he (by omega)
  have y2 : gi al 2 = (e 2).int := gi_e he (by omega)
  have y3 : gi al 3 = (e 3).int := gi_e he (by omega)
  have y4 : gi al 4 = (e 4).int := gi_e he (by omega)
  obtain ⟨d87, d86, d85, d84, d83, d82, d81, d80, d79, d78, d77, d76, d75, d74, d73, d72, d71, d70, d69, d68, d67, d66, d65, d64, d63, d62, d61, d60, d59, d58, d57, d56, d55, d54, d53, d52, d51, d50, d48, d47, d46, d45, d44, d43, d42, d41, d40, d39, d38, d37, d35, d34, d33, d32, d31, d30, d29, d28, d27, d26, d25, d24, d23, d22, d21, d20, d18, d17, d16, d14, d12, d8, d7, d6, d5, -⟩ : AllHold T e g_law08_SayOwn.defs := allHold_of hd
  have hpE : (t_12 al).1 = (Day.u8 (e 0).int && Day.ND.i64 (Day.ND.mk (e 1).int (e 2).int (e 3).int (e 4).int)) := by simp only [t_12, y0, y1, y2, y3, y4]
  have hp := hpE.symm.trans hp
  have hoE : (t_12 al).2 = [.b (true)] := by simp only [t_12, y0, y1, y2, y3, y4]
  obtain ⟨ho, hr⟩ := pure_law08_SayOwn (e 0).int (e 1).int (e 2).int (e 3).int (e 4).int (e 5).int (e 6).int (e 7).int (e 8).bool (e 9).int (e 10).int (e 11).int (e 12).bool (e 13).int (e 14).bool (e 15).bool (e 16).bool (e 17).bool (e 18).bool (e 19).bool (e 20).bool (e 21).bool (e 22).bool (e 23).bool (e 24).bool (e 25).bool (e 26).bool (e 27).bool (e 28).bool (e 29).bool (e 30).bool (e 31).bool (e 32).bool (e 33).bool (e 34).bool (e 35).bool (e 36).bool (e 37).bool (e 38).bool (e 39).bool (e 40).bool (e 41).bool (e 42).bool (e 43).bool (e 44).bool (e 45).bool (e 46).bool (e 47).bool (e 48).bool (e 49).bool (e 50).bool (e 51).bool (e 52).bool (e 53).bool (e 54).bool (e 55).bool (e 56).bool (e 57).bool (e 58).bool (e 59).bool (e 60).bool (e 61).bool (e 62).bool (e 63).bool (e 64).bool (e 65).bool (e 66).bool (e 67).bool (e 68).bool (e 69).bool (e 70).bool (e 71).bool (e 72).bool (e 73).bool (e 74).bool (e 75).bool (e 76).bool (e 77).bool (e 78).bool (e 79).bool (e 80).bool (e 81).bool (e 82).bool (e 83).bool (e 84).bool (e 85).bool (e 86).bool (e 87).bool
    (q_dv d5)
    (q_conv d6)
    (q_ar d7)
    (q_pre T_84 d8)
    (q_outI T_84 0 d8 rfl)
    (q_outI T_84 1 d8 rfl)
    (q_outI T_84 2 d8 rfl)
    (q_pre T_87 d12)
    (q_outI T_87 0 d12 rfl)
    (q_pre T_64 d14)
    (q_outB T_64 0 d14 rfl)
    (q_not d16)
    (q_not d17)
    (q_pre T_86 d18)
    (q_outB T_86 0 d18 rfl)
    (q_imp d20)
    (q_and d21)
    (q_and d22)
    (q_cmp d23)
    (q_iteB d24)
    (q_and d25)
    (q_and d26)
    (q_cmp d27)
    (q_iteB d28)
    (q_cmp d29)
    (q_cmp d30)
    (q_and d31)
    (q_not d32)
    (q_and d33)
    (q_and d34)
    (q_pre T_86 d35)
    (q_outB T_86 0 d35 rfl)
    (q_imp d37)
    (q_and d38)
    (q_and d39)
    (q_cmp d40)
    (q_iteB d41)
    (q_and d42)
    (q_and d43)
    (q_cmp d44)
    (q_iteB d45)
    (q_and d46)
    (q_and d47)
    (q_pre T_86 d48)
    (q_outB T_86 0 d48 rfl)
    (q_imp d50)
    (q_and d51)
    (q_and d52)
    (q_cmp d53)
    (q_iteB d54)
    (q_and d55)
    (q_and d56)
    (q_cmp d57)
    (q_iteB d58)
    (q_and d59)
    (q_and d60)
    (q_and d61)
    (q_and d62)
    (q_and d63)
    (q_cmp d64)
    (q_iteB d65)
    (q_and d66)
    (q_and d67)
    (q_and d68)
    (q_cmp d69)
    (q_and d70)
    (q_and d71)
    (q_and d72)
    (q_cmp d73)
    (q_and d74)
    (q_eqB d75)
    (q_iteB d76)
    (q_and d77)
    (q_and d78)
    (q_and d79)
    (q_cmp d80)
    (q_iteB d81)
    (q_not d82)
    (q_iteB d83)
    (q_iteB d84)
    (q_not d85)
    (q_iteB d86)
    (q_iteB d87)
    hp
  obtain ⟨o0, o1, o2, o3, o4, o5⟩ := ho
  have r0 := hr
  refine ⟨(fun x hx => by cases hx), obs_of (e := e) (l := g_law08_SayOwn.obs) ⟨o0, o1, o2, o3, o4, o5, trivial⟩, ?_⟩
  rw [hoE]
  show semMany [.bool] [.b (true)] = semMany [.bool] [L.ev e (.var 86)]
  exact (semB r0 rfl)
theorem ctr_law08_SayOwn : CtrOK Try.prog T c_law08_SayOwn := by
  intro lits al vs w hok hag hargs hpre
  have hpre : (t_12 al).1 = true := by rw [← T_12]; exact hpre
  obtain ⟨hl, hlen⟩ := args_flat hargs rfl
  have hlen : al.length = 5 := hlen
  exact calls_of_run xok_law08_SayOwn widths (lits := []) (ns := []) (more := []) rfl run_law08_SayOwn (by kernel_rfl) (by kernel_rfl) rfl hargs hl (lit_none) (by rw [show c_law08_SayOwn.f = 12 from rfl, T_12]; rfl)
    fun e he hd => by rw [show c_law08_SayOwn.f = 12 from rfl, T_12]; exact bridge_law08_SayOwn hlen he hd hpre
end Rx.S
namespace Go.Proofs.Ytjipnabidebgbaa.sayOwn
open Go.ChangeShapes Go.WideShapes Go.ChangeAt Go.RowKit Rx
set_option linter.unusedVariables false
theorem own : ownKnob Try.prog.godebug = none := by kernel_rfl
set_option maxRecDepth 100000 in
theorem lifted (os : Os) (started : os.Started) (H : Type) (enc : TypeId × Value → H) :
    ReturnsInHanded {} Try.checked os 12 .any (Rows.sayOwnSpec.pre6 enc Try.prog Try.f12 Rows.sayOwnRow.domain false) (Rows.sayOwnSpec.post enc Try.prog Try.f12 false true false false) := by
  refine returnsInHanded_of_change_sized (C := Try.checked) own started (by kernel_rfl) Try.func12
    (ChangeSpec.witness6 (enc := enc) (C := Try.checked) false ⟨#[], #[.int .u8 0, .agg #[.int .i64 0, .int .i64 0, .int .i64 0, .int .i64 0]], []⟩ 8 (by kernel_rfl) (by kernel_rfl) (by kernel_rfl) (by kernel_rfl)) ?_
  intro W base args ds gs before hval0 hW hcnd hsz0 _
  have hval : ∀ (j : Nat) t v, Try.f12.params[j]? = some t → args[j]? = some v → Value.okWide Try.prog W .any base t v := hval0
  have hW' := hW
  obtain ⟨p, q, hA0, hV, rfl, hfz, hnd⟩ := hW
  have hA : DataW.TrodAll enc Try.prog W 0 (fun _ => true) true Try.f12.params.toList args.toList ds p := hA0
  rw [Try.params12] at hA hval
  obtain ⟨v0, vs0, d0, ds0, p0, q0, hargs, rfl, rfl, h0, r0⟩ := trodAll_cons hA
  obtain ⟨v1, vs1, d1, ds1, p1, q1, rfl, rfl, rfl, h1, r1⟩ := trodAll_cons r0
  obtain ⟨rfl, rfl, rfl⟩ := trodAll_nil r1
  obtain rfl : args = #[v0, v1] := by cases args; simp_all
  obtain ⟨rfl, rfl⟩ := trodVars_none hV
  obtain ⟨l0, e0, o0⟩ := open_arg S.tysOk (n := 10) (t := 5) rfl rfl (hval 0 5 v0 rfl rfl) h0
  obtain ⟨x0, _, rfl, k0, rfl⟩ := e0
  obtain ⟨l1, e1, o1⟩ := open_arg S.tysOk (n := 10) (t := 42) rfl rfl (hval 1 42 v1 rfl rfl) h1
  obtain ⟨x1, _, rfl, k1, x2, _, rfl, k2, x3, _, rfl, k3, x4, _, rfl, k4, rfl⟩ := e1
  have hargs : ArgsRel W S.c_law08_SayOwn.ps [v0, v1] [x0, x1, x2, x3, x4] := ⟨v0, _, [x0], _, rfl, rfl, o0, ⟨v1, _, [x1, x2, x3, x4], _, rfl, rfl, o1, ⟨rfl, rfl⟩⟩⟩
  have f0 := leaf_u8 k0
  have f1 := leaf_i64 k1
  have f2 := leaf_i64 k2
  have f3 := leaf_i64 k3
  have f4 := leaf_i64 k4
  have hp : (S.t_12 [x0, x1, x2, x3, x4]).1 = true := by
    simp [S.t_12, gi, gb, gs, gv, Day.ND.i64, f0, f1, f2, f3, f4]
  refine (law_calls S.ctr_law08_SayOwn (fun _ => rfl) rfl hargs (by rw [show S.c_law08_SayOwn.f = 12 from rfl, S.T_12]; exact hp) (by rw [show S.c_law08_SayOwn.f = 12 from rfl, S.T_12]; rfl)).mono fun e W2 ⟨he, bel⟩ => ?_
  subst he
  have b0 := Below.trod Seat.laidOut (by kernel_rfl) (of_decide_eq_true (by kernel_rfl)) h0 bel (fun x hx => by simpa using hW'.lt x (by simp [hx]))
  have b1 := Below.trod Seat.laidOut (by kernel_rfl) (of_decide_eq_true (by kernel_rfl)) h1 bel (fun x hx => by simpa using hW'.lt x (by simp [hx]))
  exact ⟨_, rfl, _, _, _, [], _, [], hW', trodAll_mk1 (shut_bool Try.underlying4 _), (trodAll_cons_mk b0 (trodAll_cons_mk b1 trodAll_mk0)), rfl, bel.frame _, fun h => by cases h⟩
theorem facts : joinedFacts Try.prog 12 Try.f12 Rows.sayOwnSpec Rows.sayOwnRow = true :=
  Seat.facts Seat.enter Seat.lifts Seat.made Seat.laidOut Seat.rowed Seat.heard 12 Try.f12 Rows.sayOwnSpec Rows.sayOwnRow ((rfl : Rows.sayOwnRow.plainKeys = true).trans Seat.keys) (by kernel_rfl) (by kernel_rfl) (by kernel_rfl) (by kernel_rfl) (by kernel_rfl) (by kernel_rfl) (by kernel_rfl) (by kernel_rfl)
theorem named : Try.prog.funcNamed Rows.sayOwnRow.func = some 12 := by kernel_rfl
theorem inst : Try.f12.isInstance Try.prog Rows.sayOwnRow.origin Rows.sayOwnRow.targs := of_decide_eq_true (by kernel_rfl)
theorem wrapped : Try.f12.isWrapper Try.prog Rows.sayOwnRow.wrapper Rows.sayOwnRow.mainSum := by unfold Func.isWrapper; rw [if_neg (by decide +kernel)]; exact ⟨rfl, rfl⟩
theorem over : Rows.sayOwnRow.holds Try.pinned (OpenSpec.ofChange Rows.sayOwnSpec) :=
  OpenClaim.holds_of_wide 12 Try.f12 rfl rfl rfl rfl rfl rfl rfl ⟨rfl, rfl, rfl, rfl, rfl⟩ rfl rfl rfl rfl rfl named Try.func12 facts inst wrapped
    (fun os started H enc _ => lifted os started H enc)
theorem proved : Rows.SayOwnSaid := over
end Go.Proofs.Ytjipnabidebgbaa.sayOwn
namespace Go.Proofs.Ytjipnabidebgbaa
/-- The row, under a short name, for the claim. -/
theorem sayOwn_holds : Rows.SayOwnSaid := sayOwn.proved
end Go.Proofs.Ytjipnabidebgbaa
