/- For all clusters and states: what is made right may be, is not Init, and stays as it is when it is made right again. -/
import Derived.Test.YtjipnabidebgbaaXb
import Derived.Test.YtjipnabidebgbaaXc
import Derived.Test.YtjipnabidebgbaaXnode
import Derived.Test.YtjipnabidebgbaaXlaw06
import Derived.Test.YtjipnabidebgbaaRows
import Derived.Test.YtjipnabidebgbaaSeat
import Derived.WalkKit
import Derived.ProofKit
import Derived.OpenShut
import Derived.ShutString
import Derived.ChangeOld
import Derived.Below
import Derived.SizedLaws
set_option linter.unusedVariables false
set_option linter.unusedSimpArgs false
namespace Rx.S
open Go Rx Go.Proofs
set_option maxRecDepth 100000
set_option linter.unusedVariables false
def c_law06_NodeClean : Ctr := { f := 8, ps := [.c false [.int .u8], .c false [.int .u8], .c true [.int .i64, .int .i64, .int .i64, .int .i64]], rs := [(false, [.bool])], ok := fun _ => true }
noncomputable def fns_law06_NodeClean : List (Nat × Func) := [(8, Try.f8), (60, Try.f60), (62, Try.f62), (63, Try.f63), (65, Try.f65)]
theorem fnsOk_law06_NodeClean : FnsAll Try.prog fns_law06_NodeClean := ⟨fn8, fn60, fn62, fn63, fn65, trivial⟩
noncomputable def X_law06_NodeClean : Ctx := { tys := tys, eqs := eqs, fns := fun f => look f fns_law06_NodeClean, ctr := [(63, c_node_Right), (60, c_node_Clean), (65, c_node_Wake), (62, c_law06_awake)], lim := 30 }
theorem xok_law06_NodeClean : XOK Try.prog T X_law06_NodeClean where
  tys := tysOk
  eqs := eqsOk
  mixed := mixed
  ctr := ctrsOK_of ⟨⟨rfl, ctr_node_Right⟩, ⟨rfl, ctr_node_Clean⟩, ⟨rfl, ctr_node_Wake⟩, ⟨rfl, ctr_law06_awake⟩, trivial⟩
  fns := fnsOK_of fnsOk_law06_NodeClean
def g_law06_NodeClean : G := { next := 139, defs := [⟨138, .iteB, [.var 61, .var 61, .var 60]⟩, ⟨137, .iteB, [.var 61, .var 135, .t false]⟩, ⟨136, .not, [.var 61]⟩, ⟨135, .iteB, [.var 121, .var 133, .t false]⟩, ⟨134, .imp, [.var 131, .var 132]⟩, ⟨132, (.call 63), [.var 8, .var 126, .var 127, .var 128, .var 129]⟩, ⟨131, .and, [.var 61, .var 121]⟩, ⟨130, .imp, [.var 124, .var 125]⟩, ⟨125, (.call 65), [.var 13, .var 14, .var 15, .var 16]⟩, ⟨124, .and, [.var 61, .var 121]⟩, ⟨123, .and, [.var 61, .var 121]⟩, ⟨122, .and, [.var 61, .var 121]⟩, ⟨121, .iteB, [.var 63, .var 120, .t false]⟩, ⟨120, .iteB, [.var 101, .t true, .var 118]⟩, ⟨119, .and, [.var 61, .var 63]⟩, ⟨118, .and, [.var 117, .var 116]⟩, ⟨117, (.cmp .eql), [.var 13, .var 2]⟩, ⟨116, .and, [.var 115, .var 114]⟩, ⟨115, (.cmp .eql), [.var 14, .var 3]⟩, ⟨114, .and, [.var 113, .var 112]⟩, ⟨113, (.cmp .eql), [.var 15, .var 4]⟩, ⟨112, (.cmp .eql), [.var 16, .var 5]⟩, ⟨111, .and, [.var 110, .var 63]⟩, ⟨110, .and, [.var 61, .var 109]⟩, ⟨109, .not, [.var 101]⟩, ⟨108, .and, [.var 107, .var 63]⟩, ⟨107, .and, [.var 61, .var 106]⟩, ⟨106, .not, [.var 101]⟩, ⟨105, .and, [.var 104, .var 63]⟩, ⟨104, .and, [.var 61, .var 103]⟩, ⟨103, .not, [.var 101]⟩, ⟨102, .and, [.var 61, .var 63]⟩, ⟨101, .iteB, [.var 85, .t true, .var 99]⟩, ⟨100, .and, [.var 61, .var 63]⟩, ⟨99, (.cmp .neq), [.var 2, .var 11]⟩, ⟨98, .and, [.var 97, .var 63]⟩, ⟨97, .and, [.var 61, .var 96]⟩, ⟨96, .not, [.var 85]⟩, ⟨95, .and, [.var 94, .var 63]⟩, ⟨94, .and, [.var 61, .var 93]⟩, ⟨93, .not, [.var 85]⟩, ⟨92, .and, [.var 91, .var 63]⟩, ⟨91, .and, [.var 61, .var 90]⟩, ⟨90, .not, [.var 85]⟩, ⟨89, .and, [.var 88, .var 63]⟩, ⟨88, .and, [.var 61, .var 87]⟩, ⟨87, .not, [.var 85]⟩, ⟨86, .and, [.var 61, .var 63]⟩, ⟨85, .iteB, [.var 72, .t true, .var 83]⟩, ⟨84, .and, [.var 61, .var 63]⟩, ⟨83, (.cmp .eql), [.var 3, .n 0]⟩, ⟨82, .and, [.var 81, .var 63]⟩, ⟨81, .and, [.var 61, .var 80]⟩, ⟨80, .not, [.var 72]⟩, ⟨79, .and, [.var 78, .var 63]⟩, ⟨78, .and, [.var 61, .var 77]⟩, ⟨77, .not, [.var 72]⟩, ⟨76, .and, [.var 75, .var 63]⟩, ⟨75, .and, [.var 61, .var 74]⟩, ⟨74, .not, [.var 72]⟩, ⟨73, .and, [.var 61, .var 63]⟩, ⟨72, .not, [.var 69]⟩, ⟨71, .and, [.var 61, .var 63]⟩, ⟨70, .imp, [.var 67, .var 68]⟩, ⟨68, (.call 63), [.var 8, .var 2, .var 3, .var 4, .var 5]⟩, ⟨67, .and, [.var 61, .var 63]⟩, ⟨66, .and, [.var 61, .var 63]⟩, ⟨65, .and, [.var 61, .var 63]⟩, ⟨64, .imp, [.var 61, .var 62]⟩, ⟨62, (.call 62), []⟩, ⟨61, .not, [.var 60]⟩, ⟨60, .iteB, [.var 54, .t true, .var 59]⟩, ⟨59, (.cmp .neq), [.var 13, .var 11]⟩, ⟨58, .not, [.var 54]⟩, ⟨57, .not, [.var 54]⟩, ⟨56, .not, [.var 54]⟩, ⟨55, .not, [.var 54]⟩, ⟨54, .iteB, [.var 49, .t true, .var 53]⟩, ⟨53, (.cmp .eql), [.var 14, .n 0]⟩, ⟨52, .not, [.var 49]⟩, ⟨51, .not, [.var 49]⟩, ⟨50, .not, [.var 49]⟩, ⟨49, .iteB, [.var 40, .t true, .var 48]⟩, ⟨48, .not, [.var 45]⟩, ⟨47, .not, [.var 40]⟩, ⟨46, .imp, [.var 43, .var 44]⟩, ⟨44, (.call 63), [.var 8, .var 13, .var 14, .var 15, .var 16]⟩, ⟨43, .not, [.var 40]⟩, ⟨42, .not, [.var 40]⟩, ⟨41, .not, [.var 40]⟩, ⟨40, .iteB, [.var 28, .t true, .var 39]⟩, ⟨39, .not, [.var 38]⟩, ⟨38, .and, [.var 37, .var 36]⟩, ⟨37, (.cmp .eql), [.var 13, .var 19]⟩, ⟨36, .and, [.var 35, .var 34]⟩, ⟨35, (.cmp .eql), [.var 14, .var 20]⟩, ⟨34, .and, [.var 33, .var 32]⟩, ⟨33, (.cmp .eql), [.var 15, .var 21]⟩, ⟨32, (.cmp .eql), [.var 16, .var 22]⟩, ⟨31, .not, [.var 28]⟩, ⟨30, .not, [.var 28]⟩, ⟨29, .not, [.var 28]⟩, ⟨28, .iteB, [.var 24, .t true, .var 27]⟩, ⟨27, (.cmp .neq), [.var 23, .n 0]⟩, ⟨26, .not, [.var 24]⟩, ⟨25, .not, [.var 24]⟩, ⟨24, (.cmp .neq), [.var 17, .n 0]⟩, ⟨18, (.call 60), [.var 8, .var 11, .var 13, .var 14, .var 15, .var 16]⟩, ⟨12, (.call 60), [.var 8, .var 11, .var 2, .var 3, .var 4, .var 5]⟩, ⟨11, (.dv .rem .i64), [.var 9, .var 8]⟩, ⟨10, (.cmp .neq), [.var 8, .n 0]⟩, ⟨9, (.conv .i64), [.var 1]⟩, ⟨8, (.ar .add .i64), [.n 3, .var 7]⟩, ⟨7, (.conv .i64), [.var 6]⟩, ⟨6, (.dv .rem .u8), [.var 0, .n 6]⟩], obs := [.var 134, .var 130, .var 70, .var 64, .var 46, .var 18, .var 12, .var 10], known := [] }
theorem run_law06_NodeClean : run X_law06_NodeClean 2000 8 ([.one (.k (.int .u8 (.var 0))), .one (.k (.int .u8 (.var 1))), .agg [.k (.int .i64 (.var 2)), .k (.int .i64 (.var 3)), .k (.int .i64 (.var 4)), .k (.int .i64 (.var 5))]]) ([]) 6 [] = some (.pv (.one (.k (.bool (.var 137)))), [{ own := true, ty := 42, es := 4, cells := [.k (.int .i64 (.var 2)), .k (.int .i64 (.var 3)), .k (.int .i64 (.var 4)), .k (.int .i64 (.var 5))] }, { own := true, ty := 42, es := 4, cells := [.k (.int .i64 (.var 13)), .k (.int .i64 (.var 14)), .k (.int .i64 (.var 15)), .k (.int .i64 (.var 16))] }, { own := true, ty := 42, es := 4, cells := [.k (.int .i64 (.var 19)), .k (.int .i64 (.var 20)), .k (.int .i64 (.var 21)), .k (.int .i64 (.var 22))] }], g_law06_NodeClean) := by kernel_rfl
theorem pure_law06_NodeClean (x0 : Int) (x1 : Int) (x2 : Int) (x3 : Int) (x4 : Int) (x5 : Int) (v6 : Int) (v7 : Int) (v8 : Int) (v9 : Int) (v10 : Bool) (v11 : Int) (v12 : Bool) (v13 : Int) (v14 : Int) (v15 : Int) (v16 : Int) (v17 : Int) (v18 : Bool) (v19 : Int) (v20 : Int) (v21 : Int) (v22 : Int) (v23 : Int) (v24 : Bool) (v25 : Bool) (v26 : Bool) (v27 : Bool) (v28 : Bool) (v29 : Bool) (v30 : Bool) (v31 : Bool) (v32 : Bool) (v33 : Bool) (v34 : Bool) (v35 : Bool) (v36 : Bool) (v37 : Bool) (v38 : Bool) (v39 : Bool) (v40 : Bool) (v41 : Bool) (v42 : Bool) (v43 : Bool) (v44 : Bool) (v45 : Bool) (v46 : Bool) (v47 : Bool) (v48 : Bool) (v49 : Bool) (v50 : Bool) (v51 : Bool) (v52 : Bool) (v53 : Bool) (v54 : Bool) (v55 : Bool) (v56 : Bool) (v57 : Bool) (v58 : Bool) (v59 : Bool) (v60 : Bool) (v61 : Bool) (v62 : Bool) (v63 : Bool) (v64 : Bool) (v65 : Bool) (v66 : Bool) (v67 : Bool) (v68 : Bool) (v69 : Bool) (v70 : Bool) (v71 : Bool) (v72 : Bool) (v73 : Bool) (v74 : Bool) (v75 : Bool) (v76 : Bool) (v77 : Bool) (v78 : Bool) (v79 : Bool) (v80 : Bool) (v81 : Bool) (v82 : Bool) (v83 : Bool) (v84 : Bool) (v85 : Bool) (v86 : Bool) (v87 : Bool) (v88 : Bool) (v89 : Bool) (v90 : Bool) (v91 : Bool) (v92 : Bool) (v93 : Bool) (v94 : Bool) (v95 : Bool) (v96 : Bool) (v97 : Bool) (v98 : Bool) (v99 : Bool) (v100 : Bool) (v101 : Bool) (v102 : Bool) (v103 : Bool) (v104 : Bool) (v105 : Bool) (v106 : Bool) (v107 : Bool) (v108 : Bool) (v109 : Bool) (v110 : Bool) (v111 : Bool) (v112 : Bool) (v113 : Bool) (v114 : Bool) (v115 : Bool) (v116 : Bool) (v117 : Bool) (v118 : Bool) (v119 : Bool) (v120 : Bool) (v121 : Bool) (v122 : Bool) (v123 : Bool) (v124 : Bool) (v125 : Bool) (v126 : Int) (v127 : Int) (v128 : Int) (v129 : Int) (v130 : Bool) (v131 : Bool) (v132 : Bool) (v133 : Bool) (v134 : Bool) (v135 : Bool) (v136 : Bool) (v137 : Bool) (v138 : Bool)
    (q6 : v6 = (Int.tmod x0 (6 : Int)))
    (q7 : v7 = (IntKind.wrap .i64 v6))
    (q8 : v8 = (IntKind.wrap .i64 ((3 : Int) + v7)))
    (q9 : v9 = (IntKind.wrap .i64 x1))
    (q10 : v10 = ((v8 != (0 : Int))))
    (q11 : v11 = (Int.tmod v9 v8))
    (q12 : v12 = (Day.ND.i64 (Day.ND.mk x2 x3 x4 x5)))
    (q13 : v13 = (((Day.cleanN v8 v11 (Day.ND.mk x2 x3 x4 x5))).id))
    (q14 : v14 = (((Day.cleanN v8 v11 (Day.ND.mk x2 x3 x4 x5))).mode))
    (q15 : v15 = (((Day.cleanN v8 v11 (Day.ND.mk x2 x3 x4 x5))).count))
    (q16 : v16 = (((Day.cleanN v8 v11 (Day.ND.mk x2 x3 x4 x5))).pos))
    (q17 : v17 = (Day.idE v8 v11))
    (q18 : v18 = (Day.ND.i64 (Day.ND.mk v13 v14 v15 v16)))
    (q19 : v19 = (((Day.cleanN v8 v11 (Day.ND.mk v13 v14 v15 v16))).id))
    (q20 : v20 = (((Day.cleanN v8 v11 (Day.ND.mk v13 v14 v15 v16))).mode))
    (q21 : v21 = (((Day.cleanN v8 v11 (Day.ND.mk v13 v14 v15 v16))).count))
    (q22 : v22 = (((Day.cleanN v8 v11 (Day.ND.mk v13 v14 v15 v16))).pos))
    (q23 : v23 = (Day.idE v8 v11))
    (q24 : v24 = ((v17 != (0 : Int))))
    (q25 : v25 = ((!v24)))
    (q26 : v26 = ((!v24)))
    (q27 : v27 = ((v23 != (0 : Int))))
    (q28 : v28 = ((if v24 then true else v27)))
    (q29 : v29 = ((!v28)))
    (q30 : v30 = ((!v28)))
    (q31 : v31 = ((!v28)))
    (q32 : v32 = ((v16 == v22)))
    (q33 : v33 = ((v15 == v21)))
    (q34 : v34 = ((v33 && v32)))
    (q35 : v35 = ((v14 == v20)))
    (q36 : v36 = ((v35 && v34)))
    (q37 : v37 = ((v13 == v19)))
    (q38 : v38 = ((v37 && v36)))
    (q39 : v39 = ((!v38)))
    (q40 : v40 = ((if v28 then true else v39)))
    (q41 : v41 = ((!v40)))
    (q42 : v42 = ((!v40)))
    (q43 : v43 = ((!v40)))
    (q44 : v44 = (Day.ND.i64 (Day.ND.mk v13 v14 v15 v16)))
    (q45 : v45 = (Day.rightN v8 (Day.ND.mk v13 v14 v15 v16)))
    (q46 : v46 = ((!v43 || v44)))
    (q47 : v47 = ((!v40)))
    (q48 : v48 = ((!v45)))
    (q49 : v49 = ((if v40 then true else v48)))
    (q50 : v50 = ((!v49)))
    (q51 : v51 = ((!v49)))
    (q52 : v52 = ((!v49)))
    (q53 : v53 = ((v14 == (0 : Int))))
    (q54 : v54 = ((if v49 then true else v53)))
    (q55 : v55 = ((!v54)))
    (q56 : v56 = ((!v54)))
    (q57 : v57 = ((!v54)))
    (q58 : v58 = ((!v54)))
    (q59 : v59 = ((v13 != v11)))
    (q60 : v60 = ((if v54 then true else v59)))
    (q61 : v61 = ((!v60)))
    (q62 : v62 = (true))
    (q63 : v63 = (true))
    (q64 : v64 = ((!v61 || v62)))
    (q65 : v65 = ((v61 && v63)))
    (q66 : v66 = ((v61 && v63)))
    (q67 : v67 = ((v61 && v63)))
    (q68 : v68 = (Day.ND.i64 (Day.ND.mk x2 x3 x4 x5)))
    (q69 : v69 = (Day.rightN v8 (Day.ND.mk x2 x3 x4 x5)))
    (q70 : v70 = ((!v67 || v68)))
    (q71 : v71 = ((v61 && v63)))
    (q72 : v72 = ((!v69)))
    (q73 : v73 = ((v61 && v63)))
    (q74 : v74 = ((!v72)))
    (q75 : v75 = ((v61 && v74)))
    (q76 : v76 = ((v75 && v63)))
    (q77 : v77 = ((!v72)))
    (q78 : v78 = ((v61 && v77)))
    (q79 : v79 = ((v78 && v63)))
    (q80 : v80 = ((!v72)))
    (q81 : v81 = ((v61 && v80)))
    (q82 : v82 = ((v81 && v63)))
    (q83 : v83 = ((x3 == (0 : Int))))
    (q84 : v84 = ((v61 && v63)))
    (q85 : v85 = ((if v72 then true else v83)))
    (q86 : v86 = ((v61 && v63)))
    (q87 : v87 = ((!v85)))
    (q88 : v88 = ((v61 && v87)))
    (q89 : v89 = ((v88 && v63)))
    (q90 : v90 = ((!v85)))
    (q91 : v91 = ((v61 && v90)))
    (q92 : v92 = ((v91 && v63)))
    (q93 : v93 = ((!v85)))
    (q94 : v94 = ((v61 && v93)))
    (q95 : v95 = ((v94 && v63)))
    (q96 : v96 = ((!v85)))
    (q97 : v97 = ((v61 && v96)))
    (q98 : v98 = ((v97 && v63)))
    (q99 : v99 = ((x2 != v11)))
    (q100 : v100 = ((v61 && v63)))
    (q101 : v101 = ((if v85 then true else v99)))
    (q102 : v102 = ((v61 && v63)))
    (q103 : v103 = ((!v101)))
    (q104 : v104 = ((v61 && v103)))
    (q105 : v105 = ((v104 && v63)))
    (q106 : v106 = ((!v101)))
    (q107 : v107 = ((v61 && v106)))
    (q108 : v108 = ((v107 && v63)))
    (q109 : v109 = ((!v101)))
    (q110 : v110 = ((v61 && v109)))
    (q111 : v111 = ((v110 && v63)))
    (q112 : v112 = ((v16 == x5)))
    (q113 : v113 = ((v15 == x4)))
    (q114 : v114 = ((v113 && v112)))
    (q115 : v115 = ((v14 == x3)))
    (q116 : v116 = ((v115 && v114)))
    (q117 : v117 = ((v13 == x2)))
    (q118 : v118 = ((v117 && v116)))
    (q119 : v119 = ((v61 && v63)))
    (q120 : v120 = ((if v101 then true else v118)))
    (q121 : v121 = ((if v63 then v120 else false)))
    (q122 : v122 = ((v61 && v121)))
    (q123 : v123 = ((v61 && v121)))
    (q124 : v124 = ((v61 && v121)))
    (q125 : v125 = (true))
    (q126 : v126 = (((Day.wakeN (Day.ND.mk v13 v14 v15 v16))).id))
    (q127 : v127 = (((Day.wakeN (Day.ND.mk v13 v14 v15 v16))).mode))
    (q128 : v128 = (((Day.wakeN (Day.ND.mk v13 v14 v15 v16))).count))
    (q129 : v129 = (((Day.wakeN (Day.ND.mk v13 v14 v15 v16))).pos))
    (q130 : v130 = ((!v124 || v125)))
    (q131 : v131 = ((v61 && v121)))
    (q132 : v132 = (Day.ND.i64 (Day.ND.mk v126 v127 v128 v129)))
    (q133 : v133 = (Day.rightN v8 (Day.ND.mk v126 v127 v128 v129)))
    (q134 : v134 = ((!v131 || v132)))
    (q135 : v135 = ((if v121 then v133 else false)))
    (q136 : v136 = ((!v61)))
    (q137 : v137 = ((if v61 then v135 else false)))
    (q138 : v138 = ((if v61 then v61 else v60)))
    (hp : (Day.u8 x0 && Day.u8 x1 && Day.ND.i64 (Day.ND.mk x2 x3 x4 x5)) = true)  :
    (v134 = true ∧ v130 = true ∧ v70 = true ∧ v64 = true ∧ v46 = true ∧ v18 = true ∧ v12 = true ∧ v10 = true) ∧ (true = v137) := by
  have hm : 3 ≤ v8 ∧ v8 ≤ 8 := by grind [Day.clampR, Day.upR, Day.downR, Day.sm, Day.i64, Day.u8, Day.u16, Day.u32, Day.right, Day.times, Day.ownE, Day.ownR, Day.idE, Day.freshN, Day.noND, Day.cleanN, Day.wakeN, Day.rightN, Day.ND.i64, Day.waitR, Day.dueR, Day.ofR, Day.ofE, Day.noFr, wrap64, Day.modP, Day.modR, Day.slotP, Day.nextR, Day.atP, Day.atR, Day.aheadP, Day.aheadR]
  have hk : 0 ≤ v11 ∧ v11 < v8 := by
    have : 0 ≤ v9 := by grind [Day.clampR, Day.upR, Day.downR, Day.sm, Day.i64, Day.u8, Day.u16, Day.u32, Day.right, Day.times, Day.ownE, Day.ownR, Day.idE, Day.freshN, Day.noND, Day.cleanN, Day.wakeN, Day.rightN, Day.ND.i64, Day.waitR, Day.dueR, Day.ofR, Day.ofE, Day.noFr, wrap64, Day.modP, Day.modR, Day.slotP, Day.nextR, Day.atP, Day.atR, Day.aheadP, Day.aheadR]
    rw [q11]
    exact ⟨Int.tmod_nonneg _ this, Int.tmod_lt_of_pos _ (by omega)⟩
  have H := Day.clean_law ⟨x2, x3, x4, x5⟩ hm hk
  clear q6 q7 q8 q9 q11
  generalize hc : Day.cleanN v8 v11 ⟨x2, x3, x4, x5⟩ = c at *
  obtain ⟨c1, c2, c3, c4⟩ := c
  simp only at q13 q14 q15 q16
  subst q13 q14 q15 q16
  obtain ⟨h1, h2, h3, h4, h5, h6, h7, h8⟩ := H
  simp only [h5] at q19 q20 q21 q22
  simp only [h1, h2, h8] at *
  grind (splits := 40) [Day.u8, Day.wakeN, Day.ND.i64, Day.i64]
theorem bridge_law06_NodeClean {e : Nat → A} {al more : List A} (hlen : al.length = 6) (he : ∀ j a, (al ++ more)[j]? = some a → e j = a) (hd : ∀ d ∈ g_law06_NodeClean.defs, d.holds T e) (hp : (t_8 al).1 = true) :
    (∀ x ∈ g_law06_NodeClean.known, x.holds T e) ∧ (∀ o ∈ g_law06_NodeClean.obs, (o.ev e).bool = true) ∧ semMany (c_law06_NodeClean.rs.flatMap (·.2)) (t_8 al).2 = semMany (c_law06_NodeClean.rs.flatMap (·.2)) ([.var 137].map (L.ev e)) := by
  have y0 : gi al 0 = (e 0).int := gi_e he (by omega)
  have y1 : gi al 1 = (e 1).int := gi_e he (by omega)
  have y2 : gi al 2 = (e 2).int := gi_e he (by omega)
  have y3 : gi al 3 = (e 3).int := gi_e he (by omega)
  have y4 : gi al 4 = (e 4).int := gi_e he (by omega)
  have y5 : gi al 5 = (e 5).int := gi_e he (by omega)
  obtain ⟨d138, d137, d136, d135, d134, d132, d131, d130, d125, d124, d123, d122, d121, d120, d119, d118, d117, d116, d115, d114, d113, d112, d111, d110, d109, d108, d107, d106, d105, d104, d103, d102, d101, d100, d99, d98, d97, d96, d95, d94, d93, d92, d91, d90, d89, d88, d87, d86, d85, d84, d83, d82, d81, d80, d79, d78, d77, d76, d75, d74, d73, d72, d71, d70, d68, d67, d66, d65, d64, d62, d61, d60, d59, d58, d57, d56, d55, d54, d53, d52, d51, d50, d49, d48, d47, d46, d44, d43, d42, d41, d40, d39, d38, d37, d36, d35, d34, d33, d32, d31, d30, d29, d28, d27, d26, d25, d24, d18, d12, d11, d10, d9, d8, d7, d6, -⟩ : AllHold T e g_law06_NodeClean.defs := allHold_of hd
  have hpE : (t_8 al).1 = (Day.u8 (e 0).int && Day.u8 (e 1).int && Day.ND.i64 (Day.ND.mk (e 2).int (e 3).int (e 4).int (e 5).int)) := by simp only [t_8, y0, y1, y2, y3, y4, y5]
  have hp := hpE.symm.trans hp
  have hoE : (t_8 al).2 = [.b (true)] := by simp only [t_8, y0, y1, y2, y3, y4, y5]
  obtain ⟨ho, hr⟩ := pure_law06_NodeClean (e 0).int (e 1).int (e 2).int (e 3).int (e 4).int (e 5).int (e 6).int (e 7).int (e 8).int (e 9).int (e 10).bool (e 11).int (e 12).bool (e 13).int (e 14).int (e 15).int (e 16).int (e 17).int (e 18).bool (e 19).int (e 20).int (e 21).int (e 22).int (e 23).int (e 24).bool (e 25).bool (e 26).bool (e 27).bool (e 28).bool (e 29).bool (e 30).bool (e 31).bool (e 32).bool (e 33).bool (e 34).bool (e 35).bool (e 36).bool (e 37).bool (e 38).bool (e 39).bool (e 40).bool (e 41).bool (e 42).bool (e 43).bool (e 44).bool (e 45).bool (e 46).bool (e 47).bool (e 48).bool (e 49).bool (e 50).bool (e 51).bool (e 52).bool (e 53).bool (e 54).bool (e 55).bool (e 56).bool (e 57).bool (e 58).bool (e 59).bool (e 60).bool (e 61).bool (e 62).bool (e 63).bool (e 64).bool (e 65).bool (e 66).bool (e 67).bool (e 68).bool (e 69).bool (e 70).bool (e 71).bool (e 72).bool (e 73).bool (e 74).bool (e 75).bool (e 76).bool (e 77).bool (e 78).bool (e 79).bool (e 80).bool (e 81).bool (e 82).bool (e 83).bool (e 84).bool (e 85).bool (e 86).bool (e 87).bool (e 88).bool (e 89).bool (e 90).bool (e 91).bool (e 92).bool (e 93).bool (e 94).bool (e 95).bool (e 96).bool (e 97).bool (e 98).bool (e 99).bool (e 100).bool (e 101).bool (e 102).bool (e 103).bool (e 104).bool (e 105).bool (e 106).bool (e 107).bool (e 108).bool (e 109).bool (e 110).bool (e 111).bool (e 112).bool (e 113).bool (e 114).bool (e 115).bool (e 116).bool (e 117).bool (e 118).bool (e 119).bool (e 120).bool (e 121).bool (e 122).bool (e 123).bool (e 124).bool (e 125).bool (e 126).int (e 127).int (e 128).int (e 129).int (e 130).bool (e 131).bool (e 132).bool (e 133).bool (e 134).bool (e 135).bool (e 136).bool (e 137).bool (e 138).bool
    (q_dv d6)
    (q_conv d7)
    (q_ar d8)
    (q_conv d9)
    (q_cmp d10)
    (q_dv d11)
    (q_pre T_60 d12)
    (q_outI T_60 0 d12 rfl)
    (q_outI T_60 1 d12 rfl)
    (q_outI T_60 2 d12 rfl)
    (q_outI T_60 3 d12 rfl)
    (q_outI T_60 4 d12 rfl)
    (q_pre T_60 d18)
    (q_outI T_60 0 d18 rfl)
    (q_outI T_60 1 d18 rfl)
    (q_outI T_60 2 d18 rfl)
    (q_outI T_60 3 d18 rfl)
    (q_outI T_60 4 d18 rfl)
    (q_cmp d24)
    (q_not d25)
    (q_not d26)
    (q_cmp d27)
    (q_iteB d28)
    (q_not d29)
    (q_not d30)
    (q_not d31)
    (q_cmp d32)
    (q_cmp d33)
    (q_and d34)
    (q_cmp d35)
    (q_and d36)
    (q_cmp d37)
    (q_and d38)
    (q_not d39)
    (q_iteB d40)
    (q_not d41)
    (q_not d42)
    (q_not d43)
    (q_pre T_63 d44)
    (q_outB T_63 0 d44 rfl)
    (q_imp d46)
    (q_not d47)
    (q_not d48)
    (q_iteB d49)
    (q_not d50)
    (q_not d51)
    (q_not d52)
    (q_cmp d53)
    (q_iteB d54)
    (q_not d55)
    (q_not d56)
    (q_not d57)
    (q_not d58)
    (q_cmp d59)
    (q_iteB d60)
    (q_not d61)
    (q_pre T_62 d62)
    (q_outB T_62 0 d62 rfl)
    (q_imp d64)
    (q_and d65)
    (q_and d66)
    (q_and d67)
    (q_pre T_63 d68)
    (q_outB T_63 0 d68 rfl)
    (q_imp d70)
    (q_and d71)
    (q_not d72)
    (q_and d73)
    (q_not d74)
    (q_and d75)
    (q_and d76)
    (q_not d77)
    (q_and d78)
    (q_and d79)
    (q_not d80)
    (q_and d81)
    (q_and d82)
    (q_cmp d83)
    (q_and d84)
    (q_iteB d85)
    (q_and d86)
    (q_not d87)
    (q_and d88)
    (q_and d89)
    (q_not d90)
    (q_and d91)
    (q_and d92)
    (q_not d93)
    (q_and d94)
    (q_and d95)
    (q_not d96)
    (q_and d97)
    (q_and d98)
    (q_cmp d99)
    (q_and d100)
    (q_iteB d101)
    (q_and d102)
    (q_not d103)
    (q_and d104)
    (q_and d105)
    (q_not d106)
    (q_and d107)
    (q_and d108)
    (q_not d109)
    (q_and d110)
    (q_and d111)
    (q_cmp d112)
    (q_cmp d113)
    (q_and d114)
    (q_cmp d115)
    (q_and d116)
    (q_cmp d117)
    (q_and d118)
    (q_and d119)
    (q_iteB d120)
    (q_iteB d121)
    (q_and d122)
    (q_and d123)
    (q_and d124)
    (q_pre T_65 d125)
    (q_outI T_65 0 d125 rfl)
    (q_outI T_65 1 d125 rfl)
    (q_outI T_65 2 d125 rfl)
    (q_outI T_65 3 d125 rfl)
    (q_imp d130)
    (q_and d131)
    (q_pre T_63 d132)
    (q_outB T_63 0 d132 rfl)
    (q_imp d134)
    (q_iteB d135)
    (q_not d136)
    (q_iteB d137)
    (q_iteB d138)
    hp
  obtain ⟨o0, o1, o2, o3, o4, o5, o6, o7⟩ := ho
  have r0 := hr
  refine ⟨(fun x hx => by cases hx), obs_of (e := e) (l := g_law06_NodeClean.obs) ⟨o0, o1, o2, o3, o4, o5, o6, o7, trivial⟩, ?_⟩
  rw [hoE]
  show semMany [.bool] [.b (true)] = semMany [.bool] [L.ev e (.var 137)]
  exact (semB r0 rfl)
theorem ctr_law06_NodeClean : CtrOK Try.prog T c_law06_NodeClean := by
  intro lits al vs w hok hag hargs hpre
  have hpre : (t_8 al).1 = true := by rw [← T_8]; exact hpre
  obtain ⟨hl, hlen⟩ := args_flat hargs rfl
  have hlen : al.length = 6 := hlen
  exact calls_of_run xok_law06_NodeClean widths (lits := []) (ns := []) (more := []) rfl run_law06_NodeClean (by kernel_rfl) (by kernel_rfl) rfl hargs hl (lit_none) (by rw [show c_law06_NodeClean.f = 8 from rfl, T_8]; rfl)
    fun e he hd => by rw [show c_law06_NodeClean.f = 8 from rfl, T_8]; exact bridge_law06_NodeClean hlen he hd hpre
end Rx.S
namespace Go.Proofs.Ytjipnabidebgbaa.nodeClean
open Go.ChangeShapes Go.WideShapes Go.ChangeAt Go.RowKit Rx
set_option linter.unusedVariables false
theorem own : ownKnob Try.prog.godebug = none := by kernel_rfl
set_option maxRecDepth 100000 in
theorem lifted (os : Os) (started : os.Started) (H : Type) (enc : TypeId × Value → H) :
    ReturnsInHanded {} Try.checked os 8 .any (Rows.nodeCleanSpec.pre6 enc Try.prog Try.f8 Rows.nodeCleanRow.domain false) (Rows.nodeCleanSpec.post enc Try.prog Try.f8 false true false false) := by
  refine returnsInHanded_of_change_sized (C := Try.checked) own started (by kernel_rfl) Try.func8
    (ChangeSpec.witness6 (enc := enc) (C := Try.checked) false ⟨#[], #[.int .u8 0, .int .u8 0, .agg #[.int .i64 0, .int .i64 0, .int .i64 0, .int .i64 0]], []⟩ 8 (by kernel_rfl) (by kernel_rfl) (by kernel_rfl) (by kernel_rfl)) ?_
  intro W base args ds gs before hval0 hW hcnd hsz0 _
  have hval : ∀ (j : Nat) t v, Try.f8.params[j]? = some t → args[j]? = some v → Value.okWide Try.prog W .any base t v := hval0
  have hW' := hW
  obtain ⟨p, q, hA0, hV, rfl, hfz, hnd⟩ := hW
  have hA : DataW.TrodAll enc Try.prog W 0 (fun _ => true) true Try.f8.params.toList args.toList ds p := hA0
  rw [Try.params8] at hA hval
  obtain ⟨v0, vs0, d0, ds0, p0, q0, hargs, rfl, rfl, h0, r0⟩ := trodAll_cons hA
  obtain ⟨v1, vs1, d1, ds1, p1, q1, rfl, rfl, rfl, h1, r1⟩ := trodAll_cons r0
  obtain ⟨v2, vs2, d2, ds2, p2, q2, rfl, rfl, rfl, h2, r2⟩ := trodAll_cons r1
  obtain ⟨rfl, rfl, rfl⟩ := trodAll_nil r2
  obtain rfl : args = #[v0, v1, v2] := by cases args; simp_all
  obtain ⟨rfl, rfl⟩ := trodVars_none hV
  obtain ⟨l0, e0, o0⟩ := open_arg S.tysOk (n := 10) (t := 5) rfl rfl (hval 0 5 v0 rfl rfl) h0
  obtain ⟨x0, _, rfl, k0, rfl⟩ := e0
  obtain ⟨l1, e1, o1⟩ := open_arg S.tysOk (n := 10) (t := 5) rfl rfl (hval 1 5 v1 rfl rfl) h1
  obtain ⟨x1, _, rfl, k1, rfl⟩ := e1
  obtain ⟨l2, e2, o2⟩ := open_arg S.tysOk (n := 10) (t := 42) rfl rfl (hval 2 42 v2 rfl rfl) h2
  obtain ⟨x2, _, rfl, k2, x3, _, rfl, k3, x4, _, rfl, k4, x5, _, rfl, k5, rfl⟩ := e2
  have hargs : ArgsRel W S.c_law06_NodeClean.ps [v0, v1, v2] [x0, x1, x2, x3, x4, x5] := ⟨v0, _, [x0], _, rfl, rfl, o0, ⟨v1, _, [x1], _, rfl, rfl, o1, ⟨v2, _, [x2, x3, x4, x5], _, rfl, rfl, o2, ⟨rfl, rfl⟩⟩⟩⟩
  have f0 := leaf_u8 k0
  have f1 := leaf_u8 k1
  have f2 := leaf_i64 k2
  have f3 := leaf_i64 k3
  have f4 := leaf_i64 k4
  have f5 := leaf_i64 k5
  have hp : (S.t_8 [x0, x1, x2, x3, x4, x5]).1 = true := by
    simp [S.t_8, gi, gb, gs, gv, Day.ND.i64, f0, f1, f2, f3, f4, f5]
  refine (law_calls S.ctr_law06_NodeClean (fun _ => rfl) rfl hargs (by rw [show S.c_law06_NodeClean.f = 8 from rfl, S.T_8]; exact hp) (by rw [show S.c_law06_NodeClean.f = 8 from rfl, S.T_8]; rfl)).mono fun e W2 ⟨he, bel⟩ => ?_
  subst he
  have b0 := Below.trod Seat.laidOut (by kernel_rfl) (of_decide_eq_true (by kernel_rfl)) h0 bel (fun x hx => by simpa using hW'.lt x (by simp [hx]))
  have b1 := Below.trod Seat.laidOut (by kernel_rfl) (of_decide_eq_true (by kernel_rfl)) h1 bel (fun x hx => by simpa using hW'.lt x (by simp [hx]))
  have b2 := Below.trod Seat.laidOut (by kernel_rfl) (of_decide_eq_true (by kernel_rfl)) h2 bel (fun x hx => by simpa using hW'.lt x (by simp [hx]))
  exact ⟨_, rfl, _, _, _, [], _, [], hW', trodAll_mk1 (shut_bool Try.underlying4 _), (trodAll_cons_mk b0 (trodAll_cons_mk b1 (trodAll_cons_mk b2 trodAll_mk0))), rfl, bel.frame _, fun h => by cases h⟩
theorem facts : joinedFacts Try.prog 8 Try.f8 Rows.nodeCleanSpec Rows.nodeCleanRow = true :=
  Seat.facts Seat.enter Seat.lifts Seat.made Seat.laidOut Seat.rowed Seat.heard 8 Try.f8 Rows.nodeCleanSpec Rows.nodeCleanRow ((rfl : Rows.nodeCleanRow.plainKeys = true).trans Seat.keys) (by kernel_rfl) (by kernel_rfl) (by kernel_rfl) (by kernel_rfl) (by kernel_rfl) (by kernel_rfl) (by kernel_rfl) (by kernel_rfl)
theorem named : Try.prog.funcNamed Rows.nodeCleanRow.func = some 8 := by kernel_rfl
theorem inst : Try.f8.isInstance Try.prog Rows.nodeCleanRow.origin Rows.nodeCleanRow.targs := of_decide_eq_true (by kernel_rfl)
theorem wrapped : Try.f8.isWrapper Try.prog Rows.nodeCleanRow.wrapper Rows.nodeCleanRow.mainSum := by unfold Func.isWrapper; rw [if_neg (by decide +kernel)]; exact ⟨rfl, rfl⟩
theorem over : Rows.nodeCleanRow.holds Try.pinned (OpenSpec.ofChange Rows.nodeCleanSpec) :=
  OpenClaim.holds_of_wide 8 Try.f8 rfl rfl rfl rfl rfl rfl rfl ⟨rfl, rfl, rfl, rfl, rfl⟩ rfl rfl rfl rfl rfl named Try.func8 facts inst wrapped
    (fun os started H enc _ => lifted os started H enc)
theorem proved : Rows.NodeCleanSaid := over
end Go.Proofs.Ytjipnabidebgbaa.nodeClean
namespace Go.Proofs.Ytjipnabidebgbaa
/-- The row, under a short name, for the claim. -/
theorem nodeClean_holds : Rows.NodeCleanSaid := nodeClean.proved
end Go.Proofs.Ytjipnabidebgbaa
