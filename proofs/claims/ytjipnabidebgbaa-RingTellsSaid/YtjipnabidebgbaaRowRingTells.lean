/- For all numbers of slots and all numbers of 64 bits the four answers on the ring are those of the document. -/
import Derived.Test.YtjipnabidebgbaaXb
import Derived.Test.YtjipnabidebgbaaXc
import Derived.Test.YtjipnabidebgbaaXring
import Derived.Test.YtjipnabidebgbaaXlaw05
import Derived.Test.YtjipnabidebgbaaRows
import Derived.Test.YtjipnabidebgbaaSeat
import Derived.WalkKit
import Derived.ProofKit
import Derived.OpenShut
import Derived.ShutString
import Derived.ChangeOld
import Derived.Below
import Derived.SizedLaws
set_option linter.unusedVariables false
set_option linter.unusedSimpArgs false
namespace Rx.S
open Go Rx Go.Proofs
set_option maxRecDepth 100000
set_option linter.unusedVariables false
def c_law05_RingTells : Ctr := { f := 3, ps := [.c true [.int .u8, .int .i64, .int .u8, .int .u8, .int .u32]], rs := [(false, [.bool])], ok := fun _ => true }
noncomputable def fns_law05_RingTells : List (Nat × Func) := [(3, Try.f3), (32, Try.f32), (33, Try.f33), (34, Try.f34), (35, Try.f35), (36, Try.f36), (37, Try.f37), (38, Try.f38), (39, Try.f39), (40, Try.f40)]
theorem fnsOk_law05_RingTells : FnsAll Try.prog fns_law05_RingTells := ⟨fn3, fn32, fn33, fn34, fn35, fn36, fn37, fn38, fn39, fn40, trivial⟩
noncomputable def X_law05_RingTells : Ctx := { tys := tys, eqs := eqs, fns := fun f => look f fns_law05_RingTells, ctr := [(33, c_ring_Mod), (35, c_ring_Next), (37, c_ring_At), (39, c_ring_Ahead), (34, c_ref05_Mod), (36, c_ref05_Next), (38, c_ref05_At), (40, c_ref05_Ahead), (32, c_law05_awake)], lim := 30 }
theorem xok_law05_RingTells : XOK Try.prog T X_law05_RingTells where
  tys := tysOk
  eqs := eqsOk
  mixed := mixed
  ctr := ctrsOK_of ⟨⟨rfl, ctr_ring_Mod⟩, ⟨rfl, ctr_ring_Next⟩, ⟨rfl, ctr_ring_At⟩, ⟨rfl, ctr_ring_Ahead⟩, ⟨rfl, ctr_ref05_Mod⟩, ⟨rfl, ctr_ref05_Next⟩, ⟨rfl, ctr_ref05_At⟩, ⟨rfl, ctr_ref05_Ahead⟩, ⟨rfl, ctr_law05_awake⟩, trivial⟩
  fns := fnsOK_of fnsOk_law05_RingTells
def g_law05_RingTells : G := { next := 50, defs := [⟨49, .iteB, [.var 41, .var 48, .t false]⟩, ⟨48, (.cmp .eql), [.var 43, .var 46]⟩, ⟨47, .imp, [.var 41, .var 45]⟩, ⟨45, (.call 40), [.var 7, .var 10, .var 13]⟩, ⟨44, .imp, [.var 41, .var 42]⟩, ⟨42, (.call 39), [.var 7, .var 10, .var 13]⟩, ⟨41, .iteB, [.var 31, .var 40, .t false]⟩, ⟨40, (.cmp .eql), [.var 34, .var 38]⟩, ⟨39, .imp, [.var 31, .var 37]⟩, ⟨37, (.call 38), [.var 7, .var 10, .var 36]⟩, ⟨36, (.conv .i64), [.var 4]⟩, ⟨35, .imp, [.var 31, .var 33]⟩, ⟨33, (.call 37), [.var 7, .var 10, .var 32]⟩, ⟨32, (.conv .i64), [.var 4]⟩, ⟨31, .iteB, [.var 23, .var 30, .t false]⟩, ⟨30, (.cmp .eql), [.var 25, .var 28]⟩, ⟨29, .imp, [.var 23, .var 27]⟩, ⟨27, (.call 36), [.var 7, .var 10]⟩, ⟨26, .imp, [.var 23, .var 24]⟩, ⟨24, (.call 35), [.var 7, .var 10]⟩, ⟨23, .iteB, [.var 15, .var 22, .t false]⟩, ⟨22, (.cmp .eql), [.var 17, .var 20]⟩, ⟨21, .imp, [.var 15, .var 19]⟩, ⟨19, (.call 34), [.var 7, .var 1]⟩, ⟨18, .imp, [.var 15, .var 16]⟩, ⟨16, (.call 33), [.var 7, .var 1]⟩, ⟨14, (.call 32), []⟩, ⟨13, (.dv .rem .i64), [.var 11, .var 7]⟩, ⟨12, (.cmp .neq), [.var 7, .n 0]⟩, ⟨11, (.conv .i64), [.var 3]⟩, ⟨10, (.dv .rem .i64), [.var 8, .var 7]⟩, ⟨9, (.cmp .neq), [.var 7, .n 0]⟩, ⟨8, (.conv .i64), [.var 2]⟩, ⟨7, (.ar .add .i64), [.n 1, .var 6]⟩, ⟨6, (.conv .i64), [.var 5]⟩, ⟨5, (.dv .rem .u8), [.var 0, .n 8]⟩], obs := [.var 47, .var 44, .var 39, .var 35, .var 29, .var 26, .var 21, .var 18, .var 14, .var 12, .var 9], known := [] }
theorem run_law05_RingTells : run X_law05_RingTells 2000 3 ([.agg [.k (.int .u8 (.var 0)), .k (.int .i64 (.var 1)), .k (.int .u8 (.var 2)), .k (.int .u8 (.var 3)), .k (.int .u32 (.var 4))]]) ([]) 5 [] = some (.pv (.one (.k (.bool (.var 49)))), [{ own := true, ty := 25, es := 5, cells := [.k (.int .u8 (.var 0)), .k (.int .i64 (.var 1)), .k (.int .u8 (.var 2)), .k (.int .u8 (.var 3)), .k (.int .u32 (.var 4))] }, { own := true, ty := 22, es := 2, cells := [.k (.int .u8 (.var 2)), .k (.int .u8 (.var 3))] }], g_law05_RingTells) := by kernel_rfl
theorem pure_law05_RingTells (x0 : Int) (x1 : Int) (x2 : Int) (x3 : Int) (x4 : Int) (v5 : Int) (v6 : Int) (v7 : Int) (v8 : Int) (v9 : Bool) (v10 : Int) (v11 : Int) (v12 : Bool) (v13 : Int) (v14 : Bool) (v15 : Bool) (v16 : Bool) (v17 : Int) (v18 : Bool) (v19 : Bool) (v20 : Int) (v21 : Bool) (v22 : Bool) (v23 : Bool) (v24 : Bool) (v25 : Int) (v26 : Bool) (v27 : Bool) (v28 : Int) (v29 : Bool) (v30 : Bool) (v31 : Bool) (v32 : Int) (v33 : Bool) (v34 : Int) (v35 : Bool) (v36 : Int) (v37 : Bool) (v38 : Int) (v39 : Bool) (v40 : Bool) (v41 : Bool) (v42 : Bool) (v43 : Int) (v44 : Bool) (v45 : Bool) (v46 : Int) (v47 : Bool) (v48 : Bool) (v49 : Bool)
    (q5 : v5 = (Int.tmod x0 (8 : Int)))
    (q6 : v6 = (IntKind.wrap .i64 v5))
    (q7 : v7 = (IntKind.wrap .i64 ((1 : Int) + v6)))
    (q8 : v8 = (IntKind.wrap .i64 x2))
    (q9 : v9 = ((v7 != (0 : Int))))
    (q10 : v10 = (Int.tmod v8 v7))
    (q11 : v11 = (IntKind.wrap .i64 x3))
    (q12 : v12 = ((v7 != (0 : Int))))
    (q13 : v13 = (Int.tmod v11 v7))
    (q14 : v14 = (true))
    (q15 : v15 = (true))
    (q16 : v16 = (Day.modP v7 && Day.i64 x1))
    (q17 : v17 = (Day.modR v7 x1))
    (q18 : v18 = ((!v15 || v16)))
    (q19 : v19 = (Day.modP v7 && Day.i64 x1))
    (q20 : v20 = (Day.modR v7 x1))
    (q21 : v21 = ((!v15 || v19)))
    (q22 : v22 = ((v17 == v20)))
    (q23 : v23 = ((if v15 then v22 else false)))
    (q24 : v24 = (Day.slotP v7 v10))
    (q25 : v25 = (Day.nextR v7 v10))
    (q26 : v26 = ((!v23 || v24)))
    (q27 : v27 = (Day.slotP v7 v10))
    (q28 : v28 = (Day.nextR v7 v10))
    (q29 : v29 = ((!v23 || v27)))
    (q30 : v30 = ((v25 == v28)))
    (q31 : v31 = ((if v23 then v30 else false)))
    (q32 : v32 = (IntKind.wrap .i64 x4))
    (q33 : v33 = (Day.atP v7 v10 v32))
    (q34 : v34 = (Day.atR v7 v10 v32))
    (q35 : v35 = ((!v31 || v33)))
    (q36 : v36 = (IntKind.wrap .i64 x4))
    (q37 : v37 = (Day.atP v7 v10 v36))
    (q38 : v38 = (Day.atR v7 v10 v36))
    (q39 : v39 = ((!v31 || v37)))
    (q40 : v40 = ((v34 == v38)))
    (q41 : v41 = ((if v31 then v40 else false)))
    (q42 : v42 = (Day.aheadP v7 v10 v13))
    (q43 : v43 = (Day.aheadR v7 v10 v13))
    (q44 : v44 = ((!v41 || v42)))
    (q45 : v45 = (Day.aheadP v7 v10 v13))
    (q46 : v46 = (Day.aheadR v7 v10 v13))
    (q47 : v47 = ((!v41 || v45)))
    (q48 : v48 = ((v43 == v46)))
    (q49 : v49 = ((if v41 then v48 else false)))
    (hp : (Day.u8 x0 && Day.i64 x1 && Day.u8 x2 && Day.u8 x3 && Day.u32 x4) = true)  :
    (v47 = true ∧ v44 = true ∧ v39 = true ∧ v35 = true ∧ v29 = true ∧ v26 = true ∧ v21 = true ∧ v18 = true ∧ v14 = true ∧ v12 = true ∧ v9 = true) ∧ (true = v49) := by
  have hn : 1 ≤ v7 ∧ v7 ≤ 8 := by grind [Day.clampR, Day.upR, Day.downR, Day.sm, Day.i64, Day.u8, Day.u16, Day.u32, Day.right, Day.times, Day.ownE, Day.ownR, Day.idE, Day.freshN, Day.noND, Day.cleanN, Day.wakeN, Day.rightN, Day.ND.i64, Day.waitR, Day.dueR, Day.ofR, Day.ofE, Day.noFr, wrap64, Day.modP, Day.modR, Day.slotP, Day.nextR, Day.atP, Day.atR, Day.aheadP, Day.aheadR]
  have hn2 : v7 = 1 ∨ v7 = 2 ∨ v7 = 3 ∨ v7 = 4 ∨ v7 = 5 ∨ v7 = 6 ∨ v7 = 7 ∨ v7 = 8 := by omega
  clear hn
  rcases hn2 with rfl | rfl | rfl | rfl | rfl | rfl | rfl | rfl <;> grind [Day.clampR, Day.upR, Day.downR, Day.sm, Day.i64, Day.u8, Day.u16, Day.u32, Day.right, Day.times, Day.ownE, Day.ownR, Day.idE, Day.freshN, Day.noND, Day.cleanN, Day.wakeN, Day.rightN, Day.ND.i64, Day.waitR, Day.dueR, Day.ofR, Day.ofE, Day.noFr, wrap64, Day.modP, Day.modR, Day.slotP, Day.nextR, Day.atP, Day.atR, Day.aheadP, Day.aheadR]
theorem bridge_law05_RingTells {e : Nat → A} {al more : List A} (hlen : al.length = 5) (he : ∀ j a, (al ++ more)[j]? = some a → e j = a) (hd : ∀ d ∈ g_law05_RingTells.defs, d.holds T e) (hp : (t_3 al).1 = true) :
    (∀ x ∈ g_law05_RingTells.known, x.holds T e) ∧ (∀ o ∈ g_law05_RingTells.obs, (o.ev e).bool = true) ∧ semMany (c_law05_RingTells.rs.flatMap (·.2)) (t_3 al).2 = semMany (c_law05_RingTells.rs.flatMap (·.2)) ([.var 49].map (L.ev e)) := by
  have y0 : gi al 0 = (e 0).int := gi_e he (by omega)
  have y1 : gi al 1 = (e 1).int := gi_e he (by omega)
  have y2 : gi al 2 = (e 2).int := gi_e he (by omega)
  have y3 : gi al 3 = (e 3).int := gi_e he (by omega)
  have y4 : gi al 4 = (e 4).int := gi_e he (by omega)
  obtain ⟨d49, d48, d47, d45, d44, d42, d41, d40, d39, d37, d36, d35, d33, d32, d31, d30, d29, d27, d26, d24, d23, d22, d21, d19, d18, d16, d14, d13, d12, d11, d10, d9, d8, d7, d6, d5, -⟩ : AllHold T e g_law05_RingTells.defs := allHold_of hd
  have hpE : (t_3 al).1 = (Day.u8 (e 0).int && Day.i64 (e 1).int && Day.u8 (e 2).int && Day.u8 (e 3).int && Day.u32 (e 4).int) := by simp only [t_3, y0, y1, y2, y3, y4]
  have hp := hpE.symm.trans hp
  have hoE : (t_3 al).2 = [.b (true)] := by simp only [t_3, y0, y1, y2, y3, y4]
  obtain ⟨ho, hr⟩ := pure_law05_RingTells (e 0).int (e 1).int (e 2).int (e 3).int (e 4).int (e 5).int (e 6).int (e 7).int (e 8).int (e 9).bool (e 10).int (e 11).int (e 12).bool (e 13).int (e 14).bool (e 15).bool (e 16).bool (e 17).int (e 18).bool (e 19).bool (e 20).int (e 21).bool (e 22).bool (e 23).bool (e 24).bool (e 25).int (e 26).bool (e 27).bool (e 28).int (e 29).bool (e 30).bool (e 31).bool (e 32).int (e 33).bool (e 34).int (e 35).bool (e 36).int (e 37).bool (e 38).int (e 39).bool (e 40).bool (e 41).bool (e 42).bool (e 43).int (e 44).bool (e 45).bool (e 46).int (e 47).bool (e 48).bool (e 49).bool
    (q_dv d5)
    (q_conv d6)
    (q_ar d7)
    (q_conv d8)
    (q_cmp d9)
    (q_dv d10)
    (q_conv d11)
    (q_cmp d12)
    (q_dv d13)
    (q_pre T_32 d14)
    (q_outB T_32 0 d14 rfl)
    (q_pre T_33 d16)
    (q_outI T_33 0 d16 rfl)
    (q_imp d18)
    (q_pre T_34 d19)
    (q_outI T_34 0 d19 rfl)
    (q_imp d21)
    (q_cmp d22)
    (q_iteB d23)
    (q_pre T_35 d24)
    (q_outI T_35 0 d24 rfl)
    (q_imp d26)
    (q_pre T_36 d27)
    (q_outI T_36 0 d27 rfl)
    (q_imp d29)
    (q_cmp d30)
    (q_iteB d31)
    (q_conv d32)
    (q_pre T_37 d33)
    (q_outI T_37 0 d33 rfl)
    (q_imp d35)
    (q_conv d36)
    (q_pre T_38 d37)
    (q_outI T_38 0 d37 rfl)
    (q_imp d39)
    (q_cmp d40)
    (q_iteB d41)
    (q_pre T_39 d42)
    (q_outI T_39 0 d42 rfl)
    (q_imp d44)
    (q_pre T_40 d45)
    (q_outI T_40 0 d45 rfl)
    (q_imp d47)
    (q_cmp d48)
    (q_iteB d49)
    hp
  obtain ⟨o0, o1, o2, o3, o4, o5, o6, o7, o8, o9, o10⟩ := ho
  have r0 := hr
  refine ⟨(fun x hx => by cases hx), obs_of (e := e) (l := g_law05_RingTells.obs) ⟨o0, o1, o2, o3, o4, o5, o6, o7, o8, o9, o10, trivial⟩, ?_⟩
  rw [hoE]
  show semMany [.bool] [.b (true)] = semMany [.bool] [L.ev e (.var 49)]
  exact (semB r0 rfl)
theorem ctr_law05_RingTells : CtrOK Try.prog T c_law05_RingTells := by
  intro lits al vs w hok hag hargs hpre
  have hpre : (t_3 al).1 = true := by rw [← T_3]; exact hpre
  obtain ⟨hl, hlen⟩ := args_flat hargs rfl
  have hlen : al.length = 5 := hlen
  exact calls_of_run xok_law05_RingTells widths (lits := []) (ns := []) (more := []) rfl run_law05_RingTells (by kernel_rfl) (by kernel_rfl) rfl hargs hl (lit_none) (by rw [show c_law05_RingTells.f = 3 from rfl, T_3]; rfl)
    fun e he hd => by rw [show c_law05_RingTells.f = 3 from rfl, T_3]; exact bridge_law05_RingTells hlen he hd hpre
end Rx.S
namespace Go.Proofs.Ytjipnabidebgbaa.ringTells
open Go.ChangeShapes Go.WideShapes Go.ChangeAt Go.RowKit Rx
set_option linter.unusedVariables false
theorem own : ownKnob Try.prog.godebug = none := by kernel_rfl
set_option maxRecDepth 100000 in
theorem lifted (os : Os) (started : os.Started) (H : Type) (enc : TypeId × Value → H) :
    ReturnsInHanded {} Try.checked os 3 .any (Rows.ringTellsSpec.pre6 enc Try.prog Try.f3 Rows.ringTellsRow.domain false) (Rows.ringTellsSpec.post enc Try.prog Try.f3 false true false false) := by
  refine returnsInHanded_of_change_sized (C := Try.checked) own started (by kernel_rfl) Try.func3
    (ChangeSpec.witness6 (enc := enc) (C := Try.checked) false ⟨#[], #[.agg #[.int .u8 0, .int .i64 0, .int .u8 0, .int .u8 0, .int .u32 0]], []⟩ 8 (by kernel_rfl) (by kernel_rfl) (by kernel_rfl) (by kernel_rfl)) ?_
  intro W base args ds gs before hval0 hW hcnd hsz0 _
  have hval : ∀ (j : Nat) t v, Try.f3.params[j]? = some t → args[j]? = some v → Value.okWide Try.prog W .any base t v := hval0
  have hW' := hW
  obtain ⟨p, q, hA0, hV, rfl, hfz, hnd⟩ := hW
  have hA : DataW.TrodAll enc Try.prog W 0 (fun _ => true) true Try.f3.params.toList args.toList ds p := hA0
  rw [Try.params3] at hA hval
  obtain ⟨v0, vs0, d0, ds0, p0, q0, hargs, rfl, rfl, h0, r0⟩ := trodAll_cons hA
  obtain ⟨rfl, rfl, rfl⟩ := trodAll_nil r0
  obtain rfl : args = #[v0] := by cases args; simp_all
  obtain ⟨rfl, rfl⟩ := trodVars_none hV
  obtain ⟨l0, e0, o0⟩ := open_arg S.tysOk (n := 10) (t := 25) rfl rfl (hval 0 25 v0 rfl rfl) h0
  obtain ⟨x0, _, rfl, k0, x1, _, rfl, k1, x2, _, rfl, k2, x3, _, rfl, k3, x4, _, rfl, k4, rfl⟩ := e0
  have hargs : ArgsRel W S.c_law05_RingTells.ps [v0] [x0, x1, x2, x3, x4] := ⟨v0, _, [x0, x1, x2, x3, x4], _, rfl, rfl, o0, ⟨rfl, rfl⟩⟩
  have f0 := leaf_u8 k0
  have f1 := leaf_i64 k1
  have f2 := leaf_u8 k2
  have f3 := leaf_u8 k3
  have f4 := leaf_u32 k4
  have hp : (S.t_3 [x0, x1, x2, x3, x4]).1 = true := by
    simp [S.t_3, gi, gb, gs, gv, Day.ND.i64, f0, f1, f2, f3, f4]
  refine (law_calls S.ctr_law05_RingTells (fun _ => rfl) rfl hargs (by rw [show S.c_law05_RingTells.f = 3 from rfl, S.T_3]; exact hp) (by rw [show S.c_law05_RingTells.f = 3 from rfl, S.T_3]; rfl)).mono fun e W2 ⟨he, bel⟩ => ?_
  subst he
  have b0 := Below.trod Seat.laidOut (by kernel_rfl) (of_decide_eq_true (by kernel_rfl)) h0 bel (fun x hx => by simpa using hW'.lt x (by simp [hx]))
  exact ⟨_, rfl, _, _, _, [], _, [], hW', trodAll_mk1 (shut_bool Try.underlying4 _), (trodAll_cons_mk b0 trodAll_mk0), rfl, bel.frame _, fun h => by cases h⟩
theorem facts : joinedFacts Try.prog 3 Try.f3 Rows.ringTellsSpec Rows.ringTellsRow = true :=
  Seat.facts Seat.enter Seat.lifts Seat.made Seat.laidOut Seat.rowed Seat.heard 3 Try.f3 Rows.ringTellsSpec Rows.ringTellsRow ((rfl : Rows.ringTellsRow.plainKeys = true).trans Seat.keys) (by kernel_rfl) (by kernel_rfl) (by kernel_rfl) (by kernel_rfl) (by kernel_rfl) (by kernel_rfl) (by kernel_rfl) (by kernel_rfl)
theorem named : Try.prog.funcNamed Rows.ringTellsRow.func = some 3 := by kernel_rfl
theorem inst : Try.f3.isInstance Try.prog Rows.ringTellsRow.origin Rows.ringTellsRow.targs := of_decide_eq_true (by kernel_rfl)
theorem wrapped : Try.f3.isWrapper Try.prog Rows.ringTellsRow.wrapper Rows.ringTellsRow.mainSum := by unfold Func.isWrapper; rw [if_neg (by decide +kernel)]; exact ⟨rfl, rfl⟩
theorem over : Rows.ringTellsRow.holds Try.pinned (OpenSpec.ofChange Rows.ringTellsSpec) :=
  OpenClaim.holds_of_wide 3 Try.f3 rfl rfl rfl rfl rfl rfl rfl ⟨rfl, rfl, rfl, rfl, rfl⟩ rfl rfl rfl rfl rfl named Try.func3 facts inst wrapped
    (fun os started H enc _ => lifted os started H enc)
theorem proved : Rows.RingTellsSaid := over
end Go.Proofs.Ytjipnabidebgbaa.ringTells
namespace Go.Proofs.Ytjipnabidebgbaa
/-- The row, under a short name, for the claim. -/
theorem ringTells_holds : Rows.RingTellsSaid := ringTells.proved
end Go.Proofs.Ytjipnabidebgbaa
