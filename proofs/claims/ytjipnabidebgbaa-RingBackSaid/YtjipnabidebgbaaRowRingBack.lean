/- For all numbers of slots, slots and rounds: there and back is a whole round or none, and whole rounds change no slot. -/
import Derived.Test.YtjipnabidebgbaaXb
import Derived.Test.YtjipnabidebgbaaXc
import Derived.Test.YtjipnabidebgbaaXring
import Derived.Test.YtjipnabidebgbaaXlaw05
import Derived.Test.YtjipnabidebgbaaRows
import Derived.Test.YtjipnabidebgbaaSeat
import Derived.WalkKit
import Derived.ProofKit
import Derived.OpenShut
import Derived.ShutString
import Derived.ChangeOld
import Derived.Below
import Derived.SizedLaws
set_option linter.unusedVariables false
set_option linter.unusedSimpArgs false
namespace Rx.S
open Go Rx Go.Proofs
set_option maxRecDepth 100000
set_option linter.unusedVariables false
def c_law05_RingBack : Ctr := { f := 4, ps := [.c true [.int .u8, .int .u8, .int .u8, .int .u16]], rs := [(false, [.bool])], ok := fun _ => true }
noncomputable def fns_law05_RingBack : List (Nat × Func) := [(4, Try.f4), (32, Try.f32), (37, Try.f37), (39, Try.f39)]
theorem fnsOk_law05_RingBack : FnsAll Try.prog fns_law05_RingBack := ⟨fn4, fn32, fn37, fn39, trivial⟩
noncomputable def X_law05_RingBack : Ctx := { tys := tys, eqs := eqs, fns := fun f => look f fns_law05_RingBack, ctr := [(37, c_ring_At), (39, c_ring_Ahead), (32, c_law05_awake)], lim := 30 }
theorem xok_law05_RingBack : XOK Try.prog T X_law05_RingBack where
  tys := tysOk
  eqs := eqsOk
  mixed := mixed
  ctr := ctrsOK_of ⟨⟨rfl, ctr_ring_At⟩, ⟨rfl, ctr_ring_Ahead⟩, ⟨rfl, ctr_law05_awake⟩, trivial⟩
  fns := fnsOK_of fnsOk_law05_RingBack
def g_law05_RingBack : G := { next := 61, defs := [⟨60, .iteB, [.var 47, .var 59, .t false]⟩, ⟨59, (.cmp .eql), [.var 53, .var 57]⟩, ⟨58, .imp, [.var 47, .var 56]⟩, ⟨56, (.call 37), [.var 6, .var 9, .var 55]⟩, ⟨55, (.conv .i64), [.var 2]⟩, ⟨54, .imp, [.var 47, .var 52]⟩, ⟨52, (.call 37), [.var 6, .var 9, .var 51]⟩, ⟨51, (.ar .add .i64), [.var 48, .var 50]⟩, ⟨50, (.ar .mul .i64), [.var 6, .var 49]⟩, ⟨49, (.conv .i64), [.var 3]⟩, ⟨48, (.conv .i64), [.var 2]⟩, ⟨47, .iteB, [.var 19, .var 46, .t false]⟩, ⟨46, .iteB, [.var 25, .t true, .var 45]⟩, ⟨45, .iteB, [.var 30, .var 42, .t false]⟩, ⟨44, .and, [.var 43, .var 19]⟩, ⟨43, .not, [.var 25]⟩, ⟨42, (.cmp .eql), [.var 9, .var 12]⟩, ⟨41, .and, [.var 40, .var 19]⟩, ⟨40, .and, [.var 30, .var 39]⟩, ⟨39, .not, [.var 25]⟩, ⟨38, .and, [.var 37, .var 19]⟩, ⟨37, .and, [.var 30, .var 36]⟩, ⟨36, .not, [.var 25]⟩, ⟨35, .and, [.var 34, .var 19]⟩, ⟨34, .and, [.var 30, .var 33]⟩, ⟨33, .not, [.var 25]⟩, ⟨32, .and, [.var 31, .var 19]⟩, ⟨31, .not, [.var 25]⟩, ⟨30, (.cmp .eql), [.var 17, .n 0]⟩, ⟨29, .and, [.var 28, .var 19]⟩, ⟨28, .not, [.var 25]⟩, ⟨27, .and, [.var 26, .var 19]⟩, ⟨26, .not, [.var 25]⟩, ⟨25, .iteB, [.var 20, .var 24, .t false]⟩, ⟨24, (.cmp .neq), [.var 9, .var 12]⟩, ⟨23, .and, [.var 20, .var 19]⟩, ⟨22, .and, [.var 20, .var 19]⟩, ⟨21, .and, [.var 20, .var 19]⟩, ⟨20, (.cmp .eql), [.var 17, .var 6]⟩, ⟨18, (.call 32), []⟩, ⟨17, (.ar .add .i64), [.var 14, .var 16]⟩, ⟨15, (.call 39), [.var 6, .var 12, .var 9]⟩, ⟨13, (.call 39), [.var 6, .var 9, .var 12]⟩, ⟨12, (.dv .rem .i64), [.var 10, .var 6]⟩, ⟨11, (.cmp .neq), [.var 6, .n 0]⟩, ⟨10, (.conv .i64), [.var 2]⟩, ⟨9, (.dv .rem .i64), [.var 7, .var 6]⟩, ⟨8, (.cmp .neq), [.var 6, .n 0]⟩, ⟨7, (.conv .i64), [.var 1]⟩, ⟨6, (.ar .add .i64), [.n 1, .var 5]⟩, ⟨5, (.conv .i64), [.var 4]⟩, ⟨4, (.dv .rem .u8), [.var 0, .n 8]⟩], obs := [.var 58, .var 54, .var 18, .var 15, .var 13, .var 11, .var 8], known := [] }
theorem run_law05_RingBack : run X_law05_RingBack 2000 4 ([.agg [.k (.int .u8 (.var 0)), .k (.int .u8 (.var 1)), .k (.int .u8 (.var 2)), .k (.int .u16 (.var 3))]]) ([]) 4 [] = some (.pv (.one (.k (.bool (.var 60)))), [{ own := true, ty := 32, es := 4, cells := [.k (.int .u8 (.var 0)), .k (.int .u8 (.var 1)), .k (.int .u8 (.var 2)), .k (.int .u16 (.var 3))] }], g_law05_RingBack) := by kernel_rfl
theorem pure_law05_RingBack (x0 : Int) (x1 : Int) (x2 : Int) (x3 : Int) (v4 : Int) (v5 : Int) (v6 : Int) (v7 : Int) (v8 : Bool) (v9 : Int) (v10 : Int) (v11 : Bool) (v12 : Int) (v13 : Bool) (v14 : Int) (v15 : Bool) (v16 : Int) (v17 : Int) (v18 : Bool) (v19 : Bool) (v20 : Bool) (v21 : Bool) (v22 : Bool) (v23 : Bool) (v24 : Bool) (v25 : Bool) (v26 : Bool) (v27 : Bool) (v28 : Bool) (v29 : Bool) (v30 : Bool) (v31 : Bool) (v32 : Bool) (v33 : Bool) (v34 : Bool) (v35 : Bool) (v36 : Bool) (v37 : Bool) (v38 : Bool) (v39 : Bool) (v40 : Bool) (v41 : Bool) (v42 : Bool) (v43 : Bool) (v44 : Bool) (v45 : Bool) (v46 : Bool) (v47 : Bool) (v48 : Int) (v49 : Int) (v50 : Int) (v51 : Int) (v52 : Bool) (v53 : Int) (v54 : Bool) (v55 : Int) (v56 : Bool) (v57 : Int) (v58 : Bool) (v59 : Bool) (v60 : Bool)
    (q4 : v4 = (Int.tmod x0 (8 : Int)))
    (q5 : v5 = (IntKind.wrap .i64 v4))
    (q6 : v6 = (IntKind.wrap .i64 ((1 : Int) + v5)))
    (q7 : v7 = (IntKind.wrap .i64 x1))
    (q8 : v8 = ((v6 != (0 : Int))))
    (q9 : v9 = (Int.tmod v7 v6))
    (q10 : v10 = (IntKind.wrap .i64 x2))
    (q11 : v11 = ((v6 != (0 : Int))))
    (q12 : v12 = (Int.tmod v10 v6))
    (q13 : v13 = (Day.aheadP v6 v9 v12))
    (q14 : v14 = (Day.aheadR v6 v9 v12))
    (q15 : v15 = (Day.aheadP v6 v12 v9))
    (q16 : v16 = (Day.aheadR v6 v12 v9))
    (q17 : v17 = (IntKind.wrap .i64 (v14 + v16)))
    (q18 : v18 = (true))
    (q19 : v19 = (true))
    (q20 : v20 = ((v17 == v6)))
    (q21 : v21 = ((v20 && v19)))
    (q22 : v22 = ((v20 && v19)))
    (q23 : v23 = ((v20 && v19)))
    (q24 : v24 = ((v9 != v12)))
    (q25 : v25 = ((if v20 then v24 else false)))
    (q26 : v26 = ((!v25)))
    (q27 : v27 = ((v26 && v19)))
    (q28 : v28 = ((!v25)))
    (q29 : v29 = ((v28 && v19)))
    (q30 : v30 = ((v17 == (0 : Int))))
    (q31 : v31 = ((!v25)))
    (q32 : v32 = ((v31 && v19)))
    (q33 : v33 = ((!v25)))
    (q34 : v34 = ((v30 && v33)))
    (q35 : v35 = ((v34 && v19)))
    (q36 : v36 = ((!v25)))
    (q37 : v37 = ((v30 && v36)))
    (q38 : v38 = ((v37 && v19)))
    (q39 : v39 = ((!v25)))
    (q40 : v40 = ((v30 && v39)))
    (q41 : v41 = ((v40 && v19)))
    (q42 : v42 = ((v9 == v12)))
    (q43 : v43 = ((!v25)))
    (q44 : v44 = ((v43 && v19)))
    (q45 : v45 = ((if v30 then v42 else false)))
    (q46 : v46 = ((if v25 then true else v45)))
    (q47 : v47 = ((if v19 then v46 else false)))
    (q48 : v48 = (IntKind.wrap .i64 x2))
    (q49 : v49 = (IntKind.wrap .i64 x3))
    (q50 : v50 = (IntKind.wrap .i64 (v6 * v49)))
    (q51 : v51 = (IntKind.wrap .i64 (v48 + v50)))
    (q52 : v52 = (Day.atP v6 v9 v51))
    (q53 : v53 = (Day.atR v6 v9 v51))
    (q54 : v54 = ((!v47 || v52)))
    (q55 : v55 = (IntKind.wrap .i64 x2))
    (q56 : v56 = (Day.atP v6 v9 v55))
    (q57 : v57 = (Day.atR v6 v9 v55))
    (q58 : v58 = ((!v47 || v56)))
    (q59 : v59 = ((v53 == v57)))
    (q60 : v60 = ((if v47 then v59 else false)))
    (hp : (Day.u8 x0 && Day.u8 x1 && Day.u8 x2 && Day.u16 x3) = true)  :
    (v58 = true ∧ v54 = true ∧ v18 = true ∧ v15 = true ∧ v13 = true ∧ v11 = true ∧ v8 = true) ∧ (true = v60) := by
  have hn : 1 ≤ v6 ∧ v6 ≤ 8 := by grind [Day.clampR, Day.upR, Day.downR, Day.sm, Day.i64, Day.u8, Day.u16, Day.u32, Day.right, Day.times, Day.ownE, Day.ownR, Day.idE, Day.freshN, Day.noND, Day.cleanN, Day.wakeN, Day.rightN, Day.ND.i64, Day.waitR, Day.dueR, Day.ofR, Day.ofE, Day.noFr, wrap64, Day.modP, Day.modR, Day.slotP, Day.nextR, Day.atP, Day.atR, Day.aheadP, Day.aheadR]
  have hn2 : v6 = 1 ∨ v6 = 2 ∨ v6 = 3 ∨ v6 = 4 ∨ v6 = 5 ∨ v6 = 6 ∨ v6 = 7 ∨ v6 = 8 := by omega
  clear hn
  rcases hn2 with rfl | rfl | rfl | rfl | rfl | rfl | rfl | rfl <;> grind [Day.clampR, Day.upR, Day.downR, Day.sm, Day.i64, Day.u8, Day.u16, Day.u32, Day.right, Day.times, Day.ownE, Day.ownR, Day.idE, Day.freshN, Day.noND, Day.cleanN, Day.wakeN, Day.rightN, Day.ND.i64, Day.waitR, Day.dueR, Day.ofR, Day.ofE, Day.noFr, wrap64, Day.modP, Day.modR, Day.slotP, Day.nextR, Day.atP, Day.atR, Day.aheadP, Day.aheadR]
theorem bridge_law05_RingBack {e : Nat → A} {al more : List A} (hlen : al.length = 4) (he : ∀ j a, (al ++ more)[j]? = some a → e j = a) (hd : ∀ d ∈ g_law05_RingBack.defs, d.holds T e) (hp : (t_4 al).1 = true) :
    (∀ x ∈ g_law05_RingBack.known, x.holds T e) ∧ (∀ o ∈ g_law05_RingBack.obs, (o.ev e).bool = true) ∧ semMany (c_law05_RingBack.rs.flatMap (·.2)) (t_4 al).2 = semMany (c_law05_RingBack.rs.flatMap (·.2)) ([.var 60].map (L.ev e)) := by
  have y0 : gi al 0 = (e 0).int := gi_e he (by omega)
  have y1 : gi al 1 = (e 1).int := gi_e he (by omega)
  have y2 : gi al 2 = (e 2).int := gi_e he (by omega)
  have y3 : gi al 3 = (e 3).int := gi_e he (by omega)
  obtain ⟨d60, d59, d58, d56, d55, d54, d52, d51, d50, d49, d48, d47, d46, d45, d44, d43, d42, d41, d40, d39, d38, d37, d36, d35, d34, d33, d32, d31, d30, d29, d28, d27, d26, d25, d24, d23, d22, d21, d20, d18, d17, d15, d13, d12, d11, d10, d9, d8, d7, d6, d5, d4, -⟩ : AllHold T e g_law05_RingBack.defs := allHold_of hd
  have hpE : (t_4 al).1 = (Day.u8 (e 0).int && Day.u8 (e 1).int && Day.u8 (e 2).int && Day.u16 (e 3).int) := by simp only [t_4, y0, y1, y2, y3]
  have hp := hpE.symm.trans hp
  have hoE : (t_4 al).2 = [.b (true)] := by simp only [t_4, y0, y1, y2, y3]
  obtain ⟨ho, hr⟩ := pure_law05_RingBack (e 0).int (e 1).int (e 2).int (e 3).int (e 4).int (e 5).int (e 6).int (e 7).int (e 8).bool (e 9).int (e 10).int (e 11).bool (e 12).int (e 13).bool (e 14).int (e 15).bool (e 16).int (e 17).int (e 18).bool (e 19).bool (e 20).bool (e 21).bool (e 22).bool (e 23).bool (e 24).bool (e 25).bool (e 26).bool (e 27).bool (e 28).bool (e 29).bool (e 30).bool (e 31).bool (e 32).bool (e 33).bool (e 34).bool (e 35).bool (e 36).bool (e 37).bool (e 38).bool (e 39).bool (e 40).bool (e 41).bool (e 42).bool (e 43).bool (e 44).bool (e 45).bool (e 46).bool (e 47).bool (e 48).int (e 49).int (e 50).int (e 51).int (e 52).bool (e 53).int (e 54).bool (e 55).int (e 56).bool (e 57).int (e 58).bool (e 59).bool (e 60).bool
    (q_dv d4)
    (q_conv d5)
    (q_ar d6)
    (q_conv d7)
    (q_cmp d8)
    (q_dv d9)
    (q_conv d10)
    (q_cmp d11)
    (q_dv d12)
    (q_pre T_39 d13)
    (q_outI T_39 0 d13 rfl)
    (q_pre T_39 d15)
    (q_outI T_39 0 d15 rfl)
    (q_ar d17)
    (q_pre T_32 d18)
    (q_outB T_32 0 d18 rfl)
    (q_cmp d20)
    (q_and d21)
    (q_and d22)
    (q_and d23)
    (q_cmp d24)
    (q_iteB d25)
    (q_not d26)
    (q_and d27)
    (q_not d28)
    (q_and d29)
    (q_cmp d30)
    (q_not d31)
    (q_and d32)
    (q_not d33)
    (q_and d34)
    (q_and d35)
    (q_not d36)
    (q_and d37)
    (q_and d38)
    (q_not d39)
    (q_and d40)
    (q_and d41)
    (q_cmp d42)
    (q_not d43)
    (q_and d44)
    (q_iteB d45)
    (q_iteB d46)
    (q_iteB d47)
    (q_conv d48)
    (q_conv d49)
    (q_ar d50)
    (q_ar d51)
    (q_pre T_37 d52)
    (q_outI T_37 0 d52 rfl)
    (q_imp d54)
    (q_conv d55)
    (q_pre T_37 d56)
    (q_outI T_37 0 d56 rfl)
    (q_imp d58)
    (q_cmp d59)
    (q_iteB d60)
    hp
  obtain ⟨o0, o1, o2, o3, o4, o5, o6⟩ := ho
  have r0 := hr
  refine ⟨(fun x hx => by cases hx), obs_of (e := e) (l := g_law05_RingBack.obs) ⟨o0, o1, o2, o3, o4, o5, o6, trivial⟩, ?_⟩
  rw [hoE]
  show semMany [.bool] [.b (true)] = semMany [.bool] [L.ev e (.var 60)]
  exact (semB r0 rfl)
theorem ctr_law05_RingBack : CtrOK Try.prog T c_law05_RingBack := by
  intro lits al vs w hok hag hargs hpre
  have hpre : (t_4 al).1 = true := by rw [← T_4]; exact hpre
  obtain ⟨hl, hlen⟩ := args_flat hargs rfl
  have hlen : al.length = 4 := hlen
  exact calls_of_run xok_law05_RingBack widths (lits := []) (ns := []) (more := []) rfl run_law05_RingBack (by kernel_rfl) (by kernel_rfl) rfl hargs hl (lit_none) (by rw [show c_law05_RingBack.f = 4 from rfl, T_4]; rfl)
    fun e he hd => by rw [show c_law05_RingBack.f = 4 from rfl, T_4]; exact bridge_law05_RingBack hlen he hd hpre
end Rx.S
namespace Go.Proofs.Ytjipnabidebgbaa.ringBack
open Go.ChangeShapes Go.WideShapes Go.ChangeAt Go.RowKit Rx
set_option linter.unusedVariables false
theorem own : ownKnob Try.prog.godebug = none := by kernel_rfl
set_option maxRecDepth 100000 in
theorem lifted (os : Os) (started : os.Started) (H : Type) (enc : TypeId × Value → H) :
    ReturnsInHanded {} Try.checked os 4 .any (Rows.ringBackSpec.pre6 enc Try.prog Try.f4 Rows.ringBackRow.domain false) (Rows.ringBackSpec.post enc Try.prog Try.f4 false true false false) := by
  refine returnsInHanded_of_change_sized (C := Try.checked) own started (by kernel_rfl) Try.func4
    (ChangeSpec.witness6 (enc := enc) (C := Try.checked) false ⟨#[], #[.agg #[.int .u8 0, .int .u8 0, .int .u8 0, .int .u16 0]], []⟩ 8 (by kernel_rfl) (by kernel_rfl) (by kernel_rfl) (by kernel_rfl)) ?_
  intro W base args ds gs before hval0 hW hcnd hsz0 _
  have hval : ∀ (j : Nat) t v, Try.f4.params[j]? = some t → args[j]? = some v → Value.okWide Try.prog W .any base t v := hval0
  have hW' := hW
  obtain ⟨p, q, hA0, hV, rfl, hfz, hnd⟩ := hW
  have hA : DataW.TrodAll enc Try.prog W 0 (fun _ => true) true Try.f4.params.toList args.toList ds p := hA0
  rw [Try.params4] at hA hval
  obtain ⟨v0, vs0, d0, ds0, p0, q0, hargs, rfl, rfl, h0, r0⟩ := trodAll_cons hA
  obtain ⟨rfl, rfl, rfl⟩ := trodAll_nil r0
  obtain rfl : args = #[v0] := by cases args; simp_all
  obtain ⟨rfl, rfl⟩ := trodVars_none hV
  obtain ⟨l0, e0, o0⟩ := open_arg S.tysOk (n := 10) (t := 32) rfl rfl (hval 0 32 v0 rfl rfl) h0
  obtain ⟨x0, _, rfl, k0, x1, _, rfl, k1, x2, _, rfl, k2, x3, _, rfl, k3, rfl⟩ := e0
  have hargs : ArgsRel W S.c_law05_RingBack.ps [v0] [x0, x1, x2, x3] := ⟨v0, _, [x0, x1, x2, x3], _, rfl, rfl, o0, ⟨rfl, rfl⟩⟩
  have f0 := leaf_u8 k0
  have f1 := leaf_u8 k1
  have f2 := leaf_u8 k2
  have f3 := leaf_u16 k3
  have hp : (S.t_4 [x0, x1, x2, x3]).1 = true := by
    simp [S.t_4, gi, gb, gs, gv, Day.ND.i64, f0, f1, f2, f3]
  refine (law_calls S.ctr_law05_RingBack (fun _ => rfl) rfl hargs (by rw [show S.c_law05_RingBack.f = 4 from rfl, S.T_4]; exact hp) (by rw [show S.c_law05_RingBack.f = 4 from rfl, S.T_4]; rfl)).mono fun e W2 ⟨he, bel⟩ => ?_
  subst he
  have b0 := Below.trod Seat.laidOut (by kernel_rfl) (of_decide_eq_true (by kernel_rfl)) h0 bel (fun x hx => by simpa using hW'.lt x (by simp [hx]))
  exact ⟨_, rfl, _, _, _, [], _, [], hW', trodAll_mk1 (shut_bool Try.underlying4 _), (trodAll_cons_mk b0 trodAll_mk0), rfl, bel.frame _, fun h => by cases h⟩
theorem facts : joinedFacts Try.prog 4 Try.f4 Rows.ringBackSpec Rows.ringBackRow = true :=
  Seat.facts Seat.enter Seat.lifts Seat.made Seat.laidOut Seat.rowed Seat.heard 4 Try.f4 Rows.ringBackSpec Rows.ringBackRow ((rfl : Rows.ringBackRow.plainKeys = true).trans Seat.keys) (by kernel_rfl) (by kernel_rfl) (by kernel_rfl) (by kernel_rfl) (by kernel_rfl) (by kernel_rfl) (by kernel_rfl) (by kernel_rfl)
theorem named : Try.prog.funcNamed Rows.ringBackRow.func = some 4 := by kernel_rfl
theorem inst : Try.f4.isInstance Try.prog Rows.ringBackRow.origin Rows.ringBackRow.targs := of_decide_eq_true (by kernel_rfl)
theorem wrapped : Try.f4.isWrapper Try.prog Rows.ringBackRow.wrapper Rows.ringBackRow.mainSum := by unfold Func.isWrapper; rw [if_neg (by decide +kernel)]; exact ⟨rfl, rfl⟩
theorem over : Rows.ringBackRow.holds Try.pinned (OpenSpec.ofChange Rows.ringBackSpec) :=
  OpenClaim.holds_of_wide 4 Try.f4 rfl rfl rfl rfl rfl rfl rfl ⟨rfl, rfl, rfl, rfl, rfl⟩ rfl rfl rfl rfl rfl named Try.func4 facts inst wrapped
    (fun os started H enc _ => lifted os started H enc)
theorem proved : Rows.RingBackSaid := over
end Go.Proofs.Ytjipnabidebgbaa.ringBack
namespace Go.Proofs.Ytjipnabidebgbaa
/-- The row, under a short name, for the claim. -/
theorem ringBack_holds : Rows.RingBackSaid := ringBack.proved
end Go.Proofs.Ytjipnabidebgbaa
