/- The lines of looks, and of more, one behind the other, are those of all. -/
import Derived.Test.YtmpinegdphkbjaaDoorVXc
import Derived.Test.YtmpinegdphkbjaaDoorVXe
import Derived.Test.YtmpinegdphkbjaaDoorVXf
import Derived.Test.YtmpinegdphkbjaaDoorVXg
import Derived.Test.YtmpinegdphkbjaaDoorVXtell
import Derived.Test.YtmpinegdphkbjaaDoorVXlaw25
import Derived.Test.YtmpinegdphkbjaaDoorVYTellJoins
import Derived.Test.YtmpinegdphkbjaaDoorCards
import Derived.Test.YtmpinegdphkbjaaDoorTie
import Derived.Deep.DeepHandedRow
import Derived.Lib.LaidTab
import Derived.LaidLaws
import Derived.Test.YtmpinegdphkbjaaDoorRows
import Derived.Test.YtmpinegdphkbjaaDoorSeat
import Derived.WalkKit
import Derived.ProofKit
import Derived.OpenShut
import Derived.ShutString
import Derived.ChangeOld
import Derived.Below
import Derived.SizedLaws
set_option linter.unusedVariables false
set_option linter.unusedSimpArgs false
namespace Rx.S
open Go Rx Go.Proofs
set_option maxRecDepth 100000
set_option maxHeartbeats 4000000
def A1 : MM := { f := 4, ps := [.lst [.int .i64, .int .i64, .int .i64, .int .i64, .int .i64, .sl [.int .i64, .int .i64, .int .i64, .int .i64]], .c false [.int .u8]], rs := [(false, [.bool])], ok := fun _ => true }
noncomputable def Dl : List (Nat × Func) := [(4, Tryd.f4), (6, Tryd.f6), (7, Tryd.f7), (8, Tryd.f8)]
theorem FF : F7 Tryd.prog Dl := ⟨Vp, Vg, Vh, Vi, trivial⟩
noncomputable def Is : Ctx := { Ax := Ax, eqs := eqs, fns := fun f => look f Dl, ctr := [(8, DA), (7, CW), (6, Ei)], lim := 30, big := [], lps := [] }
theorem GN : XL Tryd.prog T Is where
 Ax := Ed
 eqs := FA
 mixed := mixed
 ctr := A8 ⟨⟨rfl, K4⟩, ⟨rfl, JD⟩, ⟨rfl, LK⟩, trivial⟩
 fns := BJ FF
 big := A9 trivial
 lps := GL rfl
theorem GO : FX Tryd.prog T A1 := I1 GN Df (g := CE) (ls := [V 52]) (by kernel_rfl) (fun aq => by rw [show A1.f = 4 from rfl, UK]; rfl) fun aq e h1 h2 h3 => by
 subst h1
 rw [show A1.f = 4 from rfl, UK] at h2 ⊢
 obtain ⟨ho, hr⟩ := Gf e h3 h2
 have r0 := hr
 refine ⟨⟨ho.1, ho.2.1, ho.2.2.1, ho.2.2.2.1, ho.2.2.2.2.1, ho.2.2.2.2.2.1, ho.2.2.2.2.2.2.1, ho.2.2.2.2.2.2.2.1, ho.2.2.2.2.2.2.2.2.1, ho.2.2.2.2.2.2.2.2.2.1, ho.2.2.2.2.2.2.2.2.2.2.1, ho.2.2.2.2.2.2.2.2.2.2.2, trivial⟩, ?_⟩
 show Aj [.bool] (UF _).2 = Aj [.bool] [L.ev e (V 52)]
 exact (TX r0 rfl)
end Rx.S
namespace Go.Proofs.YtmpinegdphkbjaaDoor.tellJoins
open Go.ChangeShapes Go.WideShapes Go.ChangeAt Go.RowKit Rx
theorem own : ownKnob Tryd.prog.godebug = none := by kernel_rfl
def I9 : List Ak := [.int .i64, .int .i64, .int .i64, .int .i64, .int .i64, .sl [.int .i64, .int .i64, .int .i64, .int .i64]]
theorem UR {ss : List Ak} {ys : List A} (h : Qy (.sl ss) (.l ys)) (j : Nat) (hj : ss[j % ss.length]? = some (.int .i64)) : Day.i64 (ys.getD j (.i 0)).int = true := by
  cases h with
  | sl q1 q2 q3 =>
    by_cases hl : j < ys.length
    · have h5 := q3 j _ _ hj (List.getElem?_eq_getElem hl)
      simp only [List.getD, List.getElem?_eq_getElem hl, Option.getD_some]
      exact To h5
    · simp only [List.getD, List.getElem?_eq_none (Nat.le_of_not_lt hl), Option.getD_none]
      rfl
theorem OT {a : A} (h : Qy (.sl [.int .i64, .int .i64, .int .i64, .int .i64]) a ∨ a.AL = []) : ∀ (k : Nat) (i : Int), Day.Jo a k i = true
  | 0, _ => rfl
  | k + 1, i => by
    unfold Day.Jo
    rw [OT h k (i + 1), Bool.and_true]
    unfold Day.OE
    rcases h with h | h
    · cases h with
      | sl q1 q2 q3 =>
        exact UR (.sl q1 q2 q3) _ (by show [Ak.int IntKind.i64, .int .i64, .int .i64, .int .i64][(3 + 4 * i.toNat) % 4]? = _; rw [show (3 + 4 * i.toNat) % 4 = 3 by omega]; rfl)
    · rw [h]
      rfl
theorem SK {ys : List A} (h : Qy (.sl I9) (.l ys)) : ∀ (k : Nat) (i : Int), Day.Ue (.l ys) k i = true
  | 0, _ => rfl
  | k + 1, i => by
    have hx : Qy (.sl [.int .i64, .int .i64, .int .i64, .int .i64]) (ys.getD (5 + 6 * i.toNat) (.i 0)) ∨ (ys.getD (5 + 6 * i.toNat) (.i 0)).AL = [] := by
      cases h with
      | sl q1 q2 q3 =>
        by_cases hl : 5 + 6 * i.toNat < ys.length
        · have h5 := q3 (5 + 6 * i.toNat) _ _ (by show I9[(5 + 6 * i.toNat) % 6]? = _; rw [show (5 + 6 * i.toNat) % 6 = 5 by omega]; rfl) (List.getElem?_eq_getElem hl)
          simp only [List.getD, List.getElem?_eq_getElem hl, Option.getD_some]
          exact .inl h5
        · simp only [List.getD, List.getElem?_eq_none (Nat.le_of_not_lt hl), Option.getD_none]
          exact .inr rfl
    unfold Day.Ue
    rw [SK h k (i + 1), Bool.and_true]
    simp only [Day.Lk.EY, Day.Ey, A.AL, Bool.and_eq_true]
    refine ⟨UR h _ ?_, UR h _ ?_, UR h _ ?_, OT hx _ _⟩
    · show I9[(6 * i.toNat) % 6]? = _
      rw [show (6 * i.toNat) % 6 = 0 by omega]
      rfl
    · show I9[(2 + 6 * i.toNat) % 6]? = _
      rw [show (2 + 6 * i.toNat) % 6 = 2 by omega]
      rfl
    · show I9[(4 + 6 * i.toNat) % 6]? = _
      rw [show (4 + 6 * i.toNat) % 6 = 4 by omega]
      rfl
theorem Tp {ys : List A} {m : Nat} (h : Qy (.sl I9) (.l ys)) : Day.L1.EY ⟨.l ys, ((m : Nat) : Int)⟩ = true := by
  unfold Day.L1.EY
  rw [SK h]
  simp
theorem T8 {ys : List A} {m : Nat} (h : ys.length = m * 6) : Day.L1.Uf ⟨.l ys, ((m : Nat) : Int)⟩ = true := by
  show (decide (((ys.length : Nat) : Int) = 6 * ((m : Nat) : Int)) && true) = true
  rw [Bool.and_true]
  exact decide_eq_true (by omega)
def Vd : DataW Unit → Value
  | .lit (.int k z) => .int k z
  | _ => .bool false
def T9 : DataW Unit → Array Value
  | .agg l => (l.map Vd).toArray
  | _ => #[]
def PQ (g : Nat) : DataW Unit := match g with
  | 0 => Rows.laid_internal_strconv_uint64pow10
  | 1 => Rows.laid_math_bits_deBruijn32tab
  | _ => Rows.laid_math_bits_deBruijn64tab
theorem Tq : (Tryd.prog.globals[0]?).map (·.type) = some 54 := by kernel_rfl
theorem SL : Tryd.prog.underlying 54 = some (.array 20 45) := by kernel_rfl
theorem SM : Tryd.prog.underlying 45 = some (.int .u64) := by kernel_rfl
theorem SN : Tryd.prog.cellsOf 45 = 1 := by kernel_rfl
theorem SO : Tryd.prog.cellsOf 54 = 20 := by kernel_rfl
theorem Tr : (Rows.laid_internal_strconv_uint64pow10 : DataW Unit) = Lib.tabData .u64 Lib.pow10Tab := by kernel_rfl
theorem Ua {W : World} (h : laidMetH Tryd.prog Rows.tellJoinsRow.laid W) : K9 Tryd.prog W := by
  intro _
  have h : laidMet Tryd.prog Rows.tellJoinsRow.laid W := h
  obtain ⟨ps, ⟨_, _, _, _, _, _, _, _, _, _, ⟨_, _, _, _, _, _, _, _, _, _, ⟨g, t, cs, fuel, p, q, hg, ht, hvar, hd, _, _⟩, _⟩, _⟩, _⟩ := h
  have hg0 : Tryd.prog.globalNamed Dv = some 0 := by kernel_rfl
  obtain rfl : 0 = g := Option.some.inj (hg0.symm.trans hg)
  obtain rfl := Option.some.inj (Tq.symm.trans ht)
  rw [Tr] at hd
  have e := Lib.cells_of_tab SL SM SN SO hd
  show W.var? Tryd.prog Dv = some (Lib.pow10Tab.map fun z => Value.int .u64 z).toArray
  rw [← e]
  exact hvar
set_option maxRecDepth 100000 in
theorem SP (H : Type) (enc : TypeId × Value → H) (W : World) (base : Nat) (args : Array Value) (ds gs : List (DataW H)) (before : List MemPlace)
    (hval : ∀ (j : Nat) t v, Tryd.f4.params[j]? = some t → args[j]? = some v → Value.okWide Tryd.prog W .any base t v)
    (hW : DataW.Whole enc Tryd.prog Tryd.f4.params.toList Rows.tellJoinsSpec.vars false W args.toList ds gs before) (hL : laidMetH Tryd.prog Rows.tellJoinsRow.laid W) :
    Calls Tryd.prog 4 args W fun e W' => ∃ v, e = .returned v ∧ Rows.tellJoinsSpec.post enc Tryd.prog Tryd.f4 false true false false W args v W' := by
  have hW' := hW
  obtain ⟨p, q, hA0, hV, rfl, hfz, hnd⟩ := hW
  have hA : DataW.TrodAll enc Tryd.prog W 0 (fun _ => true) true Tryd.f4.params.toList args.toList ds p := hA0
  rw [Tryd.params4] at hA hval
  obtain ⟨v0, vs0, d0, ds0, p0, q0, hargs, rfl, rfl, h0, r0⟩ := trodAll_cons hA
  obtain ⟨v1, vs1, d1, ds1, p1, q1, rfl, rfl, rfl, h1, r1⟩ := trodAll_cons r0
  obtain ⟨rfl, rfl, rfl⟩ := trodAll_nil r1
  obtain rfl : args = #[v0, v1] := by cases args; simp_all
  obtain ⟨rfl, rfl⟩ := trodVars_none hV
  obtain ⟨as0, m0, k0, len0, le0, o0⟩ := SI S.Ed (n := 10) (t := 22) (ss := [.int .i64, .int .i64, .int .i64, .int .i64, .int .i64, .sl [.int .i64, .int .i64, .int .i64, .int .i64]]) rfl rfl (by rfl) (by decide) (hval 0 22 v0 rfl rfl) h0
  obtain ⟨l1, e1, o1⟩ := Ss S.Ed (n := 10) (t := 5) rfl rfl (hval 1 5 v1 rfl rfl) h1
  obtain ⟨x1, _, rfl, k1, rfl⟩ := e1
  have hargs : BR W.cell? S.A1.ps [v0, v1] [.l as0, .i m0, x1] := ⟨v0, _, [.l as0, .i m0], _, rfl, rfl, o0, ⟨v1, _, [x1], _, rfl, rfl, o1, ⟨rfl, rfl⟩⟩⟩
  have g0 : ((m0 : Nat) : Int) ≤ 9223372036854775807 := by
    have e : maxLen = 9223372036854775807 := by decide
    omega
  have z0 : Day.L1.EY ⟨.l as0, ((m0 : Nat) : Int)⟩ = true := Tp k0
  have z1 : Day.L1.Uf ⟨.l as0, ((m0 : Nat) : Int)⟩ = true := T8 len0
  have f0 := Tn k1
  have hp : (S.UF [.l as0, .i m0, x1]).1 = true := by
    simp [S.UF, gi, gb, gs, gv, ge, Day.ND.i64, Day.HB.i64, Day.UB, Day.HB.a, f0, g0, z0, z1]
  have hTab : K9 Tryd.prog W := Ua hL
  refine (Rn S.GO (fun _ => rfl) rfl hTab hargs (by rw [show S.A1.f = 4 from rfl, S.UK]; exact hp) (by rw [show S.A1.f = 4 from rfl, S.UK]; rfl)).mono fun e W2 ⟨he, Tw⟩ => ?_
  subst he
  have b0 := Below.trod Seat.laidOut (by kernel_rfl) (of_decide_eq_true (by kernel_rfl)) h0 Tw (fun x hx => by simpa using hW'.lt x (by simp [hx]))
  have b1 := Below.trod Seat.laidOut (by kernel_rfl) (of_decide_eq_true (by kernel_rfl)) h1 Tw (fun x hx => by simpa using hW'.lt x (by simp [hx]))
  exact ⟨_, rfl, _, _, _, [], _, [], hW', trodAll_mk1 (shut_bool Tryd.underlying4 _), (trodAll_cons_mk b0 (trodAll_cons_mk b1 trodAll_mk0)), rfl, Tw.frame _, fun h => by cases h⟩
def Ub (cs : Array Value) : Obj → Obj
  | .cells _ t frozen => .cells cs t frozen
  | o => o
noncomputable def Ja (os : Os) : World :=
  { World.holding Tryd.prog os ⟨#[], #[], []⟩ with heap := (((World.holding Tryd.prog os ⟨#[], #[], []⟩).heap.modify 0 (Ub (T9 (PQ 0)))).modify 1 (Ub (T9 (PQ 1)))).modify 2 (Ub (T9 (PQ 2))) }
theorem SQ (os : Os) : laidMet Tryd.prog Rows.tellJoinsRow.laid ((Ja os).forCall (fun _ _ => 0) ⟨#[], #[.slice none 0 0, .int .u8 0], []⟩).memory :=
  laidMet_of_run' 8 (by kernel_rfl) (by kernel_rfl)
theorem reads (os : Os) {H : Type} (enc : TypeId × Value → H) : ∃ x, DataW.whole enc Tryd.prog ((Ja os).forCall (fun _ _ => 0) ⟨#[], #[.slice none 0 0, .int .u8 0], []⟩).memory Tryd.f4.params.toList Rows.tellJoinsSpec.vars false (#[.slice none 0 0, .int .u8 0] : Array Value).toList 8 = some x :=
  Option.isSome_iff_exists.1 (by kernel_rfl)
set_option maxRecDepth 100000 in
theorem lifted (os : Os) (started : os.Started) (H : Type) (enc : TypeId × Value → H) (F : Stop.Interp) :
    ReturnsInHanded {} Tryd.checked os 4 .any ((OpenSpec.ofChange Rows.tellJoinsSpec).preRow enc Tryd.prog Tryd.f4 Rows.tellJoinsRow.domain false Rows.tellJoinsRow.laid) (((OpenSpec.ofChange Rows.tellJoinsSpec).at F).post enc Tryd.prog Tryd.f4 false true false false) := by
  obtain ⟨x, hx⟩ := reads os enc
  refine returnsInHanded_of_row (C := Tryd.checked) (s := OpenSpec.ofChange Rows.tellJoinsSpec) own started (by kernel_rfl) Tryd.func4
    (witness_row_at (enc := enc) (C := Tryd.checked) false (Ja os) #[.slice none 0 0, .int .u8 0] rfl (by kernel_rfl) (by kernel_rfl) (by kernel_rfl)
      (OpenSpec.preRow_of_cond 8 hx (by kernel_rfl) (fun k hk => by cases hk) (by kernel_rfl) (SQ os))) ?_
  intro W base args ds gs before hval hW _ _ _ hL _ _
  exact SP H enc W base args ds gs before hval hW hL
theorem said : Rows.TellJoinsSaid :=
  OpenClaim.holds_of_cond 4 Tryd.f4 rfl rfl rfl rfl rfl rfl rfl ⟨rfl, rfl, rfl, rfl, rfl⟩ rfl rfl rfl rfl rfl (by kernel_rfl) Tryd.func4 (by kernel_rfl)
    (of_decide_eq_true (by kernel_rfl)) (by unfold Func.isWrapper; rw [if_neg (by decide +kernel)]; exact ⟨rfl, rfl⟩)
    (fun os started H enc _ F => by rw [OpenClaim.pre_eq_preRow]; exact lifted os started H enc F)
theorem plain (f : FuncId) (fn : Func) (hf : Tryd.pinned.checked.prog.funcNamed Rows.tellJoinsRow.func = some f) (hfn : Tryd.pinned.checked.prog.funcs[f]? = some fn) :
    false = Tryd.pinned.checked.prog.looks [] ∧ ∀ (j : Nat) t, fn.params[j]? = some t → Tryd.pinned.checked.prog.wantsStandIn t = false := by
  obtain rfl : f = 4 := Option.some.inj ((show Tryd.prog.funcNamed Rows.tellJoinsRow.func = some 4 by kernel_rfl).symm.trans hf) |>.symm
  obtain rfl : fn = Tryd.f4 := (Option.some.inj (Tryd.func4.symm.trans hfn)).symm
  refine ⟨by kernel_rfl, fun j t ht => ?_⟩
  rw [Tryd.params4] at ht
  have hm := Array.mem_of_getElem? ht
  have ha : ∀ t ∈ (#[22, 5] : Array TypeId), Tryd.prog.wantsStandIn t = false := of_decide_eq_true (by kernel_rfl)
  exact ha t hm
theorem UL : Rows.TellJoinsCardSaid :=
  Claim7.holds_tied_plain_at .later [] _ _ _ _ said (fun _ h => by cases h) (by kernel_rfl) (fun _ h => by cases h) tellJoins_row_tie rfl ⟨rfl, rfl⟩ (by kernel_rfl) rfl plain (by kernel_rfl)
end Go.Proofs.YtmpinegdphkbjaaDoor.tellJoins
namespace Go.Proofs.YtmpinegdphkbjaaDoor
/-- The UL, under a short name, for the claim. -/
theorem tellJoins_holds : Rows.TellJoinsCardSaid := tellJoins.UL
end Go.Proofs.YtmpinegdphkbjaaDoor
