/- There are as many lines as looks, each of three words and one for each node. -/
import Derived.Test.YtmpinegdphkbjaaDoorUXc
import Derived.Test.YtmpinegdphkbjaaDoorUXe
import Derived.Test.YtmpinegdphkbjaaDoorUXf
import Derived.Test.YtmpinegdphkbjaaDoorUXg
import Derived.Test.YtmpinegdphkbjaaDoorUXtell
import Derived.Test.YtmpinegdphkbjaaDoorUXlaw25
import Derived.Test.YtmpinegdphkbjaaDoorUYTellLines
import Derived.Test.YtmpinegdphkbjaaDoorCards
import Derived.Test.YtmpinegdphkbjaaDoorTie
import Derived.Deep.DeepHandedRow
import Derived.Lib.LaidTab
import Derived.LaidLaws
import Derived.Test.YtmpinegdphkbjaaDoorRows
import Derived.Test.YtmpinegdphkbjaaDoorSeat
import Derived.WalkKit
import Derived.ProofKit
import Derived.OpenShut
import Derived.ShutString
import Derived.ChangeOld
import Derived.Below
import Derived.SizedLaws
set_option linter.unusedVariables false
set_option linter.unusedSimpArgs false
namespace Rx.S
open Go Rx Go.Proofs
set_option maxRecDepth 100000
set_option maxHeartbeats 4000000
def A1 : M4 := { f := 3, ps := [.lst [.int .i64, .int .i64, .int .i64, .int .i64, .int .i64, .sl [.int .i64, .int .i64, .int .i64, .int .i64]]], rs := [(false, [.bool])], ok := fun _ => true }
noncomputable def Bx : List (Nat × Func) := [(3, Tryd.f3), (6, Tryd.f6), (7, Tryd.f7), (8, Tryd.f8)]
theorem BS : Gg Tryd.prog Bx := ⟨VJ, VA, VB, VC, trivial⟩
noncomputable def Du : Ctx := { AD := AD, eqs := eqs, fns := fun f => look f Bx, ctr := [(8, Cc), (7, BQ), (6, CB)], lim := 30, big := [], lps := [] }
theorem FR : XL Tryd.prog T Du where
 AD := D4
 eqs := Er
 mixed := mixed
 ctr := AU ⟨⟨rfl, D5⟩, ⟨rfl, Dr⟩, ⟨rfl, EN⟩, trivial⟩
 fns := Bo BS
 big := AV trivial
 lps := GV rfl
theorem MZ : ∀ fn body c, Du.fns Es.f = some fn → fn.body = some body → CL Es.p body = some (.loop c) → BR Tryd.prog T Es c :=
 Ep FR CN (g := It) (back := some (V 16, [V 0, V 1, V 25, V 3, V 24, V 5, V 6, V 7, V 8])) (exs := [(V 17, [some (V 2), some (V 4), some (V 2), some (V 9), some (V 10), some (V 10), some (V 16)])]) (by kernel_rfl) (fun aq => by rw [show Es.id = 1130 from rfl, Lh]; rfl) PX fun aq e h1 h2 h3 => by
  rw [show Es.id = 1130 from rfl, Lh] at h2 ⊢
  exact PY aq e h1 h2 h3
noncomputable def Dv : Ctx := { AD := AD, eqs := eqs, fns := fun f => look f Bx, ctr := [(8, Cc), (7, BQ), (6, CB)], lim := 30, big := [], lps := [Es] }
theorem FT : XL Tryd.prog T Dv where
 AD := D4
 eqs := Er
 mixed := mixed
 ctr := AU ⟨⟨rfl, D5⟩, ⟨rfl, Dr⟩, ⟨rfl, EN⟩, trivial⟩
 fns := Bo BS
 big := AV trivial
 lps := Dg ⟨MZ, trivial⟩
theorem RM : ∀ fn body c, Dv.fns FD.f = some fn → fn.body = some body → CL FD.p body = some (.loop c) → BR Tryd.prog T FD c :=
 Ep FT CN (g := Iu) (back := some (V 42, [V 0, V 1, V 37, V 40, V 4, V 5, V 6])) (exs := [(V 43, [some (V 10), some (B true), none, none]), (V 8, [none, none, some (V 2), some (B true)])]) (by kernel_rfl) (fun aq => by rw [show FD.id = 1131 from rfl, Li]; rfl) PZ fun aq e h1 h2 h3 => by
  rw [show FD.id = 1131 from rfl, Li] at h2 ⊢
  exact P0 aq e h1 h2 h3
noncomputable def ID : Ctx := { AD := AD, eqs := eqs, fns := fun f => look f Bx, ctr := [(8, Cc), (7, BQ), (6, CB)], lim := 30, big := [], lps := [Es, FD] }
theorem GY : XL Tryd.prog T ID where
 AD := D4
 eqs := Er
 mixed := mixed
 ctr := AU ⟨⟨rfl, D5⟩, ⟨rfl, Dr⟩, ⟨rfl, EN⟩, trivial⟩
 fns := Bo BS
 big := AV trivial
 lps := Dg ⟨MZ, RM, trivial⟩
theorem GZ : F9 Tryd.prog T A1 := Je GY CN (g := CO) (ls := [V 35]) (by kernel_rfl) (fun aq => by rw [show A1.f = 3 from rfl, U6]; rfl) fun aq e h1 h2 h3 => by
 subst h1
 rw [show A1.f = 3 from rfl, U6] at h2 ⊢
 obtain ⟨ho, hr⟩ := Gs e h3 h2
 have r0 := hr
 refine ⟨⟨ho.1, ho.2.1, ho.2.2.1, ho.2.2.2.1, ho.2.2.2.2.1, ho.2.2.2.2.2, trivial⟩, ?_⟩
 show Ak [.bool] (U1 _).2 = Ak [.bool] [L.ev e (V 35)]
 exact (Ui r0 rfl)
end Rx.S
namespace Go.Proofs.YtmpinegdphkbjaaDoor.tellLines
open Go.ChangeShapes Go.WideShapes Go.ChangeAt Go.RowKit Rx
theorem own : ownKnob Tryd.prog.godebug = none := by kernel_rfl
def Jo : List Aj := [.int .i64, .int .i64, .int .i64, .int .i64, .int .i64, .sl [.int .i64, .int .i64, .int .i64, .int .i64]]
theorem Vd {ss : List Aj} {ys : List A} (h : QW (.sl ss) (.l ys)) (j : Nat) (hj : ss[j % ss.length]? = some (.int .i64)) : Day.i64 (ys.getD j (.i 0)).int = true := by
  cases h with
  | sl q1 q2 q3 =>
    by_cases hl : j < ys.length
    · have h5 := q3 j _ _ hj (List.getElem?_eq_getElem hl)
      simp only [List.getD, List.getElem?_eq_getElem hl, Option.getD_some]
      exact TL h5
    · simp only [List.getD, List.getElem?_eq_none (Nat.le_of_not_lt hl), Option.getD_none]
      rfl
theorem O8 {a : A} (h : QW (.sl [.int .i64, .int .i64, .int .i64, .int .i64]) a ∨ a.AR = []) : ∀ (k : Nat) (i : Int), Day.JF a k i = true
  | 0, _ => rfl
  | k + 1, i => by
    unfold Day.JF
    rw [O8 h k (i + 1), Bool.and_true]
    unfold Day.MQ
    rcases h with h | h
    · cases h with
      | sl q1 q2 q3 =>
        exact Vd (.sl q1 q2 q3) _ (by show [Aj.int IntKind.i64, .int .i64, .int .i64, .int .i64][(3 + 4 * i.toNat) % 4]? = _; rw [show (3 + 4 * i.toNat) % 4 = 3 by omega]; rfl)
    · rw [h]
      rfl
theorem S4 {ys : List A} (h : QW (.sl Jo) (.l ys)) : ∀ (k : Nat) (i : Int), Day.UB (.l ys) k i = true
  | 0, _ => rfl
  | k + 1, i => by
    have hx : QW (.sl [.int .i64, .int .i64, .int .i64, .int .i64]) (ys.getD (5 + 6 * i.toNat) (.i 0)) ∨ (ys.getD (5 + 6 * i.toNat) (.i 0)).AR = [] := by
      cases h with
      | sl q1 q2 q3 =>
        by_cases hl : 5 + 6 * i.toNat < ys.length
        · have h5 := q3 (5 + 6 * i.toNat) _ _ (by show Jo[(5 + 6 * i.toNat) % 6]? = _; rw [show (5 + 6 * i.toNat) % 6 = 5 by omega]; rfl) (List.getElem?_eq_getElem hl)
          simp only [List.getD, List.getElem?_eq_getElem hl, Option.getD_some]
          exact .inl h5
        · simp only [List.getD, List.getElem?_eq_none (Nat.le_of_not_lt hl), Option.getD_none]
          exact .inr rfl
    unfold Day.UB
    rw [S4 h k (i + 1), Bool.and_true]
    simp only [Day.Lk.Fa, Day.CC, A.AR, Bool.and_eq_true]
    refine ⟨Vd h _ ?_, Vd h _ ?_, Vd h _ ?_, O8 hx _ _⟩
    · show Jo[(6 * i.toNat) % 6]? = _
      rw [show (6 * i.toNat) % 6 = 0 by omega]
      rfl
    · show Jo[(2 + 6 * i.toNat) % 6]? = _
      rw [show (2 + 6 * i.toNat) % 6 = 2 by omega]
      rfl
    · show Jo[(4 + 6 * i.toNat) % 6]? = _
      rw [show (4 + 6 * i.toNat) % 6 = 4 by omega]
      rfl
theorem TM {ys : List A} {m : Nat} (h : QW (.sl Jo) (.l ys)) : Day.L1.Fa ⟨.l ys, ((m : Nat) : Int)⟩ = true := by
  unfold Day.L1.Fa
  rw [S4 h]
  simp
def Vx : DataW Unit → Value
  | .lit (.int k z) => .int k z
  | _ => .bool false
def Uw : DataW Unit → Array Value
  | .agg l => (l.map Vx).toArray
  | _ => #[]
def Qe (g : Nat) : DataW Unit := match g with
  | 0 => Rows.laid_internal_strconv_uint64pow10
  | 1 => Rows.laid_math_bits_deBruijn32tab
  | _ => Rows.laid_math_bits_deBruijn64tab
theorem TN : (Tryd.prog.globals[0]?).map (·.type) = some 54 := by kernel_rfl
theorem S5 : Tryd.prog.underlying 54 = some (.array 20 45) := by kernel_rfl
theorem S6 : Tryd.prog.underlying 45 = some (.int .u64) := by kernel_rfl
theorem S7 : Tryd.prog.cellsOf 45 = 1 := by kernel_rfl
theorem S8 : Tryd.prog.cellsOf 54 = 20 := by kernel_rfl
theorem TO : (Rows.laid_internal_strconv_uint64pow10 : DataW Unit) = Lib.tabData .u64 Lib.pow10Tab := by kernel_rfl
theorem Ux {W : World} (h : laidMetH Tryd.prog Rows.tellLinesRow.laid W) : Lv Tryd.prog W := by
  intro _
  have h : laidMet Tryd.prog Rows.tellLinesRow.laid W := h
  obtain ⟨ps, ⟨_, _, _, _, _, _, _, _, _, _, ⟨_, _, _, _, _, _, _, _, _, _, ⟨g, t, cs, fuel, p, q, hg, ht, hvar, hd, _, _⟩, _⟩, _⟩, _⟩ := h
  have hg0 : Tryd.prog.globalNamed DC = some 0 := by kernel_rfl
  obtain rfl : 0 = g := Option.some.inj (hg0.symm.trans hg)
  obtain rfl := Option.some.inj (TN.symm.trans ht)
  rw [TO] at hd
  have e := Lib.cells_of_tab S5 S6 S7 S8 hd
  show W.var? Tryd.prog DC = some (Lib.pow10Tab.map fun z => Value.int .u64 z).toArray
  rw [← e]
  exact hvar
set_option maxRecDepth 100000 in
theorem S9 (H : Type) (enc : TypeId × Value → H) (W : World) (base : Nat) (args : Array Value) (ds gs : List (DataW H)) (before : List MemPlace)
    (hval : ∀ (j : Nat) t v, Tryd.f3.params[j]? = some t → args[j]? = some v → Value.okWide Tryd.prog W .any base t v)
    (hW : DataW.Whole enc Tryd.prog Tryd.f3.params.toList Rows.tellLinesSpec.vars false W args.toList ds gs before) (hL : laidMetH Tryd.prog Rows.tellLinesRow.laid W) :
    Calls Tryd.prog 3 args W fun e W' => ∃ v, e = .returned v ∧ Rows.tellLinesSpec.post enc Tryd.prog Tryd.f3 false true false false W args v W' := by
  have hW' := hW
  obtain ⟨p, q, hA0, hV, rfl, hfz, hnd⟩ := hW
  have hA : DataW.TrodAll enc Tryd.prog W 0 (fun _ => true) true Tryd.f3.params.toList args.toList ds p := hA0
  rw [Tryd.params3] at hA hval
  obtain ⟨v0, vs0, d0, ds0, p0, q0, hargs, rfl, rfl, h0, r0⟩ := trodAll_cons hA
  obtain ⟨rfl, rfl, rfl⟩ := trodAll_nil r0
  obtain rfl : args = #[v0] := by cases args; simp_all
  obtain ⟨rfl, rfl⟩ := trodVars_none hV
  obtain ⟨as0, m0, k0, len0, le0, o0⟩ := S2 S.D4 (n := 10) (t := 22) (ss := [.int .i64, .int .i64, .int .i64, .int .i64, .int .i64, .sl [.int .i64, .int .i64, .int .i64, .int .i64]]) rfl rfl (by rfl) (by decide) (hval 0 22 v0 rfl rfl) h0
  have hargs : BU W.cell? S.A1.ps [v0] [.l as0, .i m0] := ⟨v0, _, [.l as0, .i m0], _, rfl, rfl, o0, ⟨rfl, rfl⟩⟩
  have g0 : ((m0 : Nat) : Int) ≤ 9223372036854775807 := by
    have e : maxLen = 9223372036854775807 := by decide
    omega
  have z0 : Day.L1.Fa ⟨.l as0, ((m0 : Nat) : Int)⟩ = true := TM k0
  have hp : (S.U1 [.l as0, .i m0]).1 = true := by
    simp [S.U1, gi, gb, gs, gv, ge, Day.ND.i64, Day.HB.i64, Day.UX, Day.HB.a, g0, z0]
  have hTab : Lv Tryd.prog W := Ux hL
  refine (RI S.GZ (fun _ => rfl) rfl hTab hargs (by rw [show S.A1.f = 3 from rfl, S.U6]; exact hp) (by rw [show S.A1.f = 3 from rfl, S.U6]; rfl)).mono fun e W2 ⟨he, T7⟩ => ?_
  subst he
  have b0 := Below.trod Seat.laidOut (by kernel_rfl) (of_decide_eq_true (by kernel_rfl)) h0 T7 (fun x hx => by simpa using hW'.lt x (by simp [hx]))
  exact ⟨_, rfl, _, _, _, [], _, [], hW', trodAll_mk1 (shut_bool Tryd.underlying4 _), (trodAll_cons_mk b0 trodAll_mk0), rfl, T7.frame _, fun h => by cases h⟩
def Uy (cs : Array Value) : Obj → Obj
  | .cells _ t frozen => .cells cs t frozen
  | o => o
noncomputable def Jp (os : Os) : World :=
  { World.holding Tryd.prog os ⟨#[], #[], []⟩ with heap := (((World.holding Tryd.prog os ⟨#[], #[], []⟩).heap.modify 0 (Uy (Uw (Qe 0)))).modify 1 (Uy (Uw (Qe 1)))).modify 2 (Uy (Uw (Qe 2))) }
theorem Ta (os : Os) : laidMet Tryd.prog Rows.tellLinesRow.laid ((Jp os).forCall (fun _ _ => 0) ⟨#[], #[.slice none 0 0], []⟩).memory :=
  laidMet_of_run' 8 (by kernel_rfl) (by kernel_rfl)
theorem reads (os : Os) {H : Type} (enc : TypeId × Value → H) : ∃ x, DataW.whole enc Tryd.prog ((Jp os).forCall (fun _ _ => 0) ⟨#[], #[.slice none 0 0], []⟩).memory Tryd.f3.params.toList Rows.tellLinesSpec.vars false (#[.slice none 0 0] : Array Value).toList 8 = some x :=
  Option.isSome_iff_exists.1 (by kernel_rfl)
set_option maxRecDepth 100000 in
theorem lifted (os : Os) (started : os.Started) (H : Type) (enc : TypeId × Value → H) (F : Stop.Interp) :
    ReturnsInHanded {} Tryd.checked os 3 .any ((OpenSpec.ofChange Rows.tellLinesSpec).preRow enc Tryd.prog Tryd.f3 Rows.tellLinesRow.domain false Rows.tellLinesRow.laid) (((OpenSpec.ofChange Rows.tellLinesSpec).at F).post enc Tryd.prog Tryd.f3 false true false false) := by
  obtain ⟨x, hx⟩ := reads os enc
  refine returnsInHanded_of_row (C := Tryd.checked) (s := OpenSpec.ofChange Rows.tellLinesSpec) own started (by kernel_rfl) Tryd.func3
    (witness_row_at (enc := enc) (C := Tryd.checked) false (Jp os) #[.slice none 0 0] rfl (by kernel_rfl) (by kernel_rfl) (by kernel_rfl)
      (OpenSpec.preRow_of_cond 8 hx (by kernel_rfl) (fun k hk => by cases hk) (by kernel_rfl) (Ta os))) ?_
  intro W base args ds gs before hval hW _ _ _ hL _ _
  exact S9 H enc W base args ds gs before hval hW hL
theorem said : Rows.TellLinesSaid :=
  OpenClaim.holds_of_cond 3 Tryd.f3 rfl rfl rfl rfl rfl rfl rfl ⟨rfl, rfl, rfl, rfl, rfl⟩ rfl rfl rfl rfl rfl (by kernel_rfl) Tryd.func3 (by kernel_rfl)
    (of_decide_eq_true (by kernel_rfl)) (by unfold Func.isWrapper; rw [if_neg (by decide +kernel)]; exact ⟨rfl, rfl⟩)
    (fun os started H enc _ F => by rw [OpenClaim.pre_eq_preRow]; exact lifted os started H enc F)
theorem plain (f : FuncId) (fn : Func) (hf : Tryd.pinned.checked.prog.funcNamed Rows.tellLinesRow.func = some f) (hfn : Tryd.pinned.checked.prog.funcs[f]? = some fn) :
    false = Tryd.pinned.checked.prog.looks [] ∧ ∀ (j : Nat) t, fn.params[j]? = some t → Tryd.pinned.checked.prog.wantsStandIn t = false := by
  obtain rfl : f = 3 := Option.some.inj ((show Tryd.prog.funcNamed Rows.tellLinesRow.func = some 3 by kernel_rfl).symm.trans hf) |>.symm
  obtain rfl : fn = Tryd.f3 := (Option.some.inj (Tryd.func3.symm.trans hfn)).symm
  refine ⟨by kernel_rfl, fun j t ht => ?_⟩
  rw [Tryd.params3] at ht
  have hm := Array.mem_of_getElem? ht
  have ha : ∀ t ∈ (#[22] : Array TypeId), Tryd.prog.wantsStandIn t = false := of_decide_eq_true (by kernel_rfl)
  exact ha t hm
theorem U7 : Rows.TellLinesCardSaid :=
  Claim7.holds_tied_plain_at .later [] _ _ _ _ said (fun _ h => by cases h) (by kernel_rfl) (fun _ h => by cases h) tellLines_row_tie rfl ⟨rfl, rfl⟩ (by kernel_rfl) rfl plain (by kernel_rfl)
end Go.Proofs.YtmpinegdphkbjaaDoor.tellLines
namespace Go.Proofs.YtmpinegdphkbjaaDoor
/-- The U7, under a short name, for the claim. -/
theorem tellLines_holds : Rows.TellLinesCardSaid := tellLines.U7
end Go.Proofs.YtmpinegdphkbjaaDoor
