/- The words of any frame and node, and the lines of any looks (60 at most, of 20 nodes), are the document's. -/
import Derived.Test.YtmpinegdphkbjaaDoorTXc
import Derived.Test.YtmpinegdphkbjaaDoorTXe
import Derived.Test.YtmpinegdphkbjaaDoorTXf
import Derived.Test.YtmpinegdphkbjaaDoorTXg
import Derived.Test.YtmpinegdphkbjaaDoorTXtell
import Derived.Test.YtmpinegdphkbjaaDoorTXlaw25
import Derived.Test.YtmpinegdphkbjaaDoorTXref25
import Derived.Test.YtmpinegdphkbjaaDoorTYTellTells
import Derived.Test.YtmpinegdphkbjaaDoorCards
import Derived.Test.YtmpinegdphkbjaaDoorTie
import Derived.Deep.DeepHandedRow
import Derived.Lib.LaidTab
import Derived.LaidLaws
import Derived.Test.YtmpinegdphkbjaaDoorRows
import Derived.Test.YtmpinegdphkbjaaDoorSeat
import Derived.WalkKit
import Derived.ProofKit
import Derived.OpenShut
import Derived.ShutString
import Derived.ChangeOld
import Derived.Below
import Derived.SizedLaws
set_option linter.unusedVariables false
set_option linter.unusedSimpArgs false
namespace Rx.S
open Go Rx Go.Proofs
set_option maxRecDepth 100000
set_option maxHeartbeats 4000000
def A7 : KL := { f := 5, ps := [.c true [.int .i64, .int .i64], .c true [.int .i64, .int .i64, .int .i64, .int .i64], .lst [.int .i64, .int .i64, .int .i64, .int .i64, .int .i64, .sl [.int .i64, .int .i64, .int .i64, .int .i64]]], rs := [(false, [.bool])], ok := fun _ => true }
noncomputable def Ct : List (Nat × Func) := [(5, Tryd.f5), (6, Tryd.f6), (7, Tryd.f7), (9, Tryd.f9), (10, Tryd.f10), (11, Tryd.f11), (12, Tryd.f12), (13, Tryd.f13), (14, Tryd.f14), (8, Tryd.f8), (15, Tryd.f15)]
theorem Dh : C8 Tryd.prog Ct := ⟨Xj, Xb, Xc, W5, VJ, Wo, VK, VL, VM, Xd, Wp, trivial⟩
noncomputable def DZ : Ctx := { Ax := Ax, eqs := eqs, fns := fun f => look f Ct, ctr := [(11, Db), (13, CW), (9, CX), (8, Dc), (12, BB), (14, BP), (10, BQ), (15, CA), (7, CB), (6, DK)], lim := 30, big := [], lps := [] }
theorem Gv : XL Tryd.prog T DZ where
 Ax := BV
 eqs := Cs
 mixed := mixed
 ctr := AB ⟨⟨rfl, Hb⟩, ⟨rfl, E9⟩, ⟨rfl, Fa⟩, ⟨rfl, Hh⟩, ⟨rfl, CD⟩, ⟨rfl, Dd⟩, ⟨rfl, De⟩, ⟨rfl, Gq⟩, ⟨rfl, Gs⟩, ⟨rfl, Ib⟩, trivial⟩
 fns := AN Dh
 big := AD trivial
 lps := CC rfl
theorem SX : ∀ fn body c, DZ.fns F6.f = some fn → fn.body = some body → Cx F6.p body = some (.loop c) → BG Tryd.prog T F6 c :=
 Dx Gv Bn (g := Jo) (back := some (V 39, [V 0, V 1, V 2, V 3, V 4, V 5, V 6, V 36, V 8, V 9, V 10])) (exs := [(V 40, [some (B true), none]), (V 12, [none, some (B true)])]) (by kernel_rfl) (fun aq => by rw [show F6.id = 1120 from rfl, Mt]; rfl) QU fun aq e h1 h2 h3 => by
  rw [show F6.id = 1120 from rfl, Mt] at h2 ⊢
  exact QV aq e h1 h2 h3
noncomputable def JD : Ctx := { Ax := Ax, eqs := eqs, fns := fun f => look f Ct, ctr := [(11, Db), (13, CW), (9, CX), (8, Dc), (12, BB), (14, BP), (10, BQ), (15, CA), (7, CB), (6, DK)], lim := 30, big := [], lps := [F6] }
theorem HH : XL Tryd.prog T JD where
 Ax := BV
 eqs := Cs
 mixed := mixed
 ctr := AB ⟨⟨rfl, Hb⟩, ⟨rfl, E9⟩, ⟨rfl, Fa⟩, ⟨rfl, Hh⟩, ⟨rfl, CD⟩, ⟨rfl, Dd⟩, ⟨rfl, De⟩, ⟨rfl, Gq⟩, ⟨rfl, Gs⟩, ⟨rfl, Ib⟩, trivial⟩
 fns := AN Dh
 big := AD trivial
 lps := Cy ⟨SX, trivial⟩
theorem HI : DH Tryd.prog T A7 := DQ HH Bn (g := Da) (ls := [V 58]) (by kernel_rfl) (fun aq => by rw [show A7.f = 5 from rfl, WC]; rfl) fun aq e h1 h2 h3 => by
 subst h1
 rw [show A7.f = 5 from rfl, WC] at h2 ⊢
 obtain ⟨ho, hr⟩ := G7 e h3 h2
 have r0 := hr
 refine ⟨⟨ho.1, ho.2.1, ho.2.2.1, ho.2.2.2.1, ho.2.2.2.2.1, ho.2.2.2.2.2.1, ho.2.2.2.2.2.2.1, ho.2.2.2.2.2.2.2.1, ho.2.2.2.2.2.2.2.2.1, ho.2.2.2.2.2.2.2.2.2.1, ho.2.2.2.2.2.2.2.2.2.2, trivial⟩, ?_⟩
 show Ah [.bool] (Wx _).2 = Ah [.bool] [L.ev e (V 58)]
 exact (VI r0 rfl)
end Rx.S
namespace Go.Proofs.YtmpinegdphkbjaaDoor.tellTells
open Go.ChangeShapes Go.WideShapes Go.ChangeAt Go.RowKit Rx
theorem own : ownKnob Tryd.prog.godebug = none := by kernel_rfl
def Kq : List Ak := [.int .i64, .int .i64, .int .i64, .int .i64, .int .i64, .sl [.int .i64, .int .i64, .int .i64, .int .i64]]
theorem WK {ss : List Ak} {ys : List A} (h : R2 (.sl ss) (.l ys)) (j : Nat) (hj : ss[j % ss.length]? = some (.int .i64)) : Day.i64 (ys.getD j (.i 0)).int = true := by
  cases h with
  | sl q1 q2 q3 =>
    by_cases hl : j < ys.length
    · have h5 := q3 j _ _ hj (List.getElem?_eq_getElem hl)
      simp only [List.getD, List.getElem?_eq_getElem hl, Option.getD_some]
      exact Vc h5
    · simp only [List.getD, List.getElem?_eq_none (Nat.le_of_not_lt hl), Option.getD_none]
      rfl
theorem Qd {a : A} (h : R2 (.sl [.int .i64, .int .i64, .int .i64, .int .i64]) a ∨ a.AW = []) : ∀ (k : Nat) (i : Int), Day.H2 a k i = true
  | 0, _ => rfl
  | k + 1, i => by
    unfold Day.H2
    rw [Qd h k (i + 1), Bool.and_true]
    unfold Day.N4
    rcases h with h | h
    · cases h with
      | sl q1 q2 q3 =>
        exact WK (.sl q1 q2 q3) _ (by show [Ak.int IntKind.i64, .int .i64, .int .i64, .int .i64][(3 + 4 * i.toNat) % 4]? = _; rw [show (3 + 4 * i.toNat) % 4 = 3 by omega]; rfl)
    · rw [h]
      rfl
theorem Ul {ys : List A} (h : R2 (.sl Kq) (.l ys)) : ∀ (k : Nat) (i : Int), Day.V4 (.l ys) k i = true
  | 0, _ => rfl
  | k + 1, i => by
    have hx : R2 (.sl [.int .i64, .int .i64, .int .i64, .int .i64]) (ys.getD (5 + 6 * i.toNat) (.i 0)) ∨ (ys.getD (5 + 6 * i.toNat) (.i 0)).AW = [] := by
      cases h with
      | sl q1 q2 q3 =>
        by_cases hl : 5 + 6 * i.toNat < ys.length
        · have h5 := q3 (5 + 6 * i.toNat) _ _ (by show Kq[(5 + 6 * i.toNat) % 6]? = _; rw [show (5 + 6 * i.toNat) % 6 = 5 by omega]; rfl) (List.getElem?_eq_getElem hl)
          simp only [List.getD, List.getElem?_eq_getElem hl, Option.getD_some]
          exact .inl h5
        · simp only [List.getD, List.getElem?_eq_none (Nat.le_of_not_lt hl), Option.getD_none]
          exact .inr rfl
    unfold Day.V4
    rw [Ul h k (i + 1), Bool.and_true]
    simp only [Day.Lk.E8, Day.Dp, A.AW, Bool.and_eq_true]
    refine ⟨WK h _ ?_, WK h _ ?_, WK h _ ?_, Qd hx _ _⟩
    · show Kq[(6 * i.toNat) % 6]? = _
      rw [show (6 * i.toNat) % 6 = 0 by omega]
      rfl
    · show Kq[(2 + 6 * i.toNat) % 6]? = _
      rw [show (2 + 6 * i.toNat) % 6 = 2 by omega]
      rfl
    · show Kq[(4 + 6 * i.toNat) % 6]? = _
      rw [show (4 + 6 * i.toNat) % 6 = 4 by omega]
      rfl
theorem Vd {ys : List A} {m : Nat} (h : R2 (.sl Kq) (.l ys)) : Day.L1.E8 ⟨.l ys, ((m : Nat) : Int)⟩ = true := by
  unfold Day.L1.E8
  rw [Ul h]
  simp
def W8 : DataW Unit → Value
  | .lit (.int k z) => .int k z
  | _ => .bool false
def VZ : DataW Unit → Array Value
  | .agg l => (l.map W8).toArray
  | _ => #[]
def Rh (g : Nat) : DataW Unit := match g with
  | 0 => Rows.laid_internal_strconv_uint64pow10
  | 1 => Rows.laid_math_bits_deBruijn32tab
  | _ => Rows.laid_math_bits_deBruijn64tab
theorem Ve : (Tryd.prog.globals[0]?).map (·.type) = some 54 := by kernel_rfl
theorem Um : Tryd.prog.underlying 54 = some (.array 20 45) := by kernel_rfl
theorem Un : Tryd.prog.underlying 45 = some (.int .u64) := by kernel_rfl
theorem Uo : Tryd.prog.cellsOf 45 = 1 := by kernel_rfl
theorem Up : Tryd.prog.cellsOf 54 = 20 := by kernel_rfl
theorem Vf : (Rows.laid_internal_strconv_uint64pow10 : DataW Unit) = Lib.tabData .u64 Lib.pow10Tab := by kernel_rfl
theorem V0 {W : World} (h : laidMetH Tryd.prog Rows.tellTellsRow.laid W) : MJ Tryd.prog W := by
  intro _
  have h : laidMet Tryd.prog Rows.tellTellsRow.laid W := h
  obtain ⟨ps, ⟨_, _, _, _, _, _, _, _, _, _, ⟨_, _, _, _, _, _, _, _, _, _, ⟨g, t, cs, fuel, p, q, hg, ht, hvar, hd, _, _⟩, _⟩, _⟩, _⟩ := h
  have hg0 : Tryd.prog.globalNamed D6 = some 0 := by kernel_rfl
  obtain rfl : 0 = g := Option.some.inj (hg0.symm.trans hg)
  obtain rfl := Option.some.inj (Ve.symm.trans ht)
  rw [Vf] at hd
  have e := Lib.cells_of_tab Um Un Uo Up hd
  show W.var? Tryd.prog D6 = some (Lib.pow10Tab.map fun z => Value.int .u64 z).toArray
  rw [← e]
  exact hvar
set_option maxRecDepth 100000 in
theorem Uq (H : Type) (enc : TypeId × Value → H) (W : World) (base : Nat) (args : Array Value) (ds gs : List (DataW H)) (before : List MemPlace)
    (hval : ∀ (j : Nat) t v, Tryd.f5.params[j]? = some t → args[j]? = some v → Value.okWide Tryd.prog W .any base t v)
    (hW : DataW.Whole enc Tryd.prog Tryd.f5.params.toList Rows.tellTellsSpec.vars false W args.toList ds gs before) (hL : laidMetH Tryd.prog Rows.tellTellsRow.laid W) :
    Calls Tryd.prog 5 args W fun e W' => ∃ v, e = .returned v ∧ Rows.tellTellsSpec.post enc Tryd.prog Tryd.f5 false true false false W args v W' := by
  have hW' := hW
  obtain ⟨p, q, hA0, hV, rfl, hfz, hnd⟩ := hW
  have hA : DataW.TrodAll enc Tryd.prog W 0 (fun _ => true) true Tryd.f5.params.toList args.toList ds p := hA0
  rw [Tryd.params5] at hA hval
  obtain ⟨v0, vs0, d0, ds0, p0, q0, hargs, rfl, rfl, h0, r0⟩ := trodAll_cons hA
  obtain ⟨v1, vs1, d1, ds1, p1, q1, rfl, rfl, rfl, h1, r1⟩ := trodAll_cons r0
  obtain ⟨v2, vs2, d2, ds2, p2, q2, rfl, rfl, rfl, h2, r2⟩ := trodAll_cons r1
  obtain ⟨rfl, rfl, rfl⟩ := trodAll_nil r2
  obtain rfl : args = #[v0, v1, v2] := by cases args; simp_all
  obtain ⟨rfl, rfl⟩ := trodVars_none hV
  obtain ⟨l0, e0, o0⟩ := PT S.BV (n := 10) (t := 27) rfl rfl (hval 0 27 v0 rfl rfl) h0
  obtain ⟨x0, _, rfl, k0, x1, _, rfl, k1, rfl⟩ := e0
  obtain ⟨l1, e1, o1⟩ := PT S.BV (n := 10) (t := 34) rfl rfl (hval 1 34 v1 rfl rfl) h1
  obtain ⟨x2, _, rfl, k2, x3, _, rfl, k3, x4, _, rfl, k4, x5, _, rfl, k5, rfl⟩ := e1
  obtain ⟨as2, m2, k6, len2, le2, o2⟩ := Uj S.BV (n := 10) (t := 22) (ss := [.int .i64, .int .i64, .int .i64, .int .i64, .int .i64, .sl [.int .i64, .int .i64, .int .i64, .int .i64]]) rfl rfl (by rfl) (by decide) (hval 2 22 v2 rfl rfl) h2
  have hargs : B5 W.cell? S.A7.ps [v0, v1, v2] [x0, x1, x2, x3, x4, x5, .l as2, .i m2] := ⟨v0, _, [x0, x1], _, rfl, rfl, o0, ⟨v1, _, [x2, x3, x4, x5], _, rfl, rfl, o1, ⟨v2, _, [.l as2, .i m2], _, rfl, rfl, o2, ⟨rfl, rfl⟩⟩⟩⟩
  have g2 : ((m2 : Nat) : Int) ≤ 9223372036854775807 := by
    have e : maxLen = 9223372036854775807 := by decide
    omega
  have z2 : Day.L1.E8 ⟨.l as2, ((m2 : Nat) : Int)⟩ = true := Vd k6
  have f0 := FD k0
  have f1 := FD k1
  have f2 := FD k2
  have f3 := FD k3
  have f4 := FD k4
  have f5 := FD k5
  have hp : (S.Wx [x0, x1, x2, x3, x4, x5, .l as2, .i m2]).1 = true := by
    simp [S.Wx, gi, gb, gs, gv, ge, Day.ND.i64, Day.HB.i64, Day.Ws, Day.HB.a, f0, f1, f2, f3, f4, f5, g2, z2]
  have hTab : MJ Tryd.prog W := V0 hL
  refine (SO S.HI (fun _ => rfl) rfl hTab hargs (by rw [show S.A7.f = 5 from rfl, S.WC]; exact hp) (by rw [show S.A7.f = 5 from rfl, S.WC]; rfl)).mono fun e W2 ⟨he, UC⟩ => ?_
  subst he
  have b0 := Below.trod Seat.laidOut (by kernel_rfl) (of_decide_eq_true (by kernel_rfl)) h0 UC (fun x hx => by simpa using hW'.lt x (by simp [hx]))
  have b1 := Below.trod Seat.laidOut (by kernel_rfl) (of_decide_eq_true (by kernel_rfl)) h1 UC (fun x hx => by simpa using hW'.lt x (by simp [hx]))
  have b2 := Below.trod Seat.laidOut (by kernel_rfl) (of_decide_eq_true (by kernel_rfl)) h2 UC (fun x hx => by simpa using hW'.lt x (by simp [hx]))
  exact ⟨_, rfl, _, _, _, [], _, [], hW', trodAll_mk1 (shut_bool Tryd.underlying4 _), (trodAll_cons_mk b0 (trodAll_cons_mk b1 (trodAll_cons_mk b2 trodAll_mk0))), rfl, UC.frame _, fun h => by cases h⟩
def V1 (cs : Array Value) : Obj → Obj
  | .cells _ t frozen => .cells cs t frozen
  | o => o
noncomputable def Kr (os : Os) : World :=
  { World.holding Tryd.prog os ⟨#[], #[], []⟩ with heap := (((World.holding Tryd.prog os ⟨#[], #[], []⟩).heap.modify 0 (V1 (VZ (Rh 0)))).modify 1 (V1 (VZ (Rh 1)))).modify 2 (V1 (VZ (Rh 2))) }
theorem Ur (os : Os) : laidMet Tryd.prog Rows.tellTellsRow.laid ((Kr os).forCall (fun _ _ => 0) ⟨#[], #[.agg #[.int .i64 0, .int .i64 0], .agg #[.int .i64 0, .int .i64 0, .int .i64 0, .int .i64 0], .slice none 0 0], []⟩).memory :=
  laidMet_of_run' 8 (by kernel_rfl) (by kernel_rfl)
theorem reads (os : Os) {H : Type} (enc : TypeId × Value → H) : ∃ x, DataW.whole enc Tryd.prog ((Kr os).forCall (fun _ _ => 0) ⟨#[], #[.agg #[.int .i64 0, .int .i64 0], .agg #[.int .i64 0, .int .i64 0, .int .i64 0, .int .i64 0], .slice none 0 0], []⟩).memory Tryd.f5.params.toList Rows.tellTellsSpec.vars false (#[.agg #[.int .i64 0, .int .i64 0], .agg #[.int .i64 0, .int .i64 0, .int .i64 0, .int .i64 0], .slice none 0 0] : Array Value).toList 8 = some x :=
  Option.isSome_iff_exists.1 (by kernel_rfl)
set_option maxRecDepth 100000 in
theorem lifted (os : Os) (started : os.Started) (H : Type) (enc : TypeId × Value → H) (F : Stop.Interp) :
    ReturnsInHanded {} Tryd.checked os 5 .any ((OpenSpec.ofChange Rows.tellTellsSpec).preRow enc Tryd.prog Tryd.f5 Rows.tellTellsRow.domain false Rows.tellTellsRow.laid) (((OpenSpec.ofChange Rows.tellTellsSpec).at F).post enc Tryd.prog Tryd.f5 false true false false) := by
  obtain ⟨x, hx⟩ := reads os enc
  refine returnsInHanded_of_row (C := Tryd.checked) (s := OpenSpec.ofChange Rows.tellTellsSpec) own started (by kernel_rfl) Tryd.func5
    (witness_row_at (enc := enc) (C := Tryd.checked) false (Kr os) #[.agg #[.int .i64 0, .int .i64 0], .agg #[.int .i64 0, .int .i64 0, .int .i64 0, .int .i64 0], .slice none 0 0] rfl (by kernel_rfl) (by kernel_rfl) (by kernel_rfl)
      (OpenSpec.preRow_of_cond 8 hx (by kernel_rfl) (fun k hk => by cases hk) (by kernel_rfl) (Ur os))) ?_
  intro W base args ds gs before hval hW _ _ _ hL _ _
  exact Uq H enc W base args ds gs before hval hW hL
theorem said : Rows.TellTellsSaid :=
  OpenClaim.holds_of_cond 5 Tryd.f5 rfl rfl rfl rfl rfl rfl rfl ⟨rfl, rfl, rfl, rfl, rfl⟩ rfl rfl rfl rfl rfl (by kernel_rfl) Tryd.func5 (by kernel_rfl)
    (of_decide_eq_true (by kernel_rfl)) (by unfold Func.isWrapper; rw [if_neg (by decide +kernel)]; exact ⟨rfl, rfl⟩)
    (fun os started H enc _ F => by rw [OpenClaim.pre_eq_preRow]; exact lifted os started H enc F)
theorem plain (f : FuncId) (fn : Func) (hf : Tryd.pinned.checked.prog.funcNamed Rows.tellTellsRow.func = some f) (hfn : Tryd.pinned.checked.prog.funcs[f]? = some fn) :
    false = Tryd.pinned.checked.prog.looks [] ∧ ∀ (j : Nat) t, fn.params[j]? = some t → Tryd.pinned.checked.prog.wantsStandIn t = false := by
  obtain rfl : f = 5 := Option.some.inj ((show Tryd.prog.funcNamed Rows.tellTellsRow.func = some 5 by kernel_rfl).symm.trans hf) |>.symm
  obtain rfl : fn = Tryd.f5 := (Option.some.inj (Tryd.func5.symm.trans hfn)).symm
  refine ⟨by kernel_rfl, fun j t ht => ?_⟩
  rw [Tryd.params5] at ht
  have hm := Array.mem_of_getElem? ht
  have ha : ∀ t ∈ (#[27, 34, 22] : Array TypeId), Tryd.prog.wantsStandIn t = false := of_decide_eq_true (by kernel_rfl)
  exact ha t hm
theorem WD : Rows.TellTellsCardSaid :=
  Claim7.holds_tied_plain_at .later [] _ _ _ _ said (fun _ h => by cases h) (by kernel_rfl) (fun _ h => by cases h) tellTells_row_tie rfl ⟨rfl, rfl⟩ (by kernel_rfl) rfl plain (by kernel_rfl)
end Go.Proofs.YtmpinegdphkbjaaDoor.tellTells
namespace Go.Proofs.YtmpinegdphkbjaaDoor
/-- The WD, under a short name, for the claim. -/
theorem tellTells_holds : Rows.TellTellsCardSaid := tellTells.WD
end Go.Proofs.YtmpinegdphkbjaaDoor
