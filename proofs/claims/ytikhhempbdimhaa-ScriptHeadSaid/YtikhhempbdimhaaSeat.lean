/- The facts of the seat's program, as a whole, that every row asks: they stand, under no condition. -/
import Derived.Test.YtikhhempbdimhaaRows
import Derived.JoinedOf
import Derived.KernelRfl
namespace Go.Proofs.Ytikhhempbdimhaa.Seat
open Go
set_option maxRecDepth 100000
def signs (l : List Nat) : List Char := l.map Char.ofNat
def w0 : List Char := signs [104, 97, 114, 110, 101, 115, 115]
def w1 : List Char := signs [101, 50, 50, 102, 56, 48, 56, 49, 50, 98, 57, 101, 55, 97, 100, 51, 56, 52, 102, 55, 57, 54, 53, 52, 48, 53, 102, 56, 53, 102, 51, 48, 102, 57, 52, 98, 49, 50, 98, 54, 57, 98, 101, 49, 52, 48, 97, 53, 52, 52, 54, 57, 53, 51, 48, 49, 52, 101, 53, 56, 53, 52, 100, 98]
def w2 : List Char := signs [99, 117, 116]
def w3 : List Char := signs [97, 116, 32, 100, 97, 121, 98, 114, 101, 97, 107, 47, 100, 97, 121, 98, 114, 101, 97, 107, 108, 97, 119, 49, 56, 46, 83, 99, 114, 105, 112, 116, 82, 101, 97, 100, 115, 32, 100, 97, 121, 98, 114, 101, 97, 107, 47, 100, 97, 121, 98, 114, 101, 97, 107, 108, 97, 119, 49, 56, 46, 83, 99, 114, 105, 112, 116, 72, 101, 97, 100, 32, 100, 97, 121, 98, 114, 101, 97, 107, 47, 100, 97, 121, 98, 114, 101, 97, 107, 108, 97, 119, 49, 56, 46, 83, 99, 114, 105, 112, 116, 87, 114, 105, 116, 101, 115, 32, 100, 97, 121, 98, 114, 101, 97, 107, 47, 100, 97, 121, 98, 114, 101, 97, 107, 108, 97, 119, 49, 56, 46, 83, 99, 114, 105, 112, 116, 66, 97, 99, 107]
theorem words_at (r : List Char) : ∀ w : List Char, (w.all fun c => c != Char.ofNat 32) = true → wordsSigns (w ++ Char.ofNat 32 :: r) = w :: wordsSigns r
  | [], _ => rfl
  | c :: w, h => by
    rw [List.all_cons, Bool.and_eq_true] at h
    have ih := words_at r w h.2
    have hc : c ≠ Char.ofNat 32 := by simpa using h.1
    show wordsSigns (c :: (w ++ Char.ofNat 32 :: r)) = _
    rw [wordsSigns, ih]
    intro hh
    exact hc hh
theorem order : Try.prog.initOrder = String.ofList (w0 ++ Char.ofNat 32 :: (w1 ++ Char.ofNat 32 :: (w2 ++ Char.ofNat 32 :: w3))) := by kernel_rfl
theorem words : wordsSigns Try.prog.initOrder.toList = w0 :: w1 :: w2 :: wordsSigns w3 := by
  rw [order, String.toList_ofList, words_at _ w0 (by decide +kernel), words_at _ w1 (by decide +kernel), words_at _ w2 (by decide +kernel)]
theorem behind (r : List (List Char)) : behindMainWord (w0 :: w1 :: w2 :: r) = w2 :: r := by
  have h : ((w0 == "harness".toList || w0 == "ownmain".toList) && isSumSigns w1) = true := by decide +kernel
  simp only [behindMainWord, h, if_true]
theorem strip (r : List (List Char)) : ∀ l : List String, (l.all fun o => !(w2 == o.toList)) = true → stripLifts l (w2 :: r) = ([], w2 :: r)
  | [], _ => rfl
  | o :: l, h => by
    rw [List.all_cons, Bool.and_eq_true] at h
    have h1 : (w2 == o.toList) = false := by simpa using h.1
    rw [stripLifts, if_neg (by rw [h1]; decide), strip r l h.2]
theorem stripped (r : List (List Char)) : stripLifts liftWords (w2 :: r) = ([], w2 :: r) := strip r _ (by decide +kernel)
theorem isCut : w2 = "cut".toList := by decide +kernel
theorem notGc : (w2 == "gc".toList) = false := by decide +kernel
theorem notSpec : (w2 == "spec".toList) = false := by decide +kernel
theorem notCarried : (w2 == "carried".toList) = false := by decide +kernel
theorem notFinals : (w2 == "finals".toList) = false := by decide +kernel
theorem headIs (r : List (List Char)) : (List.head? (w2 :: r) == some "cut".toList) = true := by rw [isCut]; rfl
theorem headNot (r : List (List Char)) : (List.head? (w2 :: r) == some "carried".toList) = false := by
  show (some w2 == some "carried".toList) = false
  exact notCarried
theorem laysNothing : Try.prog.laysLater = false := by kernel_rfl
theorem noReflect : Try.prog.bearsReflect = false := by kernel_rfl
theorem door : Try.prog.doorFits [] = true := by kernel_rfl
theorem enter_of {P : Program} {r : List (List Char)} (hw : wordsSigns P.initOrder.toList = w0 :: w1 :: w2 :: r) (h1 : P.laysLater = false) (h2 : P.bearsReflect = false) (h3 : P.doorFits [] = true) : P.mayEnter = true := by
  unfold Program.mayEnter
  rw [hw, behind]
  dsimp only
  rw [stripped, headIs, notGc, notSpec, notCarried, h1, h2]
  simp only [h3, List.contains_nil, Bool.not_false, Bool.or_true, Bool.and_true, Bool.or_false, Bool.false_and]
theorem headLifts_of {P : Program} {r : List (List Char)} (hw : wordsSigns P.initOrder.toList = w0 :: w1 :: w2 :: r) : P.headLifts = [] := by
  unfold Program.headLifts
  rw [hw, behind]
  dsimp only
  rw [stripped]
  split <;> rfl
theorem lifts_of {P : Program} {r : List (List Char)} (hw : wordsSigns P.initOrder.toList = w0 :: w1 :: w2 :: r) : P.liftsFinal = false := by
  unfold Program.liftsFinal
  rw [hw, behind, headLifts_of hw]
  dsimp only
  rw [headNot]
  simp only [Bool.false_and, Bool.false_or, List.contains_nil]
theorem made_of {P : Program} {r : List (List Char)} (hw : wordsSigns P.initOrder.toList = w0 :: w1 :: w2 :: r) : P.make = some .cut := by
  unfold Program.make
  rw [hw, behind]
  dsimp only
  have h : (w2 == "cut".toList) = true := by rw [isCut]; exact beq_self_eq_true _
  rw [notGc, notSpec, h]
  simp only [Bool.or_false, Bool.true_or, Bool.false_eq_true, if_false, if_true]
theorem enter : Try.prog.mayEnter = true := enter_of words laysNothing noReflect door
theorem lifts : Try.prog.liftsFinal = false := lifts_of words
theorem made : Try.prog.make = some .cut := made_of words
theorem laidOut : laidOutB Try.prog = true := by kernel_rfl
theorem rowed : mapsRowed Try.prog = true := by kernel_rfl
theorem heard : Try.prog.stopsHeard = true := by kernel_rfl
theorem keys : true = Try.prog.plainKeys := by kernel_rfl
/-- a row's facts, but for those of the program as a whole -/
theorem facts {P : Program} (enter : P.mayEnter = true) (lifts : P.liftsFinal = false) (made : P.make = some .cut) (laid : laidOutB P = true) (rowed : mapsRowed P = true) (heard : P.stopsHeard = true)
    (f : FuncId) (fn : Func) (s : ChangeSpec) (c : OpenClaim) (keys : c.plainKeys = P.plainKeys)
    (h1 : (c.wf (OpenSpec.ofChange s) && fn.params.all (P.readableRec ·) && namedTie P c.named s.vars &&
      (c.stops == []) && (P.stops == []) && (c.knobs == []) && (P.stopKnobs == [])) = true)
    (h2 : ((c.inPlace == P.inPlace f) && (c.unfollowed == P.unfollowed f)) = true) (h3 : ((c.recurses == P.recurses f) && (c.named == P.varsNamed f)) = true)
    (h4 : ((c.maps == (fn.params.toList ++ s.plain.varTypes P).any (P.mapsRec ·)) && (c.ifaces == (fn.params.toList ++ s.plain.varTypes P).any (P.ifacesRec ·)) && (c.mapsOut == P.mapsAmong fn.resultTypes.toList)) = true)
    (h5 : ((c.loops == (fn.params.toList ++ s.plain.varTypes P).any (P.loopsFrom ·)) && (c.wideKeys == (fn.params.toList ++ s.plain.varTypes P ++ fn.resultTypes.toList).any (P.wideKeysFrom ·))) = true)
    (h6 : (s.vars.all (P.varReadable ·) && fn.resultTypes.all (fun t => P.readableRec t && decide (t < P.types.size)) && (c.ifacesOut == fn.resultTypes.toList.any (P.ifacesRec ·)) && (c.loopsOut == fn.resultTypes.toList.any (P.loopsFrom ·)) && c.shortTexts.isNone) = true)
    (h7 : ((c.lifted == false) && (some Make.cut == some c.make) && (c.kinds == (if c.domain.isEmpty then [] else fn.params.toList.map fun t => match P.underlying t with | some (.int k) => some k | _ => none)) && (c.pinned == c.pinnedBy)) = true)
    (h8 : ((c.veiled == (fn.params.toList ++ s.plain.varTypes P ++ fn.resultTypes.toList).any (P.veiledRec ·)) && c.veiledFits P fn.params.toList (fn.params.toList ++ s.plain.varTypes P ++ fn.resultTypes.toList)) = true) :
    joinedFacts P f fn s c = true := by
  unfold joinedFacts
  rw [enter, lifts, made, laid, rowed, heard]
  simp only [Bool.and_eq_true] at h1 h2 h3 h4 h5 h6 h7 h8 ⊢
  obtain ⟨⟨⟨⟨⟨⟨a1, a2⟩, a3⟩, a4⟩, a5⟩, a6⟩, a7⟩ := h1
  obtain ⟨b1, b2⟩ := h2
  obtain ⟨c1, c2⟩ := h3
  obtain ⟨⟨d1, d2⟩, d3⟩ := h4
  obtain ⟨e1, e2⟩ := h5
  obtain ⟨⟨⟨⟨f1, f2⟩, f3⟩, f4⟩, f5⟩ := h6
  obtain ⟨⟨⟨g1, g2⟩, g3⟩, g4⟩ := h7
  obtain ⟨i1, i2⟩ := h8
  have k : (c.plainKeys == P.plainKeys) = true := by rw [keys]; exact beq_self_eq_true _
  and_intros <;> first | assumption | trivial
end Go.Proofs.Ytikhhempbdimhaa.Seat
