/-
  No cell of these rows narrows 'for every input' (looked for: loops, veiled, ifaces, maps, wideKeys, modest, calm, conditions, laid).
  DERIVED. THE GIVEN ROWS OF THIS SEAT. 29 by the template 'for every input the law returns true; each argument reads behind the call as it read before'; 0 by the template 'total and deterministic' (their statements: YtjipnabidebgbaaTotals.lean).
  GIVEN WITH THE SEED: the statements are not yours to turn. If you find one false, say at which input.
  Laid BY PROGRAM, IN A SANDBOX (cutbox-rows.mjs): the forced cells as the released guide's own fill.sh prints them over the translation feaa94bd1d89bea2… (all of the seat's roots in one cut). By AI agents, Wed Nov 11 2026. No macro, syntax, notation, axiom, sorry.
-/
import Derived.Test.YtjipnabidebgbaaChecked
import GoSem.Claim
import GoSem.ClaimJoined
import GoSem.ClaimMapViews
import Derived.JoinedTies
import Derived.KernelRfl
namespace Go.Proofs.Ytjipnabidebgbaa
/- THE CELL 'sum', in the pinned program and in every row, IS THE sha256 OF THE DUMP (.gsa) THAT YtjipnabidebgbaaProg.lean LOADS. Nothing in Lean hashes anything: it is a label: what it is worth is what the hold of that sum in a sandbox is worth. -/
noncomputable def Try.pinned : Pinned := { name := "ytjipnabidebgbaa", sum := "feaa94bd1d89bea2906fd86f2872f4db8995eaecbb7ed63f1f871f32a589ee54", checked := Try.checked }
namespace Rows
def none {H : Type} : Left H := { results := [], args := [] }

/-- 'daybreaklaw05.RingTells': WHATEVER THE INPUT: true; the input reads as it did. -/
def ringTellsSpec : ChangeSpec := { name := "ringTells", fn := fun _ => fun
  | [d] => { results := [.lit (.bool true)], args := [d] }
  | _ => none }
def ringTellsRow : OpenClaim := { program := "ytjipnabidebgbaa", sum := "feaa94bd1d89bea2906fd86f2872f4db8995eaecbb7ed63f1f871f32a589ee54", func := "daybreak/daybreaklaw05.RingTells", spec := "ringTells", apart := false }
def RingTellsSaid : Prop := ringTellsRow.holds Try.pinned (OpenSpec.ofChange ringTellsSpec)

/-- ITS FALSE NEIGHBOUR: 'it returns false'. Refute it at one input. -/
def ringTellsWrong : ChangeSpec := { name := "ringTells", fn := fun _ => fun
  | [d] => { results := [.lit (.bool false)], args := [d] }
  | _ => none }
def RingTellsWrongFalsely : Prop := ringTellsRow.holds Try.pinned (OpenSpec.ofChange ringTellsWrong)

/-- 'daybreaklaw05.RingBack': WHATEVER THE INPUT: true; the input reads as it did. -/
def ringBackSpec : ChangeSpec := { name := "ringBack", fn := fun _ => fun
  | [d] => { results := [.lit (.bool true)], args := [d] }
  | _ => none }
def ringBackRow : OpenClaim := { program := "ytjipnabidebgbaa", sum := "feaa94bd1d89bea2906fd86f2872f4db8995eaecbb7ed63f1f871f32a589ee54", func := "daybreak/daybreaklaw05.RingBack", spec := "ringBack", apart := false }
def RingBackSaid : Prop := ringBackRow.holds Try.pinned (OpenSpec.ofChange ringBackSpec)

/-- ITS FALSE NEIGHBOUR: 'it returns false'. Refute it at one input. -/
def ringBackWrong : ChangeSpec := { name := "ringBack", fn := fun _ => fun
  | [d] => { results := [.lit (.bool false)], args := [d] }
  | _ => none }
def RingBackWrongFalsely : Prop := ringBackRow.holds Try.pinned (OpenSpec.ofChange ringBackWrong)

/-- 'daybreaklaw03.ConfUnlike': WHATEVER THE INPUT: true; the input reads as it did. -/
def confUnlikeSpec : ChangeSpec := { name := "confUnlike", fn := fun _ => fun
  | [d1, d2, d3] => { results := [.lit (.bool true)], args := [d1, d2, d3] }
  | _ => none }
def confUnlikeRow : OpenClaim := { program := "ytjipnabidebgbaa", sum := "feaa94bd1d89bea2906fd86f2872f4db8995eaecbb7ed63f1f871f32a589ee54", func := "daybreak/daybreaklaw03.ConfUnlike", spec := "confUnlike", apart := false }
def ConfUnlikeSaid : Prop := confUnlikeRow.holds Try.pinned (OpenSpec.ofChange confUnlikeSpec)

/-- ITS FALSE NEIGHBOUR: 'it returns false'. Refute it at one input. -/
def confUnlikeWrong : ChangeSpec := { name := "confUnlike", fn := fun _ => fun
  | [d1, d2, d3] => { results := [.lit (.bool false)], args := [d1, d2, d3] }
  | _ => none }
def ConfUnlikeWrongFalsely : Prop := confUnlikeRow.holds Try.pinned (OpenSpec.ofChange confUnlikeWrong)

/-- 'daybreaklaw03.ConfTells': WHATEVER THE INPUT: true; the input reads as it did. -/
def confTellsSpec : ChangeSpec := { name := "confTells", fn := fun _ => fun
  | [d1, d2] => { results := [.lit (.bool true)], args := [d1, d2] }
  | _ => none }
def confTellsRow : OpenClaim := { program := "ytjipnabidebgbaa", sum := "feaa94bd1d89bea2906fd86f2872f4db8995eaecbb7ed63f1f871f32a589ee54", func := "daybreak/daybreaklaw03.ConfTells", spec := "confTells", apart := false }
def ConfTellsSaid : Prop := confTellsRow.holds Try.pinned (OpenSpec.ofChange confTellsSpec)

/-- ITS FALSE NEIGHBOUR: 'it returns false'. Refute it at one input. -/
def confTellsWrong : ChangeSpec := { name := "confTells", fn := fun _ => fun
  | [d1, d2] => { results := [.lit (.bool false)], args := [d1, d2] }
  | _ => none }
def ConfTellsWrongFalsely : Prop := confTellsRow.holds Try.pinned (OpenSpec.ofChange confTellsWrong)

/-- 'daybreaklaw06.NodeTells': WHATEVER THE INPUT: true; the input reads as it did. -/
def nodeTellsSpec : ChangeSpec := { name := "nodeTells", fn := fun _ => fun
  | [d1, d2, d3] => { results := [.lit (.bool true)], args := [d1, d2, d3] }
  | _ => none }
def nodeTellsRow : OpenClaim := { program := "ytjipnabidebgbaa", sum := "feaa94bd1d89bea2906fd86f2872f4db8995eaecbb7ed63f1f871f32a589ee54", func := "daybreak/daybreaklaw06.NodeTells", spec := "nodeTells", apart := false }
def NodeTellsSaid : Prop := nodeTellsRow.holds Try.pinned (OpenSpec.ofChange nodeTellsSpec)

/-- ITS FALSE NEIGHBOUR: 'it returns false'. Refute it at one input. -/
def nodeTellsWrong : ChangeSpec := { name := "nodeTells", fn := fun _ => fun
  | [d1, d2, d3] => { results := [.lit (.bool false)], args := [d1, d2, d3] }
  | _ => none }
def NodeTellsWrongFalsely : Prop := nodeTellsRow.holds Try.pinned (OpenSpec.ofChange nodeTellsWrong)

/-- 'daybreaklaw06.NodeClean': WHATEVER THE INPUT: true; the input reads as it did. -/
def nodeCleanSpec : ChangeSpec := { name := "nodeClean", fn := fun _ => fun
  | [d1, d2, d3] => { results := [.lit (.bool true)], args := [d1, d2, d3] }
  | _ => none }
def nodeCleanRow : OpenClaim := { program := "ytjipnabidebgbaa", sum := "feaa94bd1d89bea2906fd86f2872f4db8995eaecbb7ed63f1f871f32a589ee54", func := "daybreak/daybreaklaw06.NodeClean", spec := "nodeClean", apart := false }
def NodeCleanSaid : Prop := nodeCleanRow.holds Try.pinned (OpenSpec.ofChange nodeCleanSpec)

/-- ITS FALSE NEIGHBOUR: 'it returns false'. Refute it at one input. -/
def nodeCleanWrong : ChangeSpec := { name := "nodeClean", fn := fun _ => fun
  | [d1, d2, d3] => { results := [.lit (.bool false)], args := [d1, d2, d3] }
  | _ => none }
def NodeCleanWrongFalsely : Prop := nodeCleanRow.holds Try.pinned (OpenSpec.ofChange nodeCleanWrong)

/-- 'daybreaklaw15.FaultNone': WHATEVER THE INPUT: true; the input reads as it did. -/
def faultNoneSpec : ChangeSpec := { name := "faultNone", fn := fun _ => fun
  | [d] => { results := [.lit (.bool true)], args := [d] }
  | _ => none }
def faultNoneRow : OpenClaim := { program := "ytjipnabidebgbaa", sum := "feaa94bd1d89bea2906fd86f2872f4db8995eaecbb7ed63f1f871f32a589ee54", func := "daybreak/daybreaklaw15.FaultNone", spec := "faultNone", apart := false }
def FaultNoneSaid : Prop := faultNoneRow.holds Try.pinned (OpenSpec.ofChange faultNoneSpec)

/-- ITS FALSE NEIGHBOUR: 'it returns false'. Refute it at one input. -/
def faultNoneWrong : ChangeSpec := { name := "faultNone", fn := fun _ => fun
  | [d] => { results := [.lit (.bool false)], args := [d] }
  | _ => none }
def FaultNoneWrongFalsely : Prop := faultNoneRow.holds Try.pinned (OpenSpec.ofChange faultNoneWrong)

/-- 'daybreaklaw15.FaultTells': WHATEVER THE INPUT: true; the input reads as it did. -/
def faultTellsSpec : ChangeSpec := { name := "faultTells", fn := fun _ => fun
  | [d] => { results := [.lit (.bool true)], args := [d] }
  | _ => none }
def faultTellsRow : OpenClaim := { program := "ytjipnabidebgbaa", sum := "feaa94bd1d89bea2906fd86f2872f4db8995eaecbb7ed63f1f871f32a589ee54", func := "daybreak/daybreaklaw15.FaultTells", spec := "faultTells", apart := false }
def FaultTellsSaid : Prop := faultTellsRow.holds Try.pinned (OpenSpec.ofChange faultTellsSpec)

/-- ITS FALSE NEIGHBOUR: 'it returns false'. Refute it at one input. -/
def faultTellsWrong : ChangeSpec := { name := "faultTells", fn := fun _ => fun
  | [d] => { results := [.lit (.bool false)], args := [d] }
  | _ => none }
def FaultTellsWrongFalsely : Prop := faultTellsRow.holds Try.pinned (OpenSpec.ofChange faultTellsWrong)

/-- 'daybreaklaw08.SayTells': WHATEVER THE INPUT: true; the input reads as it did. -/
def sayTellsSpec : ChangeSpec := { name := "sayTells", fn := fun _ => fun
  | [d1, d2] => { results := [.lit (.bool true)], args := [d1, d2] }
  | _ => none }
def sayTellsRow : OpenClaim := { program := "ytjipnabidebgbaa", sum := "feaa94bd1d89bea2906fd86f2872f4db8995eaecbb7ed63f1f871f32a589ee54", func := "daybreak/daybreaklaw08.SayTells", spec := "sayTells", unfollowed := true, recurses := true, apart := false }
def SayTellsSaid : Prop := sayTellsRow.holds Try.pinned (OpenSpec.ofChange sayTellsSpec)

/-- ITS FALSE NEIGHBOUR: 'it returns false'. Refute it at one input. -/
def sayTellsWrong : ChangeSpec := { name := "sayTells", fn := fun _ => fun
  | [d1, d2] => { results := [.lit (.bool false)], args := [d1, d2] }
  | _ => none }
def SayTellsWrongFalsely : Prop := sayTellsRow.holds Try.pinned (OpenSpec.ofChange sayTellsWrong)

/-- 'daybreaklaw08.SayOwn': WHATEVER THE INPUT: true; the input reads as it did. -/
def sayOwnSpec : ChangeSpec := { name := "sayOwn", fn := fun _ => fun
  | [d1, d2] => { results := [.lit (.bool true)], args := [d1, d2] }
  | _ => none }
def sayOwnRow : OpenClaim := { program := "ytjipnabidebgbaa", sum := "feaa94bd1d89bea2906fd86f2872f4db8995eaecbb7ed63f1f871f32a589ee54", func := "daybreak/daybreaklaw08.SayOwn", spec := "sayOwn", unfollowed := true, recurses := true, apart := false }
def SayOwnSaid : Prop := sayOwnRow.holds Try.pinned (OpenSpec.ofChange sayOwnSpec)

/-- ITS FALSE NEIGHBOUR: 'it returns false'. Refute it at one input. -/
def sayOwnWrong : ChangeSpec := { name := "sayOwn", fn := fun _ => fun
  | [d1, d2] => { results := [.lit (.bool false)], args := [d1, d2] }
  | _ => none }
def SayOwnWrongFalsely : Prop := sayOwnRow.holds Try.pinned (OpenSpec.ofChange sayOwnWrong)

/-- 'daybreaklaw08.SaySooner': WHATEVER THE INPUT: true; the input reads as it did. -/
def saySoonerSpec : ChangeSpec := { name := "saySooner", fn := fun _ => fun
  | [d1, d2] => { results := [.lit (.bool true)], args := [d1, d2] }
  | _ => none }
def saySoonerRow : OpenClaim := { program := "ytjipnabidebgbaa", sum := "feaa94bd1d89bea2906fd86f2872f4db8995eaecbb7ed63f1f871f32a589ee54", func := "daybreak/daybreaklaw08.SaySooner", spec := "saySooner", unfollowed := true, recurses := true, apart := false }
def SaySoonerSaid : Prop := saySoonerRow.holds Try.pinned (OpenSpec.ofChange saySoonerSpec)

/-- ITS FALSE NEIGHBOUR: 'it returns false'. Refute it at one input. -/
def saySoonerWrong : ChangeSpec := { name := "saySooner", fn := fun _ => fun
  | [d1, d2] => { results := [.lit (.bool false)], args := [d1, d2] }
  | _ => none }
def SaySoonerWrongFalsely : Prop := saySoonerRow.holds Try.pinned (OpenSpec.ofChange saySoonerWrong)

/-- 'daybreaklaw11.VoteEnds': WHATEVER THE INPUT: true; the input reads as it did. -/
def voteEndsSpec : ChangeSpec := { name := "voteEnds", fn := fun _ => fun
  | [d1, d2] => { results := [.lit (.bool true)], args := [d1, d2] }
  | _ => none }
def voteEndsRow : OpenClaim := { program := "ytjipnabidebgbaa", sum := "feaa94bd1d89bea2906fd86f2872f4db8995eaecbb7ed63f1f871f32a589ee54", func := "daybreak/daybreaklaw11.VoteEnds", spec := "voteEnds", apart := false }
def VoteEndsSaid : Prop := voteEndsRow.holds Try.pinned (OpenSpec.ofChange voteEndsSpec)

/-- ITS FALSE NEIGHBOUR: 'it returns false'. Refute it at one input. -/
def voteEndsWrong : ChangeSpec := { name := "voteEnds", fn := fun _ => fun
  | [d1, d2] => { results := [.lit (.bool false)], args := [d1, d2] }
  | _ => none }
def VoteEndsWrongFalsely : Prop := voteEndsRow.holds Try.pinned (OpenSpec.ofChange voteEndsWrong)

/-- 'daybreaklaw11.VoteTells': WHATEVER THE INPUT: true; the input reads as it did. -/
def voteTellsSpec : ChangeSpec := { name := "voteTells", fn := fun _ => fun
  | [d1, d2, d3] => { results := [.lit (.bool true)], args := [d1, d2, d3] }
  | _ => none }
def voteTellsRow : OpenClaim := { program := "ytjipnabidebgbaa", sum := "feaa94bd1d89bea2906fd86f2872f4db8995eaecbb7ed63f1f871f32a589ee54", func := "daybreak/daybreaklaw11.VoteTells", spec := "voteTells", apart := false }
def VoteTellsSaid : Prop := voteTellsRow.holds Try.pinned (OpenSpec.ofChange voteTellsSpec)

/-- ITS FALSE NEIGHBOUR: 'it returns false'. Refute it at one input. -/
def voteTellsWrong : ChangeSpec := { name := "voteTells", fn := fun _ => fun
  | [d1, d2, d3] => { results := [.lit (.bool false)], args := [d1, d2, d3] }
  | _ => none }
def VoteTellsWrongFalsely : Prop := voteTellsRow.holds Try.pinned (OpenSpec.ofChange voteTellsWrong)

/-- 'daybreaklaw11.VoteFew': WHATEVER THE INPUT: true; the input reads as it did. -/
def voteFewSpec : ChangeSpec := { name := "voteFew", fn := fun _ => fun
  | [d1, d2] => { results := [.lit (.bool true)], args := [d1, d2] }
  | _ => none }
def voteFewRow : OpenClaim := { program := "ytjipnabidebgbaa", sum := "feaa94bd1d89bea2906fd86f2872f4db8995eaecbb7ed63f1f871f32a589ee54", func := "daybreak/daybreaklaw11.VoteFew", spec := "voteFew", apart := false }
def VoteFewSaid : Prop := voteFewRow.holds Try.pinned (OpenSpec.ofChange voteFewSpec)

/-- ITS FALSE NEIGHBOUR: 'it returns false'. Refute it at one input. -/
def voteFewWrong : ChangeSpec := { name := "voteFew", fn := fun _ => fun
  | [d1, d2] => { results := [.lit (.bool false)], args := [d1, d2] }
  | _ => none }
def VoteFewWrongFalsely : Prop := voteFewRow.holds Try.pinned (OpenSpec.ofChange voteFewWrong)

/-- 'daybreaklaw12.GateHolds': WHATEVER THE INPUT: true; the input reads as it did. -/
def gateHoldsSpec : ChangeSpec := { name := "gateHolds", fn := fun _ => fun
  | [d1, d2, d3] => { results := [.lit (.bool true)], args := [d1, d2, d3] }
  | _ => none }
def gateHoldsRow : OpenClaim := { program := "ytjipnabidebgbaa", sum := "feaa94bd1d89bea2906fd86f2872f4db8995eaecbb7ed63f1f871f32a589ee54", func := "daybreak/daybreaklaw12.GateHolds", spec := "gateHolds", unfollowed := true, recurses := true, apart := false }
def GateHoldsSaid : Prop := gateHoldsRow.holds Try.pinned (OpenSpec.ofChange gateHoldsSpec)

/-- ITS FALSE NEIGHBOUR: 'it returns false'. Refute it at one input. -/
def gateHoldsWrong : ChangeSpec := { name := "gateHolds", fn := fun _ => fun
  | [d1, d2, d3] => { results := [.lit (.bool false)], args := [d1, d2, d3] }
  | _ => none }
def GateHoldsWrongFalsely : Prop := gateHoldsRow.holds Try.pinned (OpenSpec.ofChange gateHoldsWrong)

/-- 'daybreaklaw12.GateSettles': WHATEVER THE INPUT: true; the input reads as it did. -/
def gateSettlesSpec : ChangeSpec := { name := "gateSettles", fn := fun _ => fun
  | [d1, d2] => { results := [.lit (.bool true)], args := [d1, d2] }
  | _ => none }
def gateSettlesRow : OpenClaim := { program := "ytjipnabidebgbaa", sum := "feaa94bd1d89bea2906fd86f2872f4db8995eaecbb7ed63f1f871f32a589ee54", func := "daybreak/daybreaklaw12.GateSettles", spec := "gateSettles", unfollowed := true, recurses := true, apart := false }
def GateSettlesSaid : Prop := gateSettlesRow.holds Try.pinned (OpenSpec.ofChange gateSettlesSpec)

/-- ITS FALSE NEIGHBOUR: 'it returns false'. Refute it at one input. -/
def gateSettlesWrong : ChangeSpec := { name := "gateSettles", fn := fun _ => fun
  | [d1, d2] => { results := [.lit (.bool false)], args := [d1, d2] }
  | _ => none }
def GateSettlesWrongFalsely : Prop := gateSettlesRow.holds Try.pinned (OpenSpec.ofChange gateSettlesWrong)

/-- 'daybreaklaw12.GateTells': WHATEVER THE INPUT: true; the input reads as it did. -/
def gateTellsSpec : ChangeSpec := { name := "gateTells", fn := fun _ => fun
  | [d1, d2, d3] => { results := [.lit (.bool true)], args := [d1, d2, d3] }
  | _ => none }
def gateTellsRow : OpenClaim := { program := "ytjipnabidebgbaa", sum := "feaa94bd1d89bea2906fd86f2872f4db8995eaecbb7ed63f1f871f32a589ee54", func := "daybreak/daybreaklaw12.GateTells", spec := "gateTells", unfollowed := true, recurses := true, apart := false }
def GateTellsSaid : Prop := gateTellsRow.holds Try.pinned (OpenSpec.ofChange gateTellsSpec)

/-- ITS FALSE NEIGHBOUR: 'it returns false'. Refute it at one input. -/
def gateTellsWrong : ChangeSpec := { name := "gateTells", fn := fun _ => fun
  | [d1, d2, d3] => { results := [.lit (.bool false)], args := [d1, d2, d3] }
  | _ => none }
def GateTellsWrongFalsely : Prop := gateTellsRow.holds Try.pinned (OpenSpec.ofChange gateTellsWrong)

/-- 'daybreaklaw12.GateNotes': WHATEVER THE INPUT: true; the input reads as it did. -/
def gateNotesSpec : ChangeSpec := { name := "gateNotes", fn := fun _ => fun
  | [d1, d2, d3] => { results := [.lit (.bool true)], args := [d1, d2, d3] }
  | _ => none }
def gateNotesRow : OpenClaim := { program := "ytjipnabidebgbaa", sum := "feaa94bd1d89bea2906fd86f2872f4db8995eaecbb7ed63f1f871f32a589ee54", func := "daybreak/daybreaklaw12.GateNotes", spec := "gateNotes", unfollowed := true, recurses := true, apart := false }
def GateNotesSaid : Prop := gateNotesRow.holds Try.pinned (OpenSpec.ofChange gateNotesSpec)

/-- ITS FALSE NEIGHBOUR: 'it returns false'. Refute it at one input. -/
def gateNotesWrong : ChangeSpec := { name := "gateNotes", fn := fun _ => fun
  | [d1, d2, d3] => { results := [.lit (.bool false)], args := [d1, d2, d3] }
  | _ => none }
def GateNotesWrongFalsely : Prop := gateNotesRow.holds Try.pinned (OpenSpec.ofChange gateNotesWrong)

/-- 'daybreaklaw09.ActRight': WHATEVER THE INPUT: true; the input reads as it did. -/
def actRightSpec : ChangeSpec := { name := "actRight", fn := fun _ => fun
  | [d1, d2, d3] => { results := [.lit (.bool true)], args := [d1, d2, d3] }
  | _ => none }
def actRightRow : OpenClaim := { program := "ytjipnabidebgbaa", sum := "feaa94bd1d89bea2906fd86f2872f4db8995eaecbb7ed63f1f871f32a589ee54", func := "daybreak/daybreaklaw09.ActRight", spec := "actRight", unfollowed := true, recurses := true, apart := false }
def ActRightSaid : Prop := actRightRow.holds Try.pinned (OpenSpec.ofChange actRightSpec)

/-- ITS FALSE NEIGHBOUR: 'it returns false'. Refute it at one input. -/
def actRightWrong : ChangeSpec := { name := "actRight", fn := fun _ => fun
  | [d1, d2, d3] => { results := [.lit (.bool false)], args := [d1, d2, d3] }
  | _ => none }
def ActRightWrongFalsely : Prop := actRightRow.holds Try.pinned (OpenSpec.ofChange actRightWrong)

/-- 'daybreaklaw09.ActAgree': WHATEVER THE INPUT: true; the input reads as it did. -/
def actAgreeSpec : ChangeSpec := { name := "actAgree", fn := fun _ => fun
  | [d] => { results := [.lit (.bool true)], args := [d] }
  | _ => none }
def actAgreeRow : OpenClaim := { program := "ytjipnabidebgbaa", sum := "feaa94bd1d89bea2906fd86f2872f4db8995eaecbb7ed63f1f871f32a589ee54", func := "daybreak/daybreaklaw09.ActAgree", spec := "actAgree", unfollowed := true, recurses := true, apart := false }
def ActAgreeSaid : Prop := actAgreeRow.holds Try.pinned (OpenSpec.ofChange actAgreeSpec)

/-- ITS FALSE NEIGHBOUR: 'it returns false'. Refute it at one input. -/
def actAgreeWrong : ChangeSpec := { name := "actAgree", fn := fun _ => fun
  | [d] => { results := [.lit (.bool false)], args := [d] }
  | _ => none }
def ActAgreeWrongFalsely : Prop := actAgreeRow.holds Try.pinned (OpenSpec.ofChange actAgreeWrong)

/-- 'daybreaklaw09.ActTells': WHATEVER THE INPUT: true; the input reads as it did. -/
def actTellsSpec : ChangeSpec := { name := "actTells", fn := fun _ => fun
  | [d] => { results := [.lit (.bool true)], args := [d] }
  | _ => none }
def actTellsRow : OpenClaim := { program := "ytjipnabidebgbaa", sum := "feaa94bd1d89bea2906fd86f2872f4db8995eaecbb7ed63f1f871f32a589ee54", func := "daybreak/daybreaklaw09.ActTells", spec := "actTells", unfollowed := true, recurses := true, apart := false }
def ActTellsSaid : Prop := actTellsRow.holds Try.pinned (OpenSpec.ofChange actTellsSpec)

/-- ITS FALSE NEIGHBOUR: 'it returns false'. Refute it at one input. -/
def actTellsWrong : ChangeSpec := { name := "actTells", fn := fun _ => fun
  | [d] => { results := [.lit (.bool false)], args := [d] }
  | _ => none }
def ActTellsWrongFalsely : Prop := actTellsRow.holds Try.pinned (OpenSpec.ofChange actTellsWrong)

/-- 'daybreaklaw09.ActQuiet': WHATEVER THE INPUT: true; the input reads as it did. -/
def actQuietSpec : ChangeSpec := { name := "actQuiet", fn := fun _ => fun
  | [d] => { results := [.lit (.bool true)], args := [d] }
  | _ => none }
def actQuietRow : OpenClaim := { program := "ytjipnabidebgbaa", sum := "feaa94bd1d89bea2906fd86f2872f4db8995eaecbb7ed63f1f871f32a589ee54", func := "daybreak/daybreaklaw09.ActQuiet", spec := "actQuiet", unfollowed := true, recurses := true, apart := false }
def ActQuietSaid : Prop := actQuietRow.holds Try.pinned (OpenSpec.ofChange actQuietSpec)

/-- ITS FALSE NEIGHBOUR: 'it returns false'. Refute it at one input. -/
def actQuietWrong : ChangeSpec := { name := "actQuiet", fn := fun _ => fun
  | [d] => { results := [.lit (.bool false)], args := [d] }
  | _ => none }
def ActQuietWrongFalsely : Prop := actQuietRow.holds Try.pinned (OpenSpec.ofChange actQuietWrong)

/-- 'daybreaklaw13.HubApart': WHATEVER THE INPUT: true; the input reads as it did. -/
def hubApartSpec : ChangeSpec := { name := "hubApart", fn := fun _ => fun
  | [d1, d2, d3] => { results := [.lit (.bool true)], args := [d1, d2, d3] }
  | _ => none }
def hubApartRow : OpenClaim := { program := "ytjipnabidebgbaa", sum := "feaa94bd1d89bea2906fd86f2872f4db8995eaecbb7ed63f1f871f32a589ee54", func := "daybreak/daybreaklaw13.HubApart", spec := "hubApart", unfollowed := true, recurses := true, apart := false }
def HubApartSaid : Prop := hubApartRow.holds Try.pinned (OpenSpec.ofChange hubApartSpec)

/-- ITS FALSE NEIGHBOUR: 'it returns false'. Refute it at one input. -/
def hubApartWrong : ChangeSpec := { name := "hubApart", fn := fun _ => fun
  | [d1, d2, d3] => { results := [.lit (.bool false)], args := [d1, d2, d3] }
  | _ => none }
def HubApartWrongFalsely : Prop := hubApartRow.holds Try.pinned (OpenSpec.ofChange hubApartWrong)

/-- 'daybreaklaw13.HubHolds': WHATEVER THE INPUT: true; the input reads as it did. -/
def hubHoldsSpec : ChangeSpec := { name := "hubHolds", fn := fun _ => fun
  | [d] => { results := [.lit (.bool true)], args := [d] }
  | _ => none }
def hubHoldsRow : OpenClaim := { program := "ytjipnabidebgbaa", sum := "feaa94bd1d89bea2906fd86f2872f4db8995eaecbb7ed63f1f871f32a589ee54", func := "daybreak/daybreaklaw13.HubHolds", spec := "hubHolds", unfollowed := true, recurses := true, apart := false }
def HubHoldsSaid : Prop := hubHoldsRow.holds Try.pinned (OpenSpec.ofChange hubHoldsSpec)

/-- ITS FALSE NEIGHBOUR: 'it returns false'. Refute it at one input. -/
def hubHoldsWrong : ChangeSpec := { name := "hubHolds", fn := fun _ => fun
  | [d] => { results := [.lit (.bool false)], args := [d] }
  | _ => none }
def HubHoldsWrongFalsely : Prop := hubHoldsRow.holds Try.pinned (OpenSpec.ofChange hubHoldsWrong)

/-- 'daybreaklaw13.HubForgets': WHATEVER THE INPUT: true; the input reads as it did. -/
def hubForgetsSpec : ChangeSpec := { name := "hubForgets", fn := fun _ => fun
  | [d1, d2, d3] => { results := [.lit (.bool true)], args := [d1, d2, d3] }
  | _ => none }
def hubForgetsRow : OpenClaim := { program := "ytjipnabidebgbaa", sum := "feaa94bd1d89bea2906fd86f2872f4db8995eaecbb7ed63f1f871f32a589ee54", func := "daybreak/daybreaklaw13.HubForgets", spec := "hubForgets", unfollowed := true, recurses := true, apart := false }
def HubForgetsSaid : Prop := hubForgetsRow.holds Try.pinned (OpenSpec.ofChange hubForgetsSpec)

/-- ITS FALSE NEIGHBOUR: 'it returns false'. Refute it at one input. -/
def hubForgetsWrong : ChangeSpec := { name := "hubForgets", fn := fun _ => fun
  | [d1, d2, d3] => { results := [.lit (.bool false)], args := [d1, d2, d3] }
  | _ => none }
def HubForgetsWrongFalsely : Prop := hubForgetsRow.holds Try.pinned (OpenSpec.ofChange hubForgetsWrong)

/-- 'daybreaklaw13.HubTells': WHATEVER THE INPUT: true; the input reads as it did. -/
def hubTellsSpec : ChangeSpec := { name := "hubTells", fn := fun _ => fun
  | [d1, d2, d3] => { results := [.lit (.bool true)], args := [d1, d2, d3] }
  | _ => none }
def hubTellsRow : OpenClaim := { program := "ytjipnabidebgbaa", sum := "feaa94bd1d89bea2906fd86f2872f4db8995eaecbb7ed63f1f871f32a589ee54", func := "daybreak/daybreaklaw13.HubTells", spec := "hubTells", unfollowed := true, recurses := true, apart := false }
def HubTellsSaid : Prop := hubTellsRow.holds Try.pinned (OpenSpec.ofChange hubTellsSpec)

/-- ITS FALSE NEIGHBOUR: 'it returns false'. Refute it at one input. -/
def hubTellsWrong : ChangeSpec := { name := "hubTells", fn := fun _ => fun
  | [d1, d2, d3] => { results := [.lit (.bool false)], args := [d1, d2, d3] }
  | _ => none }
def HubTellsWrongFalsely : Prop := hubTellsRow.holds Try.pinned (OpenSpec.ofChange hubTellsWrong)

/-- 'daybreaklaw14.LinkAlike': WHATEVER THE INPUT: true; the input reads as it did. -/
def linkAlikeSpec : ChangeSpec := { name := "linkAlike", fn := fun _ => fun
  | [d] => { results := [.lit (.bool true)], args := [d] }
  | _ => none }
def linkAlikeRow : OpenClaim := { program := "ytjipnabidebgbaa", sum := "feaa94bd1d89bea2906fd86f2872f4db8995eaecbb7ed63f1f871f32a589ee54", func := "daybreak/daybreaklaw14.LinkAlike", spec := "linkAlike", unfollowed := true, recurses := true, apart := false }
def LinkAlikeSaid : Prop := linkAlikeRow.holds Try.pinned (OpenSpec.ofChange linkAlikeSpec)

/-- ITS FALSE NEIGHBOUR: 'it returns false'. Refute it at one input. -/
def linkAlikeWrong : ChangeSpec := { name := "linkAlike", fn := fun _ => fun
  | [d] => { results := [.lit (.bool false)], args := [d] }
  | _ => none }
def LinkAlikeWrongFalsely : Prop := linkAlikeRow.holds Try.pinned (OpenSpec.ofChange linkAlikeWrong)

/-- 'daybreaklaw14.LinkWays': WHATEVER THE INPUT: true; the input reads as it did. -/
def linkWaysSpec : ChangeSpec := { name := "linkWays", fn := fun _ => fun
  | [d] => { results := [.lit (.bool true)], args := [d] }
  | _ => none }
def linkWaysRow : OpenClaim := { program := "ytjipnabidebgbaa", sum := "feaa94bd1d89bea2906fd86f2872f4db8995eaecbb7ed63f1f871f32a589ee54", func := "daybreak/daybreaklaw14.LinkWays", spec := "linkWays", unfollowed := true, recurses := true, apart := false }
def LinkWaysSaid : Prop := linkWaysRow.holds Try.pinned (OpenSpec.ofChange linkWaysSpec)

/-- ITS FALSE NEIGHBOUR: 'it returns false'. Refute it at one input. -/
def linkWaysWrong : ChangeSpec := { name := "linkWays", fn := fun _ => fun
  | [d] => { results := [.lit (.bool false)], args := [d] }
  | _ => none }
def LinkWaysWrongFalsely : Prop := linkWaysRow.holds Try.pinned (OpenSpec.ofChange linkWaysWrong)

/-- 'daybreaklaw14.LinkTells': WHATEVER THE INPUT: true; the input reads as it did. -/
def linkTellsSpec : ChangeSpec := { name := "linkTells", fn := fun _ => fun
  | [d] => { results := [.lit (.bool true)], args := [d] }
  | _ => none }
def linkTellsRow : OpenClaim := { program := "ytjipnabidebgbaa", sum := "feaa94bd1d89bea2906fd86f2872f4db8995eaecbb7ed63f1f871f32a589ee54", func := "daybreak/daybreaklaw14.LinkTells", spec := "linkTells", unfollowed := true, recurses := true, apart := false }
def LinkTellsSaid : Prop := linkTellsRow.holds Try.pinned (OpenSpec.ofChange linkTellsSpec)

/-- ITS FALSE NEIGHBOUR: 'it returns false'. Refute it at one input. -/
def linkTellsWrong : ChangeSpec := { name := "linkTells", fn := fun _ => fun
  | [d] => { results := [.lit (.bool false)], args := [d] }
  | _ => none }
def LinkTellsWrongFalsely : Prop := linkTellsRow.holds Try.pinned (OpenSpec.ofChange linkTellsWrong)

/- THE SECOND FORM. 'bulk': how many values and letters a reading holds, each counted each time it is reached (what is shared counts as often as it is met; a slice's spare places count too). A statement '..UptoSaid' is the law's where the arguments, and the package variables that the reading takes, are together of bulk at most 1048576: NARROWER than '..Said'. Prove '..Said' where nothing that the law and all that it calls make is longer than what came in: it says more and counts as full. Else prove '..UptoSaid'. A law counts once. -/
mutual
def uptoBulk {H : Type} : DataW H → Nat
  | .lit (.string bytes) => bytes.length + 1
  | .lit _ => 1
  | .nil => 1
  | .ptr d => uptoBulk d + 1
  | .slice elems spare => uptoBulkAll elems + uptoBulkAll spare + 1
  | .agg parts => uptoBulkAll parts + 1
  | .iface _ d => uptoBulk d + 1
  | .map entries => uptoBulkEntries entries + 1
  | .held _ => 1
def uptoBulkAll {H : Type} : List (DataW H) → Nat
  | [] => 0
  | d :: r => uptoBulk d + uptoBulkAll r
def uptoBulkEntries {H : Type} : List (Lit × DataW H) → Nat
  | [] => 0
  | x :: r => uptoBulkEntry x + uptoBulkEntries r
def uptoBulkEntry {H : Type} : Lit × DataW H → Nat
  | (.string bytes, d) => bytes.length + uptoBulk d + 1
  | (_, d) => uptoBulk d + 1
 end
def uptoSmall : (H : Type) → List (DataW H) → Bool := fun _ ds => decide (uptoBulkAll ds ≤ 1048576)
def OpenSpec.upto (s : _root_.Go.ChangeSpec) : _root_.Go.OpenSpec := { _root_.Go.OpenSpec.ofChange s with cond := some uptoSmall }

/-- 'daybreaklaw05.RingTells', WHERE WHAT IT READS IS OF BULK AT MOST 1048576: true; the input reads as it did. -/
def ringTellsUptoRow : OpenClaim := { program := "ytjipnabidebgbaa", sum := "feaa94bd1d89bea2906fd86f2872f4db8995eaecbb7ed63f1f871f32a589ee54", func := "daybreak/daybreaklaw05.RingTells", spec := "ringTells", apart := false, narrowed := true }
def RingTellsUptoSaid : Prop := ringTellsUptoRow.holds Try.pinned (OpenSpec.upto ringTellsSpec)

/-- 'daybreaklaw05.RingBack', WHERE WHAT IT READS IS OF BULK AT MOST 1048576: true; the input reads as it did. -/
def ringBackUptoRow : OpenClaim := { program := "ytjipnabidebgbaa", sum := "feaa94bd1d89bea2906fd86f2872f4db8995eaecbb7ed63f1f871f32a589ee54", func := "daybreak/daybreaklaw05.RingBack", spec := "ringBack", apart := false, narrowed := true }
def RingBackUptoSaid : Prop := ringBackUptoRow.holds Try.pinned (OpenSpec.upto ringBackSpec)

/-- 'daybreaklaw03.ConfUnlike', WHERE WHAT IT READS IS OF BULK AT MOST 1048576: true; the input reads as it did. -/
def confUnlikeUptoRow : OpenClaim := { program := "ytjipnabidebgbaa", sum := "feaa94bd1d89bea2906fd86f2872f4db8995eaecbb7ed63f1f871f32a589ee54", func := "daybreak/daybreaklaw03.ConfUnlike", spec := "confUnlike", apart := false, narrowed := true }
def ConfUnlikeUptoSaid : Prop := confUnlikeUptoRow.holds Try.pinned (OpenSpec.upto confUnlikeSpec)

/-- 'daybreaklaw03.ConfTells', WHERE WHAT IT READS IS OF BULK AT MOST 1048576: true; the input reads as it did. -/
def confTellsUptoRow : OpenClaim := { program := "ytjipnabidebgbaa", sum := "feaa94bd1d89bea2906fd86f2872f4db8995eaecbb7ed63f1f871f32a589ee54", func := "daybreak/daybreaklaw03.ConfTells", spec := "confTells", apart := false, narrowed := true }
def ConfTellsUptoSaid : Prop := confTellsUptoRow.holds Try.pinned (OpenSpec.upto confTellsSpec)

/-- 'daybreaklaw06.NodeTells', WHERE WHAT IT READS IS OF BULK AT MOST 1048576: true; the input reads as it did. -/
def nodeTellsUptoRow : OpenClaim := { program := "ytjipnabidebgbaa", sum := "feaa94bd1d89bea2906fd86f2872f4db8995eaecbb7ed63f1f871f32a589ee54", func := "daybreak/daybreaklaw06.NodeTells", spec := "nodeTells", apart := false, narrowed := true }
def NodeTellsUptoSaid : Prop := nodeTellsUptoRow.holds Try.pinned (OpenSpec.upto nodeTellsSpec)

/-- 'daybreaklaw06.NodeClean', WHERE WHAT IT READS IS OF BULK AT MOST 1048576: true; the input reads as it did. -/
def nodeCleanUptoRow : OpenClaim := { program := "ytjipnabidebgbaa", sum := "feaa94bd1d89bea2906fd86f2872f4db8995eaecbb7ed63f1f871f32a589ee54", func := "daybreak/daybreaklaw06.NodeClean", spec := "nodeClean", apart := false, narrowed := true }
def NodeCleanUptoSaid : Prop := nodeCleanUptoRow.holds Try.pinned (OpenSpec.upto nodeCleanSpec)

/-- 'daybreaklaw15.FaultNone', WHERE WHAT IT READS IS OF BULK AT MOST 1048576: true; the input reads as it did. -/
def faultNoneUptoRow : OpenClaim := { program := "ytjipnabidebgbaa", sum := "feaa94bd1d89bea2906fd86f2872f4db8995eaecbb7ed63f1f871f32a589ee54", func := "daybreak/daybreaklaw15.FaultNone", spec := "faultNone", apart := false, narrowed := true }
def FaultNoneUptoSaid : Prop := faultNoneUptoRow.holds Try.pinned (OpenSpec.upto faultNoneSpec)

/-- 'daybreaklaw15.FaultTells', WHERE WHAT IT READS IS OF BULK AT MOST 1048576: true; the input reads as it did. -/
def faultTellsUptoRow : OpenClaim := { program := "ytjipnabidebgbaa", sum := "feaa94bd1d89bea2906fd86f2872f4db8995eaecbb7ed63f1f871f32a589ee54", func := "daybreak/daybreaklaw15.FaultTells", spec := "faultTells", apart := false, narrowed := true }
def FaultTellsUptoSaid : Prop := faultTellsUptoRow.holds Try.pinned (OpenSpec.upto faultTellsSpec)

/-- 'daybreaklaw08.SayTells', WHERE WHAT IT READS IS OF BULK AT MOST 1048576: true; the input reads as it did. -/
def sayTellsUptoRow : OpenClaim := { program := "ytjipnabidebgbaa", sum := "feaa94bd1d89bea2906fd86f2872f4db8995eaecbb7ed63f1f871f32a589ee54", func := "daybreak/daybreaklaw08.SayTells", spec := "sayTells", unfollowed := true, recurses := true, apart := false, narrowed := true }
def SayTellsUptoSaid : Prop := sayTellsUptoRow.holds Try.pinned (OpenSpec.upto sayTellsSpec)

/-- 'daybreaklaw08.SayOwn', WHERE WHAT IT READS IS OF BULK AT MOST 1048576: true; the input reads as it did. -/
def sayOwnUptoRow : OpenClaim := { program := "ytjipnabidebgbaa", sum := "feaa94bd1d89bea2906fd86f2872f4db8995eaecbb7ed63f1f871f32a589ee54", func := "daybreak/daybreaklaw08.SayOwn", spec := "sayOwn", unfollowed := true, recurses := true, apart := false, narrowed := true }
def SayOwnUptoSaid : Prop := sayOwnUptoRow.holds Try.pinned (OpenSpec.upto sayOwnSpec)

/-- 'daybreaklaw08.SaySooner', WHERE WHAT IT READS IS OF BULK AT MOST 1048576: true; the input reads as it did. -/
def saySoonerUptoRow : OpenClaim := { program := "ytjipnabidebgbaa", sum := "feaa94bd1d89bea2906fd86f2872f4db8995eaecbb7ed63f1f871f32a589ee54", func := "daybreak/daybreaklaw08.SaySooner", spec := "saySooner", unfollowed := true, recurses := true, apart := false, narrowed := true }
def SaySoonerUptoSaid : Prop := saySoonerUptoRow.holds Try.pinned (OpenSpec.upto saySoonerSpec)

/-- 'daybreaklaw11.VoteEnds', WHERE WHAT IT READS IS OF BULK AT MOST 1048576: true; the input reads as it did. -/
def voteEndsUptoRow : OpenClaim := { program := "ytjipnabidebgbaa", sum := "feaa94bd1d89bea2906fd86f2872f4db8995eaecbb7ed63f1f871f32a589ee54", func := "daybreak/daybreaklaw11.VoteEnds", spec := "voteEnds", apart := false, narrowed := true }
def VoteEndsUptoSaid : Prop := voteEndsUptoRow.holds Try.pinned (OpenSpec.upto voteEndsSpec)

/-- 'daybreaklaw11.VoteTells', WHERE WHAT IT READS IS OF BULK AT MOST 1048576: true; the input reads as it did. -/
def voteTellsUptoRow : OpenClaim := { program := "ytjipnabidebgbaa", sum := "feaa94bd1d89bea2906fd86f2872f4db8995eaecbb7ed63f1f871f32a589ee54", func := "daybreak/daybreaklaw11.VoteTells", spec := "voteTells", apart := false, narrowed := true }
def VoteTellsUptoSaid : Prop := voteTellsUptoRow.holds Try.pinned (OpenSpec.upto voteTellsSpec)

/-- 'daybreaklaw11.VoteFew', WHERE WHAT IT READS IS OF BULK AT MOST 1048576: true; the input reads as it did. -/
def voteFewUptoRow : OpenClaim := { program := "ytjipnabidebgbaa", sum := "feaa94bd1d89bea2906fd86f2872f4db8995eaecbb7ed63f1f871f32a589ee54", func := "daybreak/daybreaklaw11.VoteFew", spec := "voteFew", apart := false, narrowed := true }
def VoteFewUptoSaid : Prop := voteFewUptoRow.holds Try.pinned (OpenSpec.upto voteFewSpec)

/-- 'daybreaklaw12.GateHolds', WHERE WHAT IT READS IS OF BULK AT MOST 1048576: true; the input reads as it did. -/
def gateHoldsUptoRow : OpenClaim := { program := "ytjipnabidebgbaa", sum := "feaa94bd1d89bea2906fd86f2872f4db8995eaecbb7ed63f1f871f32a589ee54", func := "daybreak/daybreaklaw12.GateHolds", spec := "gateHolds", unfollowed := true, recurses := true, apart := false, narrowed := true }
def GateHoldsUptoSaid : Prop := gateHoldsUptoRow.holds Try.pinned (OpenSpec.upto gateHoldsSpec)

/-- 'daybreaklaw12.GateSettles', WHERE WHAT IT READS IS OF BULK AT MOST 1048576: true; the input reads as it did. -/
def gateSettlesUptoRow : OpenClaim := { program := "ytjipnabidebgbaa", sum := "feaa94bd1d89bea2906fd86f2872f4db8995eaecbb7ed63f1f871f32a589ee54", func := "daybreak/daybreaklaw12.GateSettles", spec := "gateSettles", unfollowed := true, recurses := true, apart := false, narrowed := true }
def GateSettlesUptoSaid : Prop := gateSettlesUptoRow.holds Try.pinned (OpenSpec.upto gateSettlesSpec)

/-- 'daybreaklaw12.GateTells', WHERE WHAT IT READS IS OF BULK AT MOST 1048576: true; the input reads as it did. -/
def gateTellsUptoRow : OpenClaim := { program := "ytjipnabidebgbaa", sum := "feaa94bd1d89bea2906fd86f2872f4db8995eaecbb7ed63f1f871f32a589ee54", func := "daybreak/daybreaklaw12.GateTells", spec := "gateTells", unfollowed := true, recurses := true, apart := false, narrowed := true }
def GateTellsUptoSaid : Prop := gateTellsUptoRow.holds Try.pinned (OpenSpec.upto gateTellsSpec)

/-- 'daybreaklaw12.GateNotes', WHERE WHAT IT READS IS OF BULK AT MOST 1048576: true; the input reads as it did. -/
def gateNotesUptoRow : OpenClaim := { program := "ytjipnabidebgbaa", sum := "feaa94bd1d89bea2906fd86f2872f4db8995eaecbb7ed63f1f871f32a589ee54", func := "daybreak/daybreaklaw12.GateNotes", spec := "gateNotes", unfollowed := true, recurses := true, apart := false, narrowed := true }
def GateNotesUptoSaid : Prop := gateNotesUptoRow.holds Try.pinned (OpenSpec.upto gateNotesSpec)

/-- 'daybreaklaw09.ActRight', WHERE WHAT IT READS IS OF BULK AT MOST 1048576: true; the input reads as it did. -/
def actRightUptoRow : OpenClaim := { program := "ytjipnabidebgbaa", sum := "feaa94bd1d89bea2906fd86f2872f4db8995eaecbb7ed63f1f871f32a589ee54", func := "daybreak/daybreaklaw09.ActRight", spec := "actRight", unfollowed := true, recurses := true, apart := false, narrowed := true }
def ActRightUptoSaid : Prop := actRightUptoRow.holds Try.pinned (OpenSpec.upto actRightSpec)

/-- 'daybreaklaw09.ActAgree', WHERE WHAT IT READS IS OF BULK AT MOST 1048576: true; the input reads as it did. -/
def actAgreeUptoRow : OpenClaim := { program := "ytjipnabidebgbaa", sum := "feaa94bd1d89bea2906fd86f2872f4db8995eaecbb7ed63f1f871f32a589ee54", func := "daybreak/daybreaklaw09.ActAgree", spec := "actAgree", unfollowed := true, recurses := true, apart := false, narrowed := true }
def ActAgreeUptoSaid : Prop := actAgreeUptoRow.holds Try.pinned (OpenSpec.upto actAgreeSpec)

/-- 'daybreaklaw09.ActTells', WHERE WHAT IT READS IS OF BULK AT MOST 1048576: true; the input reads as it did. -/
def actTellsUptoRow : OpenClaim := { program := "ytjipnabidebgbaa", sum := "feaa94bd1d89bea2906fd86f2872f4db8995eaecbb7ed63f1f871f32a589ee54", func := "daybreak/daybreaklaw09.ActTells", spec := "actTells", unfollowed := true, recurses := true, apart := false, narrowed := true }
def ActTellsUptoSaid : Prop := actTellsUptoRow.holds Try.pinned (OpenSpec.upto actTellsSpec)

/-- 'daybreaklaw09.ActQuiet', WHERE WHAT IT READS IS OF BULK AT MOST 1048576: true; the input reads as it did. -/
def actQuietUptoRow : OpenClaim := { program := "ytjipnabidebgbaa", sum := "feaa94bd1d89bea2906fd86f2872f4db8995eaecbb7ed63f1f871f32a589ee54", func := "daybreak/daybreaklaw09.ActQuiet", spec := "actQuiet", unfollowed := true, recurses := true, apart := false, narrowed := true }
def ActQuietUptoSaid : Prop := actQuietUptoRow.holds Try.pinned (OpenSpec.upto actQuietSpec)

/-- 'daybreaklaw13.HubApart', WHERE WHAT IT READS IS OF BULK AT MOST 1048576: true; the input reads as it did. -/
def hubApartUptoRow : OpenClaim := { program := "ytjipnabidebgbaa", sum := "feaa94bd1d89bea2906fd86f2872f4db8995eaecbb7ed63f1f871f32a589ee54", func := "daybreak/daybreaklaw13.HubApart", spec := "hubApart", unfollowed := true, recurses := true, apart := false, narrowed := true }
def HubApartUptoSaid : Prop := hubApartUptoRow.holds Try.pinned (OpenSpec.upto hubApartSpec)

/-- 'daybreaklaw13.HubHolds', WHERE WHAT IT READS IS OF BULK AT MOST 1048576: true; the input reads as it did. -/
def hubHoldsUptoRow : OpenClaim := { program := "ytjipnabidebgbaa", sum := "feaa94bd1d89bea2906fd86f2872f4db8995eaecbb7ed63f1f871f32a589ee54", func := "daybreak/daybreaklaw13.HubHolds", spec := "hubHolds", unfollowed := true, recurses := true, apart := false, narrowed := true }
def HubHoldsUptoSaid : Prop := hubHoldsUptoRow.holds Try.pinned (OpenSpec.upto hubHoldsSpec)

/-- 'daybreaklaw13.HubForgets', WHERE WHAT IT READS IS OF BULK AT MOST 1048576: true; the input reads as it did. -/
def hubForgetsUptoRow : OpenClaim := { program := "ytjipnabidebgbaa", sum := "feaa94bd1d89bea2906fd86f2872f4db8995eaecbb7ed63f1f871f32a589ee54", func := "daybreak/daybreaklaw13.HubForgets", spec := "hubForgets", unfollowed := true, recurses := true, apart := false, narrowed := true }
def HubForgetsUptoSaid : Prop := hubForgetsUptoRow.holds Try.pinned (OpenSpec.upto hubForgetsSpec)

/-- 'daybreaklaw13.HubTells', WHERE WHAT IT READS IS OF BULK AT MOST 1048576: true; the input reads as it did. -/
def hubTellsUptoRow : OpenClaim := { program := "ytjipnabidebgbaa", sum := "feaa94bd1d89bea2906fd86f2872f4db8995eaecbb7ed63f1f871f32a589ee54", func := "daybreak/daybreaklaw13.HubTells", spec := "hubTells", unfollowed := true, recurses := true, apart := false, narrowed := true }
def HubTellsUptoSaid : Prop := hubTellsUptoRow.holds Try.pinned (OpenSpec.upto hubTellsSpec)

/-- 'daybreaklaw14.LinkAlike', WHERE WHAT IT READS IS OF BULK AT MOST 1048576: true; the input reads as it did. -/
def linkAlikeUptoRow : OpenClaim := { program := "ytjipnabidebgbaa", sum := "feaa94bd1d89bea2906fd86f2872f4db8995eaecbb7ed63f1f871f32a589ee54", func := "daybreak/daybreaklaw14.LinkAlike", spec := "linkAlike", unfollowed := true, recurses := true, apart := false, narrowed := true }
def LinkAlikeUptoSaid : Prop := linkAlikeUptoRow.holds Try.pinned (OpenSpec.upto linkAlikeSpec)

/-- 'daybreaklaw14.LinkWays', WHERE WHAT IT READS IS OF BULK AT MOST 1048576: true; the input reads as it did. -/
def linkWaysUptoRow : OpenClaim := { program := "ytjipnabidebgbaa", sum := "feaa94bd1d89bea2906fd86f2872f4db8995eaecbb7ed63f1f871f32a589ee54", func := "daybreak/daybreaklaw14.LinkWays", spec := "linkWays", unfollowed := true, recurses := true, apart := false, narrowed := true }
def LinkWaysUptoSaid : Prop := linkWaysUptoRow.holds Try.pinned (OpenSpec.upto linkWaysSpec)

/-- 'daybreaklaw14.LinkTells', WHERE WHAT IT READS IS OF BULK AT MOST 1048576: true; the input reads as it did. -/
def linkTellsUptoRow : OpenClaim := { program := "ytjipnabidebgbaa", sum := "feaa94bd1d89bea2906fd86f2872f4db8995eaecbb7ed63f1f871f32a589ee54", func := "daybreak/daybreaklaw14.LinkTells", spec := "linkTells", unfollowed := true, recurses := true, apart := false, narrowed := true }
def LinkTellsUptoSaid : Prop := linkTellsUptoRow.holds Try.pinned (OpenSpec.upto linkTellsSpec)

end Rows
end Go.Proofs.Ytjipnabidebgbaa
