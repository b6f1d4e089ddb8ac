/-
  No cell of these rows narrows 'for every input' (looked for: loops, veiled, ifaces, maps, wideKeys, modest, calm, conditions, laid).
  DERIVED. THE GIVEN ROWS OF THIS SEAT. 6 by the template 'for every input the law returns true; each argument reads behind the call as it read before'; 0 by the template 'total and deterministic' (their statements: YtngghkhjejkelaaTotals.lean).
  GIVEN WITH THE SEED: the statements are not yours to turn. If you find one false, say at which input.
  Laid BY PROGRAM, IN A SANDBOX (cutbox-rows.mjs): the forced cells as the released guide's own fill.sh prints them over the translation 1e9a54d5267eb3fe… (all of the seat's roots in one cut). By AI agents, Wed Nov 11 2026. No macro, syntax, notation, axiom, sorry.
-/
import Derived.Test.YtngghkhjejkelaaChecked
import GoSem.Claim
import GoSem.ClaimJoined
import GoSem.ClaimMapViews
import Derived.JoinedTies
import Derived.KernelRfl
namespace Go.Proofs.Ytngghkhjejkelaa
/- THE CELL 'sum', in the pinned program and in every row, IS THE sha256 OF THE DUMP (.gsa) THAT YtngghkhjejkelaaProg.lean LOADS. Nothing in Lean hashes anything: it is a label: what it is worth is what the hold of that sum in a sandbox is worth. -/
noncomputable def Try.pinned : Pinned := { name := "ytngghkhjejkelaa", sum := "1e9a54d5267eb3fe296b34bfa6e344f09b8c64b8cd218d9c95696c1addd480d5", checked := Try.checked }
namespace Rows
def none {H : Type} : Left H := { results := [], args := [] }

/-- 'daybreaklaw15.FaultNone': WHATEVER THE INPUT: true; the input reads as it did. -/
def faultNoneSpec : ChangeSpec := { name := "faultNone", fn := fun _ => fun
  | [d] => { results := [.lit (.bool true)], args := [d] }
  | _ => none }
def faultNoneRow : OpenClaim := { program := "ytngghkhjejkelaa", sum := "1e9a54d5267eb3fe296b34bfa6e344f09b8c64b8cd218d9c95696c1addd480d5", func := "daybreak/daybreaklaw15.FaultNone", spec := "faultNone", apart := false }
def FaultNoneSaid : Prop := faultNoneRow.holds Try.pinned (OpenSpec.ofChange faultNoneSpec)

/-- ITS FALSE NEIGHBOUR: 'it returns false'. Refute it at one input. -/
def faultNoneWrong : ChangeSpec := { name := "faultNone", fn := fun _ => fun
  | [d] => { results := [.lit (.bool false)], args := [d] }
  | _ => none }
def FaultNoneWrongFalsely : Prop := faultNoneRow.holds Try.pinned (OpenSpec.ofChange faultNoneWrong)

/-- 'daybreaklaw15.FaultTells': WHATEVER THE INPUT: true; the input reads as it did. -/
def faultTellsSpec : ChangeSpec := { name := "faultTells", fn := fun _ => fun
  | [d] => { results := [.lit (.bool true)], args := [d] }
  | _ => none }
def faultTellsRow : OpenClaim := { program := "ytngghkhjejkelaa", sum := "1e9a54d5267eb3fe296b34bfa6e344f09b8c64b8cd218d9c95696c1addd480d5", func := "daybreak/daybreaklaw15.FaultTells", spec := "faultTells", apart := false }
def FaultTellsSaid : Prop := faultTellsRow.holds Try.pinned (OpenSpec.ofChange faultTellsSpec)

/-- ITS FALSE NEIGHBOUR: 'it returns false'. Refute it at one input. -/
def faultTellsWrong : ChangeSpec := { name := "faultTells", fn := fun _ => fun
  | [d] => { results := [.lit (.bool false)], args := [d] }
  | _ => none }
def FaultTellsWrongFalsely : Prop := faultTellsRow.holds Try.pinned (OpenSpec.ofChange faultTellsWrong)

/-- 'daybreaklaw09.ActRight': WHATEVER THE INPUT: true; the input reads as it did. -/
def actRightSpec : ChangeSpec := { name := "actRight", fn := fun _ => fun
  | [d1, d2, d3] => { results := [.lit (.bool true)], args := [d1, d2, d3] }
  | _ => none }
def actRightRow : OpenClaim := { program := "ytngghkhjejkelaa", sum := "1e9a54d5267eb3fe296b34bfa6e344f09b8c64b8cd218d9c95696c1addd480d5", func := "daybreak/daybreaklaw09.ActRight", spec := "actRight", unfollowed := true, recurses := true, apart := false }
def ActRightSaid : Prop := actRightRow.holds Try.pinned (OpenSpec.ofChange actRightSpec)

/-- ITS FALSE NEIGHBOUR: 'it returns false'. Refute it at one input. -/
def actRightWrong : ChangeSpec := { name := "actRight", fn := fun _ => fun
  | [d1, d2, d3] => { results := [.lit (.bool false)], args := [d1, d2, d3] }
  | _ => none }
def ActRightWrongFalsely : Prop := actRightRow.holds Try.pinned (OpenSpec.ofChange actRightWrong)

/-- 'daybreaklaw09.ActAgree': WHATEVER THE INPUT: true; the input reads as it did. -/
def actAgreeSpec : ChangeSpec := { name := "actAgree", fn := fun _ => fun
  | [d] => { results := [.lit (.bool true)], args := [d] }
  | _ => none }
def actAgreeRow : OpenClaim := { program := "ytngghkhjejkelaa", sum := "1e9a54d5267eb3fe296b34bfa6e344f09b8c64b8cd218d9c95696c1addd480d5", func := "daybreak/daybreaklaw09.ActAgree", spec := "actAgree", unfollowed := true, recurses := true, apart := false }
def ActAgreeSaid : Prop := actAgreeRow.holds Try.pinned (OpenSpec.ofChange actAgreeSpec)

/-- ITS FALSE NEIGHBOUR: 'it returns false'. Refute it at one input. -/
def actAgreeWrong : ChangeSpec := { name := "actAgree", fn := fun _ => fun
  | [d] => { results := [.lit (.bool false)], args := [d] }
  | _ => none }
def ActAgreeWrongFalsely : Prop := actAgreeRow.holds Try.pinned (OpenSpec.ofChange actAgreeWrong)

/-- 'daybreaklaw09.ActTells': WHATEVER THE INPUT: true; the input reads as it did. -/
def actTellsSpec : ChangeSpec := { name := "actTells", fn := fun _ => fun
  | [d] => { results := [.lit (.bool true)], args := [d] }
  | _ => none }
def actTellsRow : OpenClaim := { program := "ytngghkhjejkelaa", sum := "1e9a54d5267eb3fe296b34bfa6e344f09b8c64b8cd218d9c95696c1addd480d5", func := "daybreak/daybreaklaw09.ActTells", spec := "actTells", unfollowed := true, recurses := true, apart := false }
def ActTellsSaid : Prop := actTellsRow.holds Try.pinned (OpenSpec.ofChange actTellsSpec)

/-- ITS FALSE NEIGHBOUR: 'it returns false'. Refute it at one input. -/
def actTellsWrong : ChangeSpec := { name := "actTells", fn := fun _ => fun
  | [d] => { results := [.lit (.bool false)], args := [d] }
  | _ => none }
def ActTellsWrongFalsely : Prop := actTellsRow.holds Try.pinned (OpenSpec.ofChange actTellsWrong)

/-- 'daybreaklaw09.ActQuiet': WHATEVER THE INPUT: true; the input reads as it did. -/
def actQuietSpec : ChangeSpec := { name := "actQuiet", fn := fun _ => fun
  | [d] => { results := [.lit (.bool true)], args := [d] }
  | _ => none }
def actQuietRow : OpenClaim := { program := "ytngghkhjejkelaa", sum := "1e9a54d5267eb3fe296b34bfa6e344f09b8c64b8cd218d9c95696c1addd480d5", func := "daybreak/daybreaklaw09.ActQuiet", spec := "actQuiet", unfollowed := true, recurses := true, apart := false }
def ActQuietSaid : Prop := actQuietRow.holds Try.pinned (OpenSpec.ofChange actQuietSpec)

/-- ITS FALSE NEIGHBOUR: 'it returns false'. Refute it at one input. -/
def actQuietWrong : ChangeSpec := { name := "actQuiet", fn := fun _ => fun
  | [d] => { results := [.lit (.bool false)], args := [d] }
  | _ => none }
def ActQuietWrongFalsely : Prop := actQuietRow.holds Try.pinned (OpenSpec.ofChange actQuietWrong)

/- THE SECOND FORM. 'bulk': how many values and letters a reading holds, each counted each time it is reached (what is shared counts as often as it is met; a slice's spare places count too). A statement '..UptoSaid' is the law's where the arguments, and the package variables that the reading takes, are together of bulk at most 1048576: NARROWER than '..Said'. Prove '..Said' where nothing that the law and all that it calls make is longer than what came in: it says more and counts as full. Else prove '..UptoSaid'. A law counts once. -/
mutual
def uptoBulk {H : Type} : DataW H → Nat
  | .lit (.string bytes) => bytes.length + 1
  | .lit _ => 1
  | .nil => 1
  | .ptr d => uptoBulk d + 1
  | .slice elems spare => uptoBulkAll elems + uptoBulkAll spare + 1
  | .agg parts => uptoBulkAll parts + 1
  | .iface _ d => uptoBulk d + 1
  | .map entries => uptoBulkEntries entries + 1
  | .held _ => 1
def uptoBulkAll {H : Type} : List (DataW H) → Nat
  | [] => 0
  | d :: r => uptoBulk d + uptoBulkAll r
def uptoBulkEntries {H : Type} : List (Lit × DataW H) → Nat
  | [] => 0
  | x :: r => uptoBulkEntry x + uptoBulkEntries r
def uptoBulkEntry {H : Type} : Lit × DataW H → Nat
  | (.string bytes, d) => bytes.length + uptoBulk d + 1
  | (_, d) => uptoBulk d + 1
 end
def uptoSmall : (H : Type) → List (DataW H) → Bool := fun _ ds => decide (uptoBulkAll ds ≤ 1048576)
def OpenSpec.upto (s : _root_.Go.ChangeSpec) : _root_.Go.OpenSpec := { _root_.Go.OpenSpec.ofChange s with cond := some uptoSmall }

/-- 'daybreaklaw15.FaultNone', WHERE WHAT IT READS IS OF BULK AT MOST 1048576: true; the input reads as it did. -/
def faultNoneUptoRow : OpenClaim := { program := "ytngghkhjejkelaa", sum := "1e9a54d5267eb3fe296b34bfa6e344f09b8c64b8cd218d9c95696c1addd480d5", func := "daybreak/daybreaklaw15.FaultNone", spec := "faultNone", apart := false, narrowed := true }
def FaultNoneUptoSaid : Prop := faultNoneUptoRow.holds Try.pinned (OpenSpec.upto faultNoneSpec)

/-- 'daybreaklaw15.FaultTells', WHERE WHAT IT READS IS OF BULK AT MOST 1048576: true; the input reads as it did. -/
def faultTellsUptoRow : OpenClaim := { program := "ytngghkhjejkelaa", sum := "1e9a54d5267eb3fe296b34bfa6e344f09b8c64b8cd218d9c95696c1addd480d5", func := "daybreak/daybreaklaw15.FaultTells", spec := "faultTells", apart := false, narrowed := true }
def FaultTellsUptoSaid : Prop := faultTellsUptoRow.holds Try.pinned (OpenSpec.upto faultTellsSpec)

/-- 'daybreaklaw09.ActRight', WHERE WHAT IT READS IS OF BULK AT MOST 1048576: true; the input reads as it did. -/
def actRightUptoRow : OpenClaim := { program := "ytngghkhjejkelaa", sum := "1e9a54d5267eb3fe296b34bfa6e344f09b8c64b8cd218d9c95696c1addd480d5", func := "daybreak/daybreaklaw09.ActRight", spec := "actRight", unfollowed := true, recurses := true, apart := false, narrowed := true }
def ActRightUptoSaid : Prop := actRightUptoRow.holds Try.pinned (OpenSpec.upto actRightSpec)

/-- 'daybreaklaw09.ActAgree', WHERE WHAT IT READS IS OF BULK AT MOST 1048576: true; the input reads as it did. -/
def actAgreeUptoRow : OpenClaim := { program := "ytngghkhjejkelaa", sum := "1e9a54d5267eb3fe296b34bfa6e344f09b8c64b8cd218d9c95696c1addd480d5", func := "daybreak/daybreaklaw09.ActAgree", spec := "actAgree", unfollowed := true, recurses := true, apart := false, narrowed := true }
def ActAgreeUptoSaid : Prop := actAgreeUptoRow.holds Try.pinned (OpenSpec.upto actAgreeSpec)

/-- 'daybreaklaw09.ActTells', WHERE WHAT IT READS IS OF BULK AT MOST 1048576: true; the input reads as it did. -/
def actTellsUptoRow : OpenClaim := { program := "ytngghkhjejkelaa", sum := "1e9a54d5267eb3fe296b34bfa6e344f09b8c64b8cd218d9c95696c1addd480d5", func := "daybreak/daybreaklaw09.ActTells", spec := "actTells", unfollowed := true, recurses := true, apart := false, narrowed := true }
def ActTellsUptoSaid : Prop := actTellsUptoRow.holds Try.pinned (OpenSpec.upto actTellsSpec)

/-- 'daybreaklaw09.ActQuiet', WHERE WHAT IT READS IS OF BULK AT MOST 1048576: true; the input reads as it did. -/
def actQuietUptoRow : OpenClaim := { program := "ytngghkhjejkelaa", sum := "1e9a54d5267eb3fe296b34bfa6e344f09b8c64b8cd218d9c95696c1addd480d5", func := "daybreak/daybreaklaw09.ActQuiet", spec := "actQuiet", unfollowed := true, recurses := true, apart := false, narrowed := true }
def ActQuietUptoSaid : Prop := actQuietUptoRow.holds Try.pinned (OpenSpec.upto actQuietSpec)

end Rows
end Go.Proofs.Ytngghkhjejkelaa
