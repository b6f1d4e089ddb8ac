/-
  No cell of these rows narrows 'for every input' (looked for: loops, veiled, ifaces, maps, wideKeys, modest, calm, conditions, laid).
  DERIVED. THE GIVEN ROWS OF THIS SEAT. 4 by the template 'for every input the law returns true; each argument reads behind the call as it read before'; 0 by the template 'total and deterministic' (their statements: YtikhhempbdimhaaTotals.lean).
  GIVEN WITH THE SEED: the statements are not yours to turn. If you find one false, say at which input.
  Laid BY PROGRAM, IN A SANDBOX (cutbox-rows.mjs): the forced cells as the released guide's own fill.sh prints them over the translation 197013daca43f884… (all of the seat's roots in one cut). By AI agents, Wed Nov 11 2026. No macro, syntax, notation, axiom, sorry.
-/
import Derived.Test.YtikhhempbdimhaaChecked
import GoSem.Claim
import GoSem.ClaimJoined
import GoSem.ClaimMapViews
import Derived.JoinedTies
import Derived.KernelRfl
namespace Go.Proofs.Ytikhhempbdimhaa
/- THE CELL 'sum', in the pinned program and in every row, IS THE sha256 OF THE DUMP (.gsa) THAT YtikhhempbdimhaaProg.lean LOADS. Nothing in Lean hashes anything: it is a label: what it is worth is what the hold of that sum in a sandbox is worth. -/
noncomputable def Try.pinned : Pinned := { name := "ytikhhempbdimhaa", sum := "197013daca43f8841890747443b0109ad000653059c1ee3ada37266239006092", checked := Try.checked }
namespace Rows
def none {H : Type} : Left H := { results := [], args := [] }

/-- 'daybreaklaw18.ScriptReads': WHATEVER THE INPUT: true; the input reads as it did. -/
def scriptReadsSpec : ChangeSpec := { name := "scriptReads", fn := fun _ => fun
  | [d] => { results := [.lit (.bool true)], args := [d] }
  | _ => none }
def scriptReadsRow : OpenClaim := { program := "ytikhhempbdimhaa", sum := "197013daca43f8841890747443b0109ad000653059c1ee3ada37266239006092", func := "daybreak/daybreaklaw18.ScriptReads", spec := "scriptReads", unfollowed := true, recurses := true, apart := false }
def ScriptReadsSaid : Prop := scriptReadsRow.holds Try.pinned (OpenSpec.ofChange scriptReadsSpec)

/-- ITS FALSE NEIGHBOUR: 'it returns false'. Refute it at one input. -/
def scriptReadsWrong : ChangeSpec := { name := "scriptReads", fn := fun _ => fun
  | [d] => { results := [.lit (.bool false)], args := [d] }
  | _ => none }
def ScriptReadsWrongFalsely : Prop := scriptReadsRow.holds Try.pinned (OpenSpec.ofChange scriptReadsWrong)

/-- 'daybreaklaw18.ScriptHead': WHATEVER THE INPUT: true; the input reads as it did. -/
def scriptHeadSpec : ChangeSpec := { name := "scriptHead", fn := fun _ => fun
  | [d] => { results := [.lit (.bool true)], args := [d] }
  | _ => none }
def scriptHeadRow : OpenClaim := { program := "ytikhhempbdimhaa", sum := "197013daca43f8841890747443b0109ad000653059c1ee3ada37266239006092", func := "daybreak/daybreaklaw18.ScriptHead", spec := "scriptHead", unfollowed := true, recurses := true, apart := false }
def ScriptHeadSaid : Prop := scriptHeadRow.holds Try.pinned (OpenSpec.ofChange scriptHeadSpec)

/-- ITS FALSE NEIGHBOUR: 'it returns false'. Refute it at one input. -/
def scriptHeadWrong : ChangeSpec := { name := "scriptHead", fn := fun _ => fun
  | [d] => { results := [.lit (.bool false)], args := [d] }
  | _ => none }
def ScriptHeadWrongFalsely : Prop := scriptHeadRow.holds Try.pinned (OpenSpec.ofChange scriptHeadWrong)

/-- 'daybreaklaw18.ScriptWrites': WHATEVER THE INPUT: true; the input reads as it did. -/
def scriptWritesSpec : ChangeSpec := { name := "scriptWrites", fn := fun _ => fun
  | [d1, d2] => { results := [.lit (.bool true)], args := [d1, d2] }
  | _ => none }
def scriptWritesRow : OpenClaim := { program := "ytikhhempbdimhaa", sum := "197013daca43f8841890747443b0109ad000653059c1ee3ada37266239006092", func := "daybreak/daybreaklaw18.ScriptWrites", spec := "scriptWrites", unfollowed := true, recurses := true, apart := false }
def ScriptWritesSaid : Prop := scriptWritesRow.holds Try.pinned (OpenSpec.ofChange scriptWritesSpec)

/-- ITS FALSE NEIGHBOUR: 'it returns false'. Refute it at one input. -/
def scriptWritesWrong : ChangeSpec := { name := "scriptWrites", fn := fun _ => fun
  | [d1, d2] => { results := [.lit (.bool false)], args := [d1, d2] }
  | _ => none }
def ScriptWritesWrongFalsely : Prop := scriptWritesRow.holds Try.pinned (OpenSpec.ofChange scriptWritesWrong)

/-- 'daybreaklaw18.ScriptBack': WHATEVER THE INPUT: true; the input reads as it did. -/
def scriptBackSpec : ChangeSpec := { name := "scriptBack", fn := fun _ => fun
  | [d] => { results := [.lit (.bool true)], args := [d] }
  | _ => none }
def scriptBackRow : OpenClaim := { program := "ytikhhempbdimhaa", sum := "197013daca43f8841890747443b0109ad000653059c1ee3ada37266239006092", func := "daybreak/daybreaklaw18.ScriptBack", spec := "scriptBack", unfollowed := true, recurses := true, apart := false }
def ScriptBackSaid : Prop := scriptBackRow.holds Try.pinned (OpenSpec.ofChange scriptBackSpec)

/-- ITS FALSE NEIGHBOUR: 'it returns false'. Refute it at one input. -/
def scriptBackWrong : ChangeSpec := { name := "scriptBack", fn := fun _ => fun
  | [d] => { results := [.lit (.bool false)], args := [d] }
  | _ => none }
def ScriptBackWrongFalsely : Prop := scriptBackRow.holds Try.pinned (OpenSpec.ofChange scriptBackWrong)

/- THE SECOND FORM. 'bulk': how many values and letters a reading holds, each counted each time it is reached (what is shared counts as often as it is met; a slice's spare places count too). A statement '..UptoSaid' is the law's where the arguments, and the package variables that the reading takes, are together of bulk at most 1048576: NARROWER than '..Said'. Prove '..Said' where nothing that the law and all that it calls make is longer than what came in: it says more and counts as full. Else prove '..UptoSaid'. A law counts once. -/
mutual
def uptoBulk {H : Type} : DataW H → Nat
  | .lit (.string bytes) => bytes.length + 1
  | .lit _ => 1
  | .nil => 1
  | .ptr d => uptoBulk d + 1
  | .slice elems spare => uptoBulkAll elems + uptoBulkAll spare + 1
  | .agg parts => uptoBulkAll parts + 1
  | .iface _ d => uptoBulk d + 1
  | .map entries => uptoBulkEntries entries + 1
  | .held _ => 1
def uptoBulkAll {H : Type} : List (DataW H) → Nat
  | [] => 0
  | d :: r => uptoBulk d + uptoBulkAll r
def uptoBulkEntries {H : Type} : List (Lit × DataW H) → Nat
  | [] => 0
  | x :: r => uptoBulkEntry x + uptoBulkEntries r
def uptoBulkEntry {H : Type} : Lit × DataW H → Nat
  | (.string bytes, d) => bytes.length + uptoBulk d + 1
  | (_, d) => uptoBulk d + 1
 end
def uptoSmall : (H : Type) → List (DataW H) → Bool := fun _ ds => decide (uptoBulkAll ds ≤ 1048576)
def OpenSpec.upto (s : _root_.Go.ChangeSpec) : _root_.Go.OpenSpec := { _root_.Go.OpenSpec.ofChange s with cond := some uptoSmall }

/-- 'daybreaklaw18.ScriptReads', WHERE WHAT IT READS IS OF BULK AT MOST 1048576: true; the input reads as it did. -/
def scriptReadsUptoRow : OpenClaim := { program := "ytikhhempbdimhaa", sum := "197013daca43f8841890747443b0109ad000653059c1ee3ada37266239006092", func := "daybreak/daybreaklaw18.ScriptReads", spec := "scriptReads", unfollowed := true, recurses := true, apart := false, narrowed := true }
def ScriptReadsUptoSaid : Prop := scriptReadsUptoRow.holds Try.pinned (OpenSpec.upto scriptReadsSpec)

/-- 'daybreaklaw18.ScriptHead', WHERE WHAT IT READS IS OF BULK AT MOST 1048576: true; the input reads as it did. -/
def scriptHeadUptoRow : OpenClaim := { program := "ytikhhempbdimhaa", sum := "197013daca43f8841890747443b0109ad000653059c1ee3ada37266239006092", func := "daybreak/daybreaklaw18.ScriptHead", spec := "scriptHead", unfollowed := true, recurses := true, apart := false, narrowed := true }
def ScriptHeadUptoSaid : Prop := scriptHeadUptoRow.holds Try.pinned (OpenSpec.upto scriptHeadSpec)

/-- 'daybreaklaw18.ScriptWrites', WHERE WHAT IT READS IS OF BULK AT MOST 1048576: true; the input reads as it did. -/
def scriptWritesUptoRow : OpenClaim := { program := "ytikhhempbdimhaa", sum := "197013daca43f8841890747443b0109ad000653059c1ee3ada37266239006092", func := "daybreak/daybreaklaw18.ScriptWrites", spec := "scriptWrites", unfollowed := true, recurses := true, apart := false, narrowed := true }
def ScriptWritesUptoSaid : Prop := scriptWritesUptoRow.holds Try.pinned (OpenSpec.upto scriptWritesSpec)

/-- 'daybreaklaw18.ScriptBack', WHERE WHAT IT READS IS OF BULK AT MOST 1048576: true; the input reads as it did. -/
def scriptBackUptoRow : OpenClaim := { program := "ytikhhempbdimhaa", sum := "197013daca43f8841890747443b0109ad000653059c1ee3ada37266239006092", func := "daybreak/daybreaklaw18.ScriptBack", spec := "scriptBack", unfollowed := true, recurses := true, apart := false, narrowed := true }
def ScriptBackUptoSaid : Prop := scriptBackUptoRow.holds Try.pinned (OpenSpec.upto scriptBackSpec)

end Rows
end Go.Proofs.Ytikhhempbdimhaa
