/-
  No cell of these rows narrows 'for every input' (looked for: loops, veiled, ifaces, maps, wideKeys, modest, calm, conditions, laid).
  DERIVED. THE GIVEN ROWS OF THIS SEAT. 4 by the template 'for every input the law returns true; each argument reads behind the call as it read before'; 0 by the template 'total and deterministic' (their statements: YtngghkhjejkelabTotals.lean).
  GIVEN WITH THE SEED: the statements are not yours to turn. If you find one false, say at which input.
  Laid BY PROGRAM, IN A SANDBOX (cutbox-rows.mjs): the forced cells as the released guide's own fill.sh prints them over the translation 248bbd72a6f598cd… (all of the seat's roots in one cut). By AI agents, Wed Nov 11 2026. No macro, syntax, notation, axiom, sorry.
-/
import Derived.Test.YtngghkhjejkelabChecked
import GoSem.Claim
import GoSem.ClaimJoined
import GoSem.ClaimMapViews
import Derived.JoinedTies
import Derived.KernelRfl
namespace Go.Proofs.Ytngghkhjejkelab
/- THE CELL 'sum', in the pinned program and in every row, IS THE sha256 OF THE DUMP (.gsa) THAT YtngghkhjejkelabProg.lean LOADS. Nothing in Lean hashes anything: it is a label: what it is worth is what the hold of that sum in a sandbox is worth. -/
noncomputable def Try.pinned : Pinned := { name := "ytngghkhjejkelab", sum := "248bbd72a6f598cdf14d63606ebfc0ef29adf3da8f590424748fc444f97530bb", checked := Try.checked }
namespace Rows
def none {H : Type} : Left H := { results := [], args := [] }

/-- 'daybreaklaw13.HubApart': WHATEVER THE INPUT: true; the input reads as it did. -/
def hubApartSpec : ChangeSpec := { name := "hubApart", fn := fun _ => fun
  | [d1, d2, d3] => { results := [.lit (.bool true)], args := [d1, d2, d3] }
  | _ => none }
def hubApartRow : OpenClaim := { program := "ytngghkhjejkelab", sum := "248bbd72a6f598cdf14d63606ebfc0ef29adf3da8f590424748fc444f97530bb", func := "daybreak/daybreaklaw13.HubApart", spec := "hubApart", unfollowed := true, recurses := true, apart := false }
def HubApartSaid : Prop := hubApartRow.holds Try.pinned (OpenSpec.ofChange hubApartSpec)

/-- ITS FALSE NEIGHBOUR: 'it returns false'. Refute it at one input. -/
def hubApartWrong : ChangeSpec := { name := "hubApart", fn := fun _ => fun
  | [d1, d2, d3] => { results := [.lit (.bool false)], args := [d1, d2, d3] }
  | _ => none }
def HubApartWrongFalsely : Prop := hubApartRow.holds Try.pinned (OpenSpec.ofChange hubApartWrong)

/-- 'daybreaklaw14.LinkAlike': WHATEVER THE INPUT: true; the input reads as it did. -/
def linkAlikeSpec : ChangeSpec := { name := "linkAlike", fn := fun _ => fun
  | [d] => { results := [.lit (.bool true)], args := [d] }
  | _ => none }
def linkAlikeRow : OpenClaim := { program := "ytngghkhjejkelab", sum := "248bbd72a6f598cdf14d63606ebfc0ef29adf3da8f590424748fc444f97530bb", func := "daybreak/daybreaklaw14.LinkAlike", spec := "linkAlike", unfollowed := true, recurses := true, apart := false }
def LinkAlikeSaid : Prop := linkAlikeRow.holds Try.pinned (OpenSpec.ofChange linkAlikeSpec)

/-- ITS FALSE NEIGHBOUR: 'it returns false'. Refute it at one input. -/
def linkAlikeWrong : ChangeSpec := { name := "linkAlike", fn := fun _ => fun
  | [d] => { results := [.lit (.bool false)], args := [d] }
  | _ => none }
def LinkAlikeWrongFalsely : Prop := linkAlikeRow.holds Try.pinned (OpenSpec.ofChange linkAlikeWrong)

/-- 'daybreaklaw14.LinkWays': WHATEVER THE INPUT: true; the input reads as it did. -/
def linkWaysSpec : ChangeSpec := { name := "linkWays", fn := fun _ => fun
  | [d] => { results := [.lit (.bool true)], args := [d] }
  | _ => none }
def linkWaysRow : OpenClaim := { program := "ytngghkhjejkelab", sum := "248bbd72a6f598cdf14d63606ebfc0ef29adf3da8f590424748fc444f97530bb", func := "daybreak/daybreaklaw14.LinkWays", spec := "linkWays", unfollowed := true, recurses := true, apart := false }
def LinkWaysSaid : Prop := linkWaysRow.holds Try.pinned (OpenSpec.ofChange linkWaysSpec)

/-- ITS FALSE NEIGHBOUR: 'it returns false'. Refute it at one input. -/
def linkWaysWrong : ChangeSpec := { name := "linkWays", fn := fun _ => fun
  | [d] => { results := [.lit (.bool false)], args := [d] }
  | _ => none }
def LinkWaysWrongFalsely : Prop := linkWaysRow.holds Try.pinned (OpenSpec.ofChange linkWaysWrong)

/-- 'daybreaklaw14.LinkTells': WHATEVER THE INPUT: true; the input reads as it did. -/
def linkTellsSpec : ChangeSpec := { name := "linkTells", fn := fun _ => fun
  | [d] => { results := [.lit (.bool true)], args := [d] }
  | _ => none }
def linkTellsRow : OpenClaim := { program := "ytngghkhjejkelab", sum := "248bbd72a6f598cdf14d63606ebfc0ef29adf3da8f590424748fc444f97530bb", func := "daybreak/daybreaklaw14.LinkTells", spec := "linkTells", unfollowed := true, recurses := true, apart := false }
def LinkTellsSaid : Prop := linkTellsRow.holds Try.pinned (OpenSpec.ofChange linkTellsSpec)

/-- ITS FALSE NEIGHBOUR: 'it returns false'. Refute it at one input. -/
def linkTellsWrong : ChangeSpec := { name := "linkTells", fn := fun _ => fun
  | [d] => { results := [.lit (.bool false)], args := [d] }
  | _ => none }
def LinkTellsWrongFalsely : Prop := linkTellsRow.holds Try.pinned (OpenSpec.ofChange linkTellsWrong)

/- THE SECOND FORM. 'bulk': how many values and letters a reading holds, each counted each time it is reached (what is shared counts as often as it is met; a slice's spare places count too). A statement '..UptoSaid' is the law's where the arguments, and the package variables that the reading takes, are together of bulk at most 1048576: NARROWER than '..Said'. Prove '..Said' where nothing that the law and all that it calls make is longer than what came in: it says more and counts as full. Else prove '..UptoSaid'. A law counts once. -/
mutual
def uptoBulk {H : Type} : DataW H → Nat
  | .lit (.string bytes) => bytes.length + 1
  | .lit _ => 1
  | .nil => 1
  | .ptr d => uptoBulk d + 1
  | .slice elems spare => uptoBulkAll elems + uptoBulkAll spare + 1
  | .agg parts => uptoBulkAll parts + 1
  | .iface _ d => uptoBulk d + 1
  | .map entries => uptoBulkEntries entries + 1
  | .held _ => 1
def uptoBulkAll {H : Type} : List (DataW H) → Nat
  | [] => 0
  | d :: r => uptoBulk d + uptoBulkAll r
def uptoBulkEntries {H : Type} : List (Lit × DataW H) → Nat
  | [] => 0
  | x :: r => uptoBulkEntry x + uptoBulkEntries r
def uptoBulkEntry {H : Type} : Lit × DataW H → Nat
  | (.string bytes, d) => bytes.length + uptoBulk d + 1
  | (_, d) => uptoBulk d + 1
 end
def uptoSmall : (H : Type) → List (DataW H) → Bool := fun _ ds => decide (uptoBulkAll ds ≤ 1048576)
def OpenSpec.upto (s : _root_.Go.ChangeSpec) : _root_.Go.OpenSpec := { _root_.Go.OpenSpec.ofChange s with cond := some uptoSmall }

/-- 'daybreaklaw13.HubApart', WHERE WHAT IT READS IS OF BULK AT MOST 1048576: true; the input reads as it did. -/
def hubApartUptoRow : OpenClaim := { program := "ytngghkhjejkelab", sum := "248bbd72a6f598cdf14d63606ebfc0ef29adf3da8f590424748fc444f97530bb", func := "daybreak/daybreaklaw13.HubApart", spec := "hubApart", unfollowed := true, recurses := true, apart := false, narrowed := true }
def HubApartUptoSaid : Prop := hubApartUptoRow.holds Try.pinned (OpenSpec.upto hubApartSpec)

/-- 'daybreaklaw14.LinkAlike', WHERE WHAT IT READS IS OF BULK AT MOST 1048576: true; the input reads as it did. -/
def linkAlikeUptoRow : OpenClaim := { program := "ytngghkhjejkelab", sum := "248bbd72a6f598cdf14d63606ebfc0ef29adf3da8f590424748fc444f97530bb", func := "daybreak/daybreaklaw14.LinkAlike", spec := "linkAlike", unfollowed := true, recurses := true, apart := false, narrowed := true }
def LinkAlikeUptoSaid : Prop := linkAlikeUptoRow.holds Try.pinned (OpenSpec.upto linkAlikeSpec)

/-- 'daybreaklaw14.LinkWays', WHERE WHAT IT READS IS OF BULK AT MOST 1048576: true; the input reads as it did. -/
def linkWaysUptoRow : OpenClaim := { program := "ytngghkhjejkelab", sum := "248bbd72a6f598cdf14d63606ebfc0ef29adf3da8f590424748fc444f97530bb", func := "daybreak/daybreaklaw14.LinkWays", spec := "linkWays", unfollowed := true, recurses := true, apart := false, narrowed := true }
def LinkWaysUptoSaid : Prop := linkWaysUptoRow.holds Try.pinned (OpenSpec.upto linkWaysSpec)

/-- 'daybreaklaw14.LinkTells', WHERE WHAT IT READS IS OF BULK AT MOST 1048576: true; the input reads as it did. -/
def linkTellsUptoRow : OpenClaim := { program := "ytngghkhjejkelab", sum := "248bbd72a6f598cdf14d63606ebfc0ef29adf3da8f590424748fc444f97530bb", func := "daybreak/daybreaklaw14.LinkTells", spec := "linkTells", unfollowed := true, recurses := true, apart := false, narrowed := true }
def LinkTellsUptoSaid : Prop := linkTellsUptoRow.holds Try.pinned (OpenSpec.upto linkTellsSpec)

end Rows
end Go.Proofs.Ytngghkhjejkelab
