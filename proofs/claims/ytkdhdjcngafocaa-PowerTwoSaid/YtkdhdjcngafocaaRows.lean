/-
  No cell of these rows narrows 'for every input' (looked for: loops, veiled, ifaces, maps, wideKeys, modest, calm, conditions, laid).
  DERIVED. THE GIVEN ROWS OF THIS SEAT. 3 by the template 'for every input the law returns true; each argument reads behind the call as it read before'; 0 by the template 'total and deterministic' (their statements: YtkdhdjcngafocaaTotals.lean).
  GIVEN WITH THE SEED: the statements are not yours to turn. If you find one false, say at which input.
  Laid BY PROGRAM, IN A SANDBOX (cutbox-rows.mjs): the forced cells as the released guide's own fill.sh prints them over the translation 463d427cc97ea28d… (all of the seat's roots in one cut). By AI agents, Wed Nov 11 2026. No macro, syntax, notation, axiom, sorry.
-/
import Derived.Test.YtkdhdjcngafocaaChecked
import GoSem.Claim
import GoSem.ClaimJoined
import GoSem.ClaimMapViews
import Derived.JoinedTies
import Derived.KernelRfl
namespace Go.Proofs.Ytkdhdjcngafocaa
/- THE CELL 'sum', in the pinned program and in every row, IS THE sha256 OF THE DUMP (.gsa) THAT YtkdhdjcngafocaaProg.lean LOADS. Nothing in Lean hashes anything: it is a label: what it is worth is what the hold of that sum in a sandbox is worth. -/
noncomputable def Try.pinned : Pinned := { name := "ytkdhdjcngafocaa", sum := "463d427cc97ea28d951b082ac4be3159e1a2db32eec772d71e7a3ec93a77b7eb", checked := Try.checked }
namespace Rows
def none {H : Type} : Left H := { results := [], args := [] }

/-- 'daybreaklaw16.PowerTwo': WHATEVER THE INPUT: true; the input reads as it did. -/
def powerTwoSpec : ChangeSpec := { name := "powerTwo", fn := fun _ => fun
  | [d1, d2] => { results := [.lit (.bool true)], args := [d1, d2] }
  | _ => none }
def powerTwoRow : OpenClaim := { program := "ytkdhdjcngafocaa", sum := "463d427cc97ea28d951b082ac4be3159e1a2db32eec772d71e7a3ec93a77b7eb", func := "daybreak/daybreaklaw16.PowerTwo", spec := "powerTwo", recurses := true, apart := false }
def PowerTwoSaid : Prop := powerTwoRow.holds Try.pinned (OpenSpec.ofChange powerTwoSpec)

/-- ITS FALSE NEIGHBOUR: 'it returns false'. Refute it at one input. -/
def powerTwoWrong : ChangeSpec := { name := "powerTwo", fn := fun _ => fun
  | [d1, d2] => { results := [.lit (.bool false)], args := [d1, d2] }
  | _ => none }
def PowerTwoWrongFalsely : Prop := powerTwoRow.holds Try.pinned (OpenSpec.ofChange powerTwoWrong)

/-- 'daybreaklaw16.PowerStays': WHATEVER THE INPUT: true; the input reads as it did. -/
def powerStaysSpec : ChangeSpec := { name := "powerStays", fn := fun _ => fun
  | [d1, d2, d3] => { results := [.lit (.bool true)], args := [d1, d2, d3] }
  | _ => none }
def powerStaysRow : OpenClaim := { program := "ytkdhdjcngafocaa", sum := "463d427cc97ea28d951b082ac4be3159e1a2db32eec772d71e7a3ec93a77b7eb", func := "daybreak/daybreaklaw16.PowerStays", spec := "powerStays", recurses := true, apart := false }
def PowerStaysSaid : Prop := powerStaysRow.holds Try.pinned (OpenSpec.ofChange powerStaysSpec)

/-- ITS FALSE NEIGHBOUR: 'it returns false'. Refute it at one input. -/
def powerStaysWrong : ChangeSpec := { name := "powerStays", fn := fun _ => fun
  | [d1, d2, d3] => { results := [.lit (.bool false)], args := [d1, d2, d3] }
  | _ => none }
def PowerStaysWrongFalsely : Prop := powerStaysRow.holds Try.pinned (OpenSpec.ofChange powerStaysWrong)

/-- 'daybreaklaw16.PowerTells': WHATEVER THE INPUT: true; the input reads as it did. -/
def powerTellsSpec : ChangeSpec := { name := "powerTells", fn := fun _ => fun
  | [d] => { results := [.lit (.bool true)], args := [d] }
  | _ => none }
def powerTellsRow : OpenClaim := { program := "ytkdhdjcngafocaa", sum := "463d427cc97ea28d951b082ac4be3159e1a2db32eec772d71e7a3ec93a77b7eb", func := "daybreak/daybreaklaw16.PowerTells", spec := "powerTells", unfollowed := true, recurses := true, apart := false }
def PowerTellsSaid : Prop := powerTellsRow.holds Try.pinned (OpenSpec.ofChange powerTellsSpec)

/-- ITS FALSE NEIGHBOUR: 'it returns false'. Refute it at one input. -/
def powerTellsWrong : ChangeSpec := { name := "powerTells", fn := fun _ => fun
  | [d] => { results := [.lit (.bool false)], args := [d] }
  | _ => none }
def PowerTellsWrongFalsely : Prop := powerTellsRow.holds Try.pinned (OpenSpec.ofChange powerTellsWrong)

/- THE SECOND FORM. 'bulk': how many values and letters a reading holds, each counted each time it is reached (what is shared counts as often as it is met; a slice's spare places count too). A statement '..UptoSaid' is the law's where the arguments, and the package variables that the reading takes, are together of bulk at most 1048576: NARROWER than '..Said'. Prove '..Said' where nothing that the law and all that it calls make is longer than what came in: it says more and counts as full. Else prove '..UptoSaid'. A law counts once. -/
mutual
def uptoBulk {H : Type} : DataW H → Nat
  | .lit (.string bytes) => bytes.length + 1
  | .lit _ => 1
  | .nil => 1
  | .ptr d => uptoBulk d + 1
  | .slice elems spare => uptoBulkAll elems + uptoBulkAll spare + 1
  | .agg parts => uptoBulkAll parts + 1
  | .iface _ d => uptoBulk d + 1
  | .map entries => uptoBulkEntries entries + 1
  | .held _ => 1
def uptoBulkAll {H : Type} : List (DataW H) → Nat
  | [] => 0
  | d :: r => uptoBulk d + uptoBulkAll r
def uptoBulkEntries {H : Type} : List (Lit × DataW H) → Nat
  | [] => 0
  | x :: r => uptoBulkEntry x + uptoBulkEntries r
def uptoBulkEntry {H : Type} : Lit × DataW H → Nat
  | (.string bytes, d) => bytes.length + uptoBulk d + 1
  | (_, d) => uptoBulk d + 1
 end
def uptoSmall : (H : Type) → List (DataW H) → Bool := fun _ ds => decide (uptoBulkAll ds ≤ 1048576)
def OpenSpec.upto (s : _root_.Go.ChangeSpec) : _root_.Go.OpenSpec := { _root_.Go.OpenSpec.ofChange s with cond := some uptoSmall }

/-- 'daybreaklaw16.PowerTwo', WHERE WHAT IT READS IS OF BULK AT MOST 1048576: true; the input reads as it did. -/
def powerTwoUptoRow : OpenClaim := { program := "ytkdhdjcngafocaa", sum := "463d427cc97ea28d951b082ac4be3159e1a2db32eec772d71e7a3ec93a77b7eb", func := "daybreak/daybreaklaw16.PowerTwo", spec := "powerTwo", recurses := true, apart := false, narrowed := true }
def PowerTwoUptoSaid : Prop := powerTwoUptoRow.holds Try.pinned (OpenSpec.upto powerTwoSpec)

/-- 'daybreaklaw16.PowerStays', WHERE WHAT IT READS IS OF BULK AT MOST 1048576: true; the input reads as it did. -/
def powerStaysUptoRow : OpenClaim := { program := "ytkdhdjcngafocaa", sum := "463d427cc97ea28d951b082ac4be3159e1a2db32eec772d71e7a3ec93a77b7eb", func := "daybreak/daybreaklaw16.PowerStays", spec := "powerStays", recurses := true, apart := false, narrowed := true }
def PowerStaysUptoSaid : Prop := powerStaysUptoRow.holds Try.pinned (OpenSpec.upto powerStaysSpec)

/-- 'daybreaklaw16.PowerTells', WHERE WHAT IT READS IS OF BULK AT MOST 1048576: true; the input reads as it did. -/
def powerTellsUptoRow : OpenClaim := { program := "ytkdhdjcngafocaa", sum := "463d427cc97ea28d951b082ac4be3159e1a2db32eec772d71e7a3ec93a77b7eb", func := "daybreak/daybreaklaw16.PowerTells", spec := "powerTells", unfollowed := true, recurses := true, apart := false, narrowed := true }
def PowerTellsUptoSaid : Prop := powerTellsUptoRow.holds Try.pinned (OpenSpec.upto powerTellsSpec)

end Rows
end Go.Proofs.Ytkdhdjcngafocaa
