/-
  DERIVED. GIVEN WITH THE SEED: THE CARDS: each row of YtmpinegdphkbjaaDoorRows.lean that lists a variable, with what it lists TIED to the program's text (the seventh form; the later family's looks); each row that meets fmt, with fmt's text TOLD by the authors' own Lean function (tested against real Go, not proved from fmt's source: count such statements apart). THE CARD IS WHAT COUNTS. Prove the row's statement (the work); the ties are given (YtmpinegdphkbjaaDoorTie.lean); close each card by the builder's one call (the guide's Derived/Test/ToyasCard.lean, 'card_holds'). Laid BY PROGRAM, IN A SANDBOX (cutbox-door.mjs). By AI agents, Wed Nov 11 2026. No macro, syntax, notation, axiom, sorry.
-/
import Derived.Test.YtmpinegdphkbjaaDoorRows
import GoSem.ClaimSeven
namespace Go.Proofs.YtmpinegdphkbjaaDoor
namespace Rows

/-- THE TIED CARD OF 'daybreaklaw25.TellLines'. -/
def tellLinesCard : Claim7 := { stood := { row := tellLinesRow, standIns := [], harness := (true, "e9206cf45e1489ce2622dc91c5c7b64517b5d59bc225d75688a851109e0239f5"), looks := false }, kinds := [], alts := [], laidByText := true, laidKinds := [.data, .data, .data], laidTests := true, laidLooks := .later }
def TellLinesCardSaid : Prop := Claim7.holds Tryd.pinned (.plain (OpenSpec.ofChange tellLinesSpec)) tellLinesCard

/-- THE TIED CARD OF 'daybreaklaw25.TellJoins'. -/
def tellJoinsCard : Claim7 := { stood := { row := tellJoinsRow, standIns := [], harness := (true, "e9206cf45e1489ce2622dc91c5c7b64517b5d59bc225d75688a851109e0239f5"), looks := false }, kinds := [], alts := [], laidByText := true, laidKinds := [.data, .data, .data], laidTests := true, laidLooks := .later }
def TellJoinsCardSaid : Prop := Claim7.holds Tryd.pinned (.plain (OpenSpec.ofChange tellJoinsSpec)) tellJoinsCard

/-- THE TIED CARD OF 'daybreaklaw25.TellTells'. -/
def tellTellsCard : Claim7 := { stood := { row := tellTellsRow, standIns := [], harness := (true, "e9206cf45e1489ce2622dc91c5c7b64517b5d59bc225d75688a851109e0239f5"), looks := false }, kinds := [], alts := [], laidByText := true, laidKinds := [.data, .data, .data], laidTests := true, laidLooks := .later }
def TellTellsCardSaid : Prop := Claim7.holds Tryd.pinned (.plain (OpenSpec.ofChange tellTellsSpec)) tellTellsCard

/-- THE SECOND FORM's CARD OF 'daybreaklaw25.TellLines'. -/
def tellLinesUptoCard : Claim7 := { stood := { row := tellLinesUptoRow, standIns := [], harness := (true, "e9206cf45e1489ce2622dc91c5c7b64517b5d59bc225d75688a851109e0239f5"), looks := false }, kinds := [], alts := [], laidByText := true, laidKinds := [.data, .data, .data], laidTests := true, laidLooks := .later }
def TellLinesUptoCardSaid : Prop := Claim7.holds Tryd.pinned (.plain (OpenSpec.upto tellLinesSpec)) tellLinesUptoCard

/-- THE SECOND FORM's CARD OF 'daybreaklaw25.TellJoins'. -/
def tellJoinsUptoCard : Claim7 := { stood := { row := tellJoinsUptoRow, standIns := [], harness := (true, "e9206cf45e1489ce2622dc91c5c7b64517b5d59bc225d75688a851109e0239f5"), looks := false }, kinds := [], alts := [], laidByText := true, laidKinds := [.data, .data, .data], laidTests := true, laidLooks := .later }
def TellJoinsUptoCardSaid : Prop := Claim7.holds Tryd.pinned (.plain (OpenSpec.upto tellJoinsSpec)) tellJoinsUptoCard

/-- THE SECOND FORM's CARD OF 'daybreaklaw25.TellTells'. -/
def tellTellsUptoCard : Claim7 := { stood := { row := tellTellsUptoRow, standIns := [], harness := (true, "e9206cf45e1489ce2622dc91c5c7b64517b5d59bc225d75688a851109e0239f5"), looks := false }, kinds := [], alts := [], laidByText := true, laidKinds := [.data, .data, .data], laidTests := true, laidLooks := .later }
def TellTellsUptoCardSaid : Prop := Claim7.holds Tryd.pinned (.plain (OpenSpec.upto tellTellsSpec)) tellTellsUptoCard
end Rows
end Go.Proofs.YtmpinegdphkbjaaDoor
