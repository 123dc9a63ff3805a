/-
  DERIVED. GIVEN WITH THE SEED: THE CARDS: each row of YtdfinmcogbkffaaGreatDoorRows.lean that lists a variable, with what it lists TIED to the program's text (the seventh form; the later family's looks); each row that meets fmt, with fmt's text TOLD by the authors' own Lean function (tested against real Go, not proved from fmt's source: count such statements apart). THE CARD IS WHAT COUNTS. Prove the row's statement (the work); the ties are given (YtdfinmcogbkffaaGreatDoorTie.lean); close each card by the builder's one call (the guide's Derived/Test/ToyasCard.lean, 'card_holds'). Laid BY PROGRAM, IN A SANDBOX (cutbox-door.mjs). By AI agents, Wed Nov 11 2026. No macro, syntax, notation, axiom, sorry.
-/
import Derived.Test.YtdfinmcogbkffaaGreatDoorRows
import GoSem.ClaimSeven
namespace Go.Proofs.YtdfinmcogbkffaaGreatDoor
namespace Rows

/-- THE TIED CARD OF 'bailifftop.TopHidden'. -/
def topHiddenCard : Claim7 := { stood := { row := topHiddenRow, standIns := [], harness := (true, "ebf6598eb16618adf4da4909bd393ef1151fad5e85461a5267aa283688245f10"), looks := true }, kinds := [], alts := [], laidByText := true, laidKinds := [.data, .data, .data, .sentinel, .sentinel], laidTests := true, laidLooks := .later }
def TopHiddenCardSaid : Prop := Claim7.holds Tryz.pinned (.plain (OpenSpec.ofChange topHiddenSpec)) topHiddenCard

/-- THE SECOND FORM's CARD OF 'bailifftop.TopHidden'. -/
def topHiddenUptoCard : Claim7 := { stood := { row := topHiddenUptoRow, standIns := [], harness := (true, "ebf6598eb16618adf4da4909bd393ef1151fad5e85461a5267aa283688245f10"), looks := true }, kinds := [], alts := [], laidByText := true, laidKinds := [.data, .data, .data, .sentinel, .sentinel], laidTests := true, laidLooks := .later }
def TopHiddenUptoCardSaid : Prop := Claim7.holds Tryz.pinned (.plain (OpenSpec.upto topHiddenSpec)) topHiddenUptoCard
end Rows
end Go.Proofs.YtdfinmcogbkffaaGreatDoor
