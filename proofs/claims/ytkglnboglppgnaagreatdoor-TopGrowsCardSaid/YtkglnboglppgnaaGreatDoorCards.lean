/-
  DERIVED. GIVEN WITH THE SEED: THE CARDS: each row of YtkglnboglppgnaaGreatDoorRows.lean that lists a variable, with what it lists TIED to the program's text (the seventh form; the later family's looks); each row that meets fmt, with fmt's text TOLD by the authors' own Lean function (tested against real Go, not proved from fmt's source: count such statements apart). THE CARD IS WHAT COUNTS. Prove the row's statement (the work); the ties are given (YtkglnboglppgnaaGreatDoorTie.lean); close each card by the builder's one call (the guide's Derived/Test/ToyasCard.lean, 'card_holds'). Laid BY PROGRAM, IN A SANDBOX (cutbox-door.mjs). By AI agents, Wed Nov 11 2026. No macro, syntax, notation, axiom, sorry.
-/
import Derived.Test.YtkglnboglppgnaaGreatDoorRows
import GoSem.ClaimSeven
namespace Go.Proofs.YtkglnboglppgnaaGreatDoor
namespace Rows

/-- THE TIED CARD OF 'bailifftop.TopGrows'. -/
def topGrowsCard : Claim7 := { stood := { row := topGrowsRow, standIns := [], harness := (true, "6670277c08542deb7dfa5043df030cbe1e63e77b89f795f54e92743c3d680c97"), looks := true }, kinds := [], alts := [], laidByText := true, laidKinds := [.data, .data, .data, .sentinel, .sentinel], laidTests := true, laidLooks := .later }
def TopGrowsCardSaid : Prop := Claim7.holds Tryz.pinned (.plain (OpenSpec.ofChange topGrowsSpec)) topGrowsCard

/-- THE SECOND FORM's CARD OF 'bailifftop.TopGrows'. -/
def topGrowsUptoCard : Claim7 := { stood := { row := topGrowsUptoRow, standIns := [], harness := (true, "6670277c08542deb7dfa5043df030cbe1e63e77b89f795f54e92743c3d680c97"), looks := true }, kinds := [], alts := [], laidByText := true, laidKinds := [.data, .data, .data, .sentinel, .sentinel], laidTests := true, laidLooks := .later }
def TopGrowsUptoCardSaid : Prop := Claim7.holds Tryz.pinned (.plain (OpenSpec.upto topGrowsSpec)) topGrowsUptoCard
end Rows
end Go.Proofs.YtkglnboglppgnaaGreatDoor
