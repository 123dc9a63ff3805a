/-
  DERIVED. GIVEN WITH THE SEED: THE CARDS: each row of YthcgdgkpgdjahaaGreatDoorRows.lean that lists a variable, with what it lists TIED to the program's text (the seventh form; the later family's looks); each row that meets fmt, with fmt's text TOLD by the authors' own Lean function (tested against real Go, not proved from fmt's source: count such statements apart). THE CARD IS WHAT COUNTS. Prove the row's statement (the work); the ties are given (YthcgdgkpgdjahaaGreatDoorTie.lean); close each card by the builder's one call (the guide's Derived/Test/ToyasCard.lean, 'card_holds'). Laid BY PROGRAM, IN A SANDBOX (cutbox-door.mjs). By AI agents, Wed Nov 11 2026. No macro, syntax, notation, axiom, sorry.
-/
import Derived.Test.YthcgdgkpgdjahaaGreatDoorRows
import GoSem.ClaimSeven
namespace Go.Proofs.YthcgdgkpgdjahaaGreatDoor
namespace Rows

/-- THE TIED CARD OF 'bailifftop.TopSilent'. -/
def topSilentCard : Claim7 := { stood := { row := topSilentRow, standIns := [], harness := (true, "6433df45873754b576981c6a42b4eea7344f605449f2141387a3652f5ff50f14"), looks := true }, kinds := [], alts := [], laidByText := true, laidKinds := [.data, .data, .data, .sentinel, .sentinel], laidTests := true, laidLooks := .later }
def TopSilentCardSaid : Prop := Claim7.holds Tryz.pinned (.plain (OpenSpec.ofChange topSilentSpec)) topSilentCard

/-- THE SECOND FORM's CARD OF 'bailifftop.TopSilent'. -/
def topSilentUptoCard : Claim7 := { stood := { row := topSilentUptoRow, standIns := [], harness := (true, "6433df45873754b576981c6a42b4eea7344f605449f2141387a3652f5ff50f14"), looks := true }, kinds := [], alts := [], laidByText := true, laidKinds := [.data, .data, .data, .sentinel, .sentinel], laidTests := true, laidLooks := .later }
def TopSilentUptoCardSaid : Prop := Claim7.holds Tryz.pinned (.plain (OpenSpec.upto topSilentSpec)) topSilentUptoCard
end Rows
end Go.Proofs.YthcgdgkpgdjahaaGreatDoor
