/-
  DERIVED. GIVEN WITH THE SEED: THE CARDS: each row of YtbpimcljljlbnaaGreatDoorRows.lean that lists a variable, with what it lists TIED to the program's text (the seventh form; the later family's looks); each row that meets fmt, with fmt's text TOLD by the authors' own Lean function (tested against real Go, not proved from fmt's source: count such statements apart). THE CARD IS WHAT COUNTS. Prove the row's statement (the work); the ties are given (YtbpimcljljlbnaaGreatDoorTie.lean); close each card by the builder's one call (the guide's Derived/Test/ToyasCard.lean, 'card_holds'). Laid BY PROGRAM, IN A SANDBOX (cutbox-door.mjs). By AI agents, Wed Nov 11 2026. No macro, syntax, notation, axiom, sorry.
-/
import Derived.Test.YtbpimcljljlbnaaGreatDoorRows
import GoSem.ClaimSeven
namespace Go.Proofs.YtbpimcljljlbnaaGreatDoor
namespace Rows

/-- THE TIED CARD OF 'bailifftop.TopLocked'. -/
def topLockedCard : Claim7 := { stood := { row := topLockedRow, standIns := [], harness := (true, "7bd7bd0649b6cb54e97cc7fa3b3b1918a01c41a88012175f845fcc63f5171cb9"), looks := true }, kinds := [], alts := [], laidByText := true, laidKinds := [.data, .data, .data, .sentinel, .sentinel], laidTests := true, laidLooks := .later }
def TopLockedCardSaid : Prop := Claim7.holds Tryz.pinned (.plain (OpenSpec.ofChange topLockedSpec)) topLockedCard

/-- THE SECOND FORM's CARD OF 'bailifftop.TopLocked'. -/
def topLockedUptoCard : Claim7 := { stood := { row := topLockedUptoRow, standIns := [], harness := (true, "7bd7bd0649b6cb54e97cc7fa3b3b1918a01c41a88012175f845fcc63f5171cb9"), looks := true }, kinds := [], alts := [], laidByText := true, laidKinds := [.data, .data, .data, .sentinel, .sentinel], laidTests := true, laidLooks := .later }
def TopLockedUptoCardSaid : Prop := Claim7.holds Tryz.pinned (.plain (OpenSpec.upto topLockedSpec)) topLockedUptoCard
end Rows
end Go.Proofs.YtbpimcljljlbnaaGreatDoor
