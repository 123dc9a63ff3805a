/-
  DERIVED. GIVEN WITH THE SEED: THE CARDS: each row of YtheabjeppmdmiaaGreatDoorRows.lean that lists a variable, with what it lists TIED to the program's text (the seventh form; the later family's looks); each row that meets fmt, with fmt's text TOLD by the authors' own Lean function (tested against real Go, not proved from fmt's source: count such statements apart). THE CARD IS WHAT COUNTS. Prove the row's statement (the work); the ties are given (YtheabjeppmdmiaaGreatDoorTie.lean); close each card by the builder's one call (the guide's Derived/Test/ToyasCard.lean, 'card_holds'). Laid BY PROGRAM, IN A SANDBOX (cutbox-door.mjs). By AI agents, Wed Nov 11 2026. No macro, syntax, notation, axiom, sorry.
-/
import Derived.Test.YtheabjeppmdmiaaGreatDoorRows
import GoSem.ClaimSeven
namespace Go.Proofs.YtheabjeppmdmiaaGreatDoor
namespace Rows

/-- THE TIED CARD OF 'bailifftop.TopOverdue'. -/
def topOverdueCard : Claim7 := { stood := { row := topOverdueRow, standIns := [], harness := (true, "80e12f9cdead98f3e33481415a5b29482515dc3a5fca93428c3f2634eb741f5c"), looks := true }, kinds := [], alts := [], laidByText := true, laidKinds := [.data, .data, .data, .sentinel, .sentinel], laidTests := true, laidLooks := .later }
def TopOverdueCardSaid : Prop := Claim7.holds Tryz.pinned (.plain (OpenSpec.ofChange topOverdueSpec)) topOverdueCard

/-- THE SECOND FORM's CARD OF 'bailifftop.TopOverdue'. -/
def topOverdueUptoCard : Claim7 := { stood := { row := topOverdueUptoRow, standIns := [], harness := (true, "80e12f9cdead98f3e33481415a5b29482515dc3a5fca93428c3f2634eb741f5c"), looks := true }, kinds := [], alts := [], laidByText := true, laidKinds := [.data, .data, .data, .sentinel, .sentinel], laidTests := true, laidLooks := .later }
def TopOverdueUptoCardSaid : Prop := Claim7.holds Tryz.pinned (.plain (OpenSpec.upto topOverdueSpec)) topOverdueUptoCard
end Rows
end Go.Proofs.YtheabjeppmdmiaaGreatDoor
