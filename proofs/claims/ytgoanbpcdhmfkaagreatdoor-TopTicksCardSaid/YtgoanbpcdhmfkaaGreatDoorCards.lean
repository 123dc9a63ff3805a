/-
  DERIVED. GIVEN WITH THE SEED: THE CARDS: each row of YtgoanbpcdhmfkaaGreatDoorRows.lean that lists a variable, with what it lists TIED to the program's text (the seventh form; the later family's looks); each row that meets fmt, with fmt's text TOLD by the authors' own Lean function (tested against real Go, not proved from fmt's source: count such statements apart). THE CARD IS WHAT COUNTS. Prove the row's statement (the work); the ties are given (YtgoanbpcdhmfkaaGreatDoorTie.lean); close each card by the builder's one call (the guide's Derived/Test/ToyasCard.lean, 'card_holds'). Laid BY PROGRAM, IN A SANDBOX (cutbox-door.mjs). By AI agents, Wed Nov 11 2026. No macro, syntax, notation, axiom, sorry.
-/
import Derived.Test.YtgoanbpcdhmfkaaGreatDoorRows
import GoSem.ClaimSeven
namespace Go.Proofs.YtgoanbpcdhmfkaaGreatDoor
namespace Rows

/-- THE TIED CARD OF 'bailifftop.TopTicks'. -/
def topTicksCard : Claim7 := { stood := { row := topTicksRow, standIns := [], harness := (true, "eafc79948bfcf776eab4d2921014573720e4314f61f7a2579d3052d8e2c93674"), looks := true }, kinds := [], alts := [], laidByText := true, laidKinds := [.data, .data, .data, .sentinel, .sentinel], laidTests := true, laidLooks := .later }
def TopTicksCardSaid : Prop := Claim7.holds Tryz.pinned (.plain (OpenSpec.ofChange topTicksSpec)) topTicksCard

/-- THE SECOND FORM's CARD OF 'bailifftop.TopTicks'. -/
def topTicksUptoCard : Claim7 := { stood := { row := topTicksUptoRow, standIns := [], harness := (true, "eafc79948bfcf776eab4d2921014573720e4314f61f7a2579d3052d8e2c93674"), looks := true }, kinds := [], alts := [], laidByText := true, laidKinds := [.data, .data, .data, .sentinel, .sentinel], laidTests := true, laidLooks := .later }
def TopTicksUptoCardSaid : Prop := Claim7.holds Tryz.pinned (.plain (OpenSpec.upto topTicksSpec)) topTicksUptoCard
end Rows
end Go.Proofs.YtgoanbpcdhmfkaaGreatDoor
