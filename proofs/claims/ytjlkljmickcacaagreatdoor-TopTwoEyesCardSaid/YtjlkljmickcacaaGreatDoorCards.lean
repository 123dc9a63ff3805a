/-
  DERIVED. GIVEN WITH THE SEED: THE CARDS: each row of YtjlkljmickcacaaGreatDoorRows.lean that lists a variable, with what it lists TIED to the program's text (the seventh form; the later family's looks); each row that meets fmt, with fmt's text TOLD by the authors' own Lean function (tested against real Go, not proved from fmt's source: count such statements apart). THE CARD IS WHAT COUNTS. Prove the row's statement (the work); the ties are given (YtjlkljmickcacaaGreatDoorTie.lean); close each card by the builder's one call (the guide's Derived/Test/ToyasCard.lean, 'card_holds'). Laid BY PROGRAM, IN A SANDBOX (cutbox-door.mjs). By AI agents, Wed Nov 11 2026. No macro, syntax, notation, axiom, sorry.
-/
import Derived.Test.YtjlkljmickcacaaGreatDoorRows
import GoSem.ClaimSeven
namespace Go.Proofs.YtjlkljmickcacaaGreatDoor
namespace Rows

/-- THE TIED CARD OF 'bailifftop.TopTwoEyes'. -/
def topTwoEyesCard : Claim7 := { stood := { row := topTwoEyesRow, standIns := [], harness := (true, "ef962f60e79d8acf78aeb97aa83932aff73c47cbb4dd6532a537b832e2a667b8"), looks := true }, kinds := [], alts := [], laidByText := true, laidKinds := [.data, .data, .data, .sentinel, .sentinel], laidTests := true, laidLooks := .later }
def TopTwoEyesCardSaid : Prop := Claim7.holds Tryz.pinned (.plain (OpenSpec.ofChange topTwoEyesSpec)) topTwoEyesCard

/-- THE SECOND FORM's CARD OF 'bailifftop.TopTwoEyes'. -/
def topTwoEyesUptoCard : Claim7 := { stood := { row := topTwoEyesUptoRow, standIns := [], harness := (true, "ef962f60e79d8acf78aeb97aa83932aff73c47cbb4dd6532a537b832e2a667b8"), looks := true }, kinds := [], alts := [], laidByText := true, laidKinds := [.data, .data, .data, .sentinel, .sentinel], laidTests := true, laidLooks := .later }
def TopTwoEyesUptoCardSaid : Prop := Claim7.holds Tryz.pinned (.plain (OpenSpec.upto topTwoEyesSpec)) topTwoEyesUptoCard
end Rows
end Go.Proofs.YtjlkljmickcacaaGreatDoor
