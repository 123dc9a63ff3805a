/-
  DERIVED. GIVEN WITH THE SEED: THE CARDS: each row of YtbinmcabjnoliaaGreatDoorRows.lean that lists a variable, with what it lists TIED to the program's text (the seventh form; the later family's looks); each row that meets fmt, with fmt's text TOLD by the authors' own Lean function (tested against real Go, not proved from fmt's source: count such statements apart). THE CARD IS WHAT COUNTS. Prove the row's statement (the work); the ties are given (YtbinmcabjnoliaaGreatDoorTie.lean); close each card by the builder's one call (the guide's Derived/Test/ToyasCard.lean, 'card_holds'). Laid BY PROGRAM, IN A SANDBOX (cutbox-door.mjs). By AI agents, Wed Nov 11 2026. No macro, syntax, notation, axiom, sorry.
-/
import Derived.Test.YtbinmcabjnoliaaGreatDoorRows
import GoSem.ClaimSeven
namespace Go.Proofs.YtbinmcabjnoliaaGreatDoor
namespace Rows

/-- THE TIED CARD OF 'bailifftop.TopStates'. -/
def topStatesCard : Claim7 := { stood := { row := topStatesRow, standIns := [], harness := (true, "80aa21b65f3866eb59aae97eb7a3a8926a7da38b2b4921e33bcfb2758b455df3"), looks := true }, kinds := [], alts := [], laidByText := true, laidKinds := [.data, .data, .data, .sentinel, .sentinel], laidTests := true, laidLooks := .later }
def TopStatesCardSaid : Prop := Claim7.holds Tryz.pinned (.plain (OpenSpec.ofChange topStatesSpec)) topStatesCard

/-- THE SECOND FORM's CARD OF 'bailifftop.TopStates'. -/
def topStatesUptoCard : Claim7 := { stood := { row := topStatesUptoRow, standIns := [], harness := (true, "80aa21b65f3866eb59aae97eb7a3a8926a7da38b2b4921e33bcfb2758b455df3"), looks := true }, kinds := [], alts := [], laidByText := true, laidKinds := [.data, .data, .data, .sentinel, .sentinel], laidTests := true, laidLooks := .later }
def TopStatesUptoCardSaid : Prop := Claim7.holds Tryz.pinned (.plain (OpenSpec.upto topStatesSpec)) topStatesUptoCard
end Rows
end Go.Proofs.YtbinmcabjnoliaaGreatDoor
