/-
  No cell of these rows narrows 'for every input' (looked for: loops, veiled, ifaces, maps, wideKeys, modest, calm, conditions, laid).
  DERIVED. THE GIVEN ROWS OF THIS SEAT. 10 by the template 'for every input the law returns true; each argument reads behind the call as it read before'; 0 by the template 'total and deterministic' (their statements: YtdfbmlaehdgcdaaTotals.lean).
  GIVEN WITH THE SEED: the statements are not yours to turn. If you find one false, say at which input.
  Laid BY PROGRAM, IN A SANDBOX (cutbox-rows.mjs): the forced cells as the released guide's own fill.sh prints them over the translation 92513d817f1a57a2… (all of the seat's roots in one cut). By AI agents, Wed Nov 11 2026. No macro, syntax, notation, axiom, sorry.
-/
import Derived.Test.YtdfbmlaehdgcdaaChecked
import GoSem.Claim
import GoSem.ClaimJoined
import GoSem.ClaimMapViews
import Derived.JoinedTies
import Derived.KernelRfl
namespace Go.Proofs.Ytdfbmlaehdgcdaa
/- THE CELL 'sum', in the pinned program and in every row, IS THE sha256 OF THE DUMP (.gsa) THAT YtdfbmlaehdgcdaaProg.lean LOADS. Nothing in Lean hashes anything: it is a label: what it is worth is what the hold of that sum in a sandbox is worth. -/
noncomputable def Try.pinned : Pinned := { name := "ytdfbmlaehdgcdaa", sum := "92513d817f1a57a2e3fd4470a3ca214197d2392a25f979be7f5cc5797fa59433", checked := Try.checked }
namespace Rows
def none {H : Type} : Left H := { results := [], args := [] }

/-- 'bailifflaw2.SumRuns': WHATEVER THE INPUT: true; the input reads as it did. -/
def sumRunsSpec : ChangeSpec := { name := "sumRuns", fn := fun _ => fun
  | [] => { results := [.lit (.bool true)], args := [] }
  | _ => none }
def sumRunsRow : OpenClaim := { program := "ytdfbmlaehdgcdaa", sum := "92513d817f1a57a2e3fd4470a3ca214197d2392a25f979be7f5cc5797fa59433", func := "bailiff/bailifflaw2.SumRuns", spec := "sumRuns", apart := false }
def SumRunsSaid : Prop := sumRunsRow.holds Try.pinned (OpenSpec.ofChange sumRunsSpec)

/-- ITS FALSE NEIGHBOUR: 'it returns false'. Refute it at one input. -/
def sumRunsWrong : ChangeSpec := { name := "sumRuns", fn := fun _ => fun
  | [] => { results := [.lit (.bool false)], args := [] }
  | _ => none }
def SumRunsWrongFalsely : Prop := sumRunsRow.holds Try.pinned (OpenSpec.ofChange sumRunsWrong)

/-- 'bailifflaw2.SumTurned': WHATEVER THE INPUT: true; the input reads as it did. -/
def sumTurnedSpec : ChangeSpec := { name := "sumTurned", fn := fun _ => fun
  | [d1, d2, d3] => { results := [.lit (.bool true)], args := [d1, d2, d3] }
  | _ => none }
def sumTurnedRow : OpenClaim := { program := "ytdfbmlaehdgcdaa", sum := "92513d817f1a57a2e3fd4470a3ca214197d2392a25f979be7f5cc5797fa59433", func := "bailiff/bailifflaw2.SumTurned", spec := "sumTurned", apart := false }
def SumTurnedSaid : Prop := sumTurnedRow.holds Try.pinned (OpenSpec.ofChange sumTurnedSpec)

/-- ITS FALSE NEIGHBOUR: 'it returns false'. Refute it at one input. -/
def sumTurnedWrong : ChangeSpec := { name := "sumTurned", fn := fun _ => fun
  | [d1, d2, d3] => { results := [.lit (.bool false)], args := [d1, d2, d3] }
  | _ => none }
def SumTurnedWrongFalsely : Prop := sumTurnedRow.holds Try.pinned (OpenSpec.ofChange sumTurnedWrong)

/-- 'bailifflaw2.SumXor': WHATEVER THE INPUT: true; the input reads as it did. -/
def sumXorSpec : ChangeSpec := { name := "sumXor", fn := fun _ => fun
  | [d1, d2, d3] => { results := [.lit (.bool true)], args := [d1, d2, d3] }
  | _ => none }
def sumXorRow : OpenClaim := { program := "ytdfbmlaehdgcdaa", sum := "92513d817f1a57a2e3fd4470a3ca214197d2392a25f979be7f5cc5797fa59433", func := "bailiff/bailifflaw2.SumXor", spec := "sumXor", apart := false }
def SumXorSaid : Prop := sumXorRow.holds Try.pinned (OpenSpec.ofChange sumXorSpec)

/-- ITS FALSE NEIGHBOUR: 'it returns false'. Refute it at one input. -/
def sumXorWrong : ChangeSpec := { name := "sumXor", fn := fun _ => fun
  | [d1, d2, d3] => { results := [.lit (.bool false)], args := [d1, d2, d3] }
  | _ => none }
def SumXorWrongFalsely : Prop := sumXorRow.holds Try.pinned (OpenSpec.ofChange sumXorWrong)

/-- 'bailifflaw2.SumTells': WHATEVER THE INPUT: true; the input reads as it did. -/
def sumTellsSpec : ChangeSpec := { name := "sumTells", fn := fun _ => fun
  | [d1, d2] => { results := [.lit (.bool true)], args := [d1, d2] }
  | _ => none }
def sumTellsRow : OpenClaim := { program := "ytdfbmlaehdgcdaa", sum := "92513d817f1a57a2e3fd4470a3ca214197d2392a25f979be7f5cc5797fa59433", func := "bailiff/bailifflaw2.SumTells", spec := "sumTells", apart := false }
def SumTellsSaid : Prop := sumTellsRow.holds Try.pinned (OpenSpec.ofChange sumTellsSpec)

/-- ITS FALSE NEIGHBOUR: 'it returns false'. Refute it at one input. -/
def sumTellsWrong : ChangeSpec := { name := "sumTells", fn := fun _ => fun
  | [d1, d2] => { results := [.lit (.bool false)], args := [d1, d2] }
  | _ => none }
def SumTellsWrongFalsely : Prop := sumTellsRow.holds Try.pinned (OpenSpec.ofChange sumTellsWrong)

/-- 'bailifflaw2.SumSteps': WHATEVER THE INPUT: true; the input reads as it did. -/
def sumStepsSpec : ChangeSpec := { name := "sumSteps", fn := fun _ => fun
  | [d1, d2, d3] => { results := [.lit (.bool true)], args := [d1, d2, d3] }
  | _ => none }
def sumStepsRow : OpenClaim := { program := "ytdfbmlaehdgcdaa", sum := "92513d817f1a57a2e3fd4470a3ca214197d2392a25f979be7f5cc5797fa59433", func := "bailiff/bailifflaw2.SumSteps", spec := "sumSteps", apart := false }
def SumStepsSaid : Prop := sumStepsRow.holds Try.pinned (OpenSpec.ofChange sumStepsSpec)

/-- ITS FALSE NEIGHBOUR: 'it returns false'. Refute it at one input. -/
def sumStepsWrong : ChangeSpec := { name := "sumSteps", fn := fun _ => fun
  | [d1, d2, d3] => { results := [.lit (.bool false)], args := [d1, d2, d3] }
  | _ => none }
def SumStepsWrongFalsely : Prop := sumStepsRow.holds Try.pinned (OpenSpec.ofChange sumStepsWrong)

/-- 'bailifflaw21.ChainRuns': WHATEVER THE INPUT: true; the input reads as it did. -/
def chainRunsSpec : ChangeSpec := { name := "chainRuns", fn := fun _ => fun
  | [] => { results := [.lit (.bool true)], args := [] }
  | _ => none }
def chainRunsRow : OpenClaim := { program := "ytdfbmlaehdgcdaa", sum := "92513d817f1a57a2e3fd4470a3ca214197d2392a25f979be7f5cc5797fa59433", func := "bailiff/bailifflaw21.ChainRuns", spec := "chainRuns", apart := false }
def ChainRunsSaid : Prop := chainRunsRow.holds Try.pinned (OpenSpec.ofChange chainRunsSpec)

/-- ITS FALSE NEIGHBOUR: 'it returns false'. Refute it at one input. -/
def chainRunsWrong : ChangeSpec := { name := "chainRuns", fn := fun _ => fun
  | [] => { results := [.lit (.bool false)], args := [] }
  | _ => none }
def ChainRunsWrongFalsely : Prop := chainRunsRow.holds Try.pinned (OpenSpec.ofChange chainRunsWrong)

/-- 'bailifflaw21.ChainTells': WHATEVER THE INPUT: true; the input reads as it did. -/
def chainTellsSpec : ChangeSpec := { name := "chainTells", fn := fun _ => fun
  | [d1, d2, d3, d4, d5] => { results := [.lit (.bool true)], args := [d1, d2, d3, d4, d5] }
  | _ => none }
def chainTellsRow : OpenClaim := { program := "ytdfbmlaehdgcdaa", sum := "92513d817f1a57a2e3fd4470a3ca214197d2392a25f979be7f5cc5797fa59433", func := "bailiff/bailifflaw21.ChainTells", spec := "chainTells", apart := false }
def ChainTellsSaid : Prop := chainTellsRow.holds Try.pinned (OpenSpec.ofChange chainTellsSpec)

/-- ITS FALSE NEIGHBOUR: 'it returns false'. Refute it at one input. -/
def chainTellsWrong : ChangeSpec := { name := "chainTells", fn := fun _ => fun
  | [d1, d2, d3, d4, d5] => { results := [.lit (.bool false)], args := [d1, d2, d3, d4, d5] }
  | _ => none }
def ChainTellsWrongFalsely : Prop := chainTellsRow.holds Try.pinned (OpenSpec.ofChange chainTellsWrong)

/-- 'bailifflaw21.ChainHolds': WHATEVER THE INPUT: true; the input reads as it did. -/
def chainHoldsSpec : ChangeSpec := { name := "chainHolds", fn := fun _ => fun
  | [d1, d2, d3, d4, d5] => { results := [.lit (.bool true)], args := [d1, d2, d3, d4, d5] }
  | _ => none }
def chainHoldsRow : OpenClaim := { program := "ytdfbmlaehdgcdaa", sum := "92513d817f1a57a2e3fd4470a3ca214197d2392a25f979be7f5cc5797fa59433", func := "bailiff/bailifflaw21.ChainHolds", spec := "chainHolds", apart := false }
def ChainHoldsSaid : Prop := chainHoldsRow.holds Try.pinned (OpenSpec.ofChange chainHoldsSpec)

/-- ITS FALSE NEIGHBOUR: 'it returns false'. Refute it at one input. -/
def chainHoldsWrong : ChangeSpec := { name := "chainHolds", fn := fun _ => fun
  | [d1, d2, d3, d4, d5] => { results := [.lit (.bool false)], args := [d1, d2, d3, d4, d5] }
  | _ => none }
def ChainHoldsWrongFalsely : Prop := chainHoldsRow.holds Try.pinned (OpenSpec.ofChange chainHoldsWrong)

/-- 'bailifflaw21.ChainLast': WHATEVER THE INPUT: true; the input reads as it did. -/
def chainLastSpec : ChangeSpec := { name := "chainLast", fn := fun _ => fun
  | [d1, d2] => { results := [.lit (.bool true)], args := [d1, d2] }
  | _ => none }
def chainLastRow : OpenClaim := { program := "ytdfbmlaehdgcdaa", sum := "92513d817f1a57a2e3fd4470a3ca214197d2392a25f979be7f5cc5797fa59433", func := "bailiff/bailifflaw21.ChainLast", spec := "chainLast", apart := false }
def ChainLastSaid : Prop := chainLastRow.holds Try.pinned (OpenSpec.ofChange chainLastSpec)

/-- ITS FALSE NEIGHBOUR: 'it returns false'. Refute it at one input. -/
def chainLastWrong : ChangeSpec := { name := "chainLast", fn := fun _ => fun
  | [d1, d2] => { results := [.lit (.bool false)], args := [d1, d2] }
  | _ => none }
def ChainLastWrongFalsely : Prop := chainLastRow.holds Try.pinned (OpenSpec.ofChange chainLastWrong)

/-- 'bailifflaw21.ChainGrows': WHATEVER THE INPUT: true; the input reads as it did. -/
def chainGrowsSpec : ChangeSpec := { name := "chainGrows", fn := fun _ => fun
  | [d1, d2, d3] => { results := [.lit (.bool true)], args := [d1, d2, d3] }
  | _ => none }
def chainGrowsRow : OpenClaim := { program := "ytdfbmlaehdgcdaa", sum := "92513d817f1a57a2e3fd4470a3ca214197d2392a25f979be7f5cc5797fa59433", func := "bailiff/bailifflaw21.ChainGrows", spec := "chainGrows", apart := false }
def ChainGrowsSaid : Prop := chainGrowsRow.holds Try.pinned (OpenSpec.ofChange chainGrowsSpec)

/-- ITS FALSE NEIGHBOUR: 'it returns false'. Refute it at one input. -/
def chainGrowsWrong : ChangeSpec := { name := "chainGrows", fn := fun _ => fun
  | [d1, d2, d3] => { results := [.lit (.bool false)], args := [d1, d2, d3] }
  | _ => none }
def ChainGrowsWrongFalsely : Prop := chainGrowsRow.holds Try.pinned (OpenSpec.ofChange chainGrowsWrong)

/- THE SECOND FORM. 'bulk': how many values and letters a reading holds, each counted each time it is reached (what is shared counts as often as it is met; a slice's spare places count too). A statement '..UptoSaid' is the law's where the arguments, and the package variables that the reading takes, are together of bulk at most 1048576: NARROWER than '..Said'. Prove '..Said' where nothing that the law and all that it calls make is longer than what came in: it says more and counts as full. Else prove '..UptoSaid'. A law counts once. -/
mutual
def uptoBulk {H : Type} : DataW H → Nat
  | .lit (.string bytes) => bytes.length + 1
  | .lit _ => 1
  | .nil => 1
  | .ptr d => uptoBulk d + 1
  | .slice elems spare => uptoBulkAll elems + uptoBulkAll spare + 1
  | .agg parts => uptoBulkAll parts + 1
  | .iface _ d => uptoBulk d + 1
  | .map entries => uptoBulkEntries entries + 1
  | .held _ => 1
def uptoBulkAll {H : Type} : List (DataW H) → Nat
  | [] => 0
  | d :: r => uptoBulk d + uptoBulkAll r
def uptoBulkEntries {H : Type} : List (Lit × DataW H) → Nat
  | [] => 0
  | x :: r => uptoBulkEntry x + uptoBulkEntries r
def uptoBulkEntry {H : Type} : Lit × DataW H → Nat
  | (.string bytes, d) => bytes.length + uptoBulk d + 1
  | (_, d) => uptoBulk d + 1
 end
def uptoSmall : (H : Type) → List (DataW H) → Bool := fun _ ds => decide (uptoBulkAll ds ≤ 1048576)
def OpenSpec.upto (s : _root_.Go.ChangeSpec) : _root_.Go.OpenSpec := { _root_.Go.OpenSpec.ofChange s with cond := some uptoSmall }

/-- 'bailifflaw2.SumRuns', WHERE WHAT IT READS IS OF BULK AT MOST 1048576: true; the input reads as it did. -/
def sumRunsUptoRow : OpenClaim := { program := "ytdfbmlaehdgcdaa", sum := "92513d817f1a57a2e3fd4470a3ca214197d2392a25f979be7f5cc5797fa59433", func := "bailiff/bailifflaw2.SumRuns", spec := "sumRuns", apart := false, narrowed := true }
def SumRunsUptoSaid : Prop := sumRunsUptoRow.holds Try.pinned (OpenSpec.upto sumRunsSpec)

/-- 'bailifflaw2.SumTurned', WHERE WHAT IT READS IS OF BULK AT MOST 1048576: true; the input reads as it did. -/
def sumTurnedUptoRow : OpenClaim := { program := "ytdfbmlaehdgcdaa", sum := "92513d817f1a57a2e3fd4470a3ca214197d2392a25f979be7f5cc5797fa59433", func := "bailiff/bailifflaw2.SumTurned", spec := "sumTurned", apart := false, narrowed := true }
def SumTurnedUptoSaid : Prop := sumTurnedUptoRow.holds Try.pinned (OpenSpec.upto sumTurnedSpec)

/-- 'bailifflaw2.SumXor', WHERE WHAT IT READS IS OF BULK AT MOST 1048576: true; the input reads as it did. -/
def sumXorUptoRow : OpenClaim := { program := "ytdfbmlaehdgcdaa", sum := "92513d817f1a57a2e3fd4470a3ca214197d2392a25f979be7f5cc5797fa59433", func := "bailiff/bailifflaw2.SumXor", spec := "sumXor", apart := false, narrowed := true }
def SumXorUptoSaid : Prop := sumXorUptoRow.holds Try.pinned (OpenSpec.upto sumXorSpec)

/-- 'bailifflaw2.SumTells', WHERE WHAT IT READS IS OF BULK AT MOST 1048576: true; the input reads as it did. -/
def sumTellsUptoRow : OpenClaim := { program := "ytdfbmlaehdgcdaa", sum := "92513d817f1a57a2e3fd4470a3ca214197d2392a25f979be7f5cc5797fa59433", func := "bailiff/bailifflaw2.SumTells", spec := "sumTells", apart := false, narrowed := true }
def SumTellsUptoSaid : Prop := sumTellsUptoRow.holds Try.pinned (OpenSpec.upto sumTellsSpec)

/-- 'bailifflaw2.SumSteps', WHERE WHAT IT READS IS OF BULK AT MOST 1048576: true; the input reads as it did. -/
def sumStepsUptoRow : OpenClaim := { program := "ytdfbmlaehdgcdaa", sum := "92513d817f1a57a2e3fd4470a3ca214197d2392a25f979be7f5cc5797fa59433", func := "bailiff/bailifflaw2.SumSteps", spec := "sumSteps", apart := false, narrowed := true }
def SumStepsUptoSaid : Prop := sumStepsUptoRow.holds Try.pinned (OpenSpec.upto sumStepsSpec)

/-- 'bailifflaw21.ChainRuns', WHERE WHAT IT READS IS OF BULK AT MOST 1048576: true; the input reads as it did. -/
def chainRunsUptoRow : OpenClaim := { program := "ytdfbmlaehdgcdaa", sum := "92513d817f1a57a2e3fd4470a3ca214197d2392a25f979be7f5cc5797fa59433", func := "bailiff/bailifflaw21.ChainRuns", spec := "chainRuns", apart := false, narrowed := true }
def ChainRunsUptoSaid : Prop := chainRunsUptoRow.holds Try.pinned (OpenSpec.upto chainRunsSpec)

/-- 'bailifflaw21.ChainTells', WHERE WHAT IT READS IS OF BULK AT MOST 1048576: true; the input reads as it did. -/
def chainTellsUptoRow : OpenClaim := { program := "ytdfbmlaehdgcdaa", sum := "92513d817f1a57a2e3fd4470a3ca214197d2392a25f979be7f5cc5797fa59433", func := "bailiff/bailifflaw21.ChainTells", spec := "chainTells", apart := false, narrowed := true }
def ChainTellsUptoSaid : Prop := chainTellsUptoRow.holds Try.pinned (OpenSpec.upto chainTellsSpec)

/-- 'bailifflaw21.ChainHolds', WHERE WHAT IT READS IS OF BULK AT MOST 1048576: true; the input reads as it did. -/
def chainHoldsUptoRow : OpenClaim := { program := "ytdfbmlaehdgcdaa", sum := "92513d817f1a57a2e3fd4470a3ca214197d2392a25f979be7f5cc5797fa59433", func := "bailiff/bailifflaw21.ChainHolds", spec := "chainHolds", apart := false, narrowed := true }
def ChainHoldsUptoSaid : Prop := chainHoldsUptoRow.holds Try.pinned (OpenSpec.upto chainHoldsSpec)

/-- 'bailifflaw21.ChainLast', WHERE WHAT IT READS IS OF BULK AT MOST 1048576: true; the input reads as it did. -/
def chainLastUptoRow : OpenClaim := { program := "ytdfbmlaehdgcdaa", sum := "92513d817f1a57a2e3fd4470a3ca214197d2392a25f979be7f5cc5797fa59433", func := "bailiff/bailifflaw21.ChainLast", spec := "chainLast", apart := false, narrowed := true }
def ChainLastUptoSaid : Prop := chainLastUptoRow.holds Try.pinned (OpenSpec.upto chainLastSpec)

/-- 'bailifflaw21.ChainGrows', WHERE WHAT IT READS IS OF BULK AT MOST 1048576: true; the input reads as it did. -/
def chainGrowsUptoRow : OpenClaim := { program := "ytdfbmlaehdgcdaa", sum := "92513d817f1a57a2e3fd4470a3ca214197d2392a25f979be7f5cc5797fa59433", func := "bailiff/bailifflaw21.ChainGrows", spec := "chainGrows", apart := false, narrowed := true }
def ChainGrowsUptoSaid : Prop := chainGrowsUptoRow.holds Try.pinned (OpenSpec.upto chainGrowsSpec)

end Rows
end Go.Proofs.Ytdfbmlaehdgcdaa
