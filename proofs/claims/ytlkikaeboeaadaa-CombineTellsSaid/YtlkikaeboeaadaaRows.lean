/-
  No cell of these rows narrows 'for every input' (looked for: loops, veiled, ifaces, maps, wideKeys, modest, calm, conditions, laid).
  DERIVED. THE GIVEN ROWS OF THIS SEAT. 14 by the template 'for every input the law returns true; each argument reads behind the call as it read before'; 0 by the template 'total and deterministic' (their statements: YtlkikaeboeaadaaTotals.lean).
  GIVEN WITH THE SEED: the statements are not yours to turn. If you find one false, say at which input.
  Laid BY PROGRAM, IN A SANDBOX (cutbox-rows.mjs): the forced cells as the released guide's own fill.sh prints them over the translation 216475a14ee24467… (all of the seat's roots in one cut). By AI agents, Wed Nov 11 2026. No macro, syntax, notation, axiom, sorry.
-/
import Derived.Test.YtlkikaeboeaadaaChecked
import GoSem.Claim
import GoSem.ClaimJoined
import GoSem.ClaimMapViews
import Derived.JoinedTies
import Derived.KernelRfl
namespace Go.Proofs.Ytlkikaeboeaadaa
/- THE CELL 'sum', in the pinned program and in every row, IS THE sha256 OF THE DUMP (.gsa) THAT YtlkikaeboeaadaaProg.lean LOADS. Nothing in Lean hashes anything: it is a label: what it is worth is what the hold of that sum in a sandbox is worth. -/
noncomputable def Try.pinned : Pinned := { name := "ytlkikaeboeaadaa", sum := "216475a14ee244674ccf78251c73dd3a5434d064815256ca32531c069cd776ab", checked := Try.checked }
namespace Rows
def none {H : Type} : Left H := { results := [], args := [] }

/-- 'bailifflaw4.MarkRuns': WHATEVER THE INPUT: true; the input reads as it did. -/
def markRunsSpec : ChangeSpec := { name := "markRuns", fn := fun _ => fun
  | [] => { results := [.lit (.bool true)], args := [] }
  | _ => none }
def markRunsRow : OpenClaim := { program := "ytlkikaeboeaadaa", sum := "216475a14ee244674ccf78251c73dd3a5434d064815256ca32531c069cd776ab", func := "bailiff/bailifflaw4.MarkRuns", spec := "markRuns", apart := false }
def MarkRunsSaid : Prop := markRunsRow.holds Try.pinned (OpenSpec.ofChange markRunsSpec)

/-- ITS FALSE NEIGHBOUR: 'it returns false'. Refute it at one input. -/
def markRunsWrong : ChangeSpec := { name := "markRuns", fn := fun _ => fun
  | [] => { results := [.lit (.bool false)], args := [] }
  | _ => none }
def MarkRunsWrongFalsely : Prop := markRunsRow.holds Try.pinned (OpenSpec.ofChange markRunsWrong)

/-- 'bailifflaw4.MarkParts': WHATEVER THE INPUT: true; the input reads as it did. -/
def markPartsSpec : ChangeSpec := { name := "markParts", fn := fun _ => fun
  | [d1, d2] => { results := [.lit (.bool true)], args := [d1, d2] }
  | _ => none }
def markPartsRow : OpenClaim := { program := "ytlkikaeboeaadaa", sum := "216475a14ee244674ccf78251c73dd3a5434d064815256ca32531c069cd776ab", func := "bailiff/bailifflaw4.MarkParts", spec := "markParts", apart := false }
def MarkPartsSaid : Prop := markPartsRow.holds Try.pinned (OpenSpec.ofChange markPartsSpec)

/-- ITS FALSE NEIGHBOUR: 'it returns false'. Refute it at one input. -/
def markPartsWrong : ChangeSpec := { name := "markParts", fn := fun _ => fun
  | [d1, d2] => { results := [.lit (.bool false)], args := [d1, d2] }
  | _ => none }
def MarkPartsWrongFalsely : Prop := markPartsRow.holds Try.pinned (OpenSpec.ofChange markPartsWrong)

/-- 'bailifflaw4.MarkLaws': WHATEVER THE INPUT: true; the input reads as it did. -/
def markLawsSpec : ChangeSpec := { name := "markLaws", fn := fun _ => fun
  | [d1, d2, d3] => { results := [.lit (.bool true)], args := [d1, d2, d3] }
  | _ => none }
def markLawsRow : OpenClaim := { program := "ytlkikaeboeaadaa", sum := "216475a14ee244674ccf78251c73dd3a5434d064815256ca32531c069cd776ab", func := "bailiff/bailifflaw4.MarkLaws", spec := "markLaws", apart := false }
def MarkLawsSaid : Prop := markLawsRow.holds Try.pinned (OpenSpec.ofChange markLawsSpec)

/-- ITS FALSE NEIGHBOUR: 'it returns false'. Refute it at one input. -/
def markLawsWrong : ChangeSpec := { name := "markLaws", fn := fun _ => fun
  | [d1, d2, d3] => { results := [.lit (.bool false)], args := [d1, d2, d3] }
  | _ => none }
def MarkLawsWrongFalsely : Prop := markLawsRow.holds Try.pinned (OpenSpec.ofChange markLawsWrong)

/-- 'bailifflaw4.MarkOver': WHATEVER THE INPUT: true; the input reads as it did. -/
def markOverSpec : ChangeSpec := { name := "markOver", fn := fun _ => fun
  | [d1, d2] => { results := [.lit (.bool true)], args := [d1, d2] }
  | _ => none }
def markOverRow : OpenClaim := { program := "ytlkikaeboeaadaa", sum := "216475a14ee244674ccf78251c73dd3a5434d064815256ca32531c069cd776ab", func := "bailiff/bailifflaw4.MarkOver", spec := "markOver", apart := false }
def MarkOverSaid : Prop := markOverRow.holds Try.pinned (OpenSpec.ofChange markOverSpec)

/-- ITS FALSE NEIGHBOUR: 'it returns false'. Refute it at one input. -/
def markOverWrong : ChangeSpec := { name := "markOver", fn := fun _ => fun
  | [d1, d2] => { results := [.lit (.bool false)], args := [d1, d2] }
  | _ => none }
def MarkOverWrongFalsely : Prop := markOverRow.holds Try.pinned (OpenSpec.ofChange markOverWrong)

/-- 'bailifflaw4.MarkTells': WHATEVER THE INPUT: true; the input reads as it did. -/
def markTellsSpec : ChangeSpec := { name := "markTells", fn := fun _ => fun
  | [d1, d2, d3, d4] => { results := [.lit (.bool true)], args := [d1, d2, d3, d4] }
  | _ => none }
def markTellsRow : OpenClaim := { program := "ytlkikaeboeaadaa", sum := "216475a14ee244674ccf78251c73dd3a5434d064815256ca32531c069cd776ab", func := "bailiff/bailifflaw4.MarkTells", spec := "markTells", apart := false }
def MarkTellsSaid : Prop := markTellsRow.holds Try.pinned (OpenSpec.ofChange markTellsSpec)

/-- ITS FALSE NEIGHBOUR: 'it returns false'. Refute it at one input. -/
def markTellsWrong : ChangeSpec := { name := "markTells", fn := fun _ => fun
  | [d1, d2, d3, d4] => { results := [.lit (.bool false)], args := [d1, d2, d3, d4] }
  | _ => none }
def MarkTellsWrongFalsely : Prop := markTellsRow.holds Try.pinned (OpenSpec.ofChange markTellsWrong)

/-- 'bailifflaw4.MarkIndet': WHATEVER THE INPUT: true; the input reads as it did. -/
def markIndetSpec : ChangeSpec := { name := "markIndet", fn := fun _ => fun
  | [d] => { results := [.lit (.bool true)], args := [d] }
  | _ => none }
def markIndetRow : OpenClaim := { program := "ytlkikaeboeaadaa", sum := "216475a14ee244674ccf78251c73dd3a5434d064815256ca32531c069cd776ab", func := "bailiff/bailifflaw4.MarkIndet", spec := "markIndet", apart := false }
def MarkIndetSaid : Prop := markIndetRow.holds Try.pinned (OpenSpec.ofChange markIndetSpec)

/-- ITS FALSE NEIGHBOUR: 'it returns false'. Refute it at one input. -/
def markIndetWrong : ChangeSpec := { name := "markIndet", fn := fun _ => fun
  | [d] => { results := [.lit (.bool false)], args := [d] }
  | _ => none }
def MarkIndetWrongFalsely : Prop := markIndetRow.holds Try.pinned (OpenSpec.ofChange markIndetWrong)

/-- 'bailifflaw5.CombineRuns': WHATEVER THE INPUT: true; the input reads as it did. -/
def combineRunsSpec : ChangeSpec := { name := "combineRuns", fn := fun _ => fun
  | [] => { results := [.lit (.bool true)], args := [] }
  | _ => none }
def combineRunsRow : OpenClaim := { program := "ytlkikaeboeaadaa", sum := "216475a14ee244674ccf78251c73dd3a5434d064815256ca32531c069cd776ab", func := "bailiff/bailifflaw5.CombineRuns", spec := "combineRuns", unfollowed := true, recurses := true, apart := false }
def CombineRunsSaid : Prop := combineRunsRow.holds Try.pinned (OpenSpec.ofChange combineRunsSpec)

/-- ITS FALSE NEIGHBOUR: 'it returns false'. Refute it at one input. -/
def combineRunsWrong : ChangeSpec := { name := "combineRuns", fn := fun _ => fun
  | [] => { results := [.lit (.bool false)], args := [] }
  | _ => none }
def CombineRunsWrongFalsely : Prop := combineRunsRow.holds Try.pinned (OpenSpec.ofChange combineRunsWrong)

/-- 'bailifflaw5.CombineOrder': WHATEVER THE INPUT: true; the input reads as it did. -/
def combineOrderSpec : ChangeSpec := { name := "combineOrder", fn := fun _ => fun
  | [d1, d2, d3] => { results := [.lit (.bool true)], args := [d1, d2, d3] }
  | _ => none }
def combineOrderRow : OpenClaim := { program := "ytlkikaeboeaadaa", sum := "216475a14ee244674ccf78251c73dd3a5434d064815256ca32531c069cd776ab", func := "bailiff/bailifflaw5.CombineOrder", spec := "combineOrder", unfollowed := true, recurses := true, apart := false }
def CombineOrderSaid : Prop := combineOrderRow.holds Try.pinned (OpenSpec.ofChange combineOrderSpec)

/-- ITS FALSE NEIGHBOUR: 'it returns false'. Refute it at one input. -/
def combineOrderWrong : ChangeSpec := { name := "combineOrder", fn := fun _ => fun
  | [d1, d2, d3] => { results := [.lit (.bool false)], args := [d1, d2, d3] }
  | _ => none }
def CombineOrderWrongFalsely : Prop := combineOrderRow.holds Try.pinned (OpenSpec.ofChange combineOrderWrong)

/-- 'bailifflaw5.CombineSteps': WHATEVER THE INPUT: true; the input reads as it did. -/
def combineStepsSpec : ChangeSpec := { name := "combineSteps", fn := fun _ => fun
  | [d1, d2] => { results := [.lit (.bool true)], args := [d1, d2] }
  | _ => none }
def combineStepsRow : OpenClaim := { program := "ytlkikaeboeaadaa", sum := "216475a14ee244674ccf78251c73dd3a5434d064815256ca32531c069cd776ab", func := "bailiff/bailifflaw5.CombineSteps", spec := "combineSteps", unfollowed := true, recurses := true, apart := false }
def CombineStepsSaid : Prop := combineStepsRow.holds Try.pinned (OpenSpec.ofChange combineStepsSpec)

/-- ITS FALSE NEIGHBOUR: 'it returns false'. Refute it at one input. -/
def combineStepsWrong : ChangeSpec := { name := "combineSteps", fn := fun _ => fun
  | [d1, d2] => { results := [.lit (.bool false)], args := [d1, d2] }
  | _ => none }
def CombineStepsWrongFalsely : Prop := combineStepsRow.holds Try.pinned (OpenSpec.ofChange combineStepsWrong)

/-- 'bailifflaw5.CombineTurns': WHATEVER THE INPUT: true; the input reads as it did. -/
def combineTurnsSpec : ChangeSpec := { name := "combineTurns", fn := fun _ => fun
  | [d] => { results := [.lit (.bool true)], args := [d] }
  | _ => none }
def combineTurnsRow : OpenClaim := { program := "ytlkikaeboeaadaa", sum := "216475a14ee244674ccf78251c73dd3a5434d064815256ca32531c069cd776ab", func := "bailiff/bailifflaw5.CombineTurns", spec := "combineTurns", unfollowed := true, recurses := true, apart := false }
def CombineTurnsSaid : Prop := combineTurnsRow.holds Try.pinned (OpenSpec.ofChange combineTurnsSpec)

/-- ITS FALSE NEIGHBOUR: 'it returns false'. Refute it at one input. -/
def combineTurnsWrong : ChangeSpec := { name := "combineTurns", fn := fun _ => fun
  | [d] => { results := [.lit (.bool false)], args := [d] }
  | _ => none }
def CombineTurnsWrongFalsely : Prop := combineTurnsRow.holds Try.pinned (OpenSpec.ofChange combineTurnsWrong)

/-- 'bailifflaw5.CombineSure': WHATEVER THE INPUT: true; the input reads as it did. -/
def combineSureSpec : ChangeSpec := { name := "combineSure", fn := fun _ => fun
  | [d] => { results := [.lit (.bool true)], args := [d] }
  | _ => none }
def combineSureRow : OpenClaim := { program := "ytlkikaeboeaadaa", sum := "216475a14ee244674ccf78251c73dd3a5434d064815256ca32531c069cd776ab", func := "bailiff/bailifflaw5.CombineSure", spec := "combineSure", unfollowed := true, recurses := true, apart := false }
def CombineSureSaid : Prop := combineSureRow.holds Try.pinned (OpenSpec.ofChange combineSureSpec)

/-- ITS FALSE NEIGHBOUR: 'it returns false'. Refute it at one input. -/
def combineSureWrong : ChangeSpec := { name := "combineSure", fn := fun _ => fun
  | [d] => { results := [.lit (.bool false)], args := [d] }
  | _ => none }
def CombineSureWrongFalsely : Prop := combineSureRow.holds Try.pinned (OpenSpec.ofChange combineSureWrong)

/-- 'bailifflaw5.CombineNested': WHATEVER THE INPUT: true; the input reads as it did. -/
def combineNestedSpec : ChangeSpec := { name := "combineNested", fn := fun _ => fun
  | [d1, d2, d3] => { results := [.lit (.bool true)], args := [d1, d2, d3] }
  | _ => none }
def combineNestedRow : OpenClaim := { program := "ytlkikaeboeaadaa", sum := "216475a14ee244674ccf78251c73dd3a5434d064815256ca32531c069cd776ab", func := "bailiff/bailifflaw5.CombineNested", spec := "combineNested", unfollowed := true, recurses := true, apart := false }
def CombineNestedSaid : Prop := combineNestedRow.holds Try.pinned (OpenSpec.ofChange combineNestedSpec)

/-- ITS FALSE NEIGHBOUR: 'it returns false'. Refute it at one input. -/
def combineNestedWrong : ChangeSpec := { name := "combineNested", fn := fun _ => fun
  | [d1, d2, d3] => { results := [.lit (.bool false)], args := [d1, d2, d3] }
  | _ => none }
def CombineNestedWrongFalsely : Prop := combineNestedRow.holds Try.pinned (OpenSpec.ofChange combineNestedWrong)

/-- 'bailifflaw5.CombineOne': WHATEVER THE INPUT: true; the input reads as it did. -/
def combineOneSpec : ChangeSpec := { name := "combineOne", fn := fun _ => fun
  | [d1, d2] => { results := [.lit (.bool true)], args := [d1, d2] }
  | _ => none }
def combineOneRow : OpenClaim := { program := "ytlkikaeboeaadaa", sum := "216475a14ee244674ccf78251c73dd3a5434d064815256ca32531c069cd776ab", func := "bailiff/bailifflaw5.CombineOne", spec := "combineOne", unfollowed := true, recurses := true, apart := false }
def CombineOneSaid : Prop := combineOneRow.holds Try.pinned (OpenSpec.ofChange combineOneSpec)

/-- ITS FALSE NEIGHBOUR: 'it returns false'. Refute it at one input. -/
def combineOneWrong : ChangeSpec := { name := "combineOne", fn := fun _ => fun
  | [d1, d2] => { results := [.lit (.bool false)], args := [d1, d2] }
  | _ => none }
def CombineOneWrongFalsely : Prop := combineOneRow.holds Try.pinned (OpenSpec.ofChange combineOneWrong)

/-- 'bailifflaw5.CombineTells': WHATEVER THE INPUT: true; the input reads as it did. -/
def combineTellsSpec : ChangeSpec := { name := "combineTells", fn := fun _ => fun
  | [d1, d2, d3, d4] => { results := [.lit (.bool true)], args := [d1, d2, d3, d4] }
  | _ => none }
def combineTellsRow : OpenClaim := { program := "ytlkikaeboeaadaa", sum := "216475a14ee244674ccf78251c73dd3a5434d064815256ca32531c069cd776ab", func := "bailiff/bailifflaw5.CombineTells", spec := "combineTells", unfollowed := true, recurses := true, apart := false }
def CombineTellsSaid : Prop := combineTellsRow.holds Try.pinned (OpenSpec.ofChange combineTellsSpec)

/-- ITS FALSE NEIGHBOUR: 'it returns false'. Refute it at one input. -/
def combineTellsWrong : ChangeSpec := { name := "combineTells", fn := fun _ => fun
  | [d1, d2, d3, d4] => { results := [.lit (.bool false)], args := [d1, d2, d3, d4] }
  | _ => none }
def CombineTellsWrongFalsely : Prop := combineTellsRow.holds Try.pinned (OpenSpec.ofChange combineTellsWrong)

/- THE SECOND FORM. 'bulk': how many values and letters a reading holds, each counted each time it is reached (what is shared counts as often as it is met; a slice's spare places count too). A statement '..UptoSaid' is the law's where the arguments, and the package variables that the reading takes, are together of bulk at most 1048576: NARROWER than '..Said'. Prove '..Said' where nothing that the law and all that it calls make is longer than what came in: it says more and counts as full. Else prove '..UptoSaid'. A law counts once. -/
mutual
def uptoBulk {H : Type} : DataW H → Nat
  | .lit (.string bytes) => bytes.length + 1
  | .lit _ => 1
  | .nil => 1
  | .ptr d => uptoBulk d + 1
  | .slice elems spare => uptoBulkAll elems + uptoBulkAll spare + 1
  | .agg parts => uptoBulkAll parts + 1
  | .iface _ d => uptoBulk d + 1
  | .map entries => uptoBulkEntries entries + 1
  | .held _ => 1
def uptoBulkAll {H : Type} : List (DataW H) → Nat
  | [] => 0
  | d :: r => uptoBulk d + uptoBulkAll r
def uptoBulkEntries {H : Type} : List (Lit × DataW H) → Nat
  | [] => 0
  | x :: r => uptoBulkEntry x + uptoBulkEntries r
def uptoBulkEntry {H : Type} : Lit × DataW H → Nat
  | (.string bytes, d) => bytes.length + uptoBulk d + 1
  | (_, d) => uptoBulk d + 1
 end
def uptoSmall : (H : Type) → List (DataW H) → Bool := fun _ ds => decide (uptoBulkAll ds ≤ 1048576)
def OpenSpec.upto (s : _root_.Go.ChangeSpec) : _root_.Go.OpenSpec := { _root_.Go.OpenSpec.ofChange s with cond := some uptoSmall }

/-- 'bailifflaw4.MarkRuns', WHERE WHAT IT READS IS OF BULK AT MOST 1048576: true; the input reads as it did. -/
def markRunsUptoRow : OpenClaim := { program := "ytlkikaeboeaadaa", sum := "216475a14ee244674ccf78251c73dd3a5434d064815256ca32531c069cd776ab", func := "bailiff/bailifflaw4.MarkRuns", spec := "markRuns", apart := false, narrowed := true }
def MarkRunsUptoSaid : Prop := markRunsUptoRow.holds Try.pinned (OpenSpec.upto markRunsSpec)

/-- 'bailifflaw4.MarkParts', WHERE WHAT IT READS IS OF BULK AT MOST 1048576: true; the input reads as it did. -/
def markPartsUptoRow : OpenClaim := { program := "ytlkikaeboeaadaa", sum := "216475a14ee244674ccf78251c73dd3a5434d064815256ca32531c069cd776ab", func := "bailiff/bailifflaw4.MarkParts", spec := "markParts", apart := false, narrowed := true }
def MarkPartsUptoSaid : Prop := markPartsUptoRow.holds Try.pinned (OpenSpec.upto markPartsSpec)

/-- 'bailifflaw4.MarkLaws', WHERE WHAT IT READS IS OF BULK AT MOST 1048576: true; the input reads as it did. -/
def markLawsUptoRow : OpenClaim := { program := "ytlkikaeboeaadaa", sum := "216475a14ee244674ccf78251c73dd3a5434d064815256ca32531c069cd776ab", func := "bailiff/bailifflaw4.MarkLaws", spec := "markLaws", apart := false, narrowed := true }
def MarkLawsUptoSaid : Prop := markLawsUptoRow.holds Try.pinned (OpenSpec.upto markLawsSpec)

/-- 'bailifflaw4.MarkOver', WHERE WHAT IT READS IS OF BULK AT MOST 1048576: true; the input reads as it did. -/
def markOverUptoRow : OpenClaim := { program := "ytlkikaeboeaadaa", sum := "216475a14ee244674ccf78251c73dd3a5434d064815256ca32531c069cd776ab", func := "bailiff/bailifflaw4.MarkOver", spec := "markOver", apart := false, narrowed := true }
def MarkOverUptoSaid : Prop := markOverUptoRow.holds Try.pinned (OpenSpec.upto markOverSpec)

/-- 'bailifflaw4.MarkTells', WHERE WHAT IT READS IS OF BULK AT MOST 1048576: true; the input reads as it did. -/
def markTellsUptoRow : OpenClaim := { program := "ytlkikaeboeaadaa", sum := "216475a14ee244674ccf78251c73dd3a5434d064815256ca32531c069cd776ab", func := "bailiff/bailifflaw4.MarkTells", spec := "markTells", apart := false, narrowed := true }
def MarkTellsUptoSaid : Prop := markTellsUptoRow.holds Try.pinned (OpenSpec.upto markTellsSpec)

/-- 'bailifflaw4.MarkIndet', WHERE WHAT IT READS IS OF BULK AT MOST 1048576: true; the input reads as it did. -/
def markIndetUptoRow : OpenClaim := { program := "ytlkikaeboeaadaa", sum := "216475a14ee244674ccf78251c73dd3a5434d064815256ca32531c069cd776ab", func := "bailiff/bailifflaw4.MarkIndet", spec := "markIndet", apart := false, narrowed := true }
def MarkIndetUptoSaid : Prop := markIndetUptoRow.holds Try.pinned (OpenSpec.upto markIndetSpec)

/-- 'bailifflaw5.CombineRuns', WHERE WHAT IT READS IS OF BULK AT MOST 1048576: true; the input reads as it did. -/
def combineRunsUptoRow : OpenClaim := { program := "ytlkikaeboeaadaa", sum := "216475a14ee244674ccf78251c73dd3a5434d064815256ca32531c069cd776ab", func := "bailiff/bailifflaw5.CombineRuns", spec := "combineRuns", unfollowed := true, recurses := true, apart := false, narrowed := true }
def CombineRunsUptoSaid : Prop := combineRunsUptoRow.holds Try.pinned (OpenSpec.upto combineRunsSpec)

/-- 'bailifflaw5.CombineOrder', WHERE WHAT IT READS IS OF BULK AT MOST 1048576: true; the input reads as it did. -/
def combineOrderUptoRow : OpenClaim := { program := "ytlkikaeboeaadaa", sum := "216475a14ee244674ccf78251c73dd3a5434d064815256ca32531c069cd776ab", func := "bailiff/bailifflaw5.CombineOrder", spec := "combineOrder", unfollowed := true, recurses := true, apart := false, narrowed := true }
def CombineOrderUptoSaid : Prop := combineOrderUptoRow.holds Try.pinned (OpenSpec.upto combineOrderSpec)

/-- 'bailifflaw5.CombineSteps', WHERE WHAT IT READS IS OF BULK AT MOST 1048576: true; the input reads as it did. -/
def combineStepsUptoRow : OpenClaim := { program := "ytlkikaeboeaadaa", sum := "216475a14ee244674ccf78251c73dd3a5434d064815256ca32531c069cd776ab", func := "bailiff/bailifflaw5.CombineSteps", spec := "combineSteps", unfollowed := true, recurses := true, apart := false, narrowed := true }
def CombineStepsUptoSaid : Prop := combineStepsUptoRow.holds Try.pinned (OpenSpec.upto combineStepsSpec)

/-- 'bailifflaw5.CombineTurns', WHERE WHAT IT READS IS OF BULK AT MOST 1048576: true; the input reads as it did. -/
def combineTurnsUptoRow : OpenClaim := { program := "ytlkikaeboeaadaa", sum := "216475a14ee244674ccf78251c73dd3a5434d064815256ca32531c069cd776ab", func := "bailiff/bailifflaw5.CombineTurns", spec := "combineTurns", unfollowed := true, recurses := true, apart := false, narrowed := true }
def CombineTurnsUptoSaid : Prop := combineTurnsUptoRow.holds Try.pinned (OpenSpec.upto combineTurnsSpec)

/-- 'bailifflaw5.CombineSure', WHERE WHAT IT READS IS OF BULK AT MOST 1048576: true; the input reads as it did. -/
def combineSureUptoRow : OpenClaim := { program := "ytlkikaeboeaadaa", sum := "216475a14ee244674ccf78251c73dd3a5434d064815256ca32531c069cd776ab", func := "bailiff/bailifflaw5.CombineSure", spec := "combineSure", unfollowed := true, recurses := true, apart := false, narrowed := true }
def CombineSureUptoSaid : Prop := combineSureUptoRow.holds Try.pinned (OpenSpec.upto combineSureSpec)

/-- 'bailifflaw5.CombineNested', WHERE WHAT IT READS IS OF BULK AT MOST 1048576: true; the input reads as it did. -/
def combineNestedUptoRow : OpenClaim := { program := "ytlkikaeboeaadaa", sum := "216475a14ee244674ccf78251c73dd3a5434d064815256ca32531c069cd776ab", func := "bailiff/bailifflaw5.CombineNested", spec := "combineNested", unfollowed := true, recurses := true, apart := false, narrowed := true }
def CombineNestedUptoSaid : Prop := combineNestedUptoRow.holds Try.pinned (OpenSpec.upto combineNestedSpec)

/-- 'bailifflaw5.CombineOne', WHERE WHAT IT READS IS OF BULK AT MOST 1048576: true; the input reads as it did. -/
def combineOneUptoRow : OpenClaim := { program := "ytlkikaeboeaadaa", sum := "216475a14ee244674ccf78251c73dd3a5434d064815256ca32531c069cd776ab", func := "bailiff/bailifflaw5.CombineOne", spec := "combineOne", unfollowed := true, recurses := true, apart := false, narrowed := true }
def CombineOneUptoSaid : Prop := combineOneUptoRow.holds Try.pinned (OpenSpec.upto combineOneSpec)

/-- 'bailifflaw5.CombineTells', WHERE WHAT IT READS IS OF BULK AT MOST 1048576: true; the input reads as it did. -/
def combineTellsUptoRow : OpenClaim := { program := "ytlkikaeboeaadaa", sum := "216475a14ee244674ccf78251c73dd3a5434d064815256ca32531c069cd776ab", func := "bailiff/bailifflaw5.CombineTells", spec := "combineTells", unfollowed := true, recurses := true, apart := false, narrowed := true }
def CombineTellsUptoSaid : Prop := combineTellsUptoRow.holds Try.pinned (OpenSpec.upto combineTellsSpec)

end Rows
end Go.Proofs.Ytlkikaeboeaadaa
