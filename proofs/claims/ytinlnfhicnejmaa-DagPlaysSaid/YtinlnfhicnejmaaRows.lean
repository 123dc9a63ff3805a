/-
  No cell of these rows narrows 'for every input' (looked for: loops, veiled, ifaces, maps, wideKeys, modest, calm, conditions, laid).
  DERIVED. THE GIVEN ROWS OF THIS SEAT. 12 by the template 'for every input the law returns true; each argument reads behind the call as it read before'; 0 by the template 'total and deterministic' (their statements: YtinlnfhicnejmaaTotals.lean).
  GIVEN WITH THE SEED: the statements are not yours to turn. If you find one false, say at which input.
  Laid BY PROGRAM, IN A SANDBOX (cutbox-rows.mjs): the forced cells as the released guide's own fill.sh prints them over the translation 6e4d69a977355253… (all of the seat's roots in one cut). By AI agents, Wed Nov 11 2026. No macro, syntax, notation, axiom, sorry.
-/
import Derived.Test.YtinlnfhicnejmaaChecked
import GoSem.Claim
import GoSem.ClaimJoined
import GoSem.ClaimMapViews
import Derived.JoinedTies
import Derived.KernelRfl
namespace Go.Proofs.Ytinlnfhicnejmaa
/- THE CELL 'sum', in the pinned program and in every row, IS THE sha256 OF THE DUMP (.gsa) THAT YtinlnfhicnejmaaProg.lean LOADS. Nothing in Lean hashes anything: it is a label: what it is worth is what the hold of that sum in a sandbox is worth. -/
noncomputable def Try.pinned : Pinned := { name := "ytinlnfhicnejmaa", sum := "6e4d69a9773552532c1db0bb59f7543e6f32d58fb2f2c243e9613227010a7881", checked := Try.checked }
namespace Rows
def none {H : Type} : Left H := { results := [], args := [] }

/-- 'bailifflaw1.PackRuns': WHATEVER THE INPUT: true; the input reads as it did. -/
def packRunsSpec : ChangeSpec := { name := "packRuns", fn := fun _ => fun
  | [] => { results := [.lit (.bool true)], args := [] }
  | _ => none }
def packRunsRow : OpenClaim := { program := "ytinlnfhicnejmaa", sum := "6e4d69a9773552532c1db0bb59f7543e6f32d58fb2f2c243e9613227010a7881", func := "bailiff/bailifflaw1.PackRuns", spec := "packRuns", apart := false }
def PackRunsSaid : Prop := packRunsRow.holds Try.pinned (OpenSpec.ofChange packRunsSpec)

/-- ITS FALSE NEIGHBOUR: 'it returns false'. Refute it at one input. -/
def packRunsWrong : ChangeSpec := { name := "packRuns", fn := fun _ => fun
  | [] => { results := [.lit (.bool false)], args := [] }
  | _ => none }
def PackRunsWrongFalsely : Prop := packRunsRow.holds Try.pinned (OpenSpec.ofChange packRunsWrong)

/-- 'bailifflaw1.PackWrites': WHATEVER THE INPUT: true; the input reads as it did. -/
def packWritesSpec : ChangeSpec := { name := "packWrites", fn := fun _ => fun
  | [d1, d2, d3] => { results := [.lit (.bool true)], args := [d1, d2, d3] }
  | _ => none }
def packWritesRow : OpenClaim := { program := "ytinlnfhicnejmaa", sum := "6e4d69a9773552532c1db0bb59f7543e6f32d58fb2f2c243e9613227010a7881", func := "bailiff/bailifflaw1.PackWrites", spec := "packWrites", apart := false }
def PackWritesSaid : Prop := packWritesRow.holds Try.pinned (OpenSpec.ofChange packWritesSpec)

/-- ITS FALSE NEIGHBOUR: 'it returns false'. Refute it at one input. -/
def packWritesWrong : ChangeSpec := { name := "packWrites", fn := fun _ => fun
  | [d1, d2, d3] => { results := [.lit (.bool false)], args := [d1, d2, d3] }
  | _ => none }
def PackWritesWrongFalsely : Prop := packWritesRow.holds Try.pinned (OpenSpec.ofChange packWritesWrong)

/-- 'bailifflaw1.PackApart': WHATEVER THE INPUT: true; the input reads as it did. -/
def packApartSpec : ChangeSpec := { name := "packApart", fn := fun _ => fun
  | [d1, d2, d3, d4] => { results := [.lit (.bool true)], args := [d1, d2, d3, d4] }
  | _ => none }
def packApartRow : OpenClaim := { program := "ytinlnfhicnejmaa", sum := "6e4d69a9773552532c1db0bb59f7543e6f32d58fb2f2c243e9613227010a7881", func := "bailiff/bailifflaw1.PackApart", spec := "packApart", apart := false }
def PackApartSaid : Prop := packApartRow.holds Try.pinned (OpenSpec.ofChange packApartSpec)

/-- ITS FALSE NEIGHBOUR: 'it returns false'. Refute it at one input. -/
def packApartWrong : ChangeSpec := { name := "packApart", fn := fun _ => fun
  | [d1, d2, d3, d4] => { results := [.lit (.bool false)], args := [d1, d2, d3, d4] }
  | _ => none }
def PackApartWrongFalsely : Prop := packApartRow.holds Try.pinned (OpenSpec.ofChange packApartWrong)

/-- 'bailifflaw1.PackNums': WHATEVER THE INPUT: true; the input reads as it did. -/
def packNumsSpec : ChangeSpec := { name := "packNums", fn := fun _ => fun
  | [d1, d2] => { results := [.lit (.bool true)], args := [d1, d2] }
  | _ => none }
def packNumsRow : OpenClaim := { program := "ytinlnfhicnejmaa", sum := "6e4d69a9773552532c1db0bb59f7543e6f32d58fb2f2c243e9613227010a7881", func := "bailiff/bailifflaw1.PackNums", spec := "packNums", apart := false }
def PackNumsSaid : Prop := packNumsRow.holds Try.pinned (OpenSpec.ofChange packNumsSpec)

/-- ITS FALSE NEIGHBOUR: 'it returns false'. Refute it at one input. -/
def packNumsWrong : ChangeSpec := { name := "packNums", fn := fun _ => fun
  | [d1, d2] => { results := [.lit (.bool false)], args := [d1, d2] }
  | _ => none }
def PackNumsWrongFalsely : Prop := packNumsRow.holds Try.pinned (OpenSpec.ofChange packNumsWrong)

/-- 'bailifflaw1.PackBack': WHATEVER THE INPUT: true; the input reads as it did. -/
def packBackSpec : ChangeSpec := { name := "packBack", fn := fun _ => fun
  | [d1, d2] => { results := [.lit (.bool true)], args := [d1, d2] }
  | _ => none }
def packBackRow : OpenClaim := { program := "ytinlnfhicnejmaa", sum := "6e4d69a9773552532c1db0bb59f7543e6f32d58fb2f2c243e9613227010a7881", func := "bailiff/bailifflaw1.PackBack", spec := "packBack", apart := false }
def PackBackSaid : Prop := packBackRow.holds Try.pinned (OpenSpec.ofChange packBackSpec)

/-- ITS FALSE NEIGHBOUR: 'it returns false'. Refute it at one input. -/
def packBackWrong : ChangeSpec := { name := "packBack", fn := fun _ => fun
  | [d1, d2] => { results := [.lit (.bool false)], args := [d1, d2] }
  | _ => none }
def PackBackWrongFalsely : Prop := packBackRow.holds Try.pinned (OpenSpec.ofChange packBackWrong)

/-- 'bailifflaw1.PackWrong': WHATEVER THE INPUT: true; the input reads as it did. -/
def packWrongSpec : ChangeSpec := { name := "packWrong", fn := fun _ => fun
  | [d1, d2] => { results := [.lit (.bool true)], args := [d1, d2] }
  | _ => none }
def packWrongRow : OpenClaim := { program := "ytinlnfhicnejmaa", sum := "6e4d69a9773552532c1db0bb59f7543e6f32d58fb2f2c243e9613227010a7881", func := "bailiff/bailifflaw1.PackWrong", spec := "packWrong", apart := false }
def PackWrongSaid : Prop := packWrongRow.holds Try.pinned (OpenSpec.ofChange packWrongSpec)

/-- ITS FALSE NEIGHBOUR: 'it returns false'. Refute it at one input. -/
def packWrongWrong : ChangeSpec := { name := "packWrong", fn := fun _ => fun
  | [d1, d2] => { results := [.lit (.bool false)], args := [d1, d2] }
  | _ => none }
def PackWrongWrongFalsely : Prop := packWrongRow.holds Try.pinned (OpenSpec.ofChange packWrongWrong)

/-- 'bailifflaw1.PackIn': WHATEVER THE INPUT: true; the input reads as it did. -/
def packInSpec : ChangeSpec := { name := "packIn", fn := fun _ => fun
  | [d1, d2, d3] => { results := [.lit (.bool true)], args := [d1, d2, d3] }
  | _ => none }
def packInRow : OpenClaim := { program := "ytinlnfhicnejmaa", sum := "6e4d69a9773552532c1db0bb59f7543e6f32d58fb2f2c243e9613227010a7881", func := "bailiff/bailifflaw1.PackIn", spec := "packIn", apart := false }
def PackInSaid : Prop := packInRow.holds Try.pinned (OpenSpec.ofChange packInSpec)

/-- ITS FALSE NEIGHBOUR: 'it returns false'. Refute it at one input. -/
def packInWrong : ChangeSpec := { name := "packIn", fn := fun _ => fun
  | [d1, d2, d3] => { results := [.lit (.bool false)], args := [d1, d2, d3] }
  | _ => none }
def PackInWrongFalsely : Prop := packInRow.holds Try.pinned (OpenSpec.ofChange packInWrong)

/-- 'bailifflaw16.DagRuns': WHATEVER THE INPUT: true; the input reads as it did. -/
def dagRunsSpec : ChangeSpec := { name := "dagRuns", fn := fun _ => fun
  | [] => { results := [.lit (.bool true)], args := [] }
  | _ => none }
def dagRunsRow : OpenClaim := { program := "ytinlnfhicnejmaa", sum := "6e4d69a9773552532c1db0bb59f7543e6f32d58fb2f2c243e9613227010a7881", func := "bailiff/bailifflaw16.DagRuns", spec := "dagRuns", apart := false }
def DagRunsSaid : Prop := dagRunsRow.holds Try.pinned (OpenSpec.ofChange dagRunsSpec)

/-- ITS FALSE NEIGHBOUR: 'it returns false'. Refute it at one input. -/
def dagRunsWrong : ChangeSpec := { name := "dagRuns", fn := fun _ => fun
  | [] => { results := [.lit (.bool false)], args := [] }
  | _ => none }
def DagRunsWrongFalsely : Prop := dagRunsRow.holds Try.pinned (OpenSpec.ofChange dagRunsWrong)

/-- 'bailifflaw16.DagPlays': WHATEVER THE INPUT: true; the input reads as it did. -/
def dagPlaysSpec : ChangeSpec := { name := "dagPlays", fn := fun _ => fun
  | [d1, d2, d3, d4] => { results := [.lit (.bool true)], args := [d1, d2, d3, d4] }
  | _ => none }
def dagPlaysRow : OpenClaim := { program := "ytinlnfhicnejmaa", sum := "6e4d69a9773552532c1db0bb59f7543e6f32d58fb2f2c243e9613227010a7881", func := "bailiff/bailifflaw16.DagPlays", spec := "dagPlays", apart := false }
def DagPlaysSaid : Prop := dagPlaysRow.holds Try.pinned (OpenSpec.ofChange dagPlaysSpec)

/-- ITS FALSE NEIGHBOUR: 'it returns false'. Refute it at one input. -/
def dagPlaysWrong : ChangeSpec := { name := "dagPlays", fn := fun _ => fun
  | [d1, d2, d3, d4] => { results := [.lit (.bool false)], args := [d1, d2, d3, d4] }
  | _ => none }
def DagPlaysWrongFalsely : Prop := dagPlaysRow.holds Try.pinned (OpenSpec.ofChange dagPlaysWrong)

/-- 'bailifflaw16.DagOnce': WHATEVER THE INPUT: true; the input reads as it did. -/
def dagOnceSpec : ChangeSpec := { name := "dagOnce", fn := fun _ => fun
  | [d] => { results := [.lit (.bool true)], args := [d] }
  | _ => none }
def dagOnceRow : OpenClaim := { program := "ytinlnfhicnejmaa", sum := "6e4d69a9773552532c1db0bb59f7543e6f32d58fb2f2c243e9613227010a7881", func := "bailiff/bailifflaw16.DagOnce", spec := "dagOnce", apart := false }
def DagOnceSaid : Prop := dagOnceRow.holds Try.pinned (OpenSpec.ofChange dagOnceSpec)

/-- ITS FALSE NEIGHBOUR: 'it returns false'. Refute it at one input. -/
def dagOnceWrong : ChangeSpec := { name := "dagOnce", fn := fun _ => fun
  | [d] => { results := [.lit (.bool false)], args := [d] }
  | _ => none }
def DagOnceWrongFalsely : Prop := dagOnceRow.holds Try.pinned (OpenSpec.ofChange dagOnceWrong)

/-- 'bailifflaw16.DagBranches': WHATEVER THE INPUT: true; the input reads as it did. -/
def dagBranchesSpec : ChangeSpec := { name := "dagBranches", fn := fun _ => fun
  | [d1, d2] => { results := [.lit (.bool true)], args := [d1, d2] }
  | _ => none }
def dagBranchesRow : OpenClaim := { program := "ytinlnfhicnejmaa", sum := "6e4d69a9773552532c1db0bb59f7543e6f32d58fb2f2c243e9613227010a7881", func := "bailiff/bailifflaw16.DagBranches", spec := "dagBranches", apart := false }
def DagBranchesSaid : Prop := dagBranchesRow.holds Try.pinned (OpenSpec.ofChange dagBranchesSpec)

/-- ITS FALSE NEIGHBOUR: 'it returns false'. Refute it at one input. -/
def dagBranchesWrong : ChangeSpec := { name := "dagBranches", fn := fun _ => fun
  | [d1, d2] => { results := [.lit (.bool false)], args := [d1, d2] }
  | _ => none }
def DagBranchesWrongFalsely : Prop := dagBranchesRow.holds Try.pinned (OpenSpec.ofChange dagBranchesWrong)

/-- 'bailifflaw16.DagFull': WHATEVER THE INPUT: true; the input reads as it did. -/
def dagFullSpec : ChangeSpec := { name := "dagFull", fn := fun _ => fun
  | [d1, d2] => { results := [.lit (.bool true)], args := [d1, d2] }
  | _ => none }
def dagFullRow : OpenClaim := { program := "ytinlnfhicnejmaa", sum := "6e4d69a9773552532c1db0bb59f7543e6f32d58fb2f2c243e9613227010a7881", func := "bailiff/bailifflaw16.DagFull", spec := "dagFull", apart := false }
def DagFullSaid : Prop := dagFullRow.holds Try.pinned (OpenSpec.ofChange dagFullSpec)

/-- ITS FALSE NEIGHBOUR: 'it returns false'. Refute it at one input. -/
def dagFullWrong : ChangeSpec := { name := "dagFull", fn := fun _ => fun
  | [d1, d2] => { results := [.lit (.bool false)], args := [d1, d2] }
  | _ => none }
def DagFullWrongFalsely : Prop := dagFullRow.holds Try.pinned (OpenSpec.ofChange dagFullWrong)

/- THE SECOND FORM. 'bulk': how many values and letters a reading holds, each counted each time it is reached (what is shared counts as often as it is met; a slice's spare places count too). A statement '..UptoSaid' is the law's where the arguments, and the package variables that the reading takes, are together of bulk at most 1048576: NARROWER than '..Said'. Prove '..Said' where nothing that the law and all that it calls make is longer than what came in: it says more and counts as full. Else prove '..UptoSaid'. A law counts once. -/
mutual
def uptoBulk {H : Type} : DataW H → Nat
  | .lit (.string bytes) => bytes.length + 1
  | .lit _ => 1
  | .nil => 1
  | .ptr d => uptoBulk d + 1
  | .slice elems spare => uptoBulkAll elems + uptoBulkAll spare + 1
  | .agg parts => uptoBulkAll parts + 1
  | .iface _ d => uptoBulk d + 1
  | .map entries => uptoBulkEntries entries + 1
  | .held _ => 1
def uptoBulkAll {H : Type} : List (DataW H) → Nat
  | [] => 0
  | d :: r => uptoBulk d + uptoBulkAll r
def uptoBulkEntries {H : Type} : List (Lit × DataW H) → Nat
  | [] => 0
  | x :: r => uptoBulkEntry x + uptoBulkEntries r
def uptoBulkEntry {H : Type} : Lit × DataW H → Nat
  | (.string bytes, d) => bytes.length + uptoBulk d + 1
  | (_, d) => uptoBulk d + 1
 end
def uptoSmall : (H : Type) → List (DataW H) → Bool := fun _ ds => decide (uptoBulkAll ds ≤ 1048576)
def OpenSpec.upto (s : _root_.Go.ChangeSpec) : _root_.Go.OpenSpec := { _root_.Go.OpenSpec.ofChange s with cond := some uptoSmall }

/-- 'bailifflaw1.PackRuns', WHERE WHAT IT READS IS OF BULK AT MOST 1048576: true; the input reads as it did. -/
def packRunsUptoRow : OpenClaim := { program := "ytinlnfhicnejmaa", sum := "6e4d69a9773552532c1db0bb59f7543e6f32d58fb2f2c243e9613227010a7881", func := "bailiff/bailifflaw1.PackRuns", spec := "packRuns", apart := false, narrowed := true }
def PackRunsUptoSaid : Prop := packRunsUptoRow.holds Try.pinned (OpenSpec.upto packRunsSpec)

/-- 'bailifflaw1.PackWrites', WHERE WHAT IT READS IS OF BULK AT MOST 1048576: true; the input reads as it did. -/
def packWritesUptoRow : OpenClaim := { program := "ytinlnfhicnejmaa", sum := "6e4d69a9773552532c1db0bb59f7543e6f32d58fb2f2c243e9613227010a7881", func := "bailiff/bailifflaw1.PackWrites", spec := "packWrites", apart := false, narrowed := true }
def PackWritesUptoSaid : Prop := packWritesUptoRow.holds Try.pinned (OpenSpec.upto packWritesSpec)

/-- 'bailifflaw1.PackApart', WHERE WHAT IT READS IS OF BULK AT MOST 1048576: true; the input reads as it did. -/
def packApartUptoRow : OpenClaim := { program := "ytinlnfhicnejmaa", sum := "6e4d69a9773552532c1db0bb59f7543e6f32d58fb2f2c243e9613227010a7881", func := "bailiff/bailifflaw1.PackApart", spec := "packApart", apart := false, narrowed := true }
def PackApartUptoSaid : Prop := packApartUptoRow.holds Try.pinned (OpenSpec.upto packApartSpec)

/-- 'bailifflaw1.PackNums', WHERE WHAT IT READS IS OF BULK AT MOST 1048576: true; the input reads as it did. -/
def packNumsUptoRow : OpenClaim := { program := "ytinlnfhicnejmaa", sum := "6e4d69a9773552532c1db0bb59f7543e6f32d58fb2f2c243e9613227010a7881", func := "bailiff/bailifflaw1.PackNums", spec := "packNums", apart := false, narrowed := true }
def PackNumsUptoSaid : Prop := packNumsUptoRow.holds Try.pinned (OpenSpec.upto packNumsSpec)

/-- 'bailifflaw1.PackBack', WHERE WHAT IT READS IS OF BULK AT MOST 1048576: true; the input reads as it did. -/
def packBackUptoRow : OpenClaim := { program := "ytinlnfhicnejmaa", sum := "6e4d69a9773552532c1db0bb59f7543e6f32d58fb2f2c243e9613227010a7881", func := "bailiff/bailifflaw1.PackBack", spec := "packBack", apart := false, narrowed := true }
def PackBackUptoSaid : Prop := packBackUptoRow.holds Try.pinned (OpenSpec.upto packBackSpec)

/-- 'bailifflaw1.PackWrong', WHERE WHAT IT READS IS OF BULK AT MOST 1048576: true; the input reads as it did. -/
def packWrongUptoRow : OpenClaim := { program := "ytinlnfhicnejmaa", sum := "6e4d69a9773552532c1db0bb59f7543e6f32d58fb2f2c243e9613227010a7881", func := "bailiff/bailifflaw1.PackWrong", spec := "packWrong", apart := false, narrowed := true }
def PackWrongUptoSaid : Prop := packWrongUptoRow.holds Try.pinned (OpenSpec.upto packWrongSpec)

/-- 'bailifflaw1.PackIn', WHERE WHAT IT READS IS OF BULK AT MOST 1048576: true; the input reads as it did. -/
def packInUptoRow : OpenClaim := { program := "ytinlnfhicnejmaa", sum := "6e4d69a9773552532c1db0bb59f7543e6f32d58fb2f2c243e9613227010a7881", func := "bailiff/bailifflaw1.PackIn", spec := "packIn", apart := false, narrowed := true }
def PackInUptoSaid : Prop := packInUptoRow.holds Try.pinned (OpenSpec.upto packInSpec)

/-- 'bailifflaw16.DagRuns', WHERE WHAT IT READS IS OF BULK AT MOST 1048576: true; the input reads as it did. -/
def dagRunsUptoRow : OpenClaim := { program := "ytinlnfhicnejmaa", sum := "6e4d69a9773552532c1db0bb59f7543e6f32d58fb2f2c243e9613227010a7881", func := "bailiff/bailifflaw16.DagRuns", spec := "dagRuns", apart := false, narrowed := true }
def DagRunsUptoSaid : Prop := dagRunsUptoRow.holds Try.pinned (OpenSpec.upto dagRunsSpec)

/-- 'bailifflaw16.DagPlays', WHERE WHAT IT READS IS OF BULK AT MOST 1048576: true; the input reads as it did. -/
def dagPlaysUptoRow : OpenClaim := { program := "ytinlnfhicnejmaa", sum := "6e4d69a9773552532c1db0bb59f7543e6f32d58fb2f2c243e9613227010a7881", func := "bailiff/bailifflaw16.DagPlays", spec := "dagPlays", apart := false, narrowed := true }
def DagPlaysUptoSaid : Prop := dagPlaysUptoRow.holds Try.pinned (OpenSpec.upto dagPlaysSpec)

/-- 'bailifflaw16.DagOnce', WHERE WHAT IT READS IS OF BULK AT MOST 1048576: true; the input reads as it did. -/
def dagOnceUptoRow : OpenClaim := { program := "ytinlnfhicnejmaa", sum := "6e4d69a9773552532c1db0bb59f7543e6f32d58fb2f2c243e9613227010a7881", func := "bailiff/bailifflaw16.DagOnce", spec := "dagOnce", apart := false, narrowed := true }
def DagOnceUptoSaid : Prop := dagOnceUptoRow.holds Try.pinned (OpenSpec.upto dagOnceSpec)

/-- 'bailifflaw16.DagBranches', WHERE WHAT IT READS IS OF BULK AT MOST 1048576: true; the input reads as it did. -/
def dagBranchesUptoRow : OpenClaim := { program := "ytinlnfhicnejmaa", sum := "6e4d69a9773552532c1db0bb59f7543e6f32d58fb2f2c243e9613227010a7881", func := "bailiff/bailifflaw16.DagBranches", spec := "dagBranches", apart := false, narrowed := true }
def DagBranchesUptoSaid : Prop := dagBranchesUptoRow.holds Try.pinned (OpenSpec.upto dagBranchesSpec)

/-- 'bailifflaw16.DagFull', WHERE WHAT IT READS IS OF BULK AT MOST 1048576: true; the input reads as it did. -/
def dagFullUptoRow : OpenClaim := { program := "ytinlnfhicnejmaa", sum := "6e4d69a9773552532c1db0bb59f7543e6f32d58fb2f2c243e9613227010a7881", func := "bailiff/bailifflaw16.DagFull", spec := "dagFull", apart := false, narrowed := true }
def DagFullUptoSaid : Prop := dagFullUptoRow.holds Try.pinned (OpenSpec.upto dagFullSpec)

end Rows
end Go.Proofs.Ytinlnfhicnejmaa
