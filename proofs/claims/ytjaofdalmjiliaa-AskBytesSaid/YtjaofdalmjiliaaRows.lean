/-
  No cell of these rows narrows 'for every input' (looked for: loops, veiled, ifaces, maps, wideKeys, modest, calm, conditions, laid).
  DERIVED. THE GIVEN ROWS OF THIS SEAT. 5 by the template 'for every input the law returns true; each argument reads behind the call as it read before'; 0 by the template 'total and deterministic' (their statements: YtjaofdalmjiliaaTotals.lean).
  GIVEN WITH THE SEED: the statements are not yours to turn. If you find one false, say at which input.
  Laid BY PROGRAM, IN A SANDBOX (cutbox-rows.mjs): the forced cells as the released guide's own fill.sh prints them over the translation 424c57d9f946c577… (all of the seat's roots in one cut). By AI agents, Wed Nov 11 2026. No macro, syntax, notation, axiom, sorry.
-/
import Derived.Test.YtjaofdalmjiliaaChecked
import GoSem.Claim
import GoSem.ClaimJoined
import GoSem.ClaimMapViews
import Derived.JoinedTies
import Derived.KernelRfl
namespace Go.Proofs.Ytjaofdalmjiliaa
/- THE CELL 'sum', in the pinned program and in every row, IS THE sha256 OF THE DUMP (.gsa) THAT YtjaofdalmjiliaaProg.lean LOADS. Nothing in Lean hashes anything: it is a label: what it is worth is what the hold of that sum in a sandbox is worth. -/
noncomputable def Try.pinned : Pinned := { name := "ytjaofdalmjiliaa", sum := "424c57d9f946c5771eefbc7734898181bef5852ac5ace9b597d8a8c06b777c16", checked := Try.checked }
namespace Rows
def none {H : Type} : Left H := { results := [], args := [] }

/-- 'bailifflaw11.AskRuns': WHATEVER THE INPUT: true; the input reads as it did. -/
def askRunsSpec : ChangeSpec := { name := "askRuns", fn := fun _ => fun
  | [] => { results := [.lit (.bool true)], args := [] }
  | _ => none }
def askRunsRow : OpenClaim := { program := "ytjaofdalmjiliaa", sum := "424c57d9f946c5771eefbc7734898181bef5852ac5ace9b597d8a8c06b777c16", func := "bailiff/bailifflaw11.AskRuns", spec := "askRuns", unfollowed := true, recurses := true, apart := false }
def AskRunsSaid : Prop := askRunsRow.holds Try.pinned (OpenSpec.ofChange askRunsSpec)

/-- ITS FALSE NEIGHBOUR: 'it returns false'. Refute it at one input. -/
def askRunsWrong : ChangeSpec := { name := "askRuns", fn := fun _ => fun
  | [] => { results := [.lit (.bool false)], args := [] }
  | _ => none }
def AskRunsWrongFalsely : Prop := askRunsRow.holds Try.pinned (OpenSpec.ofChange askRunsWrong)

/-- 'bailifflaw11.AskBytes': WHATEVER THE INPUT: true; the input reads as it did. -/
def askBytesSpec : ChangeSpec := { name := "askBytes", fn := fun _ => fun
  | [d1, d2, d3, d4] => { results := [.lit (.bool true)], args := [d1, d2, d3, d4] }
  | _ => none }
def askBytesRow : OpenClaim := { program := "ytjaofdalmjiliaa", sum := "424c57d9f946c5771eefbc7734898181bef5852ac5ace9b597d8a8c06b777c16", func := "bailiff/bailifflaw11.AskBytes", spec := "askBytes", unfollowed := true, recurses := true, apart := false }
def AskBytesSaid : Prop := askBytesRow.holds Try.pinned (OpenSpec.ofChange askBytesSpec)

/-- ITS FALSE NEIGHBOUR: 'it returns false'. Refute it at one input. -/
def askBytesWrong : ChangeSpec := { name := "askBytes", fn := fun _ => fun
  | [d1, d2, d3, d4] => { results := [.lit (.bool false)], args := [d1, d2, d3, d4] }
  | _ => none }
def AskBytesWrongFalsely : Prop := askBytesRow.holds Try.pinned (OpenSpec.ofChange askBytesWrong)

/-- 'bailifflaw11.AskGets': WHATEVER THE INPUT: true; the input reads as it did. -/
def askGetsSpec : ChangeSpec := { name := "askGets", fn := fun _ => fun
  | [d1, d2] => { results := [.lit (.bool true)], args := [d1, d2] }
  | _ => none }
def askGetsRow : OpenClaim := { program := "ytjaofdalmjiliaa", sum := "424c57d9f946c5771eefbc7734898181bef5852ac5ace9b597d8a8c06b777c16", func := "bailiff/bailifflaw11.AskGets", spec := "askGets", unfollowed := true, recurses := true, apart := false }
def AskGetsSaid : Prop := askGetsRow.holds Try.pinned (OpenSpec.ofChange askGetsSpec)

/-- ITS FALSE NEIGHBOUR: 'it returns false'. Refute it at one input. -/
def askGetsWrong : ChangeSpec := { name := "askGets", fn := fun _ => fun
  | [d1, d2] => { results := [.lit (.bool false)], args := [d1, d2] }
  | _ => none }
def AskGetsWrongFalsely : Prop := askGetsRow.holds Try.pinned (OpenSpec.ofChange askGetsWrong)

/-- 'bailifflaw11.AskTells': WHATEVER THE INPUT: true; the input reads as it did. -/
def askTellsSpec : ChangeSpec := { name := "askTells", fn := fun _ => fun
  | [d1, d2, d3] => { results := [.lit (.bool true)], args := [d1, d2, d3] }
  | _ => none }
def askTellsRow : OpenClaim := { program := "ytjaofdalmjiliaa", sum := "424c57d9f946c5771eefbc7734898181bef5852ac5ace9b597d8a8c06b777c16", func := "bailiff/bailifflaw11.AskTells", spec := "askTells", unfollowed := true, recurses := true, apart := false }
def AskTellsSaid : Prop := askTellsRow.holds Try.pinned (OpenSpec.ofChange askTellsSpec)

/-- ITS FALSE NEIGHBOUR: 'it returns false'. Refute it at one input. -/
def askTellsWrong : ChangeSpec := { name := "askTells", fn := fun _ => fun
  | [d1, d2, d3] => { results := [.lit (.bool false)], args := [d1, d2, d3] }
  | _ => none }
def AskTellsWrongFalsely : Prop := askTellsRow.holds Try.pinned (OpenSpec.ofChange askTellsWrong)

/-- 'bailifflaw11.AskWith': WHATEVER THE INPUT: true; the input reads as it did. -/
def askWithSpec : ChangeSpec := { name := "askWith", fn := fun _ => fun
  | [d1, d2, d3] => { results := [.lit (.bool true)], args := [d1, d2, d3] }
  | _ => none }
def askWithRow : OpenClaim := { program := "ytjaofdalmjiliaa", sum := "424c57d9f946c5771eefbc7734898181bef5852ac5ace9b597d8a8c06b777c16", func := "bailiff/bailifflaw11.AskWith", spec := "askWith", unfollowed := true, recurses := true, apart := false }
def AskWithSaid : Prop := askWithRow.holds Try.pinned (OpenSpec.ofChange askWithSpec)

/-- ITS FALSE NEIGHBOUR: 'it returns false'. Refute it at one input. -/
def askWithWrong : ChangeSpec := { name := "askWith", fn := fun _ => fun
  | [d1, d2, d3] => { results := [.lit (.bool false)], args := [d1, d2, d3] }
  | _ => none }
def AskWithWrongFalsely : Prop := askWithRow.holds Try.pinned (OpenSpec.ofChange askWithWrong)

/- THE SECOND FORM. 'bulk': how many values and letters a reading holds, each counted each time it is reached (what is shared counts as often as it is met; a slice's spare places count too). A statement '..UptoSaid' is the law's where the arguments, and the package variables that the reading takes, are together of bulk at most 1048576: NARROWER than '..Said'. Prove '..Said' where nothing that the law and all that it calls make is longer than what came in: it says more and counts as full. Else prove '..UptoSaid'. A law counts once. -/
mutual
def uptoBulk {H : Type} : DataW H → Nat
  | .lit (.string bytes) => bytes.length + 1
  | .lit _ => 1
  | .nil => 1
  | .ptr d => uptoBulk d + 1
  | .slice elems spare => uptoBulkAll elems + uptoBulkAll spare + 1
  | .agg parts => uptoBulkAll parts + 1
  | .iface _ d => uptoBulk d + 1
  | .map entries => uptoBulkEntries entries + 1
  | .held _ => 1
def uptoBulkAll {H : Type} : List (DataW H) → Nat
  | [] => 0
  | d :: r => uptoBulk d + uptoBulkAll r
def uptoBulkEntries {H : Type} : List (Lit × DataW H) → Nat
  | [] => 0
  | x :: r => uptoBulkEntry x + uptoBulkEntries r
def uptoBulkEntry {H : Type} : Lit × DataW H → Nat
  | (.string bytes, d) => bytes.length + uptoBulk d + 1
  | (_, d) => uptoBulk d + 1
 end
def uptoSmall : (H : Type) → List (DataW H) → Bool := fun _ ds => decide (uptoBulkAll ds ≤ 1048576)
def OpenSpec.upto (s : _root_.Go.ChangeSpec) : _root_.Go.OpenSpec := { _root_.Go.OpenSpec.ofChange s with cond := some uptoSmall }

/-- 'bailifflaw11.AskRuns', WHERE WHAT IT READS IS OF BULK AT MOST 1048576: true; the input reads as it did. -/
def askRunsUptoRow : OpenClaim := { program := "ytjaofdalmjiliaa", sum := "424c57d9f946c5771eefbc7734898181bef5852ac5ace9b597d8a8c06b777c16", func := "bailiff/bailifflaw11.AskRuns", spec := "askRuns", unfollowed := true, recurses := true, apart := false, narrowed := true }
def AskRunsUptoSaid : Prop := askRunsUptoRow.holds Try.pinned (OpenSpec.upto askRunsSpec)

/-- 'bailifflaw11.AskBytes', WHERE WHAT IT READS IS OF BULK AT MOST 1048576: true; the input reads as it did. -/
def askBytesUptoRow : OpenClaim := { program := "ytjaofdalmjiliaa", sum := "424c57d9f946c5771eefbc7734898181bef5852ac5ace9b597d8a8c06b777c16", func := "bailiff/bailifflaw11.AskBytes", spec := "askBytes", unfollowed := true, recurses := true, apart := false, narrowed := true }
def AskBytesUptoSaid : Prop := askBytesUptoRow.holds Try.pinned (OpenSpec.upto askBytesSpec)

/-- 'bailifflaw11.AskGets', WHERE WHAT IT READS IS OF BULK AT MOST 1048576: true; the input reads as it did. -/
def askGetsUptoRow : OpenClaim := { program := "ytjaofdalmjiliaa", sum := "424c57d9f946c5771eefbc7734898181bef5852ac5ace9b597d8a8c06b777c16", func := "bailiff/bailifflaw11.AskGets", spec := "askGets", unfollowed := true, recurses := true, apart := false, narrowed := true }
def AskGetsUptoSaid : Prop := askGetsUptoRow.holds Try.pinned (OpenSpec.upto askGetsSpec)

/-- 'bailifflaw11.AskTells', WHERE WHAT IT READS IS OF BULK AT MOST 1048576: true; the input reads as it did. -/
def askTellsUptoRow : OpenClaim := { program := "ytjaofdalmjiliaa", sum := "424c57d9f946c5771eefbc7734898181bef5852ac5ace9b597d8a8c06b777c16", func := "bailiff/bailifflaw11.AskTells", spec := "askTells", unfollowed := true, recurses := true, apart := false, narrowed := true }
def AskTellsUptoSaid : Prop := askTellsUptoRow.holds Try.pinned (OpenSpec.upto askTellsSpec)

/-- 'bailifflaw11.AskWith', WHERE WHAT IT READS IS OF BULK AT MOST 1048576: true; the input reads as it did. -/
def askWithUptoRow : OpenClaim := { program := "ytjaofdalmjiliaa", sum := "424c57d9f946c5771eefbc7734898181bef5852ac5ace9b597d8a8c06b777c16", func := "bailiff/bailifflaw11.AskWith", spec := "askWith", unfollowed := true, recurses := true, apart := false, narrowed := true }
def AskWithUptoSaid : Prop := askWithUptoRow.holds Try.pinned (OpenSpec.upto askWithSpec)

end Rows
end Go.Proofs.Ytjaofdalmjiliaa
