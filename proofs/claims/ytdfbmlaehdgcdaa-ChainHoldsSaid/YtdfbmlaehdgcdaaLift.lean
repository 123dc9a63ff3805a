/-
  WHAT EVERY LAW'S LAST STEP OF THIS SEAT NEEDS ONCE: closed facts of the program.
-/
import Derived.Test.YtdfbmlaehdgcdaaRows
import Derived.Test.YtdfbmlaehdgcdaaOpen
namespace Go.Proofs.Ytdfbmlaehdgcdaa
theorem own : ownKnob Try.prog.godebug = none := by kernel_rfl
theorem laidOut : laidOutB Try.prog = true := by kernel_rfl
end Go.Proofs.Ytdfbmlaehdgcdaa
