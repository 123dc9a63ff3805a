/-
  WHAT EVERY LAW'S LAST STEP OF THIS SEAT NEEDS ONCE: closed facts of the program.
-/
import Derived.Test.YtjaofdalmjiliaaRows
import Derived.Test.YtjaofdalmjiliaaOpen
namespace Go.Proofs.Ytjaofdalmjiliaa
theorem own : ownKnob Try.prog.godebug = none := by kernel_rfl
theorem laidOut : laidOutB Try.prog = true := by kernel_rfl
end Go.Proofs.Ytjaofdalmjiliaa
