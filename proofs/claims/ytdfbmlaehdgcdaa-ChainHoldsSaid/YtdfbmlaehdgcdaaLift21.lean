/-
  WHAT EVERY LAW'S LAST STEP OF LAYER 21 NEEDS ONCE.
-/
import Derived.Test.YtdfbmlaehdgcdaaLift
import Derived.Test.YtdfbmlaehdgcdaaOpenRows
