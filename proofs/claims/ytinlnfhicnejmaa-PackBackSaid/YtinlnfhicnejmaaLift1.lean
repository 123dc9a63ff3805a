/-
  WHAT EVERY LAW'S LAST STEP OF LAYER 1 NEEDS ONCE.
-/
import Derived.Test.YtinlnfhicnejmaaLift
import Derived.Test.YtinlnfhicnejmaaTriples
