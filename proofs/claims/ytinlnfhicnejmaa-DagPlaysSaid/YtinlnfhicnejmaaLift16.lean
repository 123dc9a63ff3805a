/-
  WHAT EVERY LAW'S LAST STEP OF LAYER 16 NEEDS ONCE.
-/
import Derived.Test.YtinlnfhicnejmaaLift5
import Derived.Test.YtinlnfhicnejmaaOpen16
