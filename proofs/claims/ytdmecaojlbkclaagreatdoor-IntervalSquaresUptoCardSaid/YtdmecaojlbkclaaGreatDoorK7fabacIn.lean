/-
  Contracts of package interval: the sign of a set; of package number: the sign of a number. Conditions: the values are intervals and numbers.
-/
import Derived.Test.YtdmecaojlbkclaaGreatDoorK35a120Ti
import Derived.Test.YtdmecaojlbkclaaGreatDoorK048b95Il
namespace Go.Q
open Go.Proofs
set_option maxRecDepth 100000
set_option maxHeartbeats 4000000
end Go.Q
