/-
  Contracts of package interval: the sign of a set; of package number: the sign of a number. Conditions: the values are intervals and numbers.
-/
import Derived.Test.YtdmecaojlbkclaaGreatDoorK2b27ebTi
import Derived.Test.YtdmecaojlbkclaaGreatDoorKa67e6aIl
set_option linter.unusedVariables false
set_option linter.unusedSimpArgs false
namespace Go.Q
open Go.Proofs
set_option maxRecDepth 100000
set_option maxHeartbeats 4000000
end Go.Q
