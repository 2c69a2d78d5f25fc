/-
  Contracts of package interval: the sign of a set; of package number: the sign of a number. Conditions: the values are intervals and numbers.
-/
import Derived.Test.YtmnhcckkkidhnaaGreatDoorK59f4b6Ti
import Derived.Test.YtmnhcckkkidhnaaGreatDoorK509fbbIl
set_option linter.unusedVariables false
set_option linter.unusedSimpArgs false
namespace Go.Q
open Go.Proofs
set_option maxRecDepth 100000
set_option maxHeartbeats 4000000
end Go.Q
