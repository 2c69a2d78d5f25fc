/-
  Contracts of the reference's intervals: two arguments; opposite, lesser and greater intervals. Conditions: the values are intervals (Iv) and sets (Rr).
-/
import Derived.Test.YtmnhcckkkidhnaaGreatDoorK655c52Sd
set_option linter.unusedVariables false
set_option linter.unusedSimpArgs false
namespace Go.Q
open Go.Proofs
set_option maxRecDepth 100000
set_option maxHeartbeats 4000000
end Go.Q
