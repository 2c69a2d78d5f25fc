/-
  Contracts of the reference's intervals: canonical intervals, points, the whole line. Conditions: the values are intervals (Iv) and numbers (Rw).
-/
import Derived.Test.YtdmecaojlbkclaaGreatDoorK87c25dSb
set_option linter.unusedVariables false
set_option linter.unusedSimpArgs false
namespace Go.Q
open Go.Proofs
set_option maxRecDepth 100000
set_option maxHeartbeats 4000000
end Go.Q
