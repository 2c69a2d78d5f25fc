/-
  Contracts of the reference's intervals: sums and differences. Conditions: the values are intervals (Iv) and sets (Rr).
-/
import Derived.Test.YtdmecaojlbkclaaGreatDoorK567aacSe
import Derived.Test.YtdmecaojlbkclaaGreatDoorK319dbaBunP
set_option linter.unusedVariables false
set_option linter.unusedSimpArgs false
namespace Go.Q
open Go.Proofs
set_option maxRecDepth 100000
set_option maxHeartbeats 4000000
end Go.Q
