/-
  Contracts of the reference's intervals: beginning, giving, rounding. Conditions: the values are intervals (Iv).
-/
import Derived.Test.YtdhnabpejckplaaDoorK49015eSa
import Derived.Test.YtdhnabpejckplaaDoorK10e5deBunP
set_option linter.unusedVariables false
set_option linter.unusedSimpArgs false
namespace Go.Q
open Go.Proofs
set_option maxRecDepth 100000
set_option maxHeartbeats 4000000
end Go.Q
