/-
  Contracts of the reference's intervals: beginning, giving, rounding. Conditions: the values are intervals (Iv).
-/
import Derived.Test.YtdmecaojlbkclaaDoorKb0c6edSa
import Derived.Test.YtdmecaojlbkclaaDoorK1ac38aBunP
set_option linter.unusedVariables false
set_option linter.unusedSimpArgs false
namespace Go.Q
open Go.Proofs
set_option maxRecDepth 100000
set_option maxHeartbeats 4000000
end Go.Q
