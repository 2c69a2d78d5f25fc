/-
  The same of another type of result: integers. Conditions: the closure's contract. (Printed by a program out of the text for intervals.)
-/
import Derived.Test.YtdmecaojlbkclaaGreatDoorK9b30feTy
set_option linter.unusedVariables false
set_option linter.unusedSimpArgs false
namespace Go.Q
open Go.Proofs
open Go.RowKit (Below)
set_option maxRecDepth 100000
set_option maxHeartbeats 4000000
end Go.Q
