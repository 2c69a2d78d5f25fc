/-
  Contracts of the reference's intervals: the product of two sets. Conditions: the values denote the sets named (Rr), their ends of at most 2048 binary digits. (Printed by a program.)
-/
import Derived.Test.YtdmecaojlbkclaaGreatDoorK850d63Sm
import Derived.Test.YtdmecaojlbkclaaGreatDoorK95ac34Pc
set_option linter.unusedVariables false
set_option linter.unusedSimpArgs false
namespace Go.Q
open Go.Proofs
set_option maxRecDepth 100000
set_option maxHeartbeats 16000000
end Go.Q
