/-
  Contracts of package interval: meets of two sets. Conditions: the values denote the intervals named, their ends of at most 2^30 binary digits. (Printed by a program, a case for each of the ends that are infinite.)
-/
import Derived.Test.YtdmecaojlbkclaaGreatDoorKf2b163Ig
set_option linter.unusedVariables false
set_option linter.unusedSimpArgs false
namespace Go.Q
open Go.Proofs
set_option maxRecDepth 100000
set_option maxHeartbeats 4000000
end Go.Q
