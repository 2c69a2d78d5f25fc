/-
  Contracts of package interval: the sign of a set; of package number: the sign of a number. Conditions: the values are intervals and numbers.
-/
import Derived.Test.YtdmecaojlbkclaaGreatDoorKebc2a5Ti
import Derived.Test.YtdmecaojlbkclaaGreatDoorK726cafIl
set_option linter.unusedVariables false
set_option linter.unusedSimpArgs false
namespace Go.Q
open Go.Proofs
set_option maxRecDepth 100000
set_option maxHeartbeats 4000000
def sgN (x : NS) : Int :=
  if x.void = true then 4 else if 0 < x.slo then 2 else if x.shi < 0 then -2 else if x.slo = 0 ∧ x.shi = 0 then 0 else if x.slo = 0 then 1 else if x.shi = 0 then -1 else 3
end Go.Q
