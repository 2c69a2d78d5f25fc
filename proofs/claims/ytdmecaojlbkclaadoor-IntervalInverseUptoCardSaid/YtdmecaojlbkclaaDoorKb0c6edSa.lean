/-
  Contracts of the reference's intervals: sets, reading, giving, rounding. Conditions: the values denote the intervals named; no number in them is large.
-/
import Derived.Test.YtdmecaojlbkclaaDoorRaBunL
import Derived.Test.YtdmecaojlbkclaaDoorK47d52dBunO
set_option linter.unusedVariables false
set_option linter.unusedSimpArgs false
namespace Go.Q
open Go.Proofs
set_option maxRecDepth 100000
set_option maxHeartbeats 4000000
namespace NS
def loN : NS → Bool
  | .e => false
  | .i a _ => a.isNone
def hiN : NS → Bool
  | .e => false
  | .i _ b => b.isNone
end NS
theorem sz_zero : sz 0 ≤ 1 := by decide
end Go.Q
