/-
  Contracts of package interval: the product of two sets; what Mul returns. Conditions: the values denote the intervals named, their ends of at most 2048 binary digits.
-/
import Derived.Test.YtdmecaojlbkclaaGreatDoorKc311b3Pb
set_option linter.unusedVariables false
set_option linter.unusedSimpArgs false
namespace Go.Q
open Go.Proofs
set_option maxRecDepth 100000
set_option maxHeartbeats 16000000
theorem Pt.up {z : Pt} {k m : Nat} (h : z.le k) (hm : k ≤ m) : z.le m := by
  cases z with
  | fin q => exact Nat.le_trans h hm
  | inf u => trivial
end Go.Q
