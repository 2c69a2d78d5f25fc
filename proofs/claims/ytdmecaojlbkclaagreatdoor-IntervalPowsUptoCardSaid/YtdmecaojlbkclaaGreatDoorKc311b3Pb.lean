/-
  Contracts of package interval: products of sets. Conditions: the values denote the intervals named, their ends of at most 2048 binary digits.
-/
import Derived.Test.YtdmecaojlbkclaaGreatDoorK84d3f2Pa
import Derived.Test.YtdmecaojlbkclaaGreatDoorK319dbaBunP
import Derived.Test.YtdmecaojlbkclaaGreatDoorKec1f03BunM
set_option linter.unusedVariables false
set_option linter.unusedSimpArgs false
namespace Go.Q
open Go.Proofs
set_option maxRecDepth 100000
set_option maxHeartbeats 8000000
theorem Pt.mul_comm (x y : Pt) : x.mul y = y.mul x := by
  cases x with
  | fin p => cases y with
    | fin q => show Pt.fin (p * q) = .fin (q * p); rw [Rat.mul_comm]
    | inf u => rfl
  | inf u => cases y with
    | fin q => rfl
    | inf w => show Pt.inf (u == w) = .inf (w == u); cases u <;> cases w <;> rfl
end Go.Q
