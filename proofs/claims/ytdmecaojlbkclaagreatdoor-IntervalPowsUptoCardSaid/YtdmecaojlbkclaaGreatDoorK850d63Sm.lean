/-
  Contracts of the reference: products of numbers, of ends of sets. Conditions: the values denote the numbers and ends named, of at most 2^30 binary digits.
-/
import Derived.Test.YtdmecaojlbkclaaGreatDoorK567aacSe
import Derived.Test.YtdmecaojlbkclaaGreatDoorKc311b3Pb
set_option linter.unusedVariables false
set_option linter.unusedSimpArgs false
namespace Go.Q
open Go.Proofs
set_option maxRecDepth 100000
set_option maxHeartbeats 8000000
@[reducible] def Pt.val : Pt → Rat
  | .fin q => q
  | .inf _ => 0
def Pt.sg : Pt → Int
  | .fin q => sgn3 q
  | .inf u => if u = true then 1 else -1
theorem Pt.mul_zero {x y : Pt} (h : x.sg = 0 ∨ y.sg = 0) : x.mul y = .fin 0 := by
  cases x with
  | fin p => cases y with
    | fin q =>
      show Pt.fin (p * q) = _
      rcases h with h | h
      · have := sgn3_zero.1 (show sgn3 p = 0 from h); subst this; rw [Rat.zero_mul]
      · have := sgn3_zero.1 (show sgn3 q = 0 from h); subst this; rw [Rat.mul_zero]
    | inf u =>
      have := sgn3_zero.1 (show sgn3 p = 0 from h.resolve_right (by cases u <;> simp [Pt.sg])); subst this; simp [Pt.mul]
  | inf u => cases y with
    | fin q =>
      have := sgn3_zero.1 (show sgn3 q = 0 from h.resolve_left (by cases u <;> simp [Pt.sg])); subst this; simp [Pt.mul]
    | inf w => rcases h with h | h <;> (revert h; cases u <;> cases w <;> simp [Pt.sg])
end Go.Q
