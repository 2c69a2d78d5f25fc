/-
  Contract of package word: powers of rational numbers. Conditions: the value is a rational number (Fr), of at most 2^20 binary digits, the exponent at most 64.
-/
import Derived.Test.YtdmecaojlbkclaaGreatDoorRaBunG
import Derived.Test.YtdmecaojlbkclaaGreatDoorKc89b4bWp
import Derived.Test.YtdmecaojlbkclaaGreatDoorKcd8152Pr
set_option linter.unusedVariables false
set_option linter.unusedSimpArgs false
namespace Go.Q
open Go.Proofs
set_option maxRecDepth 100000
set_option maxHeartbeats 4000000
theorem ipow_sign (a : Int) (n : Nat) : (a < 0 → (n % 2 = 1 → a ^ n < 0) ∧ (n % 2 = 0 → 0 < a ^ n)) ∧ (0 ≤ a → 0 ≤ a ^ n) := by
  induction n with
  | zero => exact ⟨fun _ => ⟨fun h => by omega, fun _ => by rw [Int.pow_zero]; decide⟩, fun _ => by rw [Int.pow_zero]; decide⟩
  | succ n ih =>
    rw [Int.pow_succ]
    refine ⟨fun h => ⟨fun hm => ?_, fun hm => ?_⟩, fun h => Int.mul_nonneg (ih.2 h) h⟩
    · exact Int.mul_neg_of_pos_of_neg ((ih.1 h).2 (by omega)) h
    · exact Int.mul_pos_of_neg_of_neg ((ih.1 h).1 (by omega)) h
theorem pow_neg (x : Rat) (n : Nat) : decide ((x ^ n).num < 0) = (decide (x.num < 0) && decide (n % 2 = 1)) := by
  have h := ipow_sign x.num n
  rw [Rat.num_pow]
  generalize x.num ^ n = z at *
  by_cases h1 : x.num < 0
  · by_cases h2 : n % 2 = 1
    · have := (h.1 h1).1 h2
      simp [h1, h2, this]
    · have := (h.1 h1).2 (by omega)
      have h3 : ¬ z < 0 := by omega
      simp [h1, h2, h3]
  · have := h.2 (by omega)
    have h3 : ¬ z < 0 := by omega
    simp [h1, h3]
end Go.Q
