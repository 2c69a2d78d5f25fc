/-
  Inverses of sets, plain: their ends are in order. Conditions: the set does not hold 0.
-/
import Derived.Test.YtdmecaojlbkclaaGreatDoorK2b7fd5Pd
set_option linter.unusedVariables false
set_option linter.unusedSimpArgs false
namespace Go.Q
theorem inv_pos' {q : Rat} (h : 0 < q) : 0 < q⁻¹ := by
  have h1 : q * q⁻¹ = 1 := Rat.mul_inv_cancel q (by grind)
  rcases (Rat.le_total : q⁻¹ ≤ 0 ∨ 0 ≤ q⁻¹) with k | k
  · have := Rat.mul_le_mul_of_nonneg_left k (show 0 ≤ q by grind)
    grind
  · by_cases h0 : q⁻¹ = 0
    · rw [h0] at h1; grind
    · grind
theorem inv_neg' {q : Rat} (h : q < 0) : q⁻¹ < 0 := by
  have h1 : q * q⁻¹ = 1 := Rat.mul_inv_cancel q (by grind)
  rcases (Rat.le_total : 0 ≤ q⁻¹ ∨ q⁻¹ ≤ 0) with k | k
  · have := Rat.mul_le_mul_of_nonneg_left k (show 0 ≤ -q by grind)
    grind
  · by_cases h0 : q⁻¹ = 0
    · rw [h0] at h1; grind
    · grind
theorem inv_anti {c d : Rat} (h : c ≤ d) (hs : 0 < c ∨ d < 0) : d⁻¹ ≤ c⁻¹ := by
  have hc : c * c⁻¹ = 1 := Rat.mul_inv_cancel c (by grind)
  have hd : d * d⁻¹ = 1 := Rat.mul_inv_cancel d (by grind)
  have hn : 0 ≤ c⁻¹ * d⁻¹ := by
    rcases hs with k | k
    · have h1 := inv_pos' k
      have h2 := inv_pos' (show 0 < d by grind)
      have := Rat.mul_le_mul_of_nonneg_left (show 0 ≤ d⁻¹ by grind) (show 0 ≤ c⁻¹ by grind)
      grind
    · have h1 := inv_neg' k
      have h2 := inv_neg' (show c < 0 by grind)
      have := Rat.mul_le_mul_of_nonneg_left (show 0 ≤ -d⁻¹ by grind) (show 0 ≤ -c⁻¹ by grind)
      grind
  have h3 := Rat.mul_le_mul_of_nonneg_left h hn
  have e1 : c⁻¹ * d⁻¹ * c = d⁻¹ := by
    have : c⁻¹ * d⁻¹ * c = (c * c⁻¹) * d⁻¹ := by grind
    rw [this, hc, Rat.one_mul]
  have e2 : c⁻¹ * d⁻¹ * d = c⁻¹ := by
    have : c⁻¹ * d⁻¹ * d = (d * d⁻¹) * c⁻¹ := by grind
    rw [this, hd, Rat.one_mul]
  rwa [e1, e2] at h3
theorem inv_ord {c d : Option Rat} (hz : (NS.i c d).zero = false) (ho : (NS.i c d).ok) : invO d ≤ invO c := by
  have h1 : ¬ ((NS.i c d).slo ≤ 0 ∧ 0 ≤ (NS.i c d).shi) := by
    intro k
    simp [NS.zero, NS.void, k.1, k.2] at hz
  have z0 : ((0 : Int) : Rat) = 0 := rfl
  cases c with
  | none =>
    cases d with
    | none => exact (h1 ⟨by decide, by decide⟩).elim
    | some d =>
      have h2 : ¬ 0 ≤ sgn3 d := fun k => h1 ⟨by show (-1 : Int) ≤ 0; decide, k⟩
      have h3 : d < 0 := by unfold sgn3 at h2; grind
      have := inv_neg' h3
      show d⁻¹ ≤ ((0 : Int) : Rat)
      grind
  | some c =>
    cases d with
    | none =>
      have h2 : ¬ sgn3 c ≤ 0 := fun k => h1 ⟨k, by show (0 : Int) ≤ 1; decide⟩
      have h3 : 0 < c := by unfold sgn3 at h2; grind
      have := inv_pos' h3
      show ((0 : Int) : Rat) ≤ c⁻¹
      grind
    | some d =>
      have h2 : ¬ (sgn3 c ≤ 0 ∧ 0 ≤ sgn3 d) := h1
      have h3 : ¬ d < c := by simpa [NS.ok, ordO] using ho
      have h4 : 0 < c ∨ d < 0 := by unfold sgn3 at h2; grind
      exact inv_anti (by grind) h4
end Go.Q
