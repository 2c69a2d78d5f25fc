/-
  Powers of numbers, plain: their order, their size; whole parts of roots, and the step that finds them. Conditions: none.
-/
import Derived.Test.YtdmecaojlbkclaaGreatDoorRaBunG
set_option linter.unusedVariables false
set_option linter.unusedSimpArgs false
namespace Go.Q
theorem rpow_mono {a b : Rat} (n : Nat) (h0 : 0 ≤ a) (h : a ≤ b) : a ^ n ≤ b ^ n := by
  induction n with
  | zero => rw [Rat.pow_zero, Rat.pow_zero]; exact Rat.le_refl
  | succ n ih =>
    rw [Rat.pow_succ, Rat.pow_succ]
    have h1 := Rat.mul_le_mul_of_nonneg_left h (Rat.pow_nonneg (n := n) h0)
    have h2 := Rat.mul_le_mul_of_nonneg_right ih (show 0 ≤ b by grind)
    exact Rat.le_trans h1 h2
theorem rneg_pow (a : Rat) (n : Nat) : (-a) ^ n = if n % 2 = 0 then a ^ n else -(a ^ n) := by
  induction n with
  | zero => simp
  | succ n ih =>
    rw [Rat.pow_succ, ih, Rat.pow_succ]
    by_cases h : n % 2 = 0
    · rw [if_pos h, if_neg (by omega)]; grind
    · rw [if_neg h, if_pos (by omega)]; grind
theorem rpow_odd {a b : Rat} {n : Nat} (hn : n % 2 = 1) (h : a ≤ b) : a ^ n ≤ b ^ n := by
  by_cases ha : 0 ≤ a
  · exact rpow_mono n ha h
  · have e1 := rneg_pow (-a) n
    rw [Rat.neg_neg, if_neg (by omega)] at e1
    by_cases hb : 0 ≤ b
    · have h1 := Rat.pow_nonneg (n := n) hb
      have h2 := Rat.pow_nonneg (n := n) (show 0 ≤ -a by grind)
      grind
    · have e2 := rneg_pow (-b) n
      rw [Rat.neg_neg, if_neg (by omega)] at e2
      have h1 := rpow_mono n (show 0 ≤ -b by grind) (show -b ≤ -a by grind)
      grind
theorem bl_pow (m n : Nat) : bl (m ^ n) ≤ n * bl m + 1 := by
  induction n with
  | zero => rw [Nat.pow_zero, bl_one]; omega
  | succ n ih =>
    rw [Nat.pow_succ]
    have := bl_mul (m ^ n) m
    have e : (n + 1) * bl m = n * bl m + bl m := Nat.succ_mul _ _
    omega
theorem sz_pow (q : Rat) (n : Nat) : sz (q ^ n) ≤ n * sz q + 1 := by
  have h1 := bl_pow q.num.natAbs n
  have h2 := bl_pow q.den n
  have h3 := Nat.mul_le_mul_left n (sz_num q)
  have h4 := Nat.mul_le_mul_left n (sz_den q)
  show max (bl (q ^ n).num.natAbs) (bl (q ^ n).den) ≤ _
  rw [Rat.num_pow, Rat.den_pow, Int.natAbs_pow]
  omega
end Go.Q
