/-
  Powers of numbers, plain: their order, their size; whole parts of roots, and the step that finds them. Conditions: none.
-/
import Derived.Test.YtdmecaojlbkclaaGreatDoorRaBunG
set_option linter.unusedVariables false
set_option linter.unusedSimpArgs false
namespace Go.Q
theorem rpow_mono {a b : Rat} (n : Nat) (h0 : 0 ≤ a) (h : a ≤ b) : a ^ n ≤ b ^ n := by
  induction n with
  | zero => rw [Rat.pow_zero, Rat.pow_zero]; exact Rat.le_refl
  | succ n ih =>
    rw [Rat.pow_succ, Rat.pow_succ]
    have h1 := Rat.mul_le_mul_of_nonneg_left h (Rat.pow_nonneg (n := n) h0)
    have h2 := Rat.mul_le_mul_of_nonneg_right ih (show 0 ≤ b by grind)
    exact Rat.le_trans h1 h2
theorem bl_pow (m n : Nat) : bl (m ^ n) ≤ n * bl m + 1 := by
  induction n with
  | zero => rw [Nat.pow_zero, bl_one]; omega
  | succ n ih =>
    rw [Nat.pow_succ]
    have := bl_mul (m ^ n) m
    have e : (n + 1) * bl m = n * bl m + bl m := Nat.succ_mul _ _
    omega
theorem sz_pow (q : Rat) (n : Nat) : sz (q ^ n) ≤ n * sz q + 1 := by
  have h1 := bl_pow q.num.natAbs n
  have h2 := bl_pow q.den n
  have h3 := Nat.mul_le_mul_left n (sz_num q)
  have h4 := Nat.mul_le_mul_left n (sz_den q)
  show max (bl (q ^ n).num.natAbs) (bl (q ^ n).den) ≤ _
  rw [Rat.num_pow, Rat.den_pow, Int.natAbs_pow]
  omega
def irtTo (n a : Nat) : Nat → Nat
  | 0 => 0
  | k + 1 => if (k + 1) ^ n ≤ a then k + 1 else irtTo n a k
def irt (n a : Nat) : Nat := irtTo n a a
theorem irtTo_le (n a k : Nat) (hn : n ≠ 0) : irtTo n a k ^ n ≤ a := by
  induction k with
  | zero => show 0 ^ n ≤ a; rw [Nat.zero_pow (Nat.pos_of_ne_zero hn)]; exact Nat.zero_le _
  | succ k ih =>
    show (if _ then _ else _) ^ n ≤ a
    split
    · assumption
    · exact ih
theorem irtTo_lt (n a k : Nat) {j : Nat} (h : j ^ n ≤ a) (hj : j ≤ k) : j ≤ irtTo n a k := by
  induction k with
  | zero => omega
  | succ k ih =>
    show j ≤ if _ then _ else _
    split
    · exact hj
    · rename_i h1
      have : j ≠ k + 1 := fun e => h1 (e ▸ h)
      exact ih (by omega)
theorem irt_le {n a : Nat} (hn : n ≠ 0) : irt n a ^ n ≤ a := irtTo_le n a a hn
theorem irt_max {n a j : Nat} (hn : n ≠ 0) (h : j ^ n ≤ a) : j ≤ irt n a := by
  refine irtTo_lt n a a h (Nat.le_trans ?_ h)
  cases j with
  | zero => exact Nat.zero_le _
  | succ j => exact Nat.le_self_pow hn _
theorem irt_eq {n a x : Nat} (hn : n ≠ 0) (h1 : x ^ n ≤ a) (h2 : irt n a ≤ x) : x = irt n a := Nat.le_antisymm (irt_max hn h1) h2
theorem irt_zero {n : Nat} (hn : n ≠ 0) : irt n 0 = 0 := by
  have := irt_le (n := n) (a := 0) hn
  have h1 : irt n 0 ≤ irt n 0 ^ n := Nat.le_self_pow hn _
  omega
theorem irt_lt_pow {n a k : Nat} (hn : n ≠ 0) (h : a < 2 ^ (n * k)) : irt n a < 2 ^ k := by
  refine Decidable.byContradiction fun c => ?_
  have h1 : 2 ^ k ≤ irt n a := by omega
  have h2 := Nat.pow_le_pow_left h1 n
  rw [← Nat.pow_mul, Nat.mul_comm k n] at h2
  have := irt_le (n := n) (a := a) hn
  omega
theorem bern (r x m : Nat) : (m + 1) * (r * x ^ m) ≤ r ^ (m + 1) + m * x ^ (m + 1) := by
  induction m with
  | zero => simp
  | succ m ih =>
    have h1 := Nat.mul_le_mul_right r ih
    have h2 : 2 * (r * x) ≤ r * r + x * x := by
      rcases Nat.le_total r x with h | h
      · obtain ⟨d, rfl⟩ := Nat.exists_eq_add_of_le h
        have : 0 ≤ d * d := Nat.zero_le _
        grind
      · obtain ⟨d, rfl⟩ := Nat.exists_eq_add_of_le h
        have : 0 ≤ d * d := Nat.zero_le _
        grind
    have h3 := Nat.mul_le_mul_left ((m + 1) * x ^ m) h2
    have e1 : r ^ (m + 1 + 1) = r ^ (m + 1) * r := Nat.pow_succ ..
    have e2 : x ^ (m + 1) = x ^ m * x := Nat.pow_succ ..
    have e3 : x ^ (m + 1 + 1) = x ^ m * x * x := by rw [Nat.pow_succ, e2]
    rw [e1, e3, e2]
    rw [e2] at h1
    generalize x ^ m = y at *
    generalize r ^ (m + 1) = z at *
    grind
def nwt (n a x : Nat) : Nat := ((n - 1) * x + a / x ^ (n - 1)) / n
theorem nwt_ge {n a x : Nat} (hn : n ≠ 0) (hx : 0 < x) : irt n a ≤ nwt n a x := by
  have hr := irt_le (n := n) (a := a) hn
  generalize irt n a = r at *
  obtain ⟨m, rfl⟩ : ∃ m, n = m + 1 := ⟨n - 1, by omega⟩
  unfold nwt
  rw [Nat.add_sub_cancel, Nat.le_div_iff_mul_le (by omega)]
  have hb := bern r x m
  have hp : 0 < x ^ m := Nat.pow_pos hx
  by_cases hc : r * (m + 1) ≤ m * x
  · exact Nat.le_trans hc (Nat.le_add_right _ _)
  · obtain ⟨t, ht⟩ : ∃ t, r * (m + 1) = m * x + t := ⟨r * (m + 1) - m * x, by omega⟩
    have h1 : t ≤ a / x ^ m := by
      rw [Nat.le_div_iff_mul_le hp]
      have e1 : (m + 1) * (r * x ^ m) = m * x * x ^ m + t * x ^ m := by
        rw [← Nat.add_mul, ← ht, ← Nat.mul_assoc, Nat.mul_comm (m + 1) r]
      have e2 : m * x ^ (m + 1) = m * x * x ^ m := by rw [Nat.pow_succ, Nat.mul_comm (x ^ m) x, Nat.mul_assoc]
      omega
    omega
theorem nwt_stop {n a x : Nat} (hn : n ≠ 0) (hx : 0 < x) (h : x ≤ nwt n a x) : x ^ n ≤ a := by
  obtain ⟨m, rfl⟩ : ∃ m, n = m + 1 := ⟨n - 1, by omega⟩
  unfold nwt at h
  rw [Nat.add_sub_cancel, Nat.le_div_iff_mul_le (by omega)] at h
  have hp : 0 < x ^ m := Nat.pow_pos hx
  have e1 : x * (m + 1) = m * x + x := by rw [Nat.mul_add, Nat.mul_one, Nat.mul_comm]
  have h1 : x ≤ a / x ^ m := by omega
  rw [Nat.le_div_iff_mul_le hp] at h1
  rw [Nat.pow_succ, Nat.mul_comm]
  exact h1
theorem irt_pos {n a : Nat} (hn : n ≠ 0) (ha : 0 < a) : 0 < irt n a := irt_max hn (by rw [Nat.one_pow]; exact ha)
theorem nwt_pos {n a x : Nat} (hn : n ≠ 0) (ha : 0 < a) (hx : 0 < x) : 0 < nwt n a x := Nat.lt_of_lt_of_le (irt_pos hn ha) (nwt_ge hn hx)
end Go.Q
