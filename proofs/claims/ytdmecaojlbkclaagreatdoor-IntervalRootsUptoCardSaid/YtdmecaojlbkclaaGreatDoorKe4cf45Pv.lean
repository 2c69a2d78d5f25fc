/-
  Roots of numbers on a grid, plain: their signs, when they are exact, their order. Conditions: the index is not 0.
-/
import Derived.Test.YtdmecaojlbkclaaGreatDoorKdd1d2dPq
set_option linter.unusedVariables false
set_option linter.unusedSimpArgs false
namespace Go.Q
theorem sgn_negs (m d : Nat) : sgn true m d = -(sgn false m d) := by
  show mkRat (-(m : Int)) d = -(mkRat (m : Int) d)
  rw [Rat.neg_mkRat]
theorem dec_pos {q : Rat} (h : 0 ≤ q) : decide (q.num < 0) = false := by
  rw [decide_eq_false_iff_not, num_neg]
  grind
theorem dec_neg {q : Rat} (h : q < 0) : decide (q.num < 0) = true := by
  rw [decide_eq_true_iff, num_neg]
  exact h
theorem rtw_neg (q : Rat) (n p : Nat) : rtw (-q) n p = rtw q n p := by
  unfold rtw
  rw [Rat.neg_num, Int.natAbs_neg, Rat.neg_den]
theorem rtx_neg (q : Rat) (n p : Nat) : rtx (-q) n p = rtx q n p := by
  unfold rtx
  rw [rtw_neg, Rat.neg_num, Int.natAbs_neg, Rat.neg_den]
theorem rootg_neg {q : Rat} (h : q < 0) (up : Bool) (n p : Nat) : rootg up q n p = -(rootg (!up) (-q) n p) := by
  unfold rootg rtm
  rw [dec_neg h, dec_pos (show 0 ≤ -q by grind), rtw_neg, rtx_neg, sgn_negs]
  cases up <;> rfl
theorem rootg_dn {q : Rat} (h : 0 ≤ q) (n p : Nat) : rootg false q n p = sgn false (irt n (rtw q n p)) (2 ^ p) := by
  unfold rootg rtm
  rw [dec_pos h]
  rfl
theorem rootg_up {q : Rat} (h : 0 ≤ q) (n p : Nat) : rootg true q n p = sgn false (if rtx q n p = true then irt n (rtw q n p) else irt n (rtw q n p) + 1) (2 ^ p) := by
  unfold rootg rtm
  rw [dec_pos h]
  cases rtx q n p <;> rfl
theorem rmul_pow (a b : Rat) (n : Nat) : (a * b) ^ n = a ^ n * b ^ n := by
  induction n with
  | zero => simp
  | succ n ih => rw [Rat.pow_succ, Rat.pow_succ, Rat.pow_succ, ih]; grind
theorem sgn_mul_den (m : Nat) {d : Nat} (hd : d ≠ 0) : sgn false m d * (d : Rat) = (m : Rat) := by
  show mkRat (m : Int) d * (d : Rat) = _
  have h1 : (d : Rat) ≠ 0 := by exact_mod_cast hd
  rw [Rat.mkRat_eq_div]
  exact Rat.div_mul_cancel h1
theorem num_den {q : Rat} (h : 0 ≤ q) : q * (q.den : Rat) = (q.num.natAbs : Rat) := by
  have h1 := sgn_self q
  rw [dec_pos h] at h1
  have h2 := sgn_mul_den q.num.natAbs (d := q.den) q.den_nz
  rwa [h1] at h2
theorem grid_pow (m n p : Nat) (q : Rat) : sgn false m (2 ^ p) ^ n * ((2 ^ (p * n) : Nat) : Rat) * (q.den : Rat) = ((m ^ n * q.den : Nat) : Rat) := by
  have h1 := sgn_mul_den m (d := 2 ^ p) (Nat.ne_of_gt (Nat.pow_pos (by decide)))
  have h2 : (sgn false m (2 ^ p) * ((2 ^ p : Nat) : Rat)) ^ n = (m : Rat) ^ n := by rw [h1]
  rw [rmul_pow] at h2
  have h3 : (((2 ^ p : Nat) : Rat)) ^ n = ((2 ^ (p * n) : Nat) : Rat) := by rw [Nat.pow_mul]; push_cast; rfl
  rw [h3] at h2
  rw [h2]
  push_cast
  rfl
theorem num_pow' {q : Rat} (h : 0 ≤ q) (n p : Nat) : q * ((2 ^ (p * n) : Nat) : Rat) * (q.den : Rat) = ((q.num.natAbs * 2 ^ (p * n) : Nat) : Rat) := by
  have h1 := num_den h
  have : q * ((2 ^ (p * n) : Nat) : Rat) * (q.den : Rat) = (q * (q.den : Rat)) * ((2 ^ (p * n) : Nat) : Rat) := by grind
  rw [this, h1]
  push_cast
  rfl
theorem scale_pos (q : Rat) (n p : Nat) : (0 : Rat) < ((2 ^ (p * n) : Nat) : Rat) ∧ (0 : Rat) < (q.den : Rat) := by
  have h1 : 0 < 2 ^ (p * n) := Nat.pow_pos (by decide)
  have h2 : 0 < q.den := Nat.pos_of_ne_zero q.den_nz
  exact ⟨by exact_mod_cast h1, by exact_mod_cast h2⟩
theorem mul_mono2 {a b c d : Rat} (hc : 0 < c) (hd : 0 < d) : a * c * d ≤ b * c * d ↔ a ≤ b := by
  constructor
  · intro h
    refine Decidable.byContradiction fun k => ?_
    have h1 : b < a := by grind
    have h2 := Rat.mul_lt_mul_of_pos_right h1 hc
    have h3 := Rat.mul_lt_mul_of_pos_right h2 hd
    grind
  · intro h
    have h2 := Rat.mul_le_mul_of_nonneg_right h (show 0 ≤ c by grind)
    exact Rat.mul_le_mul_of_nonneg_right h2 (show 0 ≤ d by grind)
theorem grid_le {q : Rat} (h : 0 ≤ q) (m n p : Nat) : sgn false m (2 ^ p) ^ n ≤ q ↔ m ^ n * q.den ≤ q.num.natAbs * 2 ^ (p * n) := by
  obtain ⟨h1, h2⟩ := scale_pos q n p
  rw [← mul_mono2 h1 h2, grid_pow, num_pow' h]
  exact_mod_cast Iff.rfl
theorem grid_ge {q : Rat} (h : 0 ≤ q) (m n p : Nat) : q ≤ sgn false m (2 ^ p) ^ n ↔ q.num.natAbs * 2 ^ (p * n) ≤ m ^ n * q.den := by
  obtain ⟨h1, h2⟩ := scale_pos q n p
  rw [← mul_mono2 h1 h2, grid_pow, num_pow' h]
  exact_mod_cast Iff.rfl
theorem rtx_iff (q : Rat) (n p : Nat) : rtx q n p = true ↔ irt n (rtw q n p) ^ n * q.den = q.num.natAbs * 2 ^ (p * n) := by
  have hd : 0 < q.den := Nat.pos_of_ne_zero q.den_nz
  unfold rtx
  rw [Bool.and_eq_true, decide_eq_true_iff, decide_eq_true_iff]
  have hw : rtw q n p = q.num.natAbs * 2 ^ (p * n) / q.den := rfl
  generalize irt n (rtw q n p) ^ n = r at *
  rw [hw]
  generalize q.num.natAbs * 2 ^ (p * n) = N at *
  have := Nat.div_add_mod N q.den
  constructor
  · rintro ⟨h1, h2⟩
    rw [h1, Nat.mul_comm]; omega
  · intro h
    rw [← h]
    exact ⟨(Nat.mul_div_cancel _ hd).symm, Nat.mul_mod_left ..⟩
theorem root_exact {q : Rat} (h : 0 ≤ q) (n p : Nat) : rootg false q n p ^ n = q ↔ rtx q n p = true := by
  rw [rootg_dn h, rtx_iff]
  have h1 := grid_le h (irt n (rtw q n p)) n p
  have h2 := grid_ge h (irt n (rtw q n p)) n p
  constructor
  · intro k
    have := h1.1 (by rw [k]; exact Rat.le_refl)
    have := h2.1 (by rw [k]; exact Rat.le_refl)
    omega
  · intro k
    exact Rat.le_antisymm (h1.2 (by omega)) (h2.2 (by omega))
theorem root_low {q : Rat} (h : 0 ≤ q) {n : Nat} (hn : n ≠ 0) (p : Nat) : rootg false q n p ^ n ≤ q := by
  rw [rootg_dn h, grid_le h]
  have h1 := irt_le (n := n) (a := rtw q n p) hn
  have h2 : rtw q n p * q.den ≤ q.num.natAbs * 2 ^ (p * n) := Nat.div_mul_le_self _ _
  exact Nat.le_trans (Nat.mul_le_mul_right _ h1) h2
theorem root_high {q : Rat} (h : 0 ≤ q) {n : Nat} (hn : n ≠ 0) (p : Nat) : q ≤ rootg true q n p ^ n := by
  rw [rootg_up h, grid_ge h]
  cases hx : rtx q n p with
  | true =>
    have := (rtx_iff q n p).1 hx
    simp only [if_true]
    omega
  | false =>
    simp only [Bool.false_eq_true, if_false]
    have h1 : rtw q n p < (irt n (rtw q n p) + 1) ^ n := Decidable.byContradiction fun k => by
      have := irt_max (n := n) (a := rtw q n p) (j := irt n (rtw q n p) + 1) hn (by omega)
      omega
    have hd : 0 < q.den := Nat.pos_of_ne_zero q.den_nz
    have h2 : q.num.natAbs * 2 ^ (p * n) < (irt n (rtw q n p) + 1) ^ n * q.den := by
      have hw : rtw q n p = q.num.natAbs * 2 ^ (p * n) / q.den := rfl
      rw [hw, Nat.div_lt_iff_lt_mul hd] at h1
      exact h1
    omega
theorem rootg_nonneg {q : Rat} (h : 0 ≤ q) (up : Bool) (n p : Nat) : 0 ≤ rootg up q n p := by
  unfold rootg
  rw [dec_pos h]
  have h1 := sgn_mul_den (rtm up q n p) (d := 2 ^ p) (Nat.ne_of_gt (Nat.pow_pos (by decide)))
  have h2 : (0 : Rat) < ((2 ^ p : Nat) : Rat) := by
    have : 0 < 2 ^ p := Nat.pow_pos (by decide)
    exact_mod_cast this
  have h3 : (0 : Rat) ≤ ((rtm up q n p : Nat) : Rat) := by exact_mod_cast Nat.zero_le _
  refine Decidable.byContradiction fun k => ?_
  have h4 := Rat.mul_lt_mul_of_pos_right (show sgn false (rtm up q n p) (2 ^ p) < 0 by grind) h2
  rw [h1, Rat.zero_mul] at h4
  grind
theorem rpow_lt {a b : Rat} {n : Nat} (hn : n ≠ 0) (h0 : 0 ≤ a) (h : a < b) : a ^ n < b ^ n := by
  obtain ⟨m, rfl⟩ : ∃ m, n = m + 1 := ⟨n - 1, by omega⟩
  rw [Rat.pow_succ, Rat.pow_succ]
  have h1 := rpow_mono m h0 (show a ≤ b by grind)
  have h2 := Rat.mul_le_mul_of_nonneg_right h1 h0
  have h3 := Rat.mul_lt_mul_of_pos_left h (Rat.pow_pos (n := m) (show 0 < b by grind))
  grind
theorem root_mono0 {a b : Rat} (ha : 0 ≤ a) (h : a ≤ b) {n : Nat} (hn : n ≠ 0) (p : Nat) : rootg false a n p ≤ rootg true b n p := by
  refine Decidable.byContradiction fun k => ?_
  have hb : 0 ≤ b := Rat.le_trans ha h
  have h1 := rpow_lt hn (rootg_nonneg hb true n p) (show rootg true b n p < rootg false a n p by grind)
  have h2 := root_low ha hn p
  have h3 := root_high hb hn p
  grind
theorem root_mono {a b : Rat} (h : a ≤ b) {n : Nat} (hn : n ≠ 0) (p : Nat) : rootg false a n p ≤ rootg true b n p := by
  by_cases ha : 0 ≤ a
  · exact root_mono0 ha h hn p
  · have e1 := rootg_neg (show a < 0 by grind) false n p
    have n1 := rootg_nonneg (show 0 ≤ -a by grind) true n p
    have e1 : rootg false a n p = -(rootg true (-a) n p) := e1
    by_cases hb : 0 ≤ b
    · have := rootg_nonneg hb true n p
      rw [e1]; grind
    · have e2 : rootg true b n p = -(rootg false (-b) n p) := rootg_neg (show b < 0 by grind) true n p
      have := root_mono0 (show 0 ≤ -b by grind) (show -b ≤ -a by grind) hn p
      rw [e1, e2]; grind
end Go.Q
