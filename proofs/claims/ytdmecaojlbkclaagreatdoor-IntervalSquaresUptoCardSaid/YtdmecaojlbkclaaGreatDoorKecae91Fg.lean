/-
  Contract of package word: powers of rational numbers. Conditions: the value is a rational number (Fr), of at most 2^20 binary digits, the exponent at most 64.
-/
import Derived.Test.YtdmecaojlbkclaaGreatDoorRaBunG
import Derived.Test.YtdmecaojlbkclaaGreatDoorKc239cdWp
import Derived.Test.YtdmecaojlbkclaaGreatDoorK5b7fdbPr
set_option linter.unusedVariables false
set_option linter.unusedSimpArgs false
namespace Go.Q
open Go.Proofs
set_option maxRecDepth 100000
set_option maxHeartbeats 4000000
theorem ipow_sign (a : Int) (n : Nat) : (a < 0 → (n % 2 = 1 → a ^ n < 0) ∧ (n % 2 = 0 → 0 < a ^ n)) ∧ (0 ≤ a → 0 ≤ a ^ n) := by
  induction n with
  | zero => exact ⟨fun _ => ⟨fun h => by omega, fun _ => by rw [Int.pow_zero]; decide⟩, fun _ => by rw [Int.pow_zero]; decide⟩
  | succ n ih =>
    rw [Int.pow_succ]
    refine ⟨fun h => ⟨fun hm => ?_, fun hm => ?_⟩, fun h => Int.mul_nonneg (ih.2 h) h⟩
    · exact Int.mul_neg_of_pos_of_neg ((ih.1 h).2 (by omega)) h
    · exact Int.mul_pos_of_neg_of_neg ((ih.1 h).1 (by omega)) h
theorem pow_neg (x : Rat) (n : Nat) : decide ((x ^ n).num < 0) = (decide (x.num < 0) && decide (n % 2 = 1)) := by
  have h := ipow_sign x.num n
  rw [Rat.num_pow]
  generalize x.num ^ n = z at *
  by_cases h1 : x.num < 0
  · by_cases h2 : n % 2 = 1
    · have := (h.1 h1).1 h2
      simp [h1, h2, this]
    · have := (h.1 h1).2 (by omega)
      have h3 : ¬ z < 0 := by omega
      simp [h1, h2, h3]
  · have := h.2 (by omega)
    have h3 : ¬ z < 0 := by omega
    simp [h1, h3]
theorem PowF_spec {h0 h : PH} [Le h0 h] {v : Value} {x : Rat} {n : Nat} (hx : Fr h0 v x) (hn : n ≤ 64) (bx : sz x ≤ 2 ^ 20) : Spec mach 93 #[v, .int .i64 n] h (fun v h' => Fr h' v (x ^ n)) NP := by
  obtain ⟨na, nl, nc, da, dl, dc, rfl, hn1, hd1⟩ := hx.sl
  have b1 := sz_num x
  have b2 := sz_den x
  have m1 : bl x.num.natAbs * n ≤ 2 ^ 20 * 64 := Nat.mul_le_mul (by omega) hn
  have m2 : bl x.den * n ≤ 2 ^ 20 * 64 := Nat.mul_le_mul (by omega) hn
  have e1 : (x ^ n).num.natAbs = x.num.natAbs ^ n := by rw [Rat.num_pow, Int.natAbs_pow]
  have e2 : (x ^ n).den = x.den ^ n := Rat.den_pow ..
  have e3 := pow_neg x n
  generalize decide (x.num < 0) = s at *
  by_cases hm : n % 2 = 1
  · rw [decide_eq_true hm, Bool.and_true] at e3
    cases s <;>
    · refine Spec.enter (args := [_, _]) (n := 21) Tryz.func93 rfl (by kernel_rfl) rfl (by simp) [.cell 4 41] rfl (fun C _ => ?_)
      repeat (first | (refine wo rfl (fun k hk => ?_); simp (disch := omega) only [go_sem, Nat.reduceBEq, Nat.reduceAdd]; apply hk; clear hk k) | refine wkt rfl ?_ | refine wk0 ?_ | refine rg rfl rfl (fun K hK => ?_) | refine rd [.o 0, .o 1, .o 2, .o 3, .o 4, .o 5, .o 6, .o 7, .o 8, .o 9, .o 11, .o 12, .o 13, .o 10, .o 14, .o 15, .o 16] rfl (by decide +kernel) rfl (fun K hK => ?_) | ((first | refine AWP_exit ?_ | refine AWP_skip ?_); simp (disch := decide) only [qs, qb, if_true, if_false, reduceIte]) | refine AWP_sq rfl (fun K hK => ?_) | refine ct rfl ?_ | ((try simp (disch := omega) only [go_sem, Nat.reduceBEq, Nat.reduceAdd]); (first | apply hK | (clear hK; apply hK) | (clear hK; clear hK; apply hK)); clear hK; (try clear K); (try dsimp only [behind, qs, qb])))
      refine cN rfl rfl rfl rfl (by exact NPow_spec hn1 (by omega) (by omega)) ?_; rintro v1 h1 _ q1; obtain ⟨v1, v1_l, v1_c, rfl, q1⟩ := q1.sl; (repeat (first | (refine wo rfl (fun k hk => ?_); simp (disch := omega) only [go_sem, Nat.reduceBEq, Nat.reduceAdd]; apply hk; clear hk k) | refine wkt rfl ?_)); (try refine wk0 ?_)
      refine cN rfl rfl rfl rfl (by exact NPow_spec (hd1.to (h' := h1)) (by omega) (by omega)) ?_; rintro v2 h2 _ q2; obtain ⟨v2, v2_l, v2_c, rfl, q2⟩ := q2.sl; (repeat (first | (refine wo rfl (fun k hk => ?_); simp (disch := omega) only [go_sem, Nat.reduceBEq, Nat.reduceAdd]; apply hk; clear hk k) | refine wkt rfl ?_)); (try refine wk0 ?_)
      (try (simp (disch := omega) only [go_sem, Nat.reduceBEq, Nat.reduceAdd])); apply hK; clear hK; (try clear K); (try dsimp only [behind, qs])
      refine AWP_ret ?_; simp (disch := omega) only [go_sem, Nat.reduceBEq, Nat.reduceAdd]
      exact ⟨_, _, by rw [e3], by rw [e1]; exact q1.to, by rw [e2]; exact q2⟩
  · rw [decide_eq_false hm, Bool.and_false] at e3
    cases s <;>
    · refine Spec.enter (args := [_, _]) (n := 21) Tryz.func93 rfl (by kernel_rfl) rfl (by simp) [.cell 4 41] rfl (fun C _ => ?_)
      repeat (first | (refine wo rfl (fun k hk => ?_); simp (disch := omega) only [go_sem, Nat.reduceBEq, Nat.reduceAdd]; apply hk; clear hk k) | refine wkt rfl ?_ | refine wk0 ?_ | refine rg rfl rfl (fun K hK => ?_) | refine rd [.o 0, .o 1, .o 2, .o 3, .o 4, .o 5, .o 6, .o 7, .o 8, .o 9, .o 11, .o 12, .o 13, .o 10, .o 14, .o 15, .o 16] rfl (by decide +kernel) rfl (fun K hK => ?_) | ((first | refine AWP_exit ?_ | refine AWP_skip ?_); simp (disch := decide) only [qs, qb, if_true, if_false, reduceIte]) | refine AWP_sq rfl (fun K hK => ?_) | refine ct rfl ?_ | ((try simp (disch := omega) only [go_sem, Nat.reduceBEq, Nat.reduceAdd]); (first | apply hK | (clear hK; apply hK) | (clear hK; clear hK; apply hK)); clear hK; (try clear K); (try dsimp only [behind, qs, qb])))
      refine cN rfl rfl rfl rfl (by exact NPow_spec hn1 (by omega) (by omega)) ?_; rintro v1 h1 _ q1; obtain ⟨v1, v1_l, v1_c, rfl, q1⟩ := q1.sl; (repeat (first | (refine wo rfl (fun k hk => ?_); simp (disch := omega) only [go_sem, Nat.reduceBEq, Nat.reduceAdd]; apply hk; clear hk k) | refine wkt rfl ?_)); (try refine wk0 ?_)
      refine cN rfl rfl rfl rfl (by exact NPow_spec (hd1.to (h' := h1)) (by omega) (by omega)) ?_; rintro v2 h2 _ q2; obtain ⟨v2, v2_l, v2_c, rfl, q2⟩ := q2.sl; (repeat (first | (refine wo rfl (fun k hk => ?_); simp (disch := omega) only [go_sem, Nat.reduceBEq, Nat.reduceAdd]; apply hk; clear hk k) | refine wkt rfl ?_)); (try refine wk0 ?_)
      (try (simp (disch := omega) only [go_sem, Nat.reduceBEq, Nat.reduceAdd])); apply hK; clear hK; (try clear K); (try dsimp only [behind, qs])
      refine AWP_ret ?_; simp (disch := omega) only [go_sem, Nat.reduceBEq, Nat.reduceAdd]
      exact ⟨_, _, by rw [e3], by rw [e1]; exact q1.to, by rw [e2]; exact q2⟩
end Go.Q
