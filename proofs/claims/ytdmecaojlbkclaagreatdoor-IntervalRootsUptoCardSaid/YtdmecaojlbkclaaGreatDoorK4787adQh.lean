/-
  Contracts of the reference's rational numbers: powers. Conditions: the value is a rational number (Qr), of at most 2^20 binary digits, the exponent at most 64.
-/
import Derived.Test.YtdmecaojlbkclaaGreatDoorRaBunK
import Derived.Test.YtdmecaojlbkclaaGreatDoorK622b40Rg
import Derived.Test.YtdmecaojlbkclaaGreatDoorK664bd0Fg
set_option linter.unusedVariables false
set_option linter.unusedSimpArgs false
namespace Go.Q
open Go.Proofs
set_option maxRecDepth 100000
set_option maxHeartbeats 4000000
theorem RPower_spec {h0 h : PH} [Le h0 h] {v : Value} {x : Rat} {n : Nat} (hx : Qr h0 v x) (hn : n ≤ 64) (bx : sz x ≤ 2 ^ 20) : Spec mach 83 #[v, .int .i64 n] h (fun v h' => Qr h' v (x ^ n)) NP := by
  have hx0 := hx
  obtain ⟨na, nl, nc, da, dl, dc, e, rfl, hn1, hd1, he⟩ := hx.sl
  have kD := fun {h} [Le h0 h] => den_spec (h := h) hx0
  have b1 := sz_num x
  have b2 := sz_den x
  have m1 : bl x.num.natAbs * n ≤ 2 ^ 20 * 64 := Nat.mul_le_mul (by omega) hn
  have m2 : bl x.den * n ≤ 2 ^ 20 * 64 := Nat.mul_le_mul (by omega) hn
  have e1 : (x ^ n).num.natAbs = x.num.natAbs ^ n := by rw [Rat.num_pow, Int.natAbs_pow]
  have e2 : (x ^ n).den = x.den ^ n := Rat.den_pow ..
  have e3 := pow_neg x n
  have hz : x.den ^ n ≠ 0 := Nat.pos_iff_ne_zero.1 (Nat.pow_pos (Nat.pos_of_ne_zero x.den_nz))
  generalize decide (x.num < 0) = s at *
  by_cases hm : n % 2 = 1
  · rw [decide_eq_true hm, Bool.and_true] at e3
    cases s <;>
    · refine Spec.enter (args := [_, _]) (n := 29) Tryz.func83 rfl (by kernel_rfl) rfl (by simp) [.cell 4 56] rfl (fun C _ => ?_)
      repeat (first | (refine wo rfl (fun k hk => ?_); simp (disch := omega) only [go_sem, Nat.reduceBEq, Nat.reduceAdd]; refine hk _ _ ?_; clear hk k) | refine wkt rfl ?_ | refine wk0 ?_ | refine rg rfl rfl (fun K hK => ?_) | refine rd [.o 1, .o 3, .o 4, .o 0, .o 2, .o 5, .o 6] rfl (by decide +kernel) rfl (fun K hK => ?_) | refine rd [.o 0, .o 1, .o 2, .o 3, .o 4, .o 5, .o 6, .o 7, .o 8, .o 9, .o 11, .o 13, .o 10, .o 12, .o 14, .o 15, .o 16] rfl (by decide +kernel) rfl (fun K hK => ?_) | ((first | refine AWP_exit ?_ | refine AWP_skip ?_); simp (disch := decide) only [qs, qb, if_true, if_false, reduceIte]) | refine AWP_sq rfl (fun K hK => ?_) | refine ct rfl ?_ | ((try simp (disch := omega) only [go_sem, Nat.reduceBEq, Nat.reduceAdd]); (first | apply hK | (clear hK; apply hK) | (clear hK; clear hK; apply hK)); clear hK; (try clear K); (try dsimp only [behind, qs, qb])))
      refine cN rfl rfl rfl rfl (by exact NatPow_spec hn1 (by omega) (by omega)) ?_; rintro v1 h1 _ q1; obtain ⟨v1, v1_l, v1_c, rfl, q1⟩ := q1.sl; (repeat (first | (refine wo rfl (fun k hk => ?_); simp (disch := omega) only [go_sem, Nat.reduceBEq, Nat.reduceAdd]; refine hk _ _ ?_; clear hk k) | refine wkt rfl ?_)); (try refine wk0 ?_)
      refine cN rfl rfl rfl rfl (by exact kD) ?_; rintro v2 h2 _ q2; obtain ⟨v2, v2_l, v2_c, rfl, q2⟩ := q2.sl; (repeat (first | (refine wo rfl (fun k hk => ?_); simp (disch := omega) only [go_sem, Nat.reduceBEq, Nat.reduceAdd]; refine hk _ _ ?_; clear hk k) | refine wkt rfl ?_)); (try refine wk0 ?_)
      refine cN rfl rfl rfl rfl (by exact NatPow_spec q2 (by omega) (by omega)) ?_; rintro v3 h3 _ q3; obtain ⟨v3, v3_l, v3_c, rfl, q3⟩ := q3.sl; (repeat (first | (refine wo rfl (fun k hk => ?_); simp (disch := omega) only [go_sem, Nat.reduceBEq, Nat.reduceAdd]; refine hk _ _ ?_; clear hk k) | refine wkt rfl ?_)); (try refine wk0 ?_)
      (try (simp (disch := omega) only [go_sem, Nat.reduceBEq, Nat.reduceAdd])); refine hK _ _ ?_; clear hK; (try clear K); (try dsimp only [behind, qs])
      refine AWP_ret ?_; simp (disch := omega) only [go_sem, Nat.reduceBEq, Nat.reduceAdd]
      exact ⟨_, _, _, by rw [e3], by rw [e1]; exact q1.to, q3, by rw [e2, dz_self hz]⟩
  · rw [decide_eq_false hm, Bool.and_false] at e3
    cases s <;>
    · refine Spec.enter (args := [_, _]) (n := 29) Tryz.func83 rfl (by kernel_rfl) rfl (by simp) [.cell 4 56] rfl (fun C _ => ?_)
      repeat (first | (refine wo rfl (fun k hk => ?_); simp (disch := omega) only [go_sem, Nat.reduceBEq, Nat.reduceAdd]; refine hk _ _ ?_; clear hk k) | refine wkt rfl ?_ | refine wk0 ?_ | refine rg rfl rfl (fun K hK => ?_) | refine rd [.o 1, .o 3, .o 4, .o 0, .o 2, .o 5, .o 6] rfl (by decide +kernel) rfl (fun K hK => ?_) | refine rd [.o 0, .o 1, .o 2, .o 3, .o 4, .o 5, .o 6, .o 7, .o 8, .o 9, .o 11, .o 13, .o 10, .o 12, .o 14, .o 15, .o 16] rfl (by decide +kernel) rfl (fun K hK => ?_) | ((first | refine AWP_exit ?_ | refine AWP_skip ?_); simp (disch := decide) only [qs, qb, if_true, if_false, reduceIte]) | refine AWP_sq rfl (fun K hK => ?_) | refine ct rfl ?_ | ((try simp (disch := omega) only [go_sem, Nat.reduceBEq, Nat.reduceAdd]); (first | apply hK | (clear hK; apply hK) | (clear hK; clear hK; apply hK)); clear hK; (try clear K); (try dsimp only [behind, qs, qb])))
      refine cN rfl rfl rfl rfl (by exact NatPow_spec hn1 (by omega) (by omega)) ?_; rintro v1 h1 _ q1; obtain ⟨v1, v1_l, v1_c, rfl, q1⟩ := q1.sl; (repeat (first | (refine wo rfl (fun k hk => ?_); simp (disch := omega) only [go_sem, Nat.reduceBEq, Nat.reduceAdd]; refine hk _ _ ?_; clear hk k) | refine wkt rfl ?_)); (try refine wk0 ?_)
      refine cN rfl rfl rfl rfl (by exact kD) ?_; rintro v2 h2 _ q2; obtain ⟨v2, v2_l, v2_c, rfl, q2⟩ := q2.sl; (repeat (first | (refine wo rfl (fun k hk => ?_); simp (disch := omega) only [go_sem, Nat.reduceBEq, Nat.reduceAdd]; refine hk _ _ ?_; clear hk k) | refine wkt rfl ?_)); (try refine wk0 ?_)
      refine cN rfl rfl rfl rfl (by exact NatPow_spec q2 (by omega) (by omega)) ?_; rintro v3 h3 _ q3; obtain ⟨v3, v3_l, v3_c, rfl, q3⟩ := q3.sl; (repeat (first | (refine wo rfl (fun k hk => ?_); simp (disch := omega) only [go_sem, Nat.reduceBEq, Nat.reduceAdd]; refine hk _ _ ?_; clear hk k) | refine wkt rfl ?_)); (try refine wk0 ?_)
      (try (simp (disch := omega) only [go_sem, Nat.reduceBEq, Nat.reduceAdd])); refine hK _ _ ?_; clear hK; (try clear K); (try dsimp only [behind, qs])
      refine AWP_ret ?_; simp (disch := omega) only [go_sem, Nat.reduceBEq, Nat.reduceAdd]
      exact ⟨_, _, _, by rw [e3], by rw [e1]; exact q1.to, q3, by rw [e2, dz_self hz]⟩
end Go.Q
