/-
  Contract of package word: powers of natural numbers. Conditions: the slice holds words (N32), the power has at most 2^36 bits.
-/
import Derived.Test.YtdmecaojlbkclaaGreatDoorRaBunG
set_option linter.unusedVariables false
set_option linter.unusedSimpArgs false
namespace Go.Q
open Go.Proofs
set_option maxRecDepth 100000
theorem emod_two (s : Int) : ((s % 18446744073709551616).toNat % 2 : Nat) = (s % 2).toNat := by omega
theorem and_one {k : Nat} : andI .i64 (k : Int) 1 = ((k % 2 : Nat) : Int) := by
  unfold andI
  rw [BitVec.toNat_and]
  have e1 : (BitVec.ofInt IntKind.i64.bits (k : Int)).toNat = ((k : Int) % 18446744073709551616).toNat := by rw [BitVec.toNat_ofInt]; rfl
  have e2 : (BitVec.ofInt IntKind.i64.bits 1).toNat = 2 ^ 1 - 1 := by decide
  rw [e1, e2, Nat.and_two_pow_sub_one_eq_mod, show (2 : Nat) ^ 1 = 2 from rfl, emod_two, IntKind.wrap_i64]
  omega
theorem shr_one {k : Nat} : (k : Int).fdiv (2 ^ min (Int.toNat 1) 64) = ((k / 2 : Nat) : Int) := by
  rw [show (2 : Int) ^ min (Int.toNat 1) 64 = 2 from rfl, Int.fdiv_eq_ediv_of_nonneg _ (by decide)]; omega
theorem npow_odd {a o k p : Nat} (hm : k % 2 = 1) (h : o * a ^ k = p) : o * a * (a * a) ^ (k / 2) = p := by
  obtain ⟨j, rfl⟩ : ∃ j, k = 2 * j + 1 := ⟨k / 2, by omega⟩
  rw [show (2 * j + 1) / 2 = j by omega, ← h, Nat.pow_succ, Nat.pow_mul, Nat.pow_two, Nat.mul_assoc, Nat.mul_comm ((a * a) ^ j) a]
theorem npow_even {a o k p : Nat} (hm : k % 2 = 0) (h : o * a ^ k = p) : o * (a * a) ^ (k / 2) = p := by
  obtain ⟨j, rfl⟩ : ∃ j, k = 2 * j := ⟨k / 2, by omega⟩
  rw [show (2 * j) / 2 = j by omega, ← h, Nat.pow_mul, Nat.pow_two]
theorem npow_bits {a o k B : Nat} (h : bl o + bl a * k ≤ B) (hk : k ≠ 0) : bl a + bl o ≤ B ∧ bl (o * a) + bl (a * a) * (k / 2) ≤ B + (bl a - bl a * (k % 2)) ∧ bl o + bl (a * a) * (k / 2) ≤ B := by
  have h1 := bl_mul o a
  have h2 := bl_mul a a
  have h3 : bl (a * a) * (k / 2) ≤ (bl a + bl a) * (k / 2) := Nat.mul_le_mul_right _ h2
  have h4 : bl a * k = bl a * (2 * (k / 2)) + bl a * (k % 2) := by rw [← Nat.mul_add]; congr 1; omega
  have h5 : (bl a + bl a) * (k / 2) = bl a * (2 * (k / 2)) := by rw [← Nat.two_mul, Nat.mul_comm 2, Nat.mul_assoc]
  have h6 : bl a ≤ bl a * k := Nat.le_mul_of_pos_right _ (by omega)
  rcases (show k % 2 = 0 ∨ k % 2 = 1 by omega) with e | e <;> rw [e] at h4 ⊢ <;> omega
theorem NPow_spec {h0 h : PH} [Le h0 h] {v : Value} {m n : Nat} (hv : N32 h0 v m) (hn : n ≤ 2 ^ 20) (bm : bl m * n ≤ 2 ^ 36) : Spec mach 137 #[v, .int .i64 n] h (fun v h' => N32 h' v (m ^ n)) NP := by
  refine Spec.enter (args := [_, _]) (n := 23) Tryz.func137 rfl (by kernel_rfl) rfl (by simp) [.tmp 4] rfl (fun C _ => ?_)
  repeat (first | (refine wo rfl (fun k hk => ?_); simp (disch := omega) only [go_sem, Nat.reduceBEq, Nat.reduceAdd]; apply hk; clear hk k) | refine wkt rfl ?_ | refine wk0 ?_ | refine rg rfl rfl (fun K hK => ?_) | ((first | refine AWP_exit ?_ | refine AWP_skip ?_); simp (disch := decide) only [qs, qb, if_true, if_false, reduceIte]) | refine AWP_sq rfl (fun K hK => ?_) | refine ct rfl ?_ | ((try simp (disch := omega) only [go_sem, Nat.reduceBEq, Nat.reduceAdd]); (first | apply hK | (clear hK; apply hK) | (clear hK; clear hK; apply hK)); clear hK; (try clear K); (try dsimp only [behind, qs, qb])))
  refine cN rfl rfl rfl rfl (by exact Small_spec (n := 1) (by decide)) ?_; rintro o1 h1 s1 ho1
  repeat (first | (refine wo rfl (fun k hk => ?_); simp (disch := omega) only [go_sem, Nat.reduceBEq, Nat.reduceAdd]; apply hk; clear hk k) | refine wkt rfl ?_ | refine wk0 ?_ | refine rg rfl rfl (fun K hK => ?_) | ((first | refine AWP_exit ?_ | refine AWP_skip ?_); simp (disch := decide) only [qs, qb, if_true, if_false, reduceIte]) | refine AWP_sq rfl (fun K hK => ?_) | refine ct rfl ?_ | ((try simp (disch := omega) only [go_sem, Nat.reduceBEq, Nat.reduceAdd]); (first | apply hK | (clear hK; apply hK) | (clear hK; clear hK; apply hK)); clear hK; (try clear K); (try dsimp only [behind, qs, qb])))
  refine AWP_loop (fun x : Value × Value × Nat × Nat × Nat => ⟨[(0, .v x.1), (1, .v (.int .i64 (x.2.2.2.2 : Nat))), (5, .v x.2.1)], []⟩)
    (fun x h' => N32 h' x.1 x.2.2.1 ∧ N32 h' x.2.1 x.2.2.2.1 ∧ x.2.2.2.2 ≤ 2 ^ 20 ∧ bl x.2.2.2.1 + bl x.2.2.1 * x.2.2.2.2 ≤ 1 + bl m * n ∧ x.2.2.2.1 * x.2.2.1 ^ x.2.2.2.2 = m ^ n)
    (fun x => x.2.2.2.2) (v, o1, m, 1, n) ?_ ⟨hv.to, ho1, hn, by rw [bl_one]; exact Nat.le_refl _, by rw [Nat.one_mul]⟩ ?_
  · simp (disch := omega) only [go_sem, Nat.reduceBEq, Nat.reduceAdd]
  · rintro ⟨va, vo, a, o, k⟩ h2 ⟨ha, ho, hk, hb, he⟩
    dsimp only at ha ho hk hb he ⊢
    by_cases hk0 : k = 0
    · repeat (first | (refine wo rfl (fun k hk => ?_); simp (disch := omega) only [go_sem, Nat.reduceBEq, Nat.reduceAdd]; apply hk; clear hk k) | refine wkt rfl ?_ | refine wk0 ?_ | refine rg rfl rfl (fun K hK => ?_) | ((first | refine AWP_exit ?_ | refine AWP_skip ?_); simp (disch := decide) only [qs, qb, if_true, if_false, reduceIte]) | refine AWP_sq rfl (fun K hK => ?_) | refine ct rfl ?_ | ((try simp (disch := omega) only [go_sem, Nat.reduceBEq, Nat.reduceAdd]); (first | apply hK | (clear hK; apply hK) | (clear hK; clear hK; apply hK)); clear hK; (try clear K); (try dsimp only [behind, qs, qb])))
      refine AWP_ret ?_; simp (disch := omega) only [go_sem, Nat.reduceBEq, Nat.reduceAdd]
      rw [hk0, Nat.pow_zero, Nat.mul_one] at he
      rwa [← he]
    · obtain ⟨b1, b2, b3⟩ := npow_bits hb hk0
      have hk2 : k / 2 ≤ 2 ^ 20 := by omega
      have hlt : k / 2 < k := by omega
      by_cases hm : k % 2 = 1
      · by_cases hk1 : k = 1
        · subst hk1
          repeat (first | (refine wo rfl (fun k hk => ?_); simp (disch := omega) only [go_sem, Nat.reduceBEq, Nat.reduceAdd, and_one]; apply hk; clear hk k) | refine wkt rfl ?_ | refine wk0 ?_ | refine rg rfl rfl (fun K hK => ?_) | ((first | refine AWP_exit ?_ | refine AWP_skip ?_); simp (disch := decide) only [qs, qb, if_true, if_false, reduceIte]) | refine AWP_sq rfl (fun K hK => ?_) | refine ct rfl ?_ | ((try simp (disch := omega) only [go_sem, Nat.reduceBEq, Nat.reduceAdd]); (first | apply hK | (clear hK; apply hK) | (clear hK; clear hK; apply hK)); clear hK; (try clear K); (try dsimp only [behind, qs, qb])))
          refine cN rfl rfl rfl rfl (by exact Mul_spec ho ha (by omega) (by omega)) ?_; rintro v3 h3 s3 q3
          repeat (first | (refine wo rfl (fun k hk => ?_); simp (disch := omega) only [go_sem, Nat.reduceBEq, Nat.reduceAdd, and_one, shr_one]; apply hk; clear hk k) | refine wkt rfl ?_ | refine wk0 ?_ | refine rg rfl rfl (fun K hK => ?_) | ((first | refine AWP_exit ?_ | refine AWP_skip ?_); simp (disch := decide) only [qs, qb, if_true, if_false, reduceIte]) | refine AWP_sq rfl (fun K hK => ?_) | refine ct rfl ?_ | ((try simp (disch := omega) only [go_sem, Nat.reduceBEq, Nat.reduceAdd]); (first | apply hK | (clear hK; apply hK) | (clear hK; clear hK; apply hK)); clear hK; (try clear K); (try dsimp only [behind, qs, qb])))
          refine ⟨(va, v3, a, o * a, 0), ?_, ⟨ha.to, q3, by omega, ?_, ?_⟩, (show 0 < 1 by decide)⟩
          · simp (disch := omega) only [go_sem, Nat.reduceBEq, Nat.reduceAdd]
            rfl
          · show bl (o * a) + bl a * 0 ≤ 1 + bl m * n
            rw [Nat.mul_zero]
            have := bl_mul o a
            omega
          · show o * a * a ^ 0 = m ^ n
            rw [Nat.pow_zero, Nat.mul_one]; rw [Nat.pow_one] at he; exact he
        · have h1k : 1 < k := by omega
          repeat (first | (refine wo rfl (fun k hk => ?_); simp (disch := omega) only [go_sem, Nat.reduceBEq, Nat.reduceAdd, and_one, hm]; apply hk; clear hk k) | refine wkt rfl ?_ | refine wk0 ?_ | refine rg rfl rfl (fun K hK => ?_) | ((first | refine AWP_exit ?_ | refine AWP_skip ?_); simp (disch := decide) only [qs, qb, if_true, if_false, reduceIte]) | refine AWP_sq rfl (fun K hK => ?_) | refine ct rfl ?_ | ((try simp (disch := omega) only [go_sem, Nat.reduceBEq, Nat.reduceAdd]); (first | apply hK | (clear hK; apply hK) | (clear hK; clear hK; apply hK)); clear hK; (try clear K); (try dsimp only [behind, qs, qb])))
          refine cN rfl rfl rfl rfl (by exact Mul_spec ho ha (by omega) (by omega)) ?_; rintro v3 h3 s3 q3
          repeat (first | (refine wo rfl (fun k hk => ?_); simp (disch := omega) only [go_sem, Nat.reduceBEq, Nat.reduceAdd]; apply hk; clear hk k) | refine wkt rfl ?_ | refine wk0 ?_ | refine rg rfl rfl (fun K hK => ?_) | ((first | refine AWP_exit ?_ | refine AWP_skip ?_); simp (disch := decide) only [qs, qb, if_true, if_false, reduceIte]) | refine AWP_sq rfl (fun K hK => ?_) | refine ct rfl ?_ | ((try simp (disch := omega) only [go_sem, Nat.reduceBEq, Nat.reduceAdd]); (first | apply hK | (clear hK; apply hK) | (clear hK; clear hK; apply hK)); clear hK; (try clear K); (try dsimp only [behind, qs, qb])))
          refine cN rfl rfl rfl rfl (by exact Mul_spec (ha.to (h' := h3)) (ha.to (h' := h3)) (by omega) (by omega)) ?_; rintro v4 h4 s4 q4
          repeat (first | (refine wo rfl (fun k hk => ?_); simp (disch := omega) only [go_sem, Nat.reduceBEq, Nat.reduceAdd, shr_one]; apply hk; clear hk k) | refine wkt rfl ?_ | refine wk0 ?_ | refine rg rfl rfl (fun K hK => ?_) | ((first | refine AWP_exit ?_ | refine AWP_skip ?_); simp (disch := decide) only [qs, qb, if_true, if_false, reduceIte]) | refine AWP_sq rfl (fun K hK => ?_) | refine ct rfl ?_ | ((try simp (disch := omega) only [go_sem, Nat.reduceBEq, Nat.reduceAdd]); (first | apply hK | (clear hK; apply hK) | (clear hK; clear hK; apply hK)); clear hK; (try clear K); (try dsimp only [behind, qs, qb])))
          refine ⟨(v4, v3, a * a, o * a, k / 2), ?_, ⟨q4, q3.to, hk2, ?_, npow_odd hm he⟩, hlt⟩
          · simp (disch := omega) only [go_sem, Nat.reduceBEq, Nat.reduceAdd]
          · show bl (o * a) + bl (a * a) * (k / 2) ≤ 1 + bl m * n
            rw [hm, Nat.mul_one] at b2; omega
      · have hm : k % 2 = 0 := by omega
        have h1k : 1 < k := by omega
        repeat (first | (refine wo rfl (fun k hk => ?_); simp (disch := omega) only [go_sem, Nat.reduceBEq, Nat.reduceAdd, and_one, hm]; apply hk; clear hk k) | refine wkt rfl ?_ | refine wk0 ?_ | refine rg rfl rfl (fun K hK => ?_) | ((first | refine AWP_exit ?_ | refine AWP_skip ?_); simp (disch := decide) only [qs, qb, if_true, if_false, reduceIte]) | refine AWP_sq rfl (fun K hK => ?_) | refine ct rfl ?_ | ((try simp (disch := omega) only [go_sem, Nat.reduceBEq, Nat.reduceAdd]); (first | apply hK | (clear hK; apply hK) | (clear hK; clear hK; apply hK)); clear hK; (try clear K); (try dsimp only [behind, qs, qb])))
        refine cN rfl rfl rfl rfl (by exact Mul_spec ha ha (by omega) (by omega)) ?_; rintro v4 h4 s4 q4
        repeat (first | (refine wo rfl (fun k hk => ?_); simp (disch := omega) only [go_sem, Nat.reduceBEq, Nat.reduceAdd, shr_one]; apply hk; clear hk k) | refine wkt rfl ?_ | refine wk0 ?_ | refine rg rfl rfl (fun K hK => ?_) | ((first | refine AWP_exit ?_ | refine AWP_skip ?_); simp (disch := decide) only [qs, qb, if_true, if_false, reduceIte]) | refine AWP_sq rfl (fun K hK => ?_) | refine ct rfl ?_ | ((try simp (disch := omega) only [go_sem, Nat.reduceBEq, Nat.reduceAdd]); (first | apply hK | (clear hK; apply hK) | (clear hK; clear hK; apply hK)); clear hK; (try clear K); (try dsimp only [behind, qs, qb])))
        refine ⟨(v4, vo, a * a, o, k / 2), ?_, ⟨q4, ho.to, hk2, b3, npow_even hm he⟩, hlt⟩
        simp (disch := omega) only [go_sem, Nat.reduceBEq, Nat.reduceAdd]
end Go.Q
