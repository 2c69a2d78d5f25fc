/-
  Rational numbers of package word: what a value denotes, and the contract of Reduce. Conditions: the slices hold words (N32), of at most 2^39 bits.
  Rational numbers of package word: plain facts on sizes, sums, products, grids. Conditions: none beyond each lemma's own.
  Contracts of package word: the operations on rational numbers. Conditions: the values are rational numbers (Fr), of at most 2^36 binary digits.
  Contracts of package word: grids, integers, reading and giving of numbers. Conditions: the values are rational numbers (Fr), of at most 2^36 binary digits.
  Contracts of package word: integers, copies, reading and giving of numbers. Conditions: the slices hold words (Arr, N32).
  Contract of package word: reading of numbers. Conditions: the slices hold words (Rw), of at most 2^39 binary digits.
  Contracts of the reference's natural numbers: digits of 16 bits, trimming, small numbers, the order. Conditions: the slices hold digits (Arr, N16).
-/
import Derived.Test.YtigakdgaimfnhaaGreatDoorKc7d040PkF
import Derived.Test.YtigakdgaimfnhaaGreatDoorK9d1a7bPkG
import Derived.Test.YtigakdgaimfnhaaGreatDoorK6404baPkD
set_option linter.unusedVariables false
set_option linter.unusedSimpArgs false
namespace Go.Q
open Go.Proofs
set_option maxRecDepth 100000
def sgn (neg : Bool) (n d : Nat) : Rat := mkRat (if neg then -(n : Int) else n) d
theorem sgn_zero (neg : Bool) (d : Nat) : sgn neg 0 d = 0 := by cases neg <;> simp [sgn]
theorem sgn_eq {neg : Bool} {n d n' d' : Nat} (hd : d ≠ 0) (hd' : d' ≠ 0) (h : n * d' = n' * d) : sgn neg n d = sgn neg n' d' := by
  unfold sgn
  rw [Rat.mkRat_eq_iff hd hd']
  have : (n : Int) * d' = n' * d := by exact_mod_cast h
  cases neg <;> simp [this, Int.neg_mul]
theorem sgn_num {neg : Bool} {n d : Nat} (hd : d ≠ 0) (hc : Nat.gcd n d = 1) : (sgn neg n d).num = (if neg then -(n : Int) else n) ∧ (sgn neg n d).den = d := by
  unfold sgn
  have hc' : (if neg then -(n : Int) else (n : Int)).natAbs.Coprime d := by cases neg <;> simpa using hc
  rw [← Rat.mk_eq_mkRat _ _ hd hc']
  exact ⟨rfl, rfl⟩
theorem N32.sl {h : PH} {v : Value} {n : Nat} (r : N32 h v n) : ∃ a l c, v = .slice a l c ∧ N32 h (.slice a l c) n := by
  obtain ⟨a, c, h1, h2⟩ := r; exact ⟨a, _, c, h1, a, c, rfl, h2⟩
def Fr (h : PH) (v : Value) (x : Rat) : Prop := ∃ sn sd, v = .agg #[.bool (decide (x.num < 0)), sn, sd] ∧ N32 h sn x.num.natAbs ∧ N32 h sd x.den
theorem Fr.to {h h' : PH} {v : Value} {x : Rat} (r : Fr h v x) [Le h h'] : Fr h' v x := let ⟨a, b, h1, h2, h3⟩ := r; ⟨a, b, h1, h2.to, h3.to⟩
theorem Fr.of {h : PH} {neg : Bool} {n d : Nat} {sn sd : Value} {x : Rat} (hn : N32 h sn n) (hd : N32 h sd d) (h0 : n ≠ 0) (hd0 : d ≠ 0) (hc : Nat.gcd n d = 1) (hx : x = sgn neg n d) : Fr h (.agg #[.bool neg, sn, sd]) x := by
  obtain ⟨h1, h2⟩ := sgn_num (neg := neg) hd0 hc
  rw [← hx] at h1 h2
  refine ⟨sn, sd, ?_, ?_, by rw [h2]; exact hd⟩
  · have : decide (x.num < 0) = neg := by rw [h1]; cases neg <;> simp <;> omega
    rw [this]
  · have : x.num.natAbs = n := by rw [h1]; cases neg <;> simp
    rw [this]; exact hn
theorem Fr.zero {h : PH} {sd : Value} (hd : N32 h sd 1) : Fr h (.agg #[.bool false, .slice none 0 0, sd]) 0 := ⟨.slice none 0 0, sd, by simp, by simpa using N32.zero h, hd⟩
theorem tw_dvd (n : Nat) : 2 ^ tw n ∣ n := by
  by_cases h : n = 0
  · subst h; exact Nat.dvd_zero _
  · obtain ⟨m, hm⟩ := tw_spec n h; exact ⟨_, hm⟩
theorem tw_lt_bl {n : Nat} (h : n ≠ 0) : tw n < bl n := by
  rcases Nat.lt_or_ge (tw n) (bl n) with h' | h'
  · exact h'
  · have h1 := bl_le.1 h'
    have := Nat.le_of_dvd (by omega) (tw_dvd n)
    omega
theorem tw_odd {n k : Nat} (h : n ≠ 0) (hk : tw n = k) : n / 2 ^ k % 2 = 1 := by
  obtain ⟨m, hm⟩ := tw_spec n h
  rw [hk] at hm
  have : n / 2 ^ k = 2 * m + 1 := by rw [hm]; exact Nat.mul_div_cancel_left _ (Nat.pow_pos (by decide))
  omega
theorem red_two {n d k : Nat} (hn : n ≠ 0) (hd : d ≠ 0) (hk : k = min (tw n) (tw d)) : n / 2 ^ k ≠ 0 ∧ d / 2 ^ k ≠ 0 ∧ n * (d / 2 ^ k) = n / 2 ^ k * d ∧ (n / 2 ^ k % 2 = 1 ∨ d / 2 ^ k % 2 = 1) := by
  have h1 : 2 ^ k ∣ n := Nat.dvd_trans (Nat.pow_dvd_pow 2 (by omega)) (tw_dvd n)
  have h2 : 2 ^ k ∣ d := Nat.dvd_trans (Nat.pow_dvd_pow 2 (by omega)) (tw_dvd d)
  have hp : 0 < 2 ^ k := Nat.pow_pos (by decide)
  obtain ⟨a, ha⟩ := h1
  obtain ⟨b, hb⟩ := h2
  have ea : n / 2 ^ k = a := by rw [ha]; exact Nat.mul_div_cancel_left _ hp
  have eb : d / 2 ^ k = b := by rw [hb]; exact Nat.mul_div_cancel_left _ hp
  refine ⟨?_, ?_, ?_, ?_⟩
  · rw [ea]; rintro rfl; omega
  · rw [eb]; rintro rfl; omega
  · rw [ea, eb]; conv => lhs; rw [ha]
    conv => rhs; rw [hb]
    rw [Nat.mul_assoc, Nat.mul_left_comm]
  · rcases Nat.le_total (tw n) (tw d) with h | h
    · exact .inl (tw_odd hn (by omega))
    · exact .inr (tw_odd hd (by omega))
theorem red_pow {n d : Nat} (hd : d ≠ 0) (ho : n % 2 = 1 ∨ d % 2 = 1) (ht : tw d + 1 = bl d) : Nat.gcd n d = 1 := by
  obtain ⟨m, hm⟩ := tw_spec d hd
  have h1 := bl_le.1 (Nat.le_refl (bl d))
  rw [← ht, Nat.pow_succ] at h1
  have hm0 : m = 0 := by
    rcases Nat.eq_zero_or_pos m with h | h
    · exact h
    · have : 2 ^ tw d * 3 ≤ 2 ^ tw d * (2 * m + 1) := Nat.mul_le_mul_left _ (by omega)
      have hp : 0 < 2 ^ tw d := Nat.pow_pos (by decide)
      omega
  subst hm0
  simp only [Nat.mul_zero, Nat.zero_add, Nat.mul_one] at hm
  rcases Nat.eq_zero_or_pos (tw d) with h | h
  · rw [h] at hm; rw [hm]; simp
  · have hdv : d % 2 = 0 := by rw [hm, show tw d = (tw d - 1) + 1 by omega, Nat.pow_succ]; omega
    have hn : n % 2 = 1 := by omega
    rw [hm]
    refine Nat.Coprime.pow_right _ ?_
    rw [Nat.Coprime, Nat.gcd_comm, Nat.gcd_rec, hn]; rfl
theorem red_gcd {n d : Nat} (hn : n ≠ 0) (hd : d ≠ 0) : n / Nat.gcd n d ≠ 0 ∧ d / Nat.gcd n d ≠ 0 ∧ n * (d / Nat.gcd n d) = n / Nat.gcd n d * d ∧ Nat.gcd (n / Nat.gcd n d) (d / Nat.gcd n d) = 1 := by
  have hg : 0 < Nat.gcd n d := Nat.gcd_pos_of_pos_left _ (by omega)
  obtain ⟨a, ha⟩ := Nat.gcd_dvd_left n d
  obtain ⟨b, hb⟩ := Nat.gcd_dvd_right n d
  refine ⟨?_, ?_, ?_, Nat.gcd_div_gcd_div_gcd_of_pos_left (by omega)⟩
  · have := Nat.div_pos (Nat.gcd_le_left d (by omega : 0 < n)) hg; omega
  · have := Nat.div_pos (Nat.gcd_le_right n (by omega : 0 < d)) hg; omega
  · have ea : n / Nat.gcd n d = a := by conv => lhs; lhs; rw [ha]
                                        exact Nat.mul_div_cancel_left _ hg
    have eb : d / Nat.gcd n d = b := by conv => lhs; lhs; rw [hb]
                                        exact Nat.mul_div_cancel_left _ hg
    rw [ea, eb]; conv => lhs; lhs; rw [ha]
    conv => rhs; rhs; rw [hb]
    rw [Nat.mul_assoc, Nat.mul_left_comm]
theorem Reduce_spec {h0 h : PH} [Le h0 h] {neg : Bool} {v w : Value} {n d : Nat} (hv : N32 h0 v n) (hw : N32 h0 w d) (hd : d ≠ 0) (bn : bl n ≤ 2 ^ 39) (bd : bl d ≤ 2 ^ 39) :
    Spec mach 134 #[.bool neg, v, w] h (fun v h' => Fr h' v (sgn neg n d)) NP := by
  obtain ⟨va, vl, vc, rfl, hv⟩ := hv.sl
  obtain ⟨wa, wl, wc, rfl, hw⟩ := hw.sl
  refine Spec.enter (args := [_, _, _]) (n := 54) Tryz.func134 rfl (by kernel_rfl) rfl (by simp) [.cell 6 117] rfl (fun C _ => ?_)
  by_cases hn : n = 0
  · subst hn
    rw [sgn_zero]
    repeat (first | (refine wo rfl (fun k hk => ?_); simp (disch := omega) only [go_sem, Nat.reduceBEq, Nat.reduceAdd]; apply hk; clear hk k) | refine wkt rfl ?_ | refine wk0 ?_ | refine rg rfl rfl (fun K hK => ?_) | ((first | refine AWP_exit ?_ | refine AWP_skip ?_); simp (disch := decide) only [qs, qb, if_true, if_false, reduceIte]) | refine AWP_sq rfl (fun K hK => ?_) | refine ct rfl ?_ | ((try simp (disch := omega) only [go_sem, Nat.reduceBEq, Nat.reduceAdd]); (first | apply hK | (clear hK; apply hK) | (clear hK; clear hK; apply hK)); clear hK; (try clear K); (try dsimp only [behind, qs, qb])))
    refine cN rfl rfl rfl rfl (by exact Zero_spec hv) ?_; rintro v1 h1 s1 hz; obtain rfl : v1 = .bool true := hz
    repeat (first | (refine wo rfl (fun k hk => ?_); simp (disch := omega) only [go_sem, Nat.reduceBEq, Nat.reduceAdd]; apply hk; clear hk k) | refine wkt rfl ?_ | refine wk0 ?_ | refine rg rfl rfl (fun K hK => ?_) | ((first | refine AWP_exit ?_ | refine AWP_skip ?_); simp (disch := decide) only [qs, qb, if_true, if_false, reduceIte]) | refine AWP_sq rfl (fun K hK => ?_) | refine ct rfl ?_ | ((try simp (disch := omega) only [go_sem, Nat.reduceBEq, Nat.reduceAdd]); (first | apply hK | (clear hK; apply hK) | (clear hK; clear hK; apply hK)); clear hK; (try clear K); (try dsimp only [behind, qs, qb])))
    refine cN rfl rfl rfl rfl (by exact Small_spec (n := 1) (by decide)) ?_; rintro v2 h2 _ h2'; obtain ⟨v2, v2_l, v2_c, rfl, h2'⟩ := h2'.sl; (repeat (first | (refine wo rfl (fun k hk => ?_); simp (disch := omega) only [go_sem, Nat.reduceBEq, Nat.reduceAdd]; apply hk; clear hk k) | refine wkt rfl ?_)); (try refine wk0 ?_)
    (try (simp (disch := omega) only [go_sem, Nat.reduceBEq, Nat.reduceAdd])); apply hK; clear hK; (try clear K); (try dsimp only [behind, qs])
    refine AWP_ret ?_; simp (disch := omega) only [go_sem, Nat.reduceBEq, Nat.reduceAdd]
    exact Fr.zero h2'
  · obtain ⟨e, he⟩ : ∃ e, min (tw n) (tw d) = e := ⟨_, rfl⟩
    obtain ⟨n1, hn1⟩ : ∃ x, n / 2 ^ e = x := ⟨_, rfl⟩
    obtain ⟨d1, hd1⟩ : ∃ x, d / 2 ^ e = x := ⟨_, rfl⟩
    have hr := red_two hn hd he.symm
    rw [hn1, hd1] at hr
    obtain ⟨hn1', hd1', hnd, hodd⟩ := hr
    have hk1 := tw_lt_bl hn
    have hk2 := tw_lt_bl hd
    have hk3 := tw_lt_bl hd1'
    have hmin : (if ((tw d : Nat) : Int) < ((tw n : Nat) : Int) then ((tw d : Nat) : Int) else ((tw n : Nat) : Int)) = (e : Nat) := by split <;> omega
    have b1 : bl n1 ≤ 2 ^ 39 := Nat.le_trans (bl_mono (by rw [← hn1]; exact Nat.div_le_self _ _)) bn
    have b2 : bl d1 ≤ 2 ^ 39 := Nat.le_trans (bl_mono (by rw [← hd1]; exact Nat.div_le_self _ _)) bd
    have hsg := sgn_eq (neg := neg) hd hd1' hnd
    repeat (first | (refine wo rfl (fun k hk => ?_); simp (disch := omega) only [go_sem, Nat.reduceBEq, Nat.reduceAdd]; apply hk; clear hk k) | refine wkt rfl ?_ | refine wk0 ?_ | refine rg rfl rfl (fun K hK => ?_) | ((first | refine AWP_exit ?_ | refine AWP_skip ?_); simp (disch := decide) only [qs, qb, if_true, if_false, reduceIte]) | refine AWP_sq rfl (fun K hK => ?_) | refine ct rfl ?_ | ((try simp (disch := omega) only [go_sem, Nat.reduceBEq, Nat.reduceAdd]); (first | apply hK | (clear hK; apply hK) | (clear hK; clear hK; apply hK)); clear hK; (try clear K); (try dsimp only [behind, qs, qb])))
    refine cN rfl rfl rfl rfl (by exact Zero_spec hv) ?_; rintro v1 h1 s1 rfl
    repeat (first | (refine wo rfl (fun k hk => ?_); simp (disch := omega) only [go_sem, Nat.reduceBEq, Nat.reduceAdd]; apply hk; clear hk k) | refine wkt rfl ?_ | refine wk0 ?_ | refine rg rfl rfl (fun K hK => ?_) | ((first | refine AWP_exit ?_ | refine AWP_skip ?_); simp (disch := decide) only [qs, qb, if_true, if_false, reduceIte]) | refine AWP_sq rfl (fun K hK => ?_) | refine ct rfl ?_ | ((try simp (disch := omega) only [go_sem, Nat.reduceBEq, Nat.reduceAdd]); (first | apply hK | (clear hK; apply hK) | (clear hK; clear hK; apply hK)); clear hK; (try clear K); (try dsimp only [behind, qs, qb])))
    refine cN rfl rfl rfl rfl (by exact Twos_spec hv) ?_; rintro v2 h2 s2 rfl; (repeat (first | (refine wo rfl (fun k hk => ?_); simp (disch := omega) only [go_sem, Nat.reduceBEq, Nat.reduceAdd]; apply hk; clear hk k) | refine wkt rfl ?_)); (try refine wk0 ?_)
    refine cN rfl rfl rfl rfl (by exact Twos_spec hw) ?_; rintro v3 h3 s3 rfl; (repeat (first | (refine wo rfl (fun k hk => ?_); simp (disch := omega) only [go_sem, Nat.reduceBEq, Nat.reduceAdd]; apply hk; clear hk k) | refine wkt rfl ?_)); (try refine wk0 ?_)
    simp only [hmin]
    (try (simp (disch := omega) only [go_sem, Nat.reduceBEq, Nat.reduceAdd])); apply hK; clear hK; (try clear K); (try dsimp only [behind, qs])
    have rest : ∀ (v w : Value) (S : AS) (h : PH), N32 h v n1 → N32 h w d1 → S.le ⟨[(0, .v (.bool neg)), (1, .v v), (2, .v w), (6, .p 0 0)], [[.bool false, .slice none 0 0, .slice none 0 0]]⟩ → K S h := by
      clear hv hw
      intro v w S h hv hw hS
      refine hK _ _ (AWP_le _ hS ?_); clear hK K
      obtain ⟨va, vl, vc, rfl, hv⟩ := hv.sl
      obtain ⟨wa, wl, wc, rfl, hw⟩ := hw.sl
      refine AWP_sqs (fun K hK => ?_)
      refine rg rfl rfl (fun K hK => ?_); (repeat (first | (refine wo rfl (fun k hk => ?_); simp (disch := omega) only [go_sem, Nat.reduceBEq, Nat.reduceAdd]; apply hk; clear hk k) | refine wkt rfl ?_)); (try refine wk0 ?_)
      refine cN rfl rfl rfl rfl (by exact Twos_spec hw) ?_; rintro v2 h2 s2 rfl; (repeat (first | (refine wo rfl (fun k hk => ?_); simp (disch := omega) only [go_sem, Nat.reduceBEq, Nat.reduceAdd]; apply hk; clear hk k) | refine wkt rfl ?_)); (try refine wk0 ?_)
      refine cN rfl rfl rfl rfl (by exact Bits_spec hw) ?_; rintro v3 h3 s3 rfl; (repeat (first | (refine wo rfl (fun k hk => ?_); simp (disch := omega) only [go_sem, Nat.reduceBEq, Nat.reduceAdd]; apply hk; clear hk k) | refine wkt rfl ?_)); (try refine wk0 ?_)
      by_cases hp : tw d1 + 1 = bl d1
      · repeat (first | (refine wo rfl (fun k hk => ?_); simp (disch := omega) only [go_sem, Nat.reduceBEq, Nat.reduceAdd]; apply hk; clear hk k) | refine wkt rfl ?_ | refine wk0 ?_ | refine rg rfl rfl (fun K hK => ?_) | ((first | refine AWP_exit ?_ | refine AWP_skip ?_); simp (disch := decide) only [qs, qb, if_true, if_false, reduceIte]) | refine AWP_sq rfl (fun K hK => ?_) | refine ct rfl ?_ | ((try simp (disch := omega) only [go_sem, Nat.reduceBEq, Nat.reduceAdd]); (first | apply hK | (clear hK; apply hK) | (clear hK; clear hK; apply hK)); clear hK; (try clear K); (try dsimp only [behind, qs, qb])))
        refine AWP_ret ?_; simp (disch := omega) only [go_sem, Nat.reduceBEq, Nat.reduceAdd]
        exact Fr.of hv.to hw.to hn1' hd1' (red_pow hd1' hodd hp) hsg
      · have hg := red_gcd hn1' hd1'
        obtain ⟨hg1, hg2, hg3, hg4⟩ := hg
        have hg0 : 0 < Nat.gcd n1 d1 := Nat.gcd_pos_of_pos_left _ (by omega)
        have b3 : bl (Nat.gcd n1 d1) ≤ 2 ^ 39 := Nat.le_trans (bl_mono (Nat.gcd_le_left d1 (by omega))) b1
        have hsg2 := sgn_eq (neg := neg) hd1' hg2 hg3
        repeat (first | (refine wo rfl (fun k hk => ?_); simp (disch := omega) only [go_sem, Nat.reduceBEq, Nat.reduceAdd]; apply hk; clear hk k) | refine wkt rfl ?_ | refine wk0 ?_ | refine rg rfl rfl (fun K hK => ?_) | ((first | refine AWP_exit ?_ | refine AWP_skip ?_); simp (disch := decide) only [qs, qb, if_true, if_false, reduceIte]) | refine AWP_sq rfl (fun K hK => ?_) | refine ct rfl ?_ | ((try simp (disch := omega) only [go_sem, Nat.reduceBEq, Nat.reduceAdd]); (first | apply hK | (clear hK; apply hK) | (clear hK; clear hK; apply hK)); clear hK; (try clear K); (try dsimp only [behind, qs, qb])))
        refine cN rfl rfl rfl rfl (by exact GCD_spec hv hw b1 b2) ?_; rintro v4 h4 _ hg'; obtain ⟨v4, v4_l, v4_c, rfl, hg'⟩ := hg'.sl; (repeat (first | (refine wo rfl (fun k hk => ?_); simp (disch := omega) only [go_sem, Nat.reduceBEq, Nat.reduceAdd]; apply hk; clear hk k) | refine wkt rfl ?_)); (try refine wk0 ?_)
        (try (simp (disch := omega) only [go_sem, Nat.reduceBEq, Nat.reduceAdd])); apply hK; clear hK; (try clear K); (try dsimp only [behind, qs])
        refine rg rfl rfl (fun K hK => ?_); (repeat (first | (refine wo rfl (fun k hk => ?_); simp (disch := omega) only [go_sem, Nat.reduceBEq, Nat.reduceAdd]; apply hk; clear hk k) | refine wkt rfl ?_)); (try refine wk0 ?_)
        refine cN rfl rfl rfl rfl (by exact One_spec hg') ?_; rintro v5 h5 s5 rfl; (repeat (first | (refine wo rfl (fun k hk => ?_); simp (disch := omega) only [go_sem, Nat.reduceBEq, Nat.reduceAdd]; apply hk; clear hk k) | refine wkt rfl ?_)); (try refine wk0 ?_)
        by_cases h1 : Nat.gcd n1 d1 = 1
        · repeat (first | (refine wo rfl (fun k hk => ?_); simp (disch := omega) only [go_sem, Nat.reduceBEq, Nat.reduceAdd]; apply hk; clear hk k) | refine wkt rfl ?_ | refine wk0 ?_ | refine rg rfl rfl (fun K hK => ?_) | ((first | refine AWP_exit ?_ | refine AWP_skip ?_); simp (disch := decide) only [qs, qb, if_true, if_false, reduceIte]) | refine AWP_sq rfl (fun K hK => ?_) | refine ct rfl ?_ | ((try simp (disch := omega) only [go_sem, Nat.reduceBEq, Nat.reduceAdd]); (first | apply hK | (clear hK; apply hK) | (clear hK; clear hK; apply hK)); clear hK; (try clear K); (try dsimp only [behind, qs, qb])))
          refine AWP_ret ?_; simp (disch := omega) only [go_sem, Nat.reduceBEq, Nat.reduceAdd]
          exact Fr.of hv.to hw.to hn1' hd1' h1 hsg
        · repeat (first | (refine wo rfl (fun k hk => ?_); simp (disch := omega) only [go_sem, Nat.reduceBEq, Nat.reduceAdd]; apply hk; clear hk k) | refine wkt rfl ?_ | refine wk0 ?_ | refine rg rfl rfl (fun K hK => ?_) | ((first | refine AWP_exit ?_ | refine AWP_skip ?_); simp (disch := decide) only [qs, qb, if_true, if_false, reduceIte]) | refine AWP_sq rfl (fun K hK => ?_) | refine ct rfl ?_ | ((try simp (disch := omega) only [go_sem, Nat.reduceBEq, Nat.reduceAdd]); (first | apply hK | (clear hK; apply hK) | (clear hK; clear hK; apply hK)); clear hK; (try clear K); (try dsimp only [behind, qs, qb])))
          refine cN rfl rfl rfl rfl (by exact Div_spec (hv.to (h' := h4)) hg' (by omega) b1 b3) ?_; rintro v6 h6 s6 ⟨q1, r1, rfl, hq1, hr1⟩; (repeat (first | (refine wo rfl (fun k hk => ?_); simp (disch := omega) only [go_sem, Nat.reduceBEq, Nat.reduceAdd]; apply hk; clear hk k) | refine wkt rfl ?_)); (try refine wk0 ?_)
          obtain ⟨qa, ql, qc, rfl, hq1⟩ := hq1.sl
          (try (simp (disch := omega) only [go_sem, Nat.reduceBEq, Nat.reduceAdd])); apply hK; clear hK; (try clear K); (try dsimp only [behind, qs])
          refine rg rfl rfl (fun K hK => ?_); (repeat (first | (refine wo rfl (fun k hk => ?_); simp (disch := omega) only [go_sem, Nat.reduceBEq, Nat.reduceAdd]; apply hk; clear hk k) | refine wkt rfl ?_)); (try refine wk0 ?_)
          refine cN rfl rfl rfl rfl (by exact Div_spec (hw.to (h' := h4)) hg' (by omega) b2 b3) ?_; rintro v7 h7 s7 ⟨q2, r2, rfl, hq2, hr2⟩; (repeat (first | (refine wo rfl (fun k hk => ?_); simp (disch := omega) only [go_sem, Nat.reduceBEq, Nat.reduceAdd]; apply hk; clear hk k) | refine wkt rfl ?_)); (try refine wk0 ?_)
          obtain ⟨qa', ql', qc', rfl, hq2⟩ := hq2.sl
          repeat (first | (refine wo rfl (fun k hk => ?_); simp (disch := omega) only [go_sem, Nat.reduceBEq, Nat.reduceAdd]; apply hk; clear hk k) | refine wkt rfl ?_ | refine wk0 ?_ | refine rg rfl rfl (fun K hK => ?_) | ((first | refine AWP_exit ?_ | refine AWP_skip ?_); simp (disch := decide) only [qs, qb, if_true, if_false, reduceIte]) | refine AWP_sq rfl (fun K hK => ?_) | refine ct rfl ?_ | ((try simp (disch := omega) only [go_sem, Nat.reduceBEq, Nat.reduceAdd]); (first | apply hK | (clear hK; apply hK) | (clear hK; clear hK; apply hK)); clear hK; (try clear K); (try dsimp only [behind, qs, qb])))
          refine AWP_ret ?_; simp (disch := omega) only [go_sem, Nat.reduceBEq, Nat.reduceAdd]
          exact Fr.of hq1.to hq2.to hg1 hg2 hg4 (hsg.trans hsg2)
    repeat (first | (refine rg rfl rfl (fun K hK => ?_); (repeat (first | (refine wo rfl (fun k hk => ?_); simp (disch := omega) only [go_sem, Nat.reduceBEq, Nat.reduceAdd]; apply hk; clear hk k) | refine wkt rfl ?_)); (try refine wk0 ?_); apply hK; clear hK K; (try dsimp only [behind, qs, qb])) | ((first | refine AWP_exit ?_ | refine AWP_skip ?_); simp (disch := decide) only [qs, qb, if_true, if_false, reduceIte]) | refine AWP_sq rfl (fun K hK => ?_) | refine ct rfl ?_ | ((first | refine hK _ _ ?_ | (clear hK; refine hK _ _ ?_) | (clear hK; clear hK; refine hK _ _ ?_)); clear hK; (try clear K)))
    refine AWP_cond rfl (fun ht => ?_) (fun ht => ?_)
    · have := of_decide_eq_true ht
      refine rg rfl rfl (fun K hK => ?_); (repeat (first | (refine wo rfl (fun k hk => ?_); simp (disch := omega) only [go_sem, Nat.reduceBEq, Nat.reduceAdd]; apply hk; clear hk k) | refine wkt rfl ?_)); (try refine wk0 ?_)
      refine cN rfl rfl rfl rfl (by exact Shr_spec (n := e) hv (by omega) (by omega)) ?_; rintro v4 h4 _ hv4; obtain ⟨v4, v4_l, v4_c, rfl, hv4⟩ := hv4.sl; (repeat (first | (refine wo rfl (fun k hk => ?_); simp (disch := omega) only [go_sem, Nat.reduceBEq, Nat.reduceAdd]; apply hk; clear hk k) | refine wkt rfl ?_)); (try refine wk0 ?_)
      refine cN rfl rfl rfl rfl (by exact Shr_spec (n := e) hw (by omega) (by omega)) ?_; rintro v5 h5 _ hw5; obtain ⟨v5, v5_l, v5_c, rfl, hw5⟩ := hw5.sl; (repeat (first | (refine wo rfl (fun k hk => ?_); simp (disch := omega) only [go_sem, Nat.reduceBEq, Nat.reduceAdd]; apply hk; clear hk k) | refine wkt rfl ?_)); (try refine wk0 ?_)
      (try (simp (disch := omega) only [go_sem, Nat.reduceBEq, Nat.reduceAdd])); apply hK; clear hK; (try clear K); (try dsimp only [behind, qs])
      rw [hn1] at hv4
      rw [hd1] at hw5
      refine rest _ _ _ _ hv4.to hw5 ?_
      simp (disch := omega) only [go_sem, Nat.reduceBEq, Nat.reduceAdd]
    · have := of_decide_eq_false ht
      have h0 : e = 0 := by omega
      have e1 : n1 = n := by rw [← hn1, h0]; simp
      have e2 : d1 = d := by rw [← hd1, h0]; simp
      refine AWP_skip ?_; simp only [qs, qb, if_true, if_false, reduceIte]
      refine rest _ _ _ _ (by rw [e1]; exact hv.to) (by rw [e2]; exact hw.to) ?_
      simp (disch := omega) only [go_sem, Nat.reduceBEq, Nat.reduceAdd]
end Go.Q
namespace Go.Q
open Go.Proofs
set_option maxRecDepth 100000
theorem bl_mul (m n : Nat) : bl (m * n) ≤ bl m + bl n := by
  rw [bl_le, Nat.pow_add]
  rcases Nat.eq_zero_or_pos m with h | h
  · subst h; rw [Nat.zero_mul]; exact Nat.mul_pos (Nat.pow_pos (by decide)) (Nat.pow_pos (by decide))
  · exact Nat.mul_lt_mul_of_lt_of_le (bl_le.1 (Nat.le_refl _)) (Nat.le_of_lt (bl_le.1 (Nat.le_refl _))) (Nat.pow_pos (by decide))
theorem bl_add (m n : Nat) : bl (m + n) ≤ max (bl m) (bl n) + 1 := by
  rw [bl_le, Nat.pow_succ]
  have h1 := bl_le.1 (Nat.le_max_left (bl m) (bl n))
  have h2 := bl_le.1 (Nat.le_max_right (bl m) (bl n))
  omega
theorem bl_shl (m k : Nat) : bl (m * 2 ^ k) ≤ bl m + k := by
  rw [bl_le, Nat.pow_add]
  exact Nat.mul_lt_mul_of_pos_right (bl_le.1 (Nat.le_refl _)) (Nat.pow_pos (by decide))
theorem bl_div_le (m k : Nat) : bl (m / k) ≤ bl m := bl_mono (Nat.div_le_self _ _)
theorem bl_one : bl 1 = 1 := by decide
theorem bl_pow2 (k : Nat) : bl (2 ^ k) ≤ k + 1 := by
  have := bl_shl 1 k
  rw [Nat.one_mul, bl_one] at this; omega
def sz (x : Rat) : Nat := max (bl x.num.natAbs) (bl x.den)
theorem sz_num (x : Rat) : bl x.num.natAbs ≤ sz x := Nat.le_max_left _ _
theorem sz_den (x : Rat) : bl x.den ≤ sz x := Nat.le_max_right _ _
theorem sz_sgn (neg : Bool) (n : Nat) {d : Nat} (hd : d ≠ 0) : sz (sgn neg n d) ≤ max (bl n) (bl d) := by
  have h1 : (sgn neg n d).num.natAbs ≤ n := by
    unfold sgn
    rw [Rat.num_mkRat, if_neg hd]
    refine Nat.le_trans (Int.natAbs_ediv_le_natAbs _ _) ?_
    cases neg <;> simp
  have h2 : (sgn neg n d).den ≤ d := by
    unfold sgn
    rw [Rat.den_mkRat, if_neg hd]
    exact Nat.div_le_self _ _
  have h3 := bl_mono h1
  have h4 := bl_mono h2
  unfold sz
  omega
theorem sgn_self (x : Rat) : sgn (decide (x.num < 0)) x.num.natAbs x.den = x := by
  unfold sgn
  have : (if decide (x.num < 0) = true then -(x.num.natAbs : Int) else (x.num.natAbs : Int)) = x.num := by
    by_cases h : x.num < 0
    · simp only [h, decide_true, if_true]; omega
    · simp only [h, decide_false, Bool.false_eq_true, if_false]; omega
  rw [this, Rat.mkRat_self]
theorem sgn_same {x y : Rat} {neg : Bool} (hx : decide (x.num < 0) = neg) (hy : decide (y.num < 0) = neg) : sgn neg (x.num.natAbs * y.den + y.num.natAbs * x.den) (x.den * y.den) = x + y := by
  rw [Rat.add_def']
  unfold sgn
  congr 1
  generalize x.num = a at *
  generalize y.num = b at *
  cases neg with
  | true =>
    simp only [decide_eq_true_eq] at hx hy
    obtain ⟨m, rfl⟩ : ∃ m : Nat, a = -(m : Int) := ⟨a.natAbs, by omega⟩
    obtain ⟨n, rfl⟩ : ∃ n : Nat, b = -(n : Int) := ⟨b.natAbs, by omega⟩
    simp [Int.neg_mul, Int.neg_add]
  | false =>
    simp only [decide_eq_false_iff_not] at hx hy
    obtain ⟨m, rfl⟩ : ∃ m : Nat, a = (m : Int) := ⟨a.natAbs, by omega⟩
    obtain ⟨n, rfl⟩ : ∃ n : Nat, b = (n : Int) := ⟨b.natAbs, by omega⟩
    simp
theorem sgn_diff {x y : Rat} {neg : Bool} (hx : decide (x.num < 0) = neg) (hy : decide (y.num < 0) = !neg) (hle : y.num.natAbs * x.den ≤ x.num.natAbs * y.den) : sgn neg (x.num.natAbs * y.den - y.num.natAbs * x.den) (x.den * y.den) = x + y := by
  rw [Rat.add_def']
  unfold sgn
  congr 1
  generalize x.num = a at *
  generalize y.num = b at *
  cases neg with
  | true =>
    simp only [decide_eq_true_eq, Bool.not_true, decide_eq_false_iff_not] at hx hy
    obtain ⟨m, rfl⟩ : ∃ m : Nat, a = -(m : Int) := ⟨a.natAbs, by omega⟩
    obtain ⟨n, rfl⟩ : ∃ n : Nat, b = (n : Int) := ⟨b.natAbs, by omega⟩
    simp only [Int.natAbs_neg, Int.natAbs_natCast] at hle ⊢
    rw [if_pos trivial, Int.ofNat_sub hle]
    simp [Int.neg_mul]; omega
  | false =>
    simp only [decide_eq_true_eq, Bool.not_false, decide_eq_false_iff_not] at hx hy
    obtain ⟨m, rfl⟩ : ∃ m : Nat, a = (m : Int) := ⟨a.natAbs, by omega⟩
    obtain ⟨n, rfl⟩ : ∃ n : Nat, b = -(n : Int) := ⟨b.natAbs, by omega⟩
    simp only [Int.natAbs_neg, Int.natAbs_natCast] at hle ⊢
    rw [if_neg (by simp), Int.ofNat_sub hle]
    simp [Int.neg_mul]; omega
theorem sgn_mul (x y : Rat) : sgn (!(decide (x.num < 0) == decide (y.num < 0))) (x.num.natAbs * y.num.natAbs) (x.den * y.den) = x * y := by
  rw [Rat.mul_def']
  unfold sgn
  congr 1
  generalize x.num = a at *
  generalize y.num = b at *
  rcases Int.lt_or_le a 0 with h | h <;> rcases Int.lt_or_le b 0 with h' | h'
  · obtain ⟨m, rfl⟩ : ∃ m : Nat, a = -(m : Int) := ⟨a.natAbs, by omega⟩
    obtain ⟨n, rfl⟩ : ∃ n : Nat, b = -(n : Int) := ⟨b.natAbs, by omega⟩
    rw [decide_eq_true h, decide_eq_true h']; simp [Int.neg_mul, Int.mul_neg]
  · obtain ⟨m, rfl⟩ : ∃ m : Nat, a = -(m : Int) := ⟨a.natAbs, by omega⟩
    obtain ⟨n, rfl⟩ : ∃ n : Nat, b = (n : Int) := ⟨b.natAbs, by omega⟩
    rw [decide_eq_true h, decide_eq_false (Int.not_lt.2 h')]; simp [Int.neg_mul]
  · obtain ⟨m, rfl⟩ : ∃ m : Nat, a = (m : Int) := ⟨a.natAbs, by omega⟩
    obtain ⟨n, rfl⟩ : ∃ n : Nat, b = -(n : Int) := ⟨b.natAbs, by omega⟩
    rw [decide_eq_true h', decide_eq_false (Int.not_lt.2 h)]; simp [Int.mul_neg]
  · obtain ⟨m, rfl⟩ : ∃ m : Nat, a = (m : Int) := ⟨a.natAbs, by omega⟩
    obtain ⟨n, rfl⟩ : ∃ n : Nat, b = (n : Int) := ⟨b.natAbs, by omega⟩
    rw [decide_eq_false (Int.not_lt.2 h), decide_eq_false (Int.not_lt.2 h')]; simp
theorem sz_add (x y : Rat) : sz (x + y) ≤ sz x + sz y + 1 := by
  have hx := x.den_nz
  have hy := y.den_nz
  have h1 : x + y = sgn (decide (x.num * y.den + y.num * x.den < 0)) (x.num * y.den + y.num * x.den).natAbs (x.den * y.den) := by
    rw [Rat.add_def']
    unfold sgn
    congr 1
    by_cases h : x.num * y.den + y.num * x.den < 0
    · simp only [h, decide_true, if_true]; omega
    · simp only [h, decide_false, Bool.false_eq_true, if_false]; omega
  rw [h1]
  refine Nat.le_trans (sz_sgn _ _ (Nat.mul_ne_zero hx hy)) ?_
  have h2 : (x.num * y.den + y.num * x.den).natAbs ≤ x.num.natAbs * y.den + y.num.natAbs * x.den := by
    refine Nat.le_trans (Int.natAbs_add_le _ _) ?_
    rw [Int.natAbs_mul, Int.natAbs_mul, Int.natAbs_natCast, Int.natAbs_natCast]
    omega
  have h3 := bl_mono h2
  have h4 := bl_add (x.num.natAbs * y.den) (y.num.natAbs * x.den)
  have h5 := bl_mul x.num.natAbs y.den
  have h6 := bl_mul y.num.natAbs x.den
  have h7 := bl_mul x.den y.den
  have := sz_num x; have := sz_num y; have := sz_den x; have := sz_den y
  omega
theorem sz_mul (x y : Rat) : sz (x * y) ≤ sz x + sz y := by
  have hx := x.den_nz
  have hy := y.den_nz
  rw [← sgn_mul]
  refine Nat.le_trans (sz_sgn _ _ (Nat.mul_ne_zero hx hy)) ?_
  have h5 := bl_mul x.num.natAbs y.num.natAbs
  have h7 := bl_mul x.den y.den
  have := sz_num x; have := sz_num y; have := sz_den x; have := sz_den y
  omega
theorem sz_neg (x : Rat) : sz (-x) = sz x := by unfold sz; simp
theorem sz_inv (x : Rat) : sz x⁻¹ ≤ sz x := by
  unfold sz
  rw [Rat.num_inv, Rat.den_inv, Int.natAbs_mul, Int.natAbs_natCast]
  by_cases h : x.num = 0
  · have h1 : bl 1 ≤ bl x.den := bl_mono (Nat.pos_of_ne_zero x.den_nz)
    rw [h, if_pos rfl]
    simp only [Int.sign_zero, Int.natAbs_zero, Nat.zero_mul]
    have : bl 0 = 0 := by decide
    omega
  · rw [if_neg h, Int.natAbs_sign_of_ne_zero h, Nat.one_mul]; omega
def gup (x : Rat) (p : Nat) : Rat := ((x * 2 ^ p).ceil : Rat) / 2 ^ p
def gdown (x : Rat) (p : Nat) : Rat := ((x * 2 ^ p).floor : Rat) / 2 ^ p
theorem inv_one : (1 : Rat)⁻¹ = 1 := Rat.inv_eq_of_mul_eq_one (by simp)
end Go.Q
namespace Go.Q
open Go.Proofs
set_option maxRecDepth 100000
theorem Fr.sl {h : PH} {v : Value} {x : Rat} (r : Fr h v x) : ∃ na nl nc da dl dc, v = .agg #[.bool (decide (x.num < 0)), .slice na nl nc, .slice da dl dc] ∧ N32 h (.slice na nl nc) x.num.natAbs ∧ N32 h (.slice da dl dc) x.den := by
  obtain ⟨sn, sd, rfl, h2, h3⟩ := r
  obtain ⟨na, nl, nc, rfl, h2⟩ := h2.sl
  obtain ⟨da, dl, dc, rfl, h3⟩ := h3.sl
  exact ⟨_, _, _, _, _, _, rfl, h2, h3⟩
theorem Fr.sa {h : PH} {v : Value} {x : Rat} (r : Fr h v x) : ∃ b na nl nc da dl dc, v = .agg #[.bool b, .slice na nl nc, .slice da dl dc] ∧ Fr h (.agg #[.bool b, .slice na nl nc, .slice da dl dc]) x := by
  obtain ⟨_, _, _, _, _, _, rfl, _⟩ := r.sl
  exact ⟨_, _, _, _, _, _, _, rfl, r⟩
structure Jk (h : PH) (neg : Bool) (sn sd : Value) (n d : Nat) : Prop where
  num : N32 h sn n
  den : N32 h sd d
theorem Jk.to {h h' : PH} {neg : Bool} {sn sd : Value} {n d : Nat} (r : Jk h neg sn sd n d) [Le h h'] : Jk h' neg sn sd n d := ⟨r.num.to, r.den.to⟩
theorem W_len_bl {n k : Nat} : (W 4294967296 n).length ≤ k ↔ bl n ≤ 32 * k := by
  rw [bl_le, B_pow]
  refine ⟨fun h => ?_, fun h => W_length_le (by decide) h⟩
  exact Nat.lt_of_lt_of_le (lt_W_length (by decide) n) (Nat.pow_le_pow_right (by decide) h)
theorem Fits_raw {h0 h : PH} [Le h0 h] {neg : Bool} {sn sd : Value} {n d : Nat} (hj : Jk h0 neg sn sd n d) :
    Spec mach 135 #[.agg #[.bool neg, sn, sd]] h (fun v _ => v = .bool (decide (max (bl n) (bl d) ≤ 2048))) NP := by
  obtain ⟨hn, hd⟩ := hj
  obtain ⟨na, nc, rfl, hn⟩ := hn
  obtain ⟨da, dc, rfl, hd⟩ := hd
  have hs := hn.small
  have hs' := hd.small
  have e1 := W_len_bl (n := n) (k := 64)
  have e2 := W_len_bl (n := d) (k := 64)
  refine Spec.go [] Tryz.func135 rfl rfl (by kernel_rfl) fun C _ => ?_
  try simp (maxSteps := 999999) (disch := omega) only [go_sem, Nat.reduceBEq, Nat.reduceAdd]
  by_cases h1 : (W 4294967296 n).length ≤ 64
  · by_cases h2 : (W 4294967296 d).length ≤ 64
    · try simp (maxSteps := 999999) (disch := omega) only [go_sem, Nat.reduceBEq, Nat.reduceAdd]
      all_goals (refine bv ?_; simp <;> omega)
    · try simp (maxSteps := 999999) (disch := omega) only [go_sem, Nat.reduceBEq, Nat.reduceAdd]
      all_goals (refine bv ?_; simp <;> omega)
  · try simp (maxSteps := 999999) (disch := omega) only [go_sem, Nat.reduceBEq, Nat.reduceAdd]
    all_goals (refine bv ?_; simp <;> omega)
theorem Fr.jk {h : PH} {v : Value} {x : Rat} (r : Fr h v x) : ∃ sn sd, v = .agg #[.bool (decide (x.num < 0)), sn, sd] ∧ Jk h (decide (x.num < 0)) sn sd x.num.natAbs x.den :=
  let ⟨sn, sd, h1, h2, h3⟩ := r; ⟨sn, sd, h1, h2, h3⟩
theorem Fits_spec {h0 h : PH} [Le h0 h] {v : Value} {x : Rat} (hx : Fr h0 v x) : Spec mach 135 #[v] h (fun v _ => v = .bool (decide (sz x ≤ 2048))) NP := by
  obtain ⟨sn, sd, rfl, hj⟩ := hx.jk
  exact Fits_raw hj
def sgn3 (x : Rat) : Int := if x < 0 then -1 else if 0 < x then 1 else 0
theorem num_neg {x : Rat} : x.num < 0 ↔ x < 0 := by rw [Rat.lt_iff]; simp
theorem num_pos {x : Rat} : 0 < x.num ↔ 0 < x := by rw [Rat.lt_iff]; simp
def cmpQ (x y : Rat) : Int := if x < y then -1 else if y < x then 1 else 0
end Go.Q
namespace Go.Q
open Go.Proofs
set_option maxRecDepth 100000
end Go.Q
namespace Go.Q
open Go.Proofs
set_option maxRecDepth 100000
theorem wu64_neg {m : Nat} (h0 : 0 < m) (h : m ≤ 9223372036854775808) : IntKind.u64.wrap (-(m : Int)) = ((18446744073709551616 - m : Nat) : Int) := by
  rw [IntKind.wrap_u64]; omega
theorem wu64_back {m : Nat} (h0 : 0 < m) (h : m ≤ 9223372036854775808) : IntKind.u64.wrap (0 - ((18446744073709551616 - m : Nat) : Int)) = (m : Int) := by
  rw [IntKind.wrap_u64]; omega
theorem sgn_nat (neg : Bool) (m : Nat) : sgn neg m 1 = ((if neg then -(m : Int) else m : Int) : Rat) := by
  unfold sgn
  rw [Rat.mkRat_eq_div]
  simp [Rat.div_def, inv_one]
theorem Int_spec {h : PH} {n : Int} (h1 : -9223372036854775808 ≤ n) (h2 : n ≤ 9223372036854775807) : Spec mach 120 #[.int .i64 n] h (fun v h' => Fr h' v (n : Rat)) NP := by
  by_cases hn : n < 0
  · obtain ⟨m, rfl⟩ : ∃ m : Nat, n = -(m : Int) := ⟨n.natAbs, by omega⟩
    have e1 := wu64_neg (m := m) (by omega) (by omega)
    have e2 := wu64_back (m := m) (by omega) (by omega)
    refine Spec.go [] Tryz.func120 rfl rfl (by kernel_rfl) fun C _ => ?_
    try simp (disch := omega) only [go_sem, Nat.reduceBEq, Nat.reduceAdd, e1, e2]
    refine caN (by exact Small_spec (n := m) (by omega)) ?_; rintro _ h1 _ hv1; obtain ⟨v1, v1_l, v1_c, rfl, hv1⟩ := hv1.sl
    try simp (disch := omega) only [go_sem, Nat.reduceBEq, Nat.reduceAdd]
    refine caN (by exact Small_spec (n := 1) (by decide)) ?_; rintro _ h2 _ hv2; obtain ⟨v2, v2_l, v2_c, rfl, hv2⟩ := hv2.sl
    try simp (disch := omega) only [go_sem, Nat.reduceBEq, Nat.reduceAdd]
    exact Fr.of (neg := true) hv1.to hv2 (by omega) (by decide) (by simp) (by rw [sgn_nat]; simp)
  · obtain ⟨m, rfl⟩ : ∃ m : Nat, n = (m : Int) := ⟨n.natAbs, by omega⟩
    refine Spec.go [] Tryz.func120 rfl rfl (by kernel_rfl) fun C _ => ?_
    try simp (disch := omega) only [go_sem, Nat.reduceBEq, Nat.reduceAdd]
    refine caN (by exact Small_spec (n := m) (by omega)) ?_; rintro _ h1 _ hv1; obtain ⟨v1, v1_l, v1_c, rfl, hv1⟩ := hv1.sl
    try simp (disch := omega) only [go_sem, Nat.reduceBEq, Nat.reduceAdd]
    refine caN (by exact Small_spec (n := 1) (by decide)) ?_; rintro _ h2 _ hv2; obtain ⟨v2, v2_l, v2_c, rfl, hv2⟩ := hv2.sl
    try simp (disch := omega) only [go_sem, Nat.reduceBEq, Nat.reduceAdd]
    by_cases h0 : m = 0
    · subst h0
      exact ⟨.slice v1 v1_l v1_c, .slice v2 v2_l v2_c, by simp, by simpa using hv1.to, by simpa using hv2⟩
    · exact Fr.of (neg := false) hv1.to hv2 h0 (by decide) (by simp) (by rw [sgn_nat]; simp)
theorem Clone_spec {h0 h : PH} [Le h0 h] {v : Value} {n : Nat} (hv : N32 h0 v n) (bn : bl n ≤ 2 ^ 40) : Spec mach 136 #[v] h (fun v h' => N32 h' v n) NP := by
  obtain ⟨a, c, xs, rfl, ha, hxs, hm⟩ := hv.out
  have hs : xs.length ≤ 2 ^ 40 := by have := len_le_bl n; rw [hxs] at this; omega
  refine Spec.enter (args := [_]) (n := 8) Tryz.func136 rfl (by kernel_rfl) rfl (by simp) [.tmp 2] rfl (fun C _ => ?_)
  cases a with
  | none =>
    have : xs.length = 0 := by
      rcases Nat.eq_zero_or_pos xs.length with h | h
      · exact h
      · obtain ⟨ad, h1, _⟩ := ha.get h; cases h1
    repeat (first | (refine wo rfl (fun k hk => ?_); simp (disch := omega) only [go_sem, Nat.reduceBEq, Nat.reduceAdd]; apply hk; clear hk k) | refine wkt rfl ?_ | refine wk0 ?_ | refine rg rfl rfl (fun K hK => ?_) | ((first | refine AWP_exit ?_ | refine AWP_skip ?_); simp (disch := decide) only [qs, qb, if_true, if_false, reduceIte]) | refine AWP_sq rfl (fun K hK => ?_) | refine ct rfl ?_ | ((try simp (disch := omega) only [go_sem, Nat.reduceBEq, Nat.reduceAdd]); (first | apply hK | (clear hK; apply hK) | (clear hK; clear hK; apply hK)); clear hK; (try clear K); (try dsimp only [behind, qs, qb])))
    refine AWP_ret ?_; simp (disch := omega) only [go_sem, Nat.reduceBEq, Nat.reduceAdd]
    rw [← hm, List.eq_nil_of_length_eq_zero this]; exact N32.zero _
  | some ad =>
    repeat (first | (refine wo rfl (fun k hk => ?_); simp (disch := omega) only [go_sem, Nat.reduceBEq, Nat.reduceAdd]; apply hk; clear hk k) | refine wkt rfl ?_ | refine wk0 ?_ | refine rg rfl rfl (fun K hK => ?_) | ((first | refine AWP_exit ?_ | refine AWP_skip ?_); simp (disch := decide) only [qs, qb, if_true, if_false, reduceIte]) | refine AWP_sq rfl (fun K hK => ?_) | refine ct rfl ?_ | ((try simp (disch := omega) only [go_sem, Nat.reduceBEq, Nat.reduceAdd]); (first | apply hK | (clear hK; apply hK) | (clear hK; clear hK; apply hK)); clear hK; (try clear K); (try dsimp only [behind, qs, qb])))
    refine wo rfl (fun k hk => ?_); simp (disch := omega) only [go_sem, Nat.reduceBEq, Nat.reduceAdd]
    refine ⟨uw xs, by simp [uw], fun hne j v hv => ?_, uw_all xs, fun junk => ?_⟩
    · obtain ⟨ad', h1, h2⟩ := ha.cells h hne
      cases h1
      exact h2 j v hv
    apply hk; clear hk k
    (repeat (first | (refine wo rfl (fun k hk => ?_); simp (disch := omega) only [go_sem, Nat.reduceBEq, Nat.reduceAdd]; apply hk; clear hk k) | refine wkt rfl ?_)); (try refine wk0 ?_)
    (try (simp (disch := omega) only [go_sem, Nat.reduceBEq, Nat.reduceAdd])); apply hK; clear hK; (try clear K); (try dsimp only [behind, qs])
    refine AWP_pub 1 ?_
    simp (disch := omega) only [go_sem, Nat.reduceBEq, Nat.reduceAdd]
    intro b h1 hs1 hb
    refine AWP_ret ?_; simp (disch := omega) only [go_sem, Nat.reduceBEq, Nat.reduceAdd]
    refine ⟨_, _, by rw [hxs], ?_⟩
    rw [hxs]
    refine .of_block hb (fun i x hi => ?_) ha.lt (by omega) (by omega)
    have hil : i < xs.length := (List.getElem?_eq_some_iff.1 hi).1
    rw [List.getElem?_append_left (by simp [uw]; exact hil)]
    simp [uw, hi]
def Cn (h : PH) (v : Value) (x : Rat) : Prop := ∃ sn sd, v = .agg #[.bool (decide (x.num < 0)), sn, sd] ∧ N32 h sn x.num.natAbs ∧ N32 h sd (if x.den = 1 then 0 else x.den)
theorem Cn.to {h h' : PH} {v : Value} {x : Rat} (r : Cn h v x) [Le h h'] : Cn h' v x := let ⟨a, b, h1, h2, h3⟩ := r; ⟨a, b, h1, h2.to, h3.to⟩
theorem Cn.sa {h : PH} {v : Value} {x : Rat} (r : Cn h v x) : ∃ b na nl nc da dl dc, v = .agg #[.bool b, .slice na nl nc, .slice da dl dc] ∧ Cn h (.agg #[.bool b, .slice na nl nc, .slice da dl dc]) x := by
  obtain ⟨sn, sd, rfl, h2, h3⟩ := r
  obtain ⟨na, nl, nc, rfl, h2⟩ := h2.sl
  obtain ⟨da, dl, dc, rfl, h3⟩ := h3.sl
  exact ⟨_, _, _, _, _, _, _, rfl, _, _, rfl, h2, h3⟩
theorem Give_ok {h0 h : PH} [Le h0 h] {v : Value} {x : Rat} (hx : Fr h0 v x) (hs : sz x ≤ 2048) : Spec mach 109 #[v] h (fun r h' => ∃ u, r = .tuple #[u, .int .i64 0] ∧ Cn h' u x) NP := by
  obtain ⟨na, nl, nc, da, dl, dc, rfl, hn, hd⟩ := hx.sl
  have b1 := sz_num x; have b2 := sz_den x
  obtain ⟨neg, en⟩ : ∃ b, decide (x.num < 0) = b := ⟨_, rfl⟩
  rw [en] at hx ⊢
  refine Spec.enter (args := [_]) (n := 24) Tryz.func109 rfl (by kernel_rfl) rfl (by simp) [.cell 2 24, .tmp 3] rfl (fun C _ => ?_)
  (repeat (first | (refine rg rfl rfl (fun K hK => ?_); (repeat (first | (refine wo rfl (fun k hk => ?_); simp (disch := omega) only [go_sem, Nat.reduceBEq, Nat.reduceAdd]; apply hk; clear hk k) | refine wkt rfl ?_)); (try refine wk0 ?_); apply hK; clear hK K; (try dsimp only [behind, qs, qb])) | ((first | refine AWP_exit ?_ | refine AWP_skip ?_); simp (disch := decide) only [qs, qb, if_true, if_false, reduceIte]) | refine AWP_sq rfl (fun K hK => ?_) | refine ct rfl ?_ | ((first | refine hK _ _ ?_ | (clear hK; refine hK _ _ ?_) | (clear hK; clear hK; refine hK _ _ ?_)); clear hK; (try clear K)))); (refine rg rfl rfl (fun K hK => ?_); (repeat (first | (refine wo rfl (fun k hk => ?_); simp (disch := omega) only [go_sem, Nat.reduceBEq, Nat.reduceAdd]; apply hk; clear hk k) | refine wkt rfl ?_ | with_reducible refine wk0 ?_ | with_reducible refine wt_seg ?_ | with_reducible refine wt_alt ?_ wt_no | with_reducible refine wt_done ?_)))
  refine cN rfl rfl rfl rfl (by exact Fits_spec hx) ?_; rintro v1 h1 s1 rfl; (repeat (first | (refine wo rfl (fun k hk => ?_); simp (disch := omega) only [go_sem, Nat.reduceBEq, Nat.reduceAdd]; apply hk; clear hk k) | refine wkt rfl ?_ | with_reducible refine wk0 ?_ | with_reducible refine wt_seg ?_ | with_reducible refine wt_alt ?_ wt_no | with_reducible refine wt_done ?_))
  ((try (simp (disch := omega) only [go_sem, Nat.reduceBEq, Nat.reduceAdd])); apply hK; clear hK; (try clear K); (try dsimp only [behind, qs])); (repeat (first | (refine rg rfl rfl (fun K hK => ?_); (repeat (first | (refine wo rfl (fun k hk => ?_); simp (disch := omega) only [go_sem, Nat.reduceBEq, Nat.reduceAdd]; apply hk; clear hk k) | refine wkt rfl ?_)); (try refine wk0 ?_); apply hK; clear hK K; (try dsimp only [behind, qs, qb])) | ((first | refine AWP_exit ?_ | refine AWP_skip ?_); simp (disch := decide) only [qs, qb, if_true, if_false, reduceIte]) | refine AWP_sq rfl (fun K hK => ?_) | refine ct rfl ?_ | ((first | refine hK _ _ ?_ | (clear hK; refine hK _ _ ?_) | (clear hK; clear hK; refine hK _ _ ?_)); clear hK; (try clear K))))
  (first | refine AWP_t (.seg [.o 0, .o 1, .o 2, .o 3] (.alt 4 (.seg [.o 5] (.alt 6 (.alt 7 .done .no) .no)) (.alt 6 (.alt 4 (.seg [.o 5] (.alt 7 .done .no)) .no) .no))) (by decide +kernel) rfl (fun K hK => ?_) | refine AWP_tk (.seg [.o 0, .o 1, .o 2, .o 3] (.alt 4 (.seg [.o 5] (.alt 6 (.alt 7 .done .no) .no)) (.alt 6 (.alt 4 (.seg [.o 5] (.alt 7 .done .no)) .no) .no))) (by decide +kernel) rfl (fun K hK => ?_))
  have rest : ∀ (va : Option Addr) (vl vc : Nat) (h' : PH) (S : AS), Le h0 h' → N32 h' (.slice va vl vc) x.num.natAbs → S.le ⟨[(1, .p 0 0), (2, .p 1 0), (4, .p 2 0)], [[.bool neg, .slice na nl nc, .slice da dl dc], [.bool false, .slice none 0 0, .slice none 0 0], [.bool neg, .slice va vl vc, .slice none 0 0]]⟩ → K S h' := by
    intro va vl vc h' S _ hn' hS
    refine hK _ _ (AWP_le _ hS ?_); clear hK K
    refine AWP_sqs (fun K hK => ?_)
    refine rg rfl rfl (fun K hK => ?_); (repeat (first | (refine wo rfl (fun k hk => ?_); simp (disch := omega) only [go_sem, Nat.reduceBEq, Nat.reduceAdd]; apply hk; clear hk k) | refine wkt rfl ?_ | with_reducible refine wk0 ?_ | with_reducible refine wt_seg ?_ | with_reducible refine wt_alt ?_ wt_no | with_reducible refine wt_done ?_))
    refine cN rfl rfl rfl rfl (by exact One_spec hd) ?_; rintro v3 h3 s3 rfl; (repeat (first | (refine wo rfl (fun k hk => ?_); simp (disch := omega) only [go_sem, Nat.reduceBEq, Nat.reduceAdd]; apply hk; clear hk k) | refine wkt rfl ?_ | with_reducible refine wk0 ?_ | with_reducible refine wt_seg ?_ | with_reducible refine wt_alt ?_ wt_no | with_reducible refine wt_done ?_))
    by_cases h1 : x.den = 1
    · ((try (simp (disch := omega) only [go_sem, Nat.reduceBEq, Nat.reduceAdd])); apply hK; clear hK; (try clear K); (try dsimp only [behind, qs])); (repeat (first | (refine rg rfl rfl (fun K hK => ?_); (repeat (first | (refine wo rfl (fun k hk => ?_); simp (disch := omega) only [go_sem, Nat.reduceBEq, Nat.reduceAdd]; apply hk; clear hk k) | refine wkt rfl ?_)); (try refine wk0 ?_); apply hK; clear hK K; (try dsimp only [behind, qs, qb])) | ((first | refine AWP_exit ?_ | refine AWP_skip ?_); simp (disch := decide) only [qs, qb, if_true, if_false, reduceIte]) | refine AWP_sq rfl (fun K hK => ?_) | refine ct rfl ?_ | ((first | refine hK _ _ ?_ | (clear hK; refine hK _ _ ?_) | (clear hK; clear hK; refine hK _ _ ?_)); clear hK; (try clear K))))
      refine AWP_ret ?_; simp (disch := omega) only [go_sem, Nat.reduceBEq, Nat.reduceAdd]
      exact ⟨_, rfl, _, _, by rw [en], hn'.to, by rw [if_pos h1]; exact N32.zero _⟩
    · ((try (simp (disch := omega) only [go_sem, Nat.reduceBEq, Nat.reduceAdd])); apply hK; clear hK; (try clear K); (try dsimp only [behind, qs])); (repeat (first | (refine rg rfl rfl (fun K hK => ?_); (repeat (first | (refine wo rfl (fun k hk => ?_); simp (disch := omega) only [go_sem, Nat.reduceBEq, Nat.reduceAdd]; apply hk; clear hk k) | refine wkt rfl ?_)); (try refine wk0 ?_); apply hK; clear hK K; (try dsimp only [behind, qs, qb])) | ((first | refine AWP_exit ?_ | refine AWP_skip ?_); simp (disch := decide) only [qs, qb, if_true, if_false, reduceIte]) | refine AWP_sq rfl (fun K hK => ?_) | refine ct rfl ?_ | ((first | refine hK _ _ ?_ | (clear hK; refine hK _ _ ?_) | (clear hK; clear hK; refine hK _ _ ?_)); clear hK; (try clear K)))); (refine rg rfl rfl (fun K hK => ?_); (repeat (first | (refine wo rfl (fun k hk => ?_); simp (disch := omega) only [go_sem, Nat.reduceBEq, Nat.reduceAdd]; apply hk; clear hk k) | refine wkt rfl ?_ | with_reducible refine wk0 ?_ | with_reducible refine wt_seg ?_ | with_reducible refine wt_alt ?_ wt_no | with_reducible refine wt_done ?_)))
      refine cN rfl rfl rfl rfl (by exact Clone_spec hd (by omega)) ?_; rintro v4 h4 _ hv4; obtain ⟨v4, v4_l, v4_c, rfl, hv4⟩ := hv4.sl; (repeat (first | (refine wo rfl (fun k hk => ?_); simp (disch := omega) only [go_sem, Nat.reduceBEq, Nat.reduceAdd]; apply hk; clear hk k) | refine wkt rfl ?_ | with_reducible refine wk0 ?_ | with_reducible refine wt_seg ?_ | with_reducible refine wt_alt ?_ wt_no | with_reducible refine wt_done ?_))
      ((try (simp (disch := omega) only [go_sem, Nat.reduceBEq, Nat.reduceAdd])); apply hK; clear hK; (try clear K); (try dsimp only [behind, qs])); (repeat (first | (refine rg rfl rfl (fun K hK => ?_); (repeat (first | (refine wo rfl (fun k hk => ?_); simp (disch := omega) only [go_sem, Nat.reduceBEq, Nat.reduceAdd]; apply hk; clear hk k) | refine wkt rfl ?_)); (try refine wk0 ?_); apply hK; clear hK K; (try dsimp only [behind, qs, qb])) | ((first | refine AWP_exit ?_ | refine AWP_skip ?_); simp (disch := decide) only [qs, qb, if_true, if_false, reduceIte]) | refine AWP_sq rfl (fun K hK => ?_) | refine ct rfl ?_ | ((first | refine hK _ _ ?_ | (clear hK; refine hK _ _ ?_) | (clear hK; clear hK; refine hK _ _ ?_)); clear hK; (try clear K))))
      refine AWP_ret ?_; simp (disch := omega) only [go_sem, Nat.reduceBEq, Nat.reduceAdd]
      exact ⟨_, rfl, _, _, by rw [en], hn'.to, by rw [if_neg h1]; exact hv4⟩
  (repeat (first | (refine wo rfl (fun k hk => ?_); simp (disch := omega) only [go_sem, Nat.reduceBEq, Nat.reduceAdd]; apply hk; clear hk k) | refine wkt rfl ?_ | with_reducible refine wk0 ?_ | with_reducible refine wt_seg ?_ | with_reducible refine wt_alt ?_ wt_no | with_reducible refine wt_done ?_))
  refine wt_alt ?_ (wt_alt ?_ wt_no)
  · refine cN rfl rfl rfl rfl (by exact Clone_spec hn (by omega)) ?_; rintro v2 h2 _ hv2; obtain ⟨v2, v2_l, v2_c, rfl, hv2⟩ := hv2.sl; (repeat (first | (refine wo rfl (fun k hk => ?_); simp (disch := omega) only [go_sem, Nat.reduceBEq, Nat.reduceAdd]; apply hk; clear hk k) | refine wkt rfl ?_ | with_reducible refine wk0 ?_ | with_reducible refine wt_seg ?_ | with_reducible refine wt_alt ?_ wt_no | with_reducible refine wt_done ?_))
    refine rest _ _ _ _ _ inferInstance hv2 ?_
    simp (disch := omega) only [go_sem, Nat.reduceBEq, Nat.reduceAdd]
  · (repeat (first | (refine wo rfl (fun k hk => ?_); simp (disch := omega) only [go_sem, Nat.reduceBEq, Nat.reduceAdd]; apply hk; clear hk k) | refine wkt rfl ?_ | with_reducible refine wk0 ?_ | with_reducible refine wt_seg ?_ | with_reducible refine wt_alt ?_ wt_no | with_reducible refine wt_done ?_))
    refine cN rfl rfl rfl rfl (by exact Clone_spec hn (by omega)) ?_; rintro v2 h2 _ hv2; obtain ⟨v2, v2_l, v2_c, rfl, hv2⟩ := hv2.sl; (repeat (first | (refine wo rfl (fun k hk => ?_); simp (disch := omega) only [go_sem, Nat.reduceBEq, Nat.reduceAdd]; apply hk; clear hk k) | refine wkt rfl ?_ | with_reducible refine wk0 ?_ | with_reducible refine wt_seg ?_ | with_reducible refine wt_alt ?_ wt_no | with_reducible refine wt_done ?_))
    refine rest _ _ _ _ _ inferInstance hv2 ?_
    simp (disch := omega) only [go_sem, Nat.reduceBEq, Nat.reduceAdd]
def Rw (h : PH) (v : Value) (neg : Bool) (n d : Nat) : Prop := ∃ a c xs a' c' ys, v = .agg #[.bool neg, .slice a xs.length c, .slice a' ys.length c'] ∧ Arr h a c xs ∧ Arr h a' c' ys ∧ val 4294967296 xs = n ∧ val 4294967296 ys = d ∧ xs.length ≤ 2 ^ 30 ∧ ys.length ≤ 2 ^ 30
theorem Rw.to {h h' : PH} {v : Value} {neg : Bool} {n d : Nat} (r : Rw h v neg n d) [Le h h'] : Rw h' v neg n d := let ⟨a, c, xs, a', c', ys, h1, h2, h3, h4, h5⟩ := r; ⟨a, c, xs, a', c', ys, h1, h2.to, h3.to, h4, h5⟩
theorem Rw.sa {h : PH} {v : Value} {neg : Bool} {n d : Nat} (r : Rw h v neg n d) : ∃ b na nl nc da dl dc, v = .agg #[.bool b, .slice na nl nc, .slice da dl dc] ∧ Rw h (.agg #[.bool b, .slice na nl nc, .slice da dl dc]) neg n d := by
  have r0 := r
  obtain ⟨a, c, xs, a', c', ys, rfl, _⟩ := r
  exact ⟨_, _, _, _, _, _, _, rfl, r0⟩
theorem Cn.rw {h : PH} {v : Value} {x : Rat} (r : Cn h v x) (bx : sz x ≤ 2 ^ 30) : Rw h v (decide (x.num < 0)) x.num.natAbs (if x.den = 1 then 0 else x.den) := by
  obtain ⟨sn, sd, rfl, h2, h3⟩ := r
  have b1 := sz_num x; have b2 := sz_den x
  have b3 : bl (if x.den = 1 then 0 else x.den) ≤ bl x.den := bl_mono (by split <;> omega)
  obtain ⟨a, c, xs, rfl, ha, hx, hm⟩ := h2.out
  obtain ⟨a', c', ys, rfl, ha', hy, hm'⟩ := h3.out
  have l1 := len_le_bl x.num.natAbs
  have l2 := len_le_bl (if x.den = 1 then 0 else x.den)
  rw [hx] at l1
  rw [hy] at l2
  exact ⟨_, _, _, _, _, _, rfl, ha, ha', hm, hm', by omega, by omega⟩
def dz (d : Nat) : Nat := if d = 0 then 1 else d
theorem dz_ne (d : Nat) : dz d ≠ 0 := by unfold dz; split <;> omega
def qof (neg : Bool) (n d : Nat) : Rat := sgn neg n (dz d)
theorem qof_cn (x : Rat) : qof (decide (x.num < 0)) x.num.natAbs (if x.den = 1 then 0 else x.den) = x := by
  have : dz (if x.den = 1 then 0 else x.den) = x.den := by
    have := x.den_nz
    by_cases h : x.den = 1
    · simp [dz, h]
    · simp [dz, h, this]
  unfold qof
  rw [this, sgn_self]
def lg (neg : Bool) (n d : Nat) : Prop := 8192 < bl n ∨ 8192 < bl d ∨ 2048 < sz (qof neg n d)
instance (neg : Bool) (n d : Nat) : Decidable (lg neg n d) := by unfold lg; infer_instance
theorem lg_cn {x : Rat} : lg (decide (x.num < 0)) x.num.natAbs (if x.den = 1 then 0 else x.den) ↔ 2048 < sz x := by
  unfold lg
  rw [qof_cn]
  have b1 := sz_num x; have b2 := sz_den x
  have b3 : bl (if x.den = 1 then 0 else x.den) ≤ bl x.den := bl_mono (by split <;> omega)
  omega
end Go.Q
namespace Go.Q
open Go.Proofs
set_option maxRecDepth 100000
theorem N32.len {h : PH} {a : Option Addr} {l c n : Nat} (r : N32 h (.slice a l c) n) : l ≤ 256 ↔ bl n ≤ 8192 := by
  obtain ⟨a', c', h1, _⟩ := r
  cases h1
  exact W_len_bl (k := 256)
theorem Read_ok {h0 h : PH} [Le h0 h] {v : Value} {neg : Bool} {n d : Nat} (hv : Rw h0 v neg n d) (hl : ¬ lg neg n d) :
    Spec mach 106 #[v] h (fun r h' => ∃ f, r = .tuple #[f, .bool true] ∧ Fr h' f (qof neg n d)) NP := by
  obtain ⟨a, c, xs, a', c', ys, rfl, ha, ha', hn, hd, hsx, hsy⟩ := hv
  unfold lg at hl
  refine Spec.enter (args := [_]) (n := 33) Tryz.func106 rfl (by kernel_rfl) rfl (by simp) [.cell 2 117, .tmp 3] rfl (fun C _ => ?_)
  repeat (first | (refine wo rfl (fun k hk => ?_); simp (disch := omega) only [go_sem, Nat.reduceBEq, Nat.reduceAdd]; apply hk; clear hk k) | refine wkt rfl ?_ | refine wk0 ?_ | refine rg rfl rfl (fun K hK => ?_) | refine rd [.o 0, .o 1, .o 3, .o 4, .o 2, .o 5, .o 6, .o 7] rfl (by decide +kernel) rfl (fun K hK => ?_) | refine rd [.o 0, .o 1, .o 2, .o 3, .o 4] rfl (by decide +kernel) rfl (fun K hK => ?_) | ((first | refine AWP_exit ?_ | refine AWP_skip ?_); simp (disch := decide) only [qs, qb, if_true, if_false, reduceIte]) | refine AWP_sq rfl (fun K hK => ?_) | refine ct rfl ?_ | ((try simp (disch := omega) only [go_sem, Nat.reduceBEq, Nat.reduceAdd]); (first | apply hK | (clear hK; apply hK) | (clear hK; clear hK; apply hK)); clear hK; (try clear K); (try dsimp only [behind, qs, qb])))
  refine cN rfl rfl rfl rfl (by exact Of_N ha) ?_; rintro v1 h1 _ hv1; obtain ⟨v1, v1_l, v1_c, rfl, hv1⟩ := hv1.sl; (repeat (first | (refine wo rfl (fun k hk => ?_); simp (disch := omega) only [go_sem, Nat.reduceBEq, Nat.reduceAdd]; apply hk; clear hk k) | refine wkt rfl ?_)); (try refine wk0 ?_)
  refine cN rfl rfl rfl rfl (by exact Of_N ha') ?_; rintro v2 h2 _ hv2; obtain ⟨v2, v2_l, v2_c, rfl, hv2⟩ := hv2.sl; (repeat (first | (refine wo rfl (fun k hk => ?_); simp (disch := omega) only [go_sem, Nat.reduceBEq, Nat.reduceAdd]; apply hk; clear hk k) | refine wkt rfl ?_)); (try refine wk0 ?_)
  (try (simp (disch := omega) only [go_sem, Nat.reduceBEq, Nat.reduceAdd])); apply hK; clear hK; (try clear K); (try dsimp only [behind, qs])
  rw [hn] at hv1
  rw [hd] at hv2
  have l1 := hv1.len
  have l2 := hv2.len
  have e1 : v1_l ≤ 256 := by omega
  have e2 : v2_l ≤ 256 := by omega
  repeat (first | ((first | refine rg rfl rfl (fun K hK => ?_) | refine rd [.o 0, .o 1, .o 3, .o 4, .o 2, .o 5, .o 6, .o 7] rfl (by decide +kernel) rfl (fun K hK => ?_) | refine rd [.o 0, .o 1, .o 2, .o 3, .o 4] rfl (by decide +kernel) rfl (fun K hK => ?_)); (repeat (first | (refine wo rfl (fun k hk => ?_); simp (disch := omega) only [go_sem, Nat.reduceBEq, Nat.reduceAdd]; apply hk; clear hk k) | refine wkt rfl ?_)); (try refine wk0 ?_); apply hK; clear hK K; (try dsimp only [behind, qs, qb])) | ((first | refine AWP_exit ?_ | refine AWP_skip ?_); simp (disch := decide) only [qs, qb, if_true, if_false, reduceIte]) | refine AWP_sq rfl (fun K hK => ?_) | refine ct rfl ?_ | ((first | refine hK _ _ ?_ | (clear hK; refine hK _ _ ?_) | (clear hK; clear hK; refine hK _ _ ?_)); clear hK; (try clear K)))
  have rest : ∀ (va : Option Addr) (vl vc : Nat) (h' : PH) (S : AS), Le h1 h' → N32 h' (.slice va vl vc) (dz d) → S.le ⟨[(1, .p 0 0), (2, .p 1 0), (4, .v (.slice v1 v1_l v1_c)), (5, .v (.slice va vl vc))], [[.bool neg, .slice a xs.length c, .slice a' ys.length c'], [.bool false, .slice none 0 0, .slice none 0 0]]⟩ → K S h' := by
    intro va vl vc h' S _ hd' hS
    refine hK _ _ (AWP_le _ hS ?_); clear hK K
    have bz : bl (dz d) ≤ 8193 := by
      unfold dz; split
      · decide
      · omega
    (first | refine rg rfl rfl (fun K hK => ?_) | refine rd [.o 0, .o 1, .o 3, .o 4, .o 2, .o 5, .o 6, .o 7] rfl (by decide +kernel) rfl (fun K hK => ?_) | refine rd [.o 0, .o 1, .o 2, .o 3, .o 4] rfl (by decide +kernel) rfl (fun K hK => ?_)); (repeat (first | (refine wo rfl (fun k hk => ?_); simp (disch := omega) only [go_sem, Nat.reduceBEq, Nat.reduceAdd]; apply hk; clear hk k) | refine wkt rfl ?_)); (try refine wk0 ?_)
    refine cN rfl rfl rfl rfl (by exact Reduce_spec (neg := neg) (hv1.to (h' := h')) hd' (dz_ne d) (by omega) (by omega)) ?_; rintro v3 h3 _ hv3; obtain ⟨v3_0, v3_1, v3_2, v3_3, v3_4, v3_5, v3_6, rfl, hv3⟩ := hv3.sa; (repeat (first | (refine wo rfl (fun k hk => ?_); simp (disch := omega) only [go_sem, Nat.reduceBEq, Nat.reduceAdd]; apply hk; clear hk k) | refine wkt rfl ?_)); (try refine wk0 ?_)
    (try (simp (disch := omega) only [go_sem, Nat.reduceBEq, Nat.reduceAdd])); apply hK; clear hK; (try clear K); (try dsimp only [behind, qs])
    have hsz : sz (qof neg n d) ≤ 2048 := by omega
    (first | refine rg rfl rfl (fun K hK => ?_) | refine rd [.o 0, .o 1, .o 3, .o 4, .o 2, .o 5, .o 6, .o 7] rfl (by decide +kernel) rfl (fun K hK => ?_) | refine rd [.o 0, .o 1, .o 2, .o 3, .o 4] rfl (by decide +kernel) rfl (fun K hK => ?_)); (repeat (first | (refine wo rfl (fun k hk => ?_); simp (disch := omega) only [go_sem, Nat.reduceBEq, Nat.reduceAdd]; apply hk; clear hk k) | refine wkt rfl ?_)); (try refine wk0 ?_)
    refine cN rfl rfl rfl rfl (by exact Fits_spec (x := qof neg n d) hv3) ?_; rintro v4 h4 s4 rfl; (repeat (first | (refine wo rfl (fun k hk => ?_); simp (disch := omega) only [go_sem, Nat.reduceBEq, Nat.reduceAdd]; apply hk; clear hk k) | refine wkt rfl ?_)); (try refine wk0 ?_)
    (try (simp (disch := omega) only [go_sem, Nat.reduceBEq, Nat.reduceAdd])); apply hK; clear hK; (try clear K); (try dsimp only [behind, qs])
    refine AWP_ret ?_; simp (disch := omega) only [go_sem, Nat.reduceBEq, Nat.reduceAdd]
    refine ⟨_, ?_, hv3.to⟩
    simp [hsz]
  (first | refine rg rfl rfl (fun K hK => ?_) | refine rd [.o 0, .o 1, .o 3, .o 4, .o 2, .o 5, .o 6, .o 7] rfl (by decide +kernel) rfl (fun K hK => ?_) | refine rd [.o 0, .o 1, .o 2, .o 3, .o 4] rfl (by decide +kernel) rfl (fun K hK => ?_)); (repeat (first | (refine wo rfl (fun k hk => ?_); simp (disch := omega) only [go_sem, Nat.reduceBEq, Nat.reduceAdd]; apply hk; clear hk k) | refine wkt rfl ?_)); (try refine wk0 ?_)
  refine cN rfl rfl rfl rfl (by exact Zero_spec hv2) ?_; rintro v3 h3 s3 rfl; (repeat (first | (refine wo rfl (fun k hk => ?_); simp (disch := omega) only [go_sem, Nat.reduceBEq, Nat.reduceAdd]; apply hk; clear hk k) | refine wkt rfl ?_)); (try refine wk0 ?_)
  by_cases hd0 : d = 0
  · (try (simp (disch := omega) only [go_sem, Nat.reduceBEq, Nat.reduceAdd])); apply hK; clear hK; (try clear K); (try dsimp only [behind, qs])
    refine AWP_condT rfl ?_
    (first | refine rg rfl rfl (fun K hK => ?_) | refine rd [.o 0, .o 1, .o 3, .o 4, .o 2, .o 5, .o 6, .o 7] rfl (by decide +kernel) rfl (fun K hK => ?_) | refine rd [.o 0, .o 1, .o 2, .o 3, .o 4] rfl (by decide +kernel) rfl (fun K hK => ?_)); (repeat (first | (refine wo rfl (fun k hk => ?_); simp (disch := omega) only [go_sem, Nat.reduceBEq, Nat.reduceAdd]; apply hk; clear hk k) | refine wkt rfl ?_)); (try refine wk0 ?_)
    refine cN rfl rfl rfl rfl (by exact Small_spec (n := 1) (by decide)) ?_; rintro v4 h4 _ hv4; obtain ⟨v4, v4_l, v4_c, rfl, hv4⟩ := hv4.sl; (repeat (first | (refine wo rfl (fun k hk => ?_); simp (disch := omega) only [go_sem, Nat.reduceBEq, Nat.reduceAdd]; apply hk; clear hk k) | refine wkt rfl ?_)); (try refine wk0 ?_)
    (try (simp (disch := omega) only [go_sem, Nat.reduceBEq, Nat.reduceAdd])); apply hK; clear hK; (try clear K); (try dsimp only [behind, qs])
    refine rest _ _ _ _ _ inferInstance (by unfold dz; rw [if_pos hd0]; exact hv4) ?_
    simp (disch := omega) only [go_sem, Nat.reduceBEq, Nat.reduceAdd]
  · (try (simp (disch := omega) only [go_sem, Nat.reduceBEq, Nat.reduceAdd])); apply hK; clear hK; (try clear K); (try dsimp only [behind, qs])
    refine AWP_condF rfl ?_
    refine AWP_skip ?_; simp only [qs, qb, if_true, if_false, reduceIte]
    refine rest _ _ _ _ _ inferInstance (by unfold dz; rw [if_neg hd0]; exact hv2.to) ?_
    simp (disch := omega) only [go_sem, Nat.reduceBEq, Nat.reduceAdd]
theorem Read_no {h0 h : PH} [Le h0 h] {v : Value} {neg : Bool} {n d : Nat} (hv : Rw h0 v neg n d) (hl : lg neg n d) :
    Spec mach 106 #[v] h (fun r _ => ∃ b a l c a' l' c', r = .tuple #[.agg #[.bool b, .slice a l c, .slice a' l' c'], .bool false]) NP := by
  obtain ⟨a, c, xs, a', c', ys, rfl, ha, ha', hn, hd, hsx, hsy⟩ := hv
  unfold lg at hl
  refine Spec.enter (args := [_]) (n := 33) Tryz.func106 rfl (by kernel_rfl) rfl (by simp) [.cell 2 117, .tmp 3] rfl (fun C _ => ?_)
  repeat (first | (refine wo rfl (fun k hk => ?_); simp (disch := omega) only [go_sem, Nat.reduceBEq, Nat.reduceAdd]; apply hk; clear hk k) | refine wkt rfl ?_ | refine wk0 ?_ | refine rg rfl rfl (fun K hK => ?_) | refine rd [.o 0, .o 1, .o 3, .o 4, .o 2, .o 5, .o 6, .o 7] rfl (by decide +kernel) rfl (fun K hK => ?_) | refine rd [.o 0, .o 1, .o 2, .o 3, .o 4] rfl (by decide +kernel) rfl (fun K hK => ?_) | ((first | refine AWP_exit ?_ | refine AWP_skip ?_); simp (disch := decide) only [qs, qb, if_true, if_false, reduceIte]) | refine AWP_sq rfl (fun K hK => ?_) | refine ct rfl ?_ | ((try simp (disch := omega) only [go_sem, Nat.reduceBEq, Nat.reduceAdd]); (first | apply hK | (clear hK; apply hK) | (clear hK; clear hK; apply hK)); clear hK; (try clear K); (try dsimp only [behind, qs, qb])))
  refine cN rfl rfl rfl rfl (by exact Of_N ha) ?_; rintro v1 h1 _ hv1; obtain ⟨v1, v1_l, v1_c, rfl, hv1⟩ := hv1.sl; (repeat (first | (refine wo rfl (fun k hk => ?_); simp (disch := omega) only [go_sem, Nat.reduceBEq, Nat.reduceAdd]; apply hk; clear hk k) | refine wkt rfl ?_)); (try refine wk0 ?_)
  refine cN rfl rfl rfl rfl (by exact Of_N ha') ?_; rintro v2 h2 _ hv2; obtain ⟨v2, v2_l, v2_c, rfl, hv2⟩ := hv2.sl; (repeat (first | (refine wo rfl (fun k hk => ?_); simp (disch := omega) only [go_sem, Nat.reduceBEq, Nat.reduceAdd]; apply hk; clear hk k) | refine wkt rfl ?_)); (try refine wk0 ?_)
  (try (simp (disch := omega) only [go_sem, Nat.reduceBEq, Nat.reduceAdd])); apply hK; clear hK; (try clear K); (try dsimp only [behind, qs])
  rw [hn] at hv1
  rw [hd] at hv2
  have l1 := hv1.len
  have l2 := hv2.len
  by_cases e1 : v1_l ≤ 256
  · by_cases e2 : v2_l ≤ 256
    · repeat (first | ((first | refine rg rfl rfl (fun K hK => ?_) | refine rd [.o 0, .o 1, .o 3, .o 4, .o 2, .o 5, .o 6, .o 7] rfl (by decide +kernel) rfl (fun K hK => ?_) | refine rd [.o 0, .o 1, .o 2, .o 3, .o 4] rfl (by decide +kernel) rfl (fun K hK => ?_)); (repeat (first | (refine wo rfl (fun k hk => ?_); simp (disch := omega) only [go_sem, Nat.reduceBEq, Nat.reduceAdd]; apply hk; clear hk k) | refine wkt rfl ?_)); (try refine wk0 ?_); apply hK; clear hK K; (try dsimp only [behind, qs, qb])) | ((first | refine AWP_exit ?_ | refine AWP_skip ?_); simp (disch := decide) only [qs, qb, if_true, if_false, reduceIte]) | refine AWP_sq rfl (fun K hK => ?_) | refine ct rfl ?_ | ((first | refine hK _ _ ?_ | (clear hK; refine hK _ _ ?_) | (clear hK; clear hK; refine hK _ _ ?_)); clear hK; (try clear K)))
      have rest : ∀ (va : Option Addr) (vl vc : Nat) (h' : PH) (S : AS), Le h1 h' → N32 h' (.slice va vl vc) (dz d) → S.le ⟨[(1, .p 0 0), (2, .p 1 0), (4, .v (.slice v1 v1_l v1_c)), (5, .v (.slice va vl vc))], [[.bool neg, .slice a xs.length c, .slice a' ys.length c'], [.bool false, .slice none 0 0, .slice none 0 0]]⟩ → K S h' := by
        intro va vl vc h' S _ hd' hS
        refine hK _ _ (AWP_le _ hS ?_); clear hK K
        have bz : bl (dz d) ≤ 8193 := by
          unfold dz; split
          · decide
          · omega
        (first | refine rg rfl rfl (fun K hK => ?_) | refine rd [.o 0, .o 1, .o 3, .o 4, .o 2, .o 5, .o 6, .o 7] rfl (by decide +kernel) rfl (fun K hK => ?_) | refine rd [.o 0, .o 1, .o 2, .o 3, .o 4] rfl (by decide +kernel) rfl (fun K hK => ?_)); (repeat (first | (refine wo rfl (fun k hk => ?_); simp (disch := omega) only [go_sem, Nat.reduceBEq, Nat.reduceAdd]; apply hk; clear hk k) | refine wkt rfl ?_)); (try refine wk0 ?_)
        refine cN rfl rfl rfl rfl (by exact Reduce_spec (neg := neg) (hv1.to (h' := h')) hd' (dz_ne d) (by omega) (by omega)) ?_; rintro v3 h3 _ hv3; obtain ⟨v3_0, v3_1, v3_2, v3_3, v3_4, v3_5, v3_6, rfl, hv3⟩ := hv3.sa; (repeat (first | (refine wo rfl (fun k hk => ?_); simp (disch := omega) only [go_sem, Nat.reduceBEq, Nat.reduceAdd]; apply hk; clear hk k) | refine wkt rfl ?_)); (try refine wk0 ?_)
        (try (simp (disch := omega) only [go_sem, Nat.reduceBEq, Nat.reduceAdd])); apply hK; clear hK; (try clear K); (try dsimp only [behind, qs])
        have hsz : ¬ sz (qof neg n d) ≤ 2048 := by omega
        (first | refine rg rfl rfl (fun K hK => ?_) | refine rd [.o 0, .o 1, .o 3, .o 4, .o 2, .o 5, .o 6, .o 7] rfl (by decide +kernel) rfl (fun K hK => ?_) | refine rd [.o 0, .o 1, .o 2, .o 3, .o 4] rfl (by decide +kernel) rfl (fun K hK => ?_)); (repeat (first | (refine wo rfl (fun k hk => ?_); simp (disch := omega) only [go_sem, Nat.reduceBEq, Nat.reduceAdd]; apply hk; clear hk k) | refine wkt rfl ?_)); (try refine wk0 ?_)
        refine cN rfl rfl rfl rfl (by exact Fits_spec (x := qof neg n d) hv3) ?_; rintro v4 h4 s4 rfl; (repeat (first | (refine wo rfl (fun k hk => ?_); simp (disch := omega) only [go_sem, Nat.reduceBEq, Nat.reduceAdd]; apply hk; clear hk k) | refine wkt rfl ?_)); (try refine wk0 ?_)
        (try (simp (disch := omega) only [go_sem, Nat.reduceBEq, Nat.reduceAdd])); apply hK; clear hK; (try clear K); (try dsimp only [behind, qs])
        refine AWP_ret ?_; simp (disch := omega) only [go_sem, Nat.reduceBEq, Nat.reduceAdd]
        refine ⟨v3_0, v3_1, v3_2, v3_3, v3_4, v3_5, v3_6, ?_⟩
        simp [hsz]
      (first | refine rg rfl rfl (fun K hK => ?_) | refine rd [.o 0, .o 1, .o 3, .o 4, .o 2, .o 5, .o 6, .o 7] rfl (by decide +kernel) rfl (fun K hK => ?_) | refine rd [.o 0, .o 1, .o 2, .o 3, .o 4] rfl (by decide +kernel) rfl (fun K hK => ?_)); (repeat (first | (refine wo rfl (fun k hk => ?_); simp (disch := omega) only [go_sem, Nat.reduceBEq, Nat.reduceAdd]; apply hk; clear hk k) | refine wkt rfl ?_)); (try refine wk0 ?_)
      refine cN rfl rfl rfl rfl (by exact Zero_spec hv2) ?_; rintro v3 h3 s3 rfl; (repeat (first | (refine wo rfl (fun k hk => ?_); simp (disch := omega) only [go_sem, Nat.reduceBEq, Nat.reduceAdd]; apply hk; clear hk k) | refine wkt rfl ?_)); (try refine wk0 ?_)
      by_cases hd0 : d = 0
      · (try (simp (disch := omega) only [go_sem, Nat.reduceBEq, Nat.reduceAdd])); apply hK; clear hK; (try clear K); (try dsimp only [behind, qs])
        refine AWP_condT rfl ?_
        (first | refine rg rfl rfl (fun K hK => ?_) | refine rd [.o 0, .o 1, .o 3, .o 4, .o 2, .o 5, .o 6, .o 7] rfl (by decide +kernel) rfl (fun K hK => ?_) | refine rd [.o 0, .o 1, .o 2, .o 3, .o 4] rfl (by decide +kernel) rfl (fun K hK => ?_)); (repeat (first | (refine wo rfl (fun k hk => ?_); simp (disch := omega) only [go_sem, Nat.reduceBEq, Nat.reduceAdd]; apply hk; clear hk k) | refine wkt rfl ?_)); (try refine wk0 ?_)
        refine cN rfl rfl rfl rfl (by exact Small_spec (n := 1) (by decide)) ?_; rintro v4 h4 _ hv4; obtain ⟨v4, v4_l, v4_c, rfl, hv4⟩ := hv4.sl; (repeat (first | (refine wo rfl (fun k hk => ?_); simp (disch := omega) only [go_sem, Nat.reduceBEq, Nat.reduceAdd]; apply hk; clear hk k) | refine wkt rfl ?_)); (try refine wk0 ?_)
        (try (simp (disch := omega) only [go_sem, Nat.reduceBEq, Nat.reduceAdd])); apply hK; clear hK; (try clear K); (try dsimp only [behind, qs])
        refine rest _ _ _ _ _ inferInstance (by unfold dz; rw [if_pos hd0]; exact hv4) ?_
        simp (disch := omega) only [go_sem, Nat.reduceBEq, Nat.reduceAdd]
      · (try (simp (disch := omega) only [go_sem, Nat.reduceBEq, Nat.reduceAdd])); apply hK; clear hK; (try clear K); (try dsimp only [behind, qs])
        refine AWP_condF rfl ?_
        refine AWP_skip ?_; simp only [qs, qb, if_true, if_false, reduceIte]
        refine rest _ _ _ _ _ inferInstance (by unfold dz; rw [if_neg hd0]; exact hv2.to) ?_
        simp (disch := omega) only [go_sem, Nat.reduceBEq, Nat.reduceAdd]
    · repeat (first | (refine wo rfl (fun k hk => ?_); simp (disch := omega) only [go_sem, Nat.reduceBEq, Nat.reduceAdd]; apply hk; clear hk k) | refine wkt rfl ?_ | refine wk0 ?_ | refine rg rfl rfl (fun K hK => ?_) | refine rd [.o 0, .o 1, .o 3, .o 4, .o 2, .o 5, .o 6, .o 7] rfl (by decide +kernel) rfl (fun K hK => ?_) | refine rd [.o 0, .o 1, .o 2, .o 3, .o 4] rfl (by decide +kernel) rfl (fun K hK => ?_) | ((first | refine AWP_exit ?_ | refine AWP_skip ?_); simp (disch := decide) only [qs, qb, if_true, if_false, reduceIte]) | refine AWP_sq rfl (fun K hK => ?_) | refine ct rfl ?_ | ((try simp (disch := omega) only [go_sem, Nat.reduceBEq, Nat.reduceAdd]); (first | apply hK | (clear hK; apply hK) | (clear hK; clear hK; apply hK)); clear hK; (try clear K); (try dsimp only [behind, qs, qb])))
      refine AWP_ret ?_; simp (disch := omega) only [go_sem, Nat.reduceBEq, Nat.reduceAdd]
      exact ⟨_, _, _, _, _, _, _, rfl⟩
  · repeat (first | (refine wo rfl (fun k hk => ?_); simp (disch := omega) only [go_sem, Nat.reduceBEq, Nat.reduceAdd]; apply hk; clear hk k) | refine wkt rfl ?_ | refine wk0 ?_ | refine rg rfl rfl (fun K hK => ?_) | refine rd [.o 0, .o 1, .o 3, .o 4, .o 2, .o 5, .o 6, .o 7] rfl (by decide +kernel) rfl (fun K hK => ?_) | refine rd [.o 0, .o 1, .o 2, .o 3, .o 4] rfl (by decide +kernel) rfl (fun K hK => ?_) | ((first | refine AWP_exit ?_ | refine AWP_skip ?_); simp (disch := decide) only [qs, qb, if_true, if_false, reduceIte]) | refine AWP_sq rfl (fun K hK => ?_) | refine ct rfl ?_ | ((try simp (disch := omega) only [go_sem, Nat.reduceBEq, Nat.reduceAdd]); (first | apply hK | (clear hK; apply hK) | (clear hK; clear hK; apply hK)); clear hK; (try clear K); (try dsimp only [behind, qs, qb])))
    refine AWP_ret ?_; simp (disch := omega) only [go_sem, Nat.reduceBEq, Nat.reduceAdd]
    exact ⟨_, _, _, _, _, _, _, rfl⟩
end Go.Q
namespace Go.Q
open Go.Proofs
set_option maxRecDepth 100000
theorem B16 : 2 ≤ 65536 := by decide
def N16 (h : PH) (v : Value) (n : Nat) : Prop := ∃ a c, v = .slice a (W 65536 n).length c ∧ Arr h a c (W 65536 n)
theorem N16.to {h h' : PH} {v : Value} {n : Nat} (r : N16 h v n) [Le h h'] : N16 h' v n := let ⟨a, c, h1, h2⟩ := r; ⟨a, c, h1, h2.to⟩
theorem N16.zero (h : PH) : N16 h (.slice none 0 0) 0 := ⟨none, 0, by rw [W_zero]; rfl, by rw [W_zero]; exact Arr.nil h⟩
theorem N16.out {h : PH} {v : Value} {n : Nat} (r : N16 h v n) : ∃ a c xs, v = .slice a xs.length c ∧ Arr h a c xs ∧ W 65536 n = xs ∧ val 65536 xs = n ∧ (∀ x ∈ xs, x < 65536) := let ⟨a, c, h1, h2⟩ := r
  ⟨a, c, _, h1, h2, rfl, val_W B16 n, W_lt B16 n⟩
theorem N16.sl {h : PH} {v : Value} {n : Nat} (r : N16 h v n) : ∃ a l c, v = .slice a l c ∧ N16 h (.slice a l c) n := by
  obtain ⟨a, c, h1, h2⟩ := r; exact ⟨a, _, c, h1, a, c, rfl, h2⟩
theorem len16_le_bl (n : Nat) : (W 65536 n).length ≤ bl n :=
  W_length_le (by decide) (Nat.lt_of_lt_of_le (bl_le.1 (Nat.le_refl _)) (Nat.pow_le_pow_left (by decide) _))
theorem arrW16 {h : PH} {a : Option Addr} {c : Nat} {xs : List Nat} (r : Arr h a c xs) (hlt : ∀ x ∈ xs, x < 65536) : Arr h a c (W 65536 (val 65536 xs)) := by
  obtain ⟨k, _, hk⟩ := W_prefix (B := 65536) (by decide) xs hlt
  rw [hk]; exact r.take k
theorem trim_spec {h0 h : PH} [Le h0 h] {a : Option Addr} {c : Nat} {xs : List Nat} (ha : Arr h0 a c xs) (hlt : ∀ x ∈ xs, x < 65536) :
    Spec mach 36 #[.slice a xs.length c] h (fun v _ => v = .slice a (W 65536 (val 65536 xs)).length c) NP := by
  have hs := ha.small
  have hc := ha.cap
  refine Spec.enter (args := [_]) (n := 21) Tryz.func36 rfl (by kernel_rfl) rfl (by simp) [.tmp 2] rfl (fun C _ => ?_)
  repeat (first | (refine wo rfl (fun k hk => ?_); simp (disch := omega) only [go_sem, Nat.reduceBEq, Nat.reduceAdd]; apply hk; clear hk k) | refine wkt rfl ?_ | refine wk0 ?_ | refine rg rfl rfl (fun K hK => ?_) | ((first | refine AWP_exit ?_ | refine AWP_skip ?_); simp (disch := decide) only [qs, qb, if_true, if_false, reduceIte]) | refine AWP_sq rfl (fun K hK => ?_) | refine ct rfl ?_ | ((try simp (disch := omega) only [go_sem, Nat.reduceBEq, Nat.reduceAdd]); (first | apply hK | (clear hK; apply hK) | (clear hK; clear hK; apply hK)); clear hK; (try clear K); (try dsimp only [behind, qs, qb])))
  refine AWP_loop (fun k : Nat => ⟨[(0, .v (.slice a xs.length c)), (3, .v (.int .i64 k))], []⟩) (fun k h' => Le h0 h' ∧ k ≤ xs.length ∧ val 65536 (xs.take k) = val 65536 xs) id xs.length ?_ ⟨inferInstance, Nat.le_refl _, by simp⟩ ?_
  · simp (disch := omega) only [go_sem, Nat.reduceBEq, Nat.reduceAdd]
  · rintro k h1 ⟨hle, hk, hv⟩
    by_cases hk0 : k = 0
    · subst hk0
      repeat (first | (refine wo rfl (fun k hk => ?_); simp (disch := omega) only [go_sem, Nat.reduceBEq, Nat.reduceAdd]; apply hk; clear hk k) | refine wkt rfl ?_ | refine wk0 ?_ | refine rg rfl rfl (fun K hK => ?_) | ((first | refine AWP_exit ?_ | refine AWP_skip ?_); simp (disch := decide) only [qs, qb, if_true, if_false, reduceIte]) | refine AWP_sq rfl (fun K hK => ?_) | refine ct rfl ?_ | ((try simp (disch := omega) only [go_sem, Nat.reduceBEq, Nat.reduceAdd]); (first | apply hK | (clear hK; apply hK) | (clear hK; clear hK; apply hK)); clear hK; (try clear K); (try dsimp only [behind, qs, qb])))
      refine AWP_ret ?_; simp (disch := omega) only [go_sem, Nat.reduceBEq, Nat.reduceAdd]
      rw [W_take (by decide) 0 xs (by omega) hlt hv (.inl rfl)]
      simp
    · obtain ⟨ad, rfl, hat⟩ := ha.get (i := k - 1) (by omega)
      have hat1 := hle.sub.at hat
      by_cases hz : xs.getD (k - 1) 0 = 0
      · repeat (first | (refine rg rfl rfl (fun K hK => ?_); (repeat (first | (refine wo rfl (fun k hk => ?_); simp (disch := omega) only [go_sem, Nat.reduceBEq, Nat.reduceAdd, hat1]; apply hk; clear hk k) | refine wkt rfl ?_)); (try refine wk0 ?_); apply hK; clear hK K; (try dsimp only [behind, qs, qb])) | ((first | refine AWP_exit ?_ | refine AWP_skip ?_); simp (disch := decide) only [qs, qb, if_true, if_false, reduceIte]) | refine AWP_sq rfl (fun K hK => ?_) | refine ct rfl ?_ | ((first | refine hK _ _ ?_ | (clear hK; refine hK _ _ ?_) | (clear hK; clear hK; refine hK _ _ ?_)); clear hK; (try clear K)))
        exact ⟨k - 1, ⟨⟨rfl, rfl, trivial⟩, trivial, rfl⟩, ⟨hle, by omega, by rw [val_take_succ (by omega) hz, show k - 1 + 1 = k by omega]; exact hv⟩, by simp only [id_eq]; omega⟩
      · repeat (first | (refine wo rfl (fun k hk => ?_); simp (disch := omega) only [go_sem, Nat.reduceBEq, Nat.reduceAdd, hat1]; apply hk; clear hk k) | refine wkt rfl ?_ | refine wk0 ?_ | refine rg rfl rfl (fun K hK => ?_) | ((first | refine AWP_exit ?_ | refine AWP_skip ?_); simp (disch := decide) only [qs, qb, if_true, if_false, reduceIte]) | refine AWP_sq rfl (fun K hK => ?_) | refine ct rfl ?_ | ((try simp (disch := omega) only [go_sem, Nat.reduceBEq, Nat.reduceAdd]); (first | apply hK | (clear hK; apply hK) | (clear hK; clear hK; apply hK)); clear hK; (try clear K); (try dsimp only [behind, qs, qb])))
        refine AWP_ret ?_; simp (disch := omega) only [go_sem, Nat.reduceBEq, Nat.reduceAdd]
        rw [W_take (by decide) k xs (by omega) hlt hv (.inr hz)]
        simp; omega
theorem trim_N {h0 h : PH} [Le h0 h] {a : Option Addr} {c L : Nat} {xs : List Nat} (ha : Arr h0 a c xs) (hlt : ∀ x ∈ xs, x < 65536) (hl : xs.length = L) :
    Spec mach 36 #[.slice a L c] h (fun v h' => N16 h' v (val 65536 xs)) NP := by
  subst hl
  exact (trim_spec ha hlt).mono (fun v h' hs hv => ⟨a, c, hv, (arrW16 ha hlt).to (l := ⟨(Le.sub (a := h0) (b := h)).trans hs⟩)⟩) (fun _ _ _ h => h)
theorem NatCmp_spec {h0 h : PH} [Le h0 h] {v w : Value} {m n : Nat} (hv : N16 h0 v m) (hw : N16 h0 w n) : Spec mach 34 #[v, w] h (fun v _ => v = .int .i64 (cmp3 m n)) NP := by
  obtain ⟨a, c, xs, rfl, ha, hxs, hm, hx16⟩ := hv.out
  obtain ⟨a', c', ys, rfl, ha', hys, hn, hy16⟩ := hw.out
  have hs := ha.small
  have hc := ha.cap
  have hs' := ha'.small
  have hc' := ha'.cap
  refine Spec.enter (args := [_, _]) (n := 41) Tryz.func34 rfl (by kernel_rfl) rfl (by simp) [.tmp 4] rfl (fun C _ => ?_)
  by_cases hl : xs.length = ys.length
  · repeat (first | (refine wo rfl (fun k hk => ?_); simp (disch := omega) only [go_sem, Nat.reduceBEq, Nat.reduceAdd]; apply hk; clear hk k) | refine wkt rfl ?_ | refine wk0 ?_ | refine rg rfl rfl (fun K hK => ?_) | refine rd [.o 0, .o 1, .o 2, .o 3, .o 4, .o 5, .o 6, .o 7, .o 8] rfl (by decide +kernel) rfl (fun K hK => ?_) | ((first | refine AWP_exit ?_ | refine AWP_skip ?_); simp (disch := decide) only [qs, qb, if_true, if_false, reduceIte]) | refine AWP_sq rfl (fun K hK => ?_) | refine ct rfl ?_ | ((try simp (disch := omega) only [go_sem, Nat.reduceBEq, Nat.reduceAdd]); (first | apply hK | (clear hK; apply hK) | (clear hK; clear hK; apply hK)); clear hK; (try clear K); (try dsimp only [behind, qs, qb])))
    refine AWP_loop (fun k : Nat => ⟨[(0, .v (.slice a xs.length c)), (1, .v (.slice a' ys.length c')), (5, .v (.int .i64 ((k : Int) - 1)))], []⟩) (fun k h' => Le h0 h' ∧ k ≤ xs.length ∧ xs.drop k = ys.drop k) id xs.length ?_ ⟨inferInstance, Nat.le_refl _, by simp [hl]⟩ ?_
    · simp (disch := omega) only [go_sem, Nat.reduceBEq, Nat.reduceAdd]
    · rintro k h1 ⟨hle, hk, hd⟩
      by_cases hk0 : k = 0
      · subst hk0
        repeat (first | (refine wo rfl (fun k hk => ?_); simp (disch := omega) only [go_sem, Nat.reduceBEq, Nat.reduceAdd]; apply hk; clear hk k) | refine wkt rfl ?_ | refine wk0 ?_ | refine rg rfl rfl (fun K hK => ?_) | refine rd [.o 0, .o 1, .o 2, .o 3, .o 4, .o 5, .o 6, .o 7, .o 8] rfl (by decide +kernel) rfl (fun K hK => ?_) | ((first | refine AWP_exit ?_ | refine AWP_skip ?_); simp (disch := decide) only [qs, qb, if_true, if_false, reduceIte]) | refine AWP_sq rfl (fun K hK => ?_) | refine ct rfl ?_ | ((try simp (disch := omega) only [go_sem, Nat.reduceBEq, Nat.reduceAdd]); (first | apply hK | (clear hK; apply hK) | (clear hK; clear hK; apply hK)); clear hK; (try clear K); (try dsimp only [behind, qs, qb])))
        refine AWP_ret ?_; simp (disch := omega) only [go_sem, Nat.reduceBEq, Nat.reduceAdd]
        have : m = n := by rw [← hm, ← hn, show xs = ys by simpa using hd]
        simp [cmp3, this]
      · obtain ⟨k, rfl⟩ : ∃ j, k = j + 1 := ⟨k - 1, by omega⟩
        obtain ⟨ad, rfl, hat⟩ := ha.rd h1 (i := k) (by omega)
        obtain ⟨ad', rfl, hat'⟩ := ha'.rd h1 (i := k) (by omega)
        by_cases hx : xs.getD k 0 < ys.getD k 0
        · repeat (first | (refine wo rfl (fun k hk => ?_); simp (disch := omega) only [go_sem, Nat.reduceBEq, Nat.reduceAdd, hat, hat']; apply hk; clear hk k) | refine wkt rfl ?_ | refine wk0 ?_ | refine rg rfl rfl (fun K hK => ?_) | refine rd [.o 0, .o 1, .o 2, .o 3, .o 4, .o 5, .o 6, .o 7, .o 8] rfl (by decide +kernel) rfl (fun K hK => ?_) | ((first | refine AWP_exit ?_ | refine AWP_skip ?_); simp (disch := decide) only [qs, qb, if_true, if_false, reduceIte]) | refine AWP_sq rfl (fun K hK => ?_) | refine ct rfl ?_ | ((try simp (disch := omega) only [go_sem, Nat.reduceBEq, Nat.reduceAdd]); (first | apply hK | (clear hK; apply hK) | (clear hK; clear hK; apply hK)); clear hK; (try clear K); (try dsimp only [behind, qs, qb])))
          refine AWP_ret ?_; simp (disch := omega) only [go_sem, Nat.reduceBEq, Nat.reduceAdd]
          have : m < n := by rw [← hm, ← hn]; exact val_lt_of B16 hx16 hl (by omega) hd hx
          simp [cmp3, this]
        · by_cases hy : ys.getD k 0 < xs.getD k 0
          · repeat (first | (refine wo rfl (fun k hk => ?_); simp (disch := omega) only [go_sem, Nat.reduceBEq, Nat.reduceAdd, hat, hat']; apply hk; clear hk k) | refine wkt rfl ?_ | refine wk0 ?_ | refine rg rfl rfl (fun K hK => ?_) | refine rd [.o 0, .o 1, .o 2, .o 3, .o 4, .o 5, .o 6, .o 7, .o 8] rfl (by decide +kernel) rfl (fun K hK => ?_) | ((first | refine AWP_exit ?_ | refine AWP_skip ?_); simp (disch := decide) only [qs, qb, if_true, if_false, reduceIte]) | refine AWP_sq rfl (fun K hK => ?_) | refine ct rfl ?_ | ((try simp (disch := omega) only [go_sem, Nat.reduceBEq, Nat.reduceAdd]); (first | apply hK | (clear hK; apply hK) | (clear hK; clear hK; apply hK)); clear hK; (try clear K); (try dsimp only [behind, qs, qb])))
            refine AWP_ret ?_; simp (disch := omega) only [go_sem, Nat.reduceBEq, Nat.reduceAdd]
            have : n < m := by rw [← hm, ← hn]; exact val_lt_of B16 hy16 hl.symm (by omega) hd.symm hy
            simp [cmp3, this, Nat.not_lt.2 (Nat.le_of_lt this)]
          · repeat (first | (refine wo rfl (fun k hk => ?_); simp (disch := omega) only [go_sem, Nat.reduceBEq, Nat.reduceAdd, hat, hat']; apply hk; clear hk k) | refine wkt rfl ?_ | refine wk0 ?_ | refine rg rfl rfl (fun K hK => ?_) | refine rd [.o 0, .o 1, .o 2, .o 3, .o 4, .o 5, .o 6, .o 7, .o 8] rfl (by decide +kernel) rfl (fun K hK => ?_) | ((first | refine AWP_exit ?_ | refine AWP_skip ?_); simp (disch := decide) only [qs, qb, if_true, if_false, reduceIte]) | refine AWP_sq rfl (fun K hK => ?_) | refine ct rfl ?_ | ((try simp (disch := omega) only [go_sem, Nat.reduceBEq, Nat.reduceAdd]); (first | apply hK | (clear hK; apply hK) | (clear hK; clear hK; apply hK)); clear hK; (try clear K); (try dsimp only [behind, qs, qb])))
            refine ⟨k, ?_, ⟨hle, by omega, ?_⟩, by simp⟩
            · simp (disch := omega) only [go_sem, Nat.reduceBEq, Nat.reduceAdd]
            · rw [List.drop_eq_getElem_cons (by omega), List.drop_eq_getElem_cons (i := k) (by omega : k < ys.length), hd]
              congr 1
              have h1 : k < xs.length := by omega
              have h2 : k < ys.length := by omega
              simp only [List.getD_eq_getElem?_getD, List.getElem?_eq_getElem h1, List.getElem?_eq_getElem h2, Option.getD_some] at hx hy
              omega
  · by_cases hl' : xs.length < ys.length
    · repeat (first | (refine wo rfl (fun k hk => ?_); simp (disch := omega) only [go_sem, Nat.reduceBEq, Nat.reduceAdd]; apply hk; clear hk k) | refine wkt rfl ?_ | refine wk0 ?_ | refine rg rfl rfl (fun K hK => ?_) | refine rd [.o 0, .o 1, .o 2, .o 3, .o 4, .o 5, .o 6, .o 7, .o 8] rfl (by decide +kernel) rfl (fun K hK => ?_) | ((first | refine AWP_exit ?_ | refine AWP_skip ?_); simp (disch := decide) only [qs, qb, if_true, if_false, reduceIte]) | refine AWP_sq rfl (fun K hK => ?_) | refine ct rfl ?_ | ((try simp (disch := omega) only [go_sem, Nat.reduceBEq, Nat.reduceAdd]); (first | apply hK | (clear hK; apply hK) | (clear hK; clear hK; apply hK)); clear hK; (try clear K); (try dsimp only [behind, qs, qb])))
      refine AWP_ret ?_; simp (disch := omega) only [go_sem, Nat.reduceBEq, Nat.reduceAdd]
      have : m < n := W_len_lt B16 (by rw [hxs, hys]; exact hl')
      simp [cmp3, this]
    · repeat (first | (refine wo rfl (fun k hk => ?_); simp (disch := omega) only [go_sem, Nat.reduceBEq, Nat.reduceAdd]; apply hk; clear hk k) | refine wkt rfl ?_ | refine wk0 ?_ | refine rg rfl rfl (fun K hK => ?_) | refine rd [.o 0, .o 1, .o 2, .o 3, .o 4, .o 5, .o 6, .o 7, .o 8] rfl (by decide +kernel) rfl (fun K hK => ?_) | ((first | refine AWP_exit ?_ | refine AWP_skip ?_); simp (disch := decide) only [qs, qb, if_true, if_false, reduceIte]) | refine AWP_sq rfl (fun K hK => ?_) | refine ct rfl ?_ | ((try simp (disch := omega) only [go_sem, Nat.reduceBEq, Nat.reduceAdd]); (first | apply hK | (clear hK; apply hK) | (clear hK; clear hK; apply hK)); clear hK; (try clear K); (try dsimp only [behind, qs, qb])))
      refine AWP_ret ?_; simp (disch := omega) only [go_sem, Nat.reduceBEq, Nat.reduceAdd]
      have : n < m := W_len_lt B16 (by rw [hxs, hys]; omega)
      simp [cmp3, this, Nat.not_lt.2 (Nat.le_of_lt this)]
end Go.Q
