/-
  Contracts of the reference's rational numbers: sizes, signs, sums, order. Conditions: the values are rational numbers (Rw, Qr), of at most 2^34 binary digits.
  Contracts of the reference's rational numbers: grids, quotients. Conditions: the values are rational numbers (Qr), of at most 2^30 binary digits.
  Contracts of the reference's rational numbers: rounding to grids, quotients, results. Conditions: the values are rational numbers (Qr), of at most 2^30 binary digits.
-/
import Derived.Test.YtdmecaojlbkclaaGreatDoorRaBunK
set_option linter.unusedVariables false
set_option linter.unusedSimpArgs false
namespace Go.Q
open Go.Proofs
set_option maxRecDepth 100000
set_option maxHeartbeats 4000000
theorem W16_len_bl {n k : Nat} : (W 65536 n).length ≤ k ↔ bl n ≤ 16 * k := by
  rw [bl_le, B16_pow]
  refine ⟨fun h => ?_, fun h => W_length_le (by decide) h⟩
  exact Nat.lt_of_lt_of_le (lt_W_length (by decide) n) (Nat.pow_le_pow_right (by decide) h)
theorem N16.len {h : PH} {a : Option Addr} {l c n k : Nat} (r : N16 h (.slice a l c) n) : l ≤ k ↔ bl n ≤ 16 * k := by
  obtain ⟨a', c', h1, _⟩ := r
  cases h1
  exact W16_len_bl
theorem bl_e {e d : Nat} (he : dz e = d) : (bl e ≤ 2048 ↔ bl d ≤ 2048) ∧ bl e ≤ bl d := by
  unfold dz at he
  split at he
  · subst he; rename_i h; subst h; decide
  · subst he; exact ⟨Iff.rfl, Nat.le_refl _⟩
theorem Over_spec {h0 h : PH} [Le h0 h] {v : Value} {x : Rat} (hx : Qr h0 v x) : Spec mach 85 #[v] h (fun v _ => v = .bool (decide (2048 < sz x))) NP := by
  obtain ⟨na, nl, nc, da, dl, dc, e, rfl, hn, hd, he⟩ := hx.sl
  have l1 := hn.len (k := 128)
  have l2 := hd.len (k := 128)
  have he' := bl_e he
  have hsz : sz x = max (bl x.num.natAbs) (bl x.den) := rfl
  refine Spec.enter (args := [_]) (n := 13) Tryz.func85 rfl (by kernel_rfl) rfl (by simp) [.tmp 2] rfl (fun C _ => ?_)
  by_cases h1 : nl ≤ 128
  · by_cases h2 : dl ≤ 128
    · have e1 : ¬ 2048 < sz x := by omega
      repeat (first | (refine wo rfl (fun k hk => ?_); simp (disch := omega) only [go_sem, Nat.reduceBEq, Nat.reduceAdd]; refine hk _ _ ?_; clear hk k) | refine wkt rfl ?_ | refine wk0 ?_ | refine rg rfl rfl (fun K hK => ?_) | ((first | refine AWP_exit ?_ | refine AWP_skip ?_); simp (disch := decide) only [qs, qb, if_true, if_false, reduceIte]) | refine AWP_sq rfl (fun K hK => ?_) | refine ct rfl ?_ | ((try simp (disch := omega) only [go_sem, Nat.reduceBEq, Nat.reduceAdd]); (first | apply hK | (clear hK; apply hK) | (clear hK; clear hK; apply hK)); clear hK; (try clear K); (try dsimp only [behind, qs, qb])))
      refine AWP_ret ?_; simp (disch := omega) only [go_sem, Nat.reduceBEq, Nat.reduceAdd]
      all_goals simp [e1]
    · have e1 : 2048 < sz x := by omega
      repeat (first | (refine wo rfl (fun k hk => ?_); simp (disch := omega) only [go_sem, Nat.reduceBEq, Nat.reduceAdd]; refine hk _ _ ?_; clear hk k) | refine wkt rfl ?_ | refine wk0 ?_ | refine rg rfl rfl (fun K hK => ?_) | ((first | refine AWP_exit ?_ | refine AWP_skip ?_); simp (disch := decide) only [qs, qb, if_true, if_false, reduceIte]) | refine AWP_sq rfl (fun K hK => ?_) | refine ct rfl ?_ | ((try simp (disch := omega) only [go_sem, Nat.reduceBEq, Nat.reduceAdd]); (first | apply hK | (clear hK; apply hK) | (clear hK; clear hK; apply hK)); clear hK; (try clear K); (try dsimp only [behind, qs, qb])))
      refine AWP_ret ?_; simp (disch := omega) only [go_sem, Nat.reduceBEq, Nat.reduceAdd]
      all_goals simp [e1]
  · have e1 : 2048 < sz x := by omega
    repeat (first | (refine wo rfl (fun k hk => ?_); simp (disch := omega) only [go_sem, Nat.reduceBEq, Nat.reduceAdd]; refine hk _ _ ?_; clear hk k) | refine wkt rfl ?_ | refine wk0 ?_ | refine rg rfl rfl (fun K hK => ?_) | ((first | refine AWP_exit ?_ | refine AWP_skip ?_); simp (disch := decide) only [qs, qb, if_true, if_false, reduceIte]) | refine AWP_sq rfl (fun K hK => ?_) | refine ct rfl ?_ | ((try simp (disch := omega) only [go_sem, Nat.reduceBEq, Nat.reduceAdd]); (first | apply hK | (clear hK; apply hK) | (clear hK; clear hK; apply hK)); clear hK; (try clear K); (try dsimp only [behind, qs, qb])))
    refine AWP_ret ?_; simp (disch := omega) only [go_sem, Nat.reduceBEq, Nat.reduceAdd]
    all_goals simp [e1]
theorem Large_spec {h0 h : PH} [Le h0 h] {v : Value} {neg : Bool} {n d : Nat} (hv : Rw h0 v neg n d) : Spec mach 122 #[v] h (fun r _ => r = .bool (decide (lg neg n d))) NP := by
  have hv0 := hv
  obtain ⟨a, c, xs, a', c', ys, rfl, ha, ha', hn, hd, hsx, hsy⟩ := hv
  refine Spec.enter (args := [_]) (n := 18) Tryz.func122 rfl (by kernel_rfl) rfl (by simp) [.tmp 2] rfl (fun C _ => ?_)
  by_cases hb1 : bl n ≤ 8192
  · by_cases hb2 : bl d ≤ 8192
    · repeat (first | (refine wo rfl (fun k hk => ?_); simp (disch := omega) only [go_sem, Nat.reduceBEq, Nat.reduceAdd]; refine hk _ _ ?_; clear hk k) | refine wkt rfl ?_ | refine wk0 ?_ | refine rg rfl rfl (fun K hK => ?_) | ((first | refine AWP_exit ?_ | refine AWP_skip ?_); simp (disch := decide) only [qs, qb, if_true, if_false, reduceIte]) | refine AWP_sq rfl (fun K hK => ?_) | refine ct rfl ?_ | ((try simp (disch := omega) only [go_sem, Nat.reduceBEq, Nat.reduceAdd]); (first | apply hK | (clear hK; apply hK) | (clear hK; clear hK; apply hK)); clear hK; (try clear K); (try dsimp only [behind, qs, qb])))
      refine cN rfl rfl rfl rfl (by exact words_N ha rfl (by omega) hn) ?_; rintro v1 h1 s1 hv1; obtain ⟨va1, vl1, vc1, rfl, hv1⟩ := hv1.sl; have e1 : vl1 ≤ 512 := (hv1.len (k := 512)).2 (by omega); (repeat (first | (refine wo rfl (fun k hk => ?_); simp (disch := omega) only [go_sem, Nat.reduceBEq, Nat.reduceAdd]; refine hk _ _ ?_; clear hk k) | refine wkt rfl ?_)); (try refine wk0 ?_)
      refine cN rfl rfl rfl rfl (by exact words_N ha' rfl (by omega) hd) ?_; rintro v2 h2 s2 hv2; obtain ⟨va2, vl2, vc2, rfl, hv2⟩ := hv2.sl; have e2 : vl2 ≤ 512 := (hv2.len (k := 512)).2 (by omega)
      repeat (first | (refine wo rfl (fun k hk => ?_); simp (disch := omega) only [go_sem, Nat.reduceBEq, Nat.reduceAdd]; refine hk _ _ ?_; clear hk k) | refine wkt rfl ?_ | refine wk0 ?_ | refine rg rfl rfl (fun K hK => ?_) | ((first | refine AWP_exit ?_ | refine AWP_skip ?_); simp (disch := decide) only [qs, qb, if_true, if_false, reduceIte]) | refine AWP_sq rfl (fun K hK => ?_) | refine ct rfl ?_ | ((try simp (disch := omega) only [go_sem, Nat.reduceBEq, Nat.reduceAdd]); (first | apply hK | (clear hK; apply hK) | (clear hK; clear hK; apply hK)); clear hK; (try clear K); (try dsimp only [behind, qs, qb])))
      refine cN rfl rfl rfl rfl (by exact QOf_spec hv0) ?_; rintro v3 h3 _ hv3; obtain ⟨v3_0, v3_1, v3_2, v3_3, v3_4, v3_5, v3_6, rfl, hv3⟩ := hv3.sa; (repeat (first | (refine wo rfl (fun k hk => ?_); simp (disch := omega) only [go_sem, Nat.reduceBEq, Nat.reduceAdd]; refine hk _ _ ?_; clear hk k) | refine wkt rfl ?_)); (try refine wk0 ?_)
      refine cN rfl rfl rfl rfl (by exact Over_spec hv3) ?_; rintro v4 h4 s4 rfl; (repeat (first | (refine wo rfl (fun k hk => ?_); simp (disch := omega) only [go_sem, Nat.reduceBEq, Nat.reduceAdd]; refine hk _ _ ?_; clear hk k) | refine wkt rfl ?_)); (try refine wk0 ?_)
      (try (simp (disch := omega) only [go_sem, Nat.reduceBEq, Nat.reduceAdd])); refine hK _ _ ?_; clear hK; (try clear K); (try dsimp only [behind, qs])
      refine AWP_ret ?_; simp (disch := omega) only [go_sem, Nat.reduceBEq, Nat.reduceAdd]
      have : lg neg n d ↔ 2048 < sz (qof neg n d) := by unfold lg; omega
      simp [this]
    · have e3 : lg neg n d := by unfold lg; omega
      repeat (first | (refine wo rfl (fun k hk => ?_); simp (disch := omega) only [go_sem, Nat.reduceBEq, Nat.reduceAdd]; refine hk _ _ ?_; clear hk k) | refine wkt rfl ?_ | refine wk0 ?_ | refine rg rfl rfl (fun K hK => ?_) | ((first | refine AWP_exit ?_ | refine AWP_skip ?_); simp (disch := decide) only [qs, qb, if_true, if_false, reduceIte]) | refine AWP_sq rfl (fun K hK => ?_) | refine ct rfl ?_ | ((try simp (disch := omega) only [go_sem, Nat.reduceBEq, Nat.reduceAdd]); (first | apply hK | (clear hK; apply hK) | (clear hK; clear hK; apply hK)); clear hK; (try clear K); (try dsimp only [behind, qs, qb])))
      refine cN rfl rfl rfl rfl (by exact words_N ha rfl (by omega) hn) ?_; rintro v1 h1 s1 hv1; obtain ⟨va1, vl1, vc1, rfl, hv1⟩ := hv1.sl; have e1 : vl1 ≤ 512 := (hv1.len (k := 512)).2 (by omega); (repeat (first | (refine wo rfl (fun k hk => ?_); simp (disch := omega) only [go_sem, Nat.reduceBEq, Nat.reduceAdd]; refine hk _ _ ?_; clear hk k) | refine wkt rfl ?_)); (try refine wk0 ?_)
      refine cN rfl rfl rfl rfl (by exact words_N ha' rfl (by omega) hd) ?_; rintro v2 h2 s2 hv2; obtain ⟨va2, vl2, vc2, rfl, hv2⟩ := hv2.sl; have e2 : ¬ vl2 ≤ 512 := fun e => absurd ((hv2.len (k := 512)).1 e) (by omega)
      repeat (first | (refine wo rfl (fun k hk => ?_); simp (disch := omega) only [go_sem, Nat.reduceBEq, Nat.reduceAdd]; refine hk _ _ ?_; clear hk k) | refine wkt rfl ?_ | refine wk0 ?_ | refine rg rfl rfl (fun K hK => ?_) | ((first | refine AWP_exit ?_ | refine AWP_skip ?_); simp (disch := decide) only [qs, qb, if_true, if_false, reduceIte]) | refine AWP_sq rfl (fun K hK => ?_) | refine ct rfl ?_ | ((try simp (disch := omega) only [go_sem, Nat.reduceBEq, Nat.reduceAdd]); (first | apply hK | (clear hK; apply hK) | (clear hK; clear hK; apply hK)); clear hK; (try clear K); (try dsimp only [behind, qs, qb])))
      refine AWP_ret ?_; simp (disch := omega) only [go_sem, Nat.reduceBEq, Nat.reduceAdd]
      all_goals simp [e3]
  · have e3 : lg neg n d := by unfold lg; omega
    repeat (first | (refine wo rfl (fun k hk => ?_); simp (disch := omega) only [go_sem, Nat.reduceBEq, Nat.reduceAdd]; refine hk _ _ ?_; clear hk k) | refine wkt rfl ?_ | refine wk0 ?_ | refine rg rfl rfl (fun K hK => ?_) | ((first | refine AWP_exit ?_ | refine AWP_skip ?_); simp (disch := decide) only [qs, qb, if_true, if_false, reduceIte]) | refine AWP_sq rfl (fun K hK => ?_) | refine ct rfl ?_ | ((try simp (disch := omega) only [go_sem, Nat.reduceBEq, Nat.reduceAdd]); (first | apply hK | (clear hK; apply hK) | (clear hK; clear hK; apply hK)); clear hK; (try clear K); (try dsimp only [behind, qs, qb])))
    refine cN rfl rfl rfl rfl (by exact words_N ha rfl (by omega) hn) ?_; rintro v1 h1 s1 hv1; obtain ⟨va1, vl1, vc1, rfl, hv1⟩ := hv1.sl; have e1 : ¬ vl1 ≤ 512 := fun e => absurd ((hv1.len (k := 512)).1 e) (by omega)
    repeat (first | (refine wo rfl (fun k hk => ?_); simp (disch := omega) only [go_sem, Nat.reduceBEq, Nat.reduceAdd]; refine hk _ _ ?_; clear hk k) | refine wkt rfl ?_ | refine wk0 ?_ | refine rg rfl rfl (fun K hK => ?_) | ((first | refine AWP_exit ?_ | refine AWP_skip ?_); simp (disch := decide) only [qs, qb, if_true, if_false, reduceIte]) | refine AWP_sq rfl (fun K hK => ?_) | refine ct rfl ?_ | ((try simp (disch := omega) only [go_sem, Nat.reduceBEq, Nat.reduceAdd]); (first | apply hK | (clear hK; apply hK) | (clear hK; clear hK; apply hK)); clear hK; (try clear K); (try dsimp only [behind, qs, qb])))
    refine AWP_ret ?_; simp (disch := omega) only [go_sem, Nat.reduceBEq, Nat.reduceAdd]
    all_goals simp [e3]
theorem Sgn_spec {h0 h : PH} [Le h0 h] {v : Value} {x : Rat} (hx : Qr h0 v x) : Spec mach 31 #[v] h (fun v _ => v = .int .i64 (sgn3 x)) NP := by
  obtain ⟨na, nl, nc, da, dl, dc, e, rfl, hn, hd, he⟩ := hx.sl
  have ln := hn.len0
  refine Spec.enter (args := [_]) (n := 9) Tryz.func31 rfl (by kernel_rfl) rfl (by simp) [.tmp 2] rfl (fun C _ => ?_)
  by_cases h0 : x.num = 0
  · have e1 : x = 0 := Rat.num_eq_zero.1 h0
    repeat (first | (refine wo rfl (fun k hk => ?_); simp (disch := omega) only [go_sem, Nat.reduceBEq, Nat.reduceAdd]; refine hk _ _ ?_; clear hk k) | refine wkt rfl ?_ | refine wk0 ?_ | refine rg rfl rfl (fun K hK => ?_) | ((first | refine AWP_exit ?_ | refine AWP_skip ?_); simp (disch := decide) only [qs, qb, if_true, if_false, reduceIte]) | refine AWP_sq rfl (fun K hK => ?_) | refine ct rfl ?_ | ((try simp (disch := omega) only [go_sem, Nat.reduceBEq, Nat.reduceAdd]); (first | apply hK | (clear hK; apply hK) | (clear hK; clear hK; apply hK)); clear hK; (try clear K); (try dsimp only [behind, qs, qb])))
    refine AWP_ret ?_; simp (disch := omega) only [go_sem, Nat.reduceBEq, Nat.reduceAdd]
    subst e1; simp [sgn3]
  · by_cases h1 : x.num < 0
    · have e1 : decide (x.num < 0) = true := decide_eq_true h1
      repeat (first | (refine wo rfl (fun k hk => ?_); simp (disch := omega) only [go_sem, Nat.reduceBEq, Nat.reduceAdd, e1]; refine hk _ _ ?_; clear hk k) | refine wkt rfl ?_ | refine wk0 ?_ | refine rg rfl rfl (fun K hK => ?_) | ((first | refine AWP_exit ?_ | refine AWP_skip ?_); simp (disch := decide) only [qs, qb, if_true, if_false, reduceIte]) | refine AWP_sq rfl (fun K hK => ?_) | refine ct rfl ?_ | ((try simp (disch := omega) only [go_sem, Nat.reduceBEq, Nat.reduceAdd]); (first | apply hK | (clear hK; apply hK) | (clear hK; clear hK; apply hK)); clear hK; (try clear K); (try dsimp only [behind, qs, qb])))
      refine AWP_ret ?_; simp (disch := omega) only [go_sem, Nat.reduceBEq, Nat.reduceAdd]
      rw [sgn3, if_pos (num_neg.1 h1)]
    · have e1 : decide (x.num < 0) = false := decide_eq_false h1
      have e2 : 0 < x.num := by omega
      repeat (first | (refine wo rfl (fun k hk => ?_); simp (disch := omega) only [go_sem, Nat.reduceBEq, Nat.reduceAdd, e1]; refine hk _ _ ?_; clear hk k) | refine wkt rfl ?_ | refine wk0 ?_ | refine rg rfl rfl (fun K hK => ?_) | ((first | refine AWP_exit ?_ | refine AWP_skip ?_); simp (disch := decide) only [qs, qb, if_true, if_false, reduceIte]) | refine AWP_sq rfl (fun K hK => ?_) | refine ct rfl ?_ | ((try simp (disch := omega) only [go_sem, Nat.reduceBEq, Nat.reduceAdd]); (first | apply hK | (clear hK; apply hK) | (clear hK; clear hK; apply hK)); clear hK; (try clear K); (try dsimp only [behind, qs, qb])))
      refine AWP_ret ?_; simp (disch := omega) only [go_sem, Nat.reduceBEq, Nat.reduceAdd]
      rw [sgn3, if_neg (fun h => h1 (num_neg.2 h)), if_pos (num_pos.1 e2)]
theorem Opp_spec {h0 h : PH} [Le h0 h] {v : Value} {x : Rat} (hx : Qr h0 v x) : Spec mach 74 #[v] h (fun v h' => Qr h' v (-x)) NP := by
  obtain ⟨na, nl, nc, da, dl, dc, e, rfl, hn, hd, he⟩ := hx.sl
  have ln := hn.len0
  have hn2 : N16 h0 (.slice na nl nc) (-x).num.natAbs := by simpa using hn
  refine Spec.enter (args := [_]) (n := 17) Tryz.func74 rfl (by kernel_rfl) rfl (by simp) [.cell 2 56] rfl (fun C _ => ?_)
  by_cases h1 : x.num < 0
  · have e1 : decide (x.num < 0) = true := decide_eq_true h1
    have e2 : decide ((-x).num < 0) = false := by rw [Rat.neg_num, decide_eq_false_iff_not]; omega
    repeat (first | (refine wo rfl (fun k hk => ?_); simp (disch := omega) only [go_sem, Nat.reduceBEq, Nat.reduceAdd, e1]; refine hk _ _ ?_; clear hk k) | refine wkt rfl ?_ | refine wk0 ?_ | refine rg rfl rfl (fun K hK => ?_) | ((first | refine AWP_exit ?_ | refine AWP_skip ?_); simp (disch := decide) only [qs, qb, if_true, if_false, reduceIte]) | refine AWP_sq rfl (fun K hK => ?_) | refine ct rfl ?_ | ((try simp (disch := omega) only [go_sem, Nat.reduceBEq, Nat.reduceAdd]); (first | apply hK | (clear hK; apply hK) | (clear hK; clear hK; apply hK)); clear hK; (try clear K); (try dsimp only [behind, qs, qb])))
    refine AWP_ret ?_; simp (disch := omega) only [go_sem, Nat.reduceBEq, Nat.reduceAdd]
    exact ⟨_, _, e, by rw [e2], hn2.to, hd.to, he⟩
  · have e1 : decide (x.num < 0) = false := decide_eq_false h1
    by_cases h0 : x.num = 0
    · have e2 : decide ((-x).num < 0) = false := by rw [Rat.neg_num, decide_eq_false_iff_not]; omega
      repeat (first | (refine wo rfl (fun k hk => ?_); simp (disch := omega) only [go_sem, Nat.reduceBEq, Nat.reduceAdd, e1]; refine hk _ _ ?_; clear hk k) | refine wkt rfl ?_ | refine wk0 ?_ | refine rg rfl rfl (fun K hK => ?_) | ((first | refine AWP_exit ?_ | refine AWP_skip ?_); simp (disch := decide) only [qs, qb, if_true, if_false, reduceIte]) | refine AWP_sq rfl (fun K hK => ?_) | refine ct rfl ?_ | ((try simp (disch := omega) only [go_sem, Nat.reduceBEq, Nat.reduceAdd]); (first | apply hK | (clear hK; apply hK) | (clear hK; clear hK; apply hK)); clear hK; (try clear K); (try dsimp only [behind, qs, qb])))
      refine AWP_ret ?_; simp (disch := omega) only [go_sem, Nat.reduceBEq, Nat.reduceAdd]
      exact ⟨_, _, e, by rw [e2], hn2.to, hd.to, he⟩
    · have e2 : decide ((-x).num < 0) = true := by rw [Rat.neg_num, decide_eq_true_eq]; omega
      have e3 : 0 < nl := by omega
      repeat (first | (refine wo rfl (fun k hk => ?_); simp (disch := omega) only [go_sem, Nat.reduceBEq, Nat.reduceAdd, e1]; refine hk _ _ ?_; clear hk k) | refine wkt rfl ?_ | refine wk0 ?_ | refine rg rfl rfl (fun K hK => ?_) | ((first | refine AWP_exit ?_ | refine AWP_skip ?_); simp (disch := decide) only [qs, qb, if_true, if_false, reduceIte]) | refine AWP_sq rfl (fun K hK => ?_) | refine ct rfl ?_ | ((try simp (disch := omega) only [go_sem, Nat.reduceBEq, Nat.reduceAdd]); (first | apply hK | (clear hK; apply hK) | (clear hK; clear hK; apply hK)); clear hK; (try clear K); (try dsimp only [behind, qs, qb])))
      refine AWP_ret ?_; simp (disch := omega) only [go_sem, Nat.reduceBEq, Nat.reduceAdd]
      exact ⟨_, _, e, by rw [e2], hn2.to, hd.to, he⟩
theorem Sum_spec {h0 h : PH} [Le h0 h] {v w : Value} {x y : Rat} (hx : Qr h0 v x) (hy : Qr h0 w y) (bx : sz x ≤ 2 ^ 35) (by_ : sz y ≤ 2 ^ 35) :
    Spec mach 84 #[v, w] h (fun v h' => Qr h' v (x + y)) NP := by
  have hx0 := hx
  have hy0 := hy
  obtain ⟨na, nl, nc, da, dl, dc, e, rfl, hn, hd, he⟩ := hx.sl
  obtain ⟨na', nl', nc', da', dl', dc', e', rfl, hn', hd', he'⟩ := hy.sl
  have b1 := sz_num x; have b2 := sz_den x; have b3 := sz_num y; have b4 := sz_den y
  have b5 := bl_mul x.num.natAbs y.den
  have b6 := bl_mul y.num.natAbs x.den
  have b7 := bl_mul x.den y.den
  have b8 := bl_add (x.num.natAbs * y.den) (y.num.natAbs * x.den)
  have b9 := bl_mono (Nat.sub_le (x.num.natAbs * y.den) (y.num.natAbs * x.den))
  have b10 := bl_mono (Nat.sub_le (y.num.natAbs * x.den) (x.num.natAbs * y.den))
  obtain ⟨n1, en1⟩ : ∃ b, decide (x.num < 0) = b := ⟨_, rfl⟩
  obtain ⟨n2, en2⟩ : ∃ b, decide (y.num < 0) = b := ⟨_, rfl⟩
  rw [en1] at hx0 ⊢
  rw [en2] at hy0 ⊢
  refine Spec.enter (args := [_, _]) (n := 53) Tryz.func84 rfl (by kernel_rfl) rfl (by simp) [.cell 4 56] rfl (fun C _ => ?_)
  repeat (first | (refine wo rfl (fun k hk => ?_); simp (disch := omega) only [go_sem, Nat.reduceBEq, Nat.reduceAdd]; refine hk _ _ ?_; clear hk k) | refine wkt rfl ?_ | refine wk0 ?_ | refine rg rfl rfl (fun K hK => ?_) | refine rd [.o 0, .o 1, .o 2, .o 5, .o 6, .o 7, .o 3, .o 4, .o 8, .o 9, .o 10, .o 11] rfl (by decide +kernel) rfl (fun K hK => ?_) | refine rd [.o 0, .o 2, .o 1, .o 3, .o 4, .o 5] rfl (by decide +kernel) rfl (fun K hK => ?_) | refine rd [.o 0, .o 1, .o 2, .o 3, .o 5, .o 4, .o 6, .o 7] rfl (by decide +kernel) rfl (fun K hK => ?_) | ((first | refine AWP_exit ?_ | refine AWP_skip ?_); simp (disch := decide) only [qs, qb, if_true, if_false, reduceIte]) | refine AWP_sq rfl (fun K hK => ?_) | refine ct rfl ?_ | ((try simp (disch := omega) only [go_sem, Nat.reduceBEq, Nat.reduceAdd]); (first | apply hK | (clear hK; apply hK) | (clear hK; clear hK; apply hK)); clear hK; (try clear K); (try dsimp only [behind, qs, qb])))
  refine cN rfl rfl rfl rfl (by exact den_spec hy0) ?_; rintro d1 g1 _ hd1; obtain ⟨d1, d1_l, d1_c, rfl, hd1⟩ := hd1.sl; (repeat (first | (refine wo rfl (fun k hk => ?_); simp (disch := omega) only [go_sem, Nat.reduceBEq, Nat.reduceAdd]; refine hk _ _ ?_; clear hk k) | refine wkt rfl ?_)); (try refine wk0 ?_)
  refine cN rfl rfl rfl rfl (by exact NatMul_spec (hn.to (h' := g1)) hd1 (by omega) (by omega)) ?_; rintro v1 h1 _ hv1; obtain ⟨v1, v1_l, v1_c, rfl, hv1⟩ := hv1.sl; (repeat (first | (refine wo rfl (fun k hk => ?_); simp (disch := omega) only [go_sem, Nat.reduceBEq, Nat.reduceAdd]; refine hk _ _ ?_; clear hk k) | refine wkt rfl ?_)); (try refine wk0 ?_)
  refine cN rfl rfl rfl rfl (by exact den_spec hx0) ?_; rintro d2 g2 _ hd2; obtain ⟨d2, d2_l, d2_c, rfl, hd2⟩ := hd2.sl; (repeat (first | (refine wo rfl (fun k hk => ?_); simp (disch := omega) only [go_sem, Nat.reduceBEq, Nat.reduceAdd]; refine hk _ _ ?_; clear hk k) | refine wkt rfl ?_)); (try refine wk0 ?_)
  refine cN rfl rfl rfl rfl (by exact NatMul_spec (hn'.to (h' := g2)) hd2 (by omega) (by omega)) ?_; rintro v2 h2 _ hv2; obtain ⟨v2, v2_l, v2_c, rfl, hv2⟩ := hv2.sl; (repeat (first | (refine wo rfl (fun k hk => ?_); simp (disch := omega) only [go_sem, Nat.reduceBEq, Nat.reduceAdd]; refine hk _ _ ?_; clear hk k) | refine wkt rfl ?_)); (try refine wk0 ?_)
  (try (simp (disch := omega) only [go_sem, Nat.reduceBEq, Nat.reduceAdd])); refine hK _ _ ?_; clear hK; (try clear K); (try dsimp only [behind, qs])
  (first | refine rg rfl rfl (fun K hK => ?_) | refine rd [.o 0, .o 1, .o 2, .o 5, .o 6, .o 7, .o 3, .o 4, .o 8, .o 9, .o 10, .o 11] rfl (by decide +kernel) rfl (fun K hK => ?_) | refine rd [.o 0, .o 2, .o 1, .o 3, .o 4, .o 5] rfl (by decide +kernel) rfl (fun K hK => ?_) | refine rd [.o 0, .o 1, .o 2, .o 3, .o 5, .o 4, .o 6, .o 7] rfl (by decide +kernel) rfl (fun K hK => ?_)); (repeat (first | (refine wo rfl (fun k hk => ?_); simp (disch := omega) only [go_sem, Nat.reduceBEq, Nat.reduceAdd]; refine hk _ _ ?_; clear hk k) | refine wkt rfl ?_)); (try refine wk0 ?_)
  refine cN rfl rfl rfl rfl (by exact den_spec hx0) ?_; rintro d3 g3 _ hd3; obtain ⟨d3, d3_l, d3_c, rfl, hd3⟩ := hd3.sl; (repeat (first | (refine wo rfl (fun k hk => ?_); simp (disch := omega) only [go_sem, Nat.reduceBEq, Nat.reduceAdd]; refine hk _ _ ?_; clear hk k) | refine wkt rfl ?_)); (try refine wk0 ?_)
  refine cN rfl rfl rfl rfl (by exact den_spec hy0) ?_; rintro d4 g4 _ hd4; obtain ⟨d4, d4_l, d4_c, rfl, hd4⟩ := hd4.sl; (repeat (first | (refine wo rfl (fun k hk => ?_); simp (disch := omega) only [go_sem, Nat.reduceBEq, Nat.reduceAdd]; refine hk _ _ ?_; clear hk k) | refine wkt rfl ?_)); (try refine wk0 ?_)
  refine cN rfl rfl rfl rfl (by exact NatMul_spec (hd3.to (h' := g4)) hd4 (by omega) (by omega)) ?_; rintro v3 h3 _ hv3; obtain ⟨v3, v3_l, v3_c, rfl, hv3⟩ := hv3.sl; (repeat (first | (refine wo rfl (fun k hk => ?_); simp (disch := omega) only [go_sem, Nat.reduceBEq, Nat.reduceAdd]; refine hk _ _ ?_; clear hk k) | refine wkt rfl ?_)); (try refine wk0 ?_)
  by_cases hee : n1 = n2
  · subst hee
    repeat (first | (refine wo rfl (fun k hk => ?_); simp (disch := omega) only [go_sem, Nat.reduceBEq, Nat.reduceAdd]; refine hk _ _ ?_; clear hk k) | refine wkt rfl ?_ | refine wk0 ?_ | refine rg rfl rfl (fun K hK => ?_) | refine rd [.o 0, .o 1, .o 2, .o 5, .o 6, .o 7, .o 3, .o 4, .o 8, .o 9, .o 10, .o 11] rfl (by decide +kernel) rfl (fun K hK => ?_) | refine rd [.o 0, .o 2, .o 1, .o 3, .o 4, .o 5] rfl (by decide +kernel) rfl (fun K hK => ?_) | refine rd [.o 0, .o 1, .o 2, .o 3, .o 5, .o 4, .o 6, .o 7] rfl (by decide +kernel) rfl (fun K hK => ?_) | ((first | refine AWP_exit ?_ | refine AWP_skip ?_); simp (disch := decide) only [qs, qb, if_true, if_false, reduceIte]) | refine AWP_sq rfl (fun K hK => ?_) | refine ct rfl ?_ | ((try simp (disch := omega) only [go_sem, Nat.reduceBEq, Nat.reduceAdd]); (first | apply hK | (clear hK; apply hK) | (clear hK; clear hK; apply hK)); clear hK; (try clear K); (try dsimp only [behind, qs, qb])))
    refine cN rfl rfl rfl rfl (by exact NatAdd_spec (hv1.to (h' := h2)) hv2 (by omega) (by omega)) ?_; rintro v4 h4 _ hv4; obtain ⟨v4, v4_l, v4_c, rfl, hv4⟩ := hv4.sl; (repeat (first | (refine wo rfl (fun k hk => ?_); simp (disch := omega) only [go_sem, Nat.reduceBEq, Nat.reduceAdd]; refine hk _ _ ?_; clear hk k) | refine wkt rfl ?_)); (try refine wk0 ?_)
    refine cN rfl rfl rfl rfl (by exact Make_spec (hv4.to (h' := h4)) hv3.to (by omega) (by omega)) ?_; rintro v5 h5 _ hv5; obtain ⟨v5_0, v5_1, v5_2, v5_3, v5_4, v5_5, v5_6, rfl, hv5⟩ := hv5.sa; (repeat (first | (refine wo rfl (fun k hk => ?_); simp (disch := omega) only [go_sem, Nat.reduceBEq, Nat.reduceAdd]; refine hk _ _ ?_; clear hk k) | refine wkt rfl ?_)); (try refine wk0 ?_)
    (try (simp (disch := omega) only [go_sem, Nat.reduceBEq, Nat.reduceAdd])); refine hK _ _ ?_; clear hK; (try clear K); (try dsimp only [behind, qs])
    refine AWP_ret ?_; simp (disch := omega) only [go_sem, Nat.reduceBEq, Nat.reduceAdd]
    rw [sgn_same en1 en2] at hv5
    exact hv5
  · have hb : (n1 == n2) = false := by cases n1 <;> cases n2 <;> simp_all
    have hb' : n2 = !n1 := by cases n1 <;> cases n2 <;> simp_all
    repeat (first | (refine wo rfl (fun k hk => ?_); simp (disch := omega) only [go_sem, Nat.reduceBEq, Nat.reduceAdd, hb]; refine hk _ _ ?_; clear hk k) | refine wkt rfl ?_ | refine wk0 ?_ | refine rg rfl rfl (fun K hK => ?_) | refine rd [.o 0, .o 1, .o 2, .o 5, .o 6, .o 7, .o 3, .o 4, .o 8, .o 9, .o 10, .o 11] rfl (by decide +kernel) rfl (fun K hK => ?_) | refine rd [.o 0, .o 2, .o 1, .o 3, .o 4, .o 5] rfl (by decide +kernel) rfl (fun K hK => ?_) | refine rd [.o 0, .o 1, .o 2, .o 3, .o 5, .o 4, .o 6, .o 7] rfl (by decide +kernel) rfl (fun K hK => ?_) | ((first | refine AWP_exit ?_ | refine AWP_skip ?_); simp (disch := decide) only [qs, qb, if_true, if_false, reduceIte]) | refine AWP_sq rfl (fun K hK => ?_) | refine ct rfl ?_ | ((try simp (disch := omega) only [go_sem, Nat.reduceBEq, Nat.reduceAdd]); (first | apply hK | (clear hK; apply hK) | (clear hK; clear hK; apply hK)); clear hK; (try clear K); (try dsimp only [behind, qs, qb])))
    refine cN rfl rfl rfl rfl (by exact NatCmp_spec (hv1.to (h' := h2)) hv2) ?_; rintro v4 h4 s4 rfl; (repeat (first | (refine wo rfl (fun k hk => ?_); simp (disch := omega) only [go_sem, Nat.reduceBEq, Nat.reduceAdd]; refine hk _ _ ?_; clear hk k) | refine wkt rfl ?_)); (try refine wk0 ?_)
    by_cases hle : y.num.natAbs * x.den ≤ x.num.natAbs * y.den
    · have hc : 0 ≤ cmp3 (x.num.natAbs * y.den) (y.num.natAbs * x.den) := by simp only [cmp3, if_neg (Nat.not_lt.2 hle)]; split <;> decide
      repeat (first | (refine wo rfl (fun k hk => ?_); simp (disch := omega) only [go_sem, Nat.reduceBEq, Nat.reduceAdd]; refine hk _ _ ?_; clear hk k) | refine wkt rfl ?_ | refine wk0 ?_ | refine rg rfl rfl (fun K hK => ?_) | refine rd [.o 0, .o 1, .o 2, .o 5, .o 6, .o 7, .o 3, .o 4, .o 8, .o 9, .o 10, .o 11] rfl (by decide +kernel) rfl (fun K hK => ?_) | refine rd [.o 0, .o 2, .o 1, .o 3, .o 4, .o 5] rfl (by decide +kernel) rfl (fun K hK => ?_) | refine rd [.o 0, .o 1, .o 2, .o 3, .o 5, .o 4, .o 6, .o 7] rfl (by decide +kernel) rfl (fun K hK => ?_) | ((first | refine AWP_exit ?_ | refine AWP_skip ?_); simp (disch := decide) only [qs, qb, if_true, if_false, reduceIte]) | refine AWP_sq rfl (fun K hK => ?_) | refine ct rfl ?_ | ((try simp (disch := omega) only [go_sem, Nat.reduceBEq, Nat.reduceAdd]); (first | apply hK | (clear hK; apply hK) | (clear hK; clear hK; apply hK)); clear hK; (try clear K); (try dsimp only [behind, qs, qb])))
      refine cN rfl rfl rfl rfl (by exact NatSub_spec (hv1.to (h' := h2)) hv2 hle (by omega)) ?_; rintro v5 h5 _ hv5; obtain ⟨v5, v5_l, v5_c, rfl, hv5⟩ := hv5.sl; (repeat (first | (refine wo rfl (fun k hk => ?_); simp (disch := omega) only [go_sem, Nat.reduceBEq, Nat.reduceAdd]; refine hk _ _ ?_; clear hk k) | refine wkt rfl ?_)); (try refine wk0 ?_)
      refine cN rfl rfl rfl rfl (by exact Make_spec (hv5.to (h' := h5)) hv3.to (by omega) (by omega)) ?_; rintro v6 h6 _ hv6; obtain ⟨v6_0, v6_1, v6_2, v6_3, v6_4, v6_5, v6_6, rfl, hv6⟩ := hv6.sa; (repeat (first | (refine wo rfl (fun k hk => ?_); simp (disch := omega) only [go_sem, Nat.reduceBEq, Nat.reduceAdd]; refine hk _ _ ?_; clear hk k) | refine wkt rfl ?_)); (try refine wk0 ?_)
      (try (simp (disch := omega) only [go_sem, Nat.reduceBEq, Nat.reduceAdd])); refine hK _ _ ?_; clear hK; (try clear K); (try dsimp only [behind, qs])
      refine AWP_ret ?_; simp (disch := omega) only [go_sem, Nat.reduceBEq, Nat.reduceAdd]
      rw [sgn_diff en1 (by rw [en2, hb']) hle] at hv6
      exact hv6
    · have hc : ¬ 0 ≤ cmp3 (x.num.natAbs * y.den) (y.num.natAbs * x.den) := by simp only [cmp3, if_pos (Nat.not_le.1 hle)]; decide
      repeat (first | (refine wo rfl (fun k hk => ?_); simp (disch := omega) only [go_sem, Nat.reduceBEq, Nat.reduceAdd]; refine hk _ _ ?_; clear hk k) | refine wkt rfl ?_ | refine wk0 ?_ | refine rg rfl rfl (fun K hK => ?_) | refine rd [.o 0, .o 1, .o 2, .o 5, .o 6, .o 7, .o 3, .o 4, .o 8, .o 9, .o 10, .o 11] rfl (by decide +kernel) rfl (fun K hK => ?_) | refine rd [.o 0, .o 2, .o 1, .o 3, .o 4, .o 5] rfl (by decide +kernel) rfl (fun K hK => ?_) | refine rd [.o 0, .o 1, .o 2, .o 3, .o 5, .o 4, .o 6, .o 7] rfl (by decide +kernel) rfl (fun K hK => ?_) | ((first | refine AWP_exit ?_ | refine AWP_skip ?_); simp (disch := decide) only [qs, qb, if_true, if_false, reduceIte]) | refine AWP_sq rfl (fun K hK => ?_) | refine ct rfl ?_ | ((try simp (disch := omega) only [go_sem, Nat.reduceBEq, Nat.reduceAdd]); (first | apply hK | (clear hK; apply hK) | (clear hK; clear hK; apply hK)); clear hK; (try clear K); (try dsimp only [behind, qs, qb])))
      refine cN rfl rfl rfl rfl (by exact NatSub_spec (hv2.to (h' := h2)) (hv1.to (h' := h2)) (Nat.le_of_lt (Nat.not_le.1 hle)) (by omega)) ?_; rintro v5 h5 _ hv5; obtain ⟨v5, v5_l, v5_c, rfl, hv5⟩ := hv5.sl; (repeat (first | (refine wo rfl (fun k hk => ?_); simp (disch := omega) only [go_sem, Nat.reduceBEq, Nat.reduceAdd]; refine hk _ _ ?_; clear hk k) | refine wkt rfl ?_)); (try refine wk0 ?_)
      refine cN rfl rfl rfl rfl (by exact Make_spec (hv5.to (h' := h5)) hv3.to (by omega) (by omega)) ?_; rintro v6 h6 _ hv6; obtain ⟨v6_0, v6_1, v6_2, v6_3, v6_4, v6_5, v6_6, rfl, hv6⟩ := hv6.sa; (repeat (first | (refine wo rfl (fun k hk => ?_); simp (disch := omega) only [go_sem, Nat.reduceBEq, Nat.reduceAdd]; refine hk _ _ ?_; clear hk k) | refine wkt rfl ?_)); (try refine wk0 ?_)
      (try (simp (disch := omega) only [go_sem, Nat.reduceBEq, Nat.reduceAdd])); refine hK _ _ ?_; clear hK; (try clear K); (try dsimp only [behind, qs])
      refine AWP_ret ?_; simp (disch := omega) only [go_sem, Nat.reduceBEq, Nat.reduceAdd]
      rw [Nat.mul_comm x.den, sgn_diff en2 (by rw [en1, hb', Bool.not_not]) (Nat.le_of_lt (Nat.not_le.1 hle)), Rat.add_comm] at hv6
      exact hv6
theorem Diff_spec {h0 h : PH} [Le h0 h] {v w : Value} {x y : Rat} (hx : Qr h0 v x) (hy : Qr h0 w y) (bx : sz x ≤ 2 ^ 35) (by_ : sz y ≤ 2 ^ 35) :
    Spec mach 134 #[v, w] h (fun v h' => Qr h' v (x - y)) NP := by
  obtain ⟨_, _, _, _, _, _, _, rfl, hx⟩ := hx.sa
  obtain ⟨_, _, _, _, _, _, _, rfl, hy⟩ := hy.sa
  refine Spec.enter (args := [_, _]) (n := 9) Tryz.func134 rfl (by kernel_rfl) rfl (by simp) [.cell 4 56] rfl (fun C _ => ?_)
  repeat (first | (refine wo rfl (fun k hk => ?_); simp (disch := omega) only [go_sem, Nat.reduceBEq, Nat.reduceAdd]; refine hk _ _ ?_; clear hk k) | refine wkt rfl ?_ | refine wk0 ?_ | refine rg rfl rfl (fun K hK => ?_) | refine rd [.o 0, .o 1, .o 2, .o 3, .o 4] rfl (by decide +kernel) rfl (fun K hK => ?_) | ((first | refine AWP_exit ?_ | refine AWP_skip ?_); simp (disch := decide) only [qs, qb, if_true, if_false, reduceIte]) | refine AWP_sq rfl (fun K hK => ?_) | refine ct rfl ?_ | ((try simp (disch := omega) only [go_sem, Nat.reduceBEq, Nat.reduceAdd]); (first | apply hK | (clear hK; apply hK) | (clear hK; clear hK; apply hK)); clear hK; (try clear K); (try dsimp only [behind, qs, qb])))
  refine cN rfl rfl rfl rfl (by exact Opp_spec hy) ?_; rintro v1 h1 _ hv1; obtain ⟨v1_0, v1_1, v1_2, v1_3, v1_4, v1_5, v1_6, rfl, hv1⟩ := hv1.sa; (repeat (first | (refine wo rfl (fun k hk => ?_); simp (disch := omega) only [go_sem, Nat.reduceBEq, Nat.reduceAdd]; refine hk _ _ ?_; clear hk k) | refine wkt rfl ?_)); (try refine wk0 ?_)
  refine cN rfl rfl rfl rfl (by exact Sum_spec (hx.to (h' := h1)) hv1 bx (by rw [sz_neg]; exact by_)) ?_; rintro v2 h2 _ hv2; obtain ⟨v2_0, v2_1, v2_2, v2_3, v2_4, v2_5, v2_6, rfl, hv2⟩ := hv2.sa; (repeat (first | (refine wo rfl (fun k hk => ?_); simp (disch := omega) only [go_sem, Nat.reduceBEq, Nat.reduceAdd]; refine hk _ _ ?_; clear hk k) | refine wkt rfl ?_)); (try refine wk0 ?_)
  (try (simp (disch := omega) only [go_sem, Nat.reduceBEq, Nat.reduceAdd])); refine hK _ _ ?_; clear hK; (try clear K); (try dsimp only [behind, qs])
  refine AWP_ret ?_; simp (disch := omega) only [go_sem, Nat.reduceBEq, Nat.reduceAdd]
  rw [Rat.sub_eq_add_neg]; exact hv2
theorem sz_sub (x y : Rat) : sz (x - y) ≤ sz x + sz y + 1 := by
  rw [Rat.sub_eq_add_neg]
  have := sz_add x (-y)
  rw [sz_neg] at this; exact this
theorem sgn3_sub (x y : Rat) : sgn3 (x - y) = cmpQ x y := by
  unfold sgn3 cmpQ; grind
theorem QCmp_spec {h0 h : PH} [Le h0 h] {v w : Value} {x y : Rat} (hx : Qr h0 v x) (hy : Qr h0 w y) (bx : sz x ≤ 2 ^ 34) (by_ : sz y ≤ 2 ^ 34) :
    Spec mach 82 #[v, w] h (fun v _ => v = .int .i64 (cmpQ x y)) NP := by
  obtain ⟨_, _, _, _, _, _, _, rfl, hx⟩ := hx.sa
  obtain ⟨_, _, _, _, _, _, _, rfl, hy⟩ := hy.sa
  refine Spec.enter (args := [_, _]) (n := 9) Tryz.func82 rfl (by kernel_rfl) rfl (by simp) [.tmp 4] rfl (fun C _ => ?_)
  repeat (first | (refine wo rfl (fun k hk => ?_); simp (disch := omega) only [go_sem, Nat.reduceBEq, Nat.reduceAdd]; refine hk _ _ ?_; clear hk k) | refine wkt rfl ?_ | refine wk0 ?_ | refine rg rfl rfl (fun K hK => ?_) | ((first | refine AWP_exit ?_ | refine AWP_skip ?_); simp (disch := decide) only [qs, qb, if_true, if_false, reduceIte]) | refine AWP_sq rfl (fun K hK => ?_) | refine ct rfl ?_ | ((try simp (disch := omega) only [go_sem, Nat.reduceBEq, Nat.reduceAdd]); (first | apply hK | (clear hK; apply hK) | (clear hK; clear hK; apply hK)); clear hK; (try clear K); (try dsimp only [behind, qs, qb])))
  refine cN rfl rfl rfl rfl (by exact Diff_spec hx hy (by omega) (by omega)) ?_; rintro v1 h1 _ hv1; obtain ⟨v1_0, v1_1, v1_2, v1_3, v1_4, v1_5, v1_6, rfl, hv1⟩ := hv1.sa; (repeat (first | (refine wo rfl (fun k hk => ?_); simp (disch := omega) only [go_sem, Nat.reduceBEq, Nat.reduceAdd]; refine hk _ _ ?_; clear hk k) | refine wkt rfl ?_)); (try refine wk0 ?_)
  refine cN rfl rfl rfl rfl (by exact Sgn_spec hv1) ?_; rintro v2 h2 s2 rfl; (repeat (first | (refine wo rfl (fun k hk => ?_); simp (disch := omega) only [go_sem, Nat.reduceBEq, Nat.reduceAdd]; refine hk _ _ ?_; clear hk k) | refine wkt rfl ?_)); (try refine wk0 ?_)
  (try (simp (disch := omega) only [go_sem, Nat.reduceBEq, Nat.reduceAdd])); refine hK _ _ ?_; clear hK; (try clear K); (try dsimp only [behind, qs])
  refine AWP_ret ?_; simp (disch := omega) only [go_sem, Nat.reduceBEq, Nat.reduceAdd]
  rw [sgn3_sub]
end Go.Q
namespace Go.Q
open Go.Proofs
set_option maxRecDepth 100000
set_option maxHeartbeats 4000000
theorem signed_mul (x : Rat) (k : Nat) : (if decide (x.num < 0) = true then -((x.num.natAbs * k : Nat) : Int) else ((x.num.natAbs * k : Nat) : Int)) = x.num * k := by
  generalize x.num = a
  by_cases h : a < 0
  · obtain ⟨m, rfl⟩ : ∃ m : Nat, a = -(m : Int) := ⟨a.natAbs, by omega⟩
    rw [decide_eq_true h, if_pos rfl]; simp [Int.neg_mul]
  · obtain ⟨m, rfl⟩ : ∃ m : Nat, a = (m : Int) := ⟨a.natAbs, by omega⟩
    rw [decide_eq_false h, if_neg (by simp)]; simp
theorem sgn_scale (x : Rat) (p : Nat) : sgn (decide (x.num < 0)) (x.num.natAbs * 2 ^ p) x.den = x * 2 ^ p := by
  rw [scaled]
  unfold sgn
  rw [signed_mul]
  congr 1
theorem two_pow_pos (p : Nat) : (0 : Rat) < 2 ^ p := Rat.pow_pos (by decide)
theorem sgn_unscale (x : Rat) (p : Nat) : sgn (decide (x.num < 0)) x.num.natAbs (x.den * 2 ^ p) = x / 2 ^ p := by
  have h2 : (2 ^ p : Nat) ≠ 0 := Nat.ne_of_gt (Nat.pow_pos (by decide))
  have e : sgn (decide (x.num < 0)) x.num.natAbs (x.den * 2 ^ p) * 2 ^ p = x := by
    unfold sgn
    have h1 := signed_mul x 1
    simp only [Nat.mul_one] at h1
    rw [h1, show (2 : Rat) ^ p = mkRat (2 ^ p : Nat) 1 from by rw [Rat.mkRat_eq_div, Rat.div_def]; simp [inv_one], Rat.mkRat_mul_mkRat]
    have : mkRat (x.num * ((1 : Nat) : Int) * ((2 ^ p : Nat) : Int)) (x.den * 2 ^ p * 1) = mkRat x.num x.den := by
      rw [Nat.mul_one]
      simp only [Int.natCast_one, Int.mul_one]
      exact Rat.mkRat_mul_right h2
    rw [this, Rat.mkRat_self]
  have hp := two_pow_pos p
  have h3 := Rat.mul_div_cancel (a := sgn (decide (x.num < 0)) x.num.natAbs (x.den * 2 ^ p)) (Rat.ne_of_gt hp)
  rw [e] at h3
  exact h3.symm
theorem sz_two (p : Nat) : sz ((2 : Rat) ^ p) ≤ p + 1 := by
  unfold sz
  have h1 : ((2 : Rat) ^ p).num.natAbs = 2 ^ p := by simp [Int.natAbs_pow]
  have h2 : ((2 : Rat) ^ p).den = 1 := by simp
  rw [h1, h2]
  have := bl_pow2 p
  have h3 : bl 1 = 1 := by decide
  omega
theorem sz_scale (x : Rat) (p : Nat) : sz (x * 2 ^ p) ≤ sz x + p + 1 := by
  have := sz_mul x (2 ^ p); have := sz_two p; omega
theorem sz_unscale (x : Rat) (p : Nat) : sz (x / 2 ^ p) ≤ sz x + p + 1 := by
  rw [Rat.div_def]
  have := sz_mul x (2 ^ p)⁻¹; have := sz_inv ((2 : Rat) ^ p); have := sz_two p; omega
theorem sz_pos (x : Rat) : 1 ≤ sz x := by
  have h1 : bl 1 ≤ bl x.den := bl_mono (Nat.pos_of_ne_zero x.den_nz)
  have h2 : bl 1 = 1 := by decide
  have := sz_den x; omega
theorem sz_int (n : Int) : sz (n : Rat) ≤ max (bl n.natAbs) 1 := by
  unfold sz
  rw [Rat.num_intCast, Rat.den_intCast, show bl 1 = 1 from by decide]
  exact Nat.le_refl _
theorem sz_floor (x : Rat) : sz (x.floor : Rat) ≤ sz x := by
  have h1 := sz_int x.floor
  have h2 : x.floor.natAbs ≤ x.num.natAbs := by rw [Rat.floor_def]; exact Int.natAbs_ediv_le_natAbs _ _
  have h3 := bl_mono h2
  have := sz_num x; have := sz_pos x; omega
theorem Scaled_spec {h0 h : PH} [Le h0 h] {v : Value} {x : Rat} {p : Nat} (hx : Qr h0 v x) (bx : sz x ≤ 2 ^ 34) (hp : p ≤ 2 ^ 34) :
    Spec mach 78 #[v, .int .i64 p] h (fun v h' => Qr h' v (x * 2 ^ p)) NP := by
  have hx0 := hx
  obtain ⟨na, nl, nc, da, dl, dc, e, rfl, hn, hd, he⟩ := hx.sl
  have b1 := sz_num x; have b2 := sz_den x; have b3 := bl_shl x.num.natAbs p
  have hs := sgn_scale x p
  obtain ⟨n1, en1⟩ : ∃ b, decide (x.num < 0) = b := ⟨_, rfl⟩
  rw [en1] at hx0 hs ⊢
  refine Spec.enter (args := [_, _]) (n := 26) Tryz.func78 rfl (by kernel_rfl) rfl (by simp) [.cell 4 56] rfl (fun C _ => ?_)
  repeat (first | (refine wo rfl (fun k hk => ?_); simp (disch := omega) only [go_sem, Nat.reduceBEq, Nat.reduceAdd]; refine hk _ _ ?_; clear hk k) | refine wkt rfl ?_ | refine wk0 ?_ | refine rg rfl rfl (fun K hK => ?_) | refine rd [.o 0, .o 1, .o 2, .o 3, .o 4, .o 6, .o 7, .o 5, .o 8, .o 9, .o 10] rfl (by decide +kernel) rfl (fun K hK => ?_) | refine rd [.o 0, .o 1, .o 2, .o 3, .o 4, .o 6, .o 5, .o 7, .o 8, .o 9] rfl (by decide +kernel) rfl (fun K hK => ?_) | ((first | refine AWP_exit ?_ | refine AWP_skip ?_); simp (disch := decide) only [qs, qb, if_true, if_false, reduceIte]) | refine AWP_sq rfl (fun K hK => ?_) | refine ct rfl ?_ | ((try simp (disch := omega) only [go_sem, Nat.reduceBEq, Nat.reduceAdd]); (first | apply hK | (clear hK; apply hK) | (clear hK; clear hK; apply hK)); clear hK; (try clear K); (try dsimp only [behind, qs, qb])))
  refine cN rfl rfl rfl rfl (by exact NatShl_spec (n := p) hn (by omega)) ?_; rintro v1 h1 _ hv1; obtain ⟨v1, v1_l, v1_c, rfl, hv1⟩ := hv1.sl; (repeat (first | (refine wo rfl (fun k hk => ?_); simp (disch := omega) only [go_sem, Nat.reduceBEq, Nat.reduceAdd]; refine hk _ _ ?_; clear hk k) | refine wkt rfl ?_)); (try refine wk0 ?_)
  refine cN rfl rfl rfl rfl (by exact den_spec hx0) ?_; rintro v2 h2 _ hv2; obtain ⟨v2, v2_l, v2_c, rfl, hv2⟩ := hv2.sl; (repeat (first | (refine wo rfl (fun k hk => ?_); simp (disch := omega) only [go_sem, Nat.reduceBEq, Nat.reduceAdd]; refine hk _ _ ?_; clear hk k) | refine wkt rfl ?_)); (try refine wk0 ?_)
  refine cN rfl rfl rfl rfl (by exact Make_spec (neg := n1) (hv1.to (h' := h2)) hv2 (by omega) (by omega)) ?_; rintro v3 h3 _ hv3; obtain ⟨v3_0, v3_1, v3_2, v3_3, v3_4, v3_5, v3_6, rfl, hv3⟩ := hv3.sa; (repeat (first | (refine wo rfl (fun k hk => ?_); simp (disch := omega) only [go_sem, Nat.reduceBEq, Nat.reduceAdd]; refine hk _ _ ?_; clear hk k) | refine wkt rfl ?_)); (try refine wk0 ?_)
  (try (simp (disch := omega) only [go_sem, Nat.reduceBEq, Nat.reduceAdd])); refine hK _ _ ?_; clear hK; (try clear K); (try dsimp only [behind, qs])
  refine AWP_ret ?_; simp (disch := omega) only [go_sem, Nat.reduceBEq, Nat.reduceAdd]
  rw [hs] at hv3; exact hv3
theorem Unscaled_spec {h0 h : PH} [Le h0 h] {v : Value} {x : Rat} {p : Nat} {i : Int} (hx : Qr h0 v x) (hi : i = -(p : Int)) (bx : sz x ≤ 2 ^ 34) (hp : p ≤ 2 ^ 34) :
    Spec mach 78 #[v, .int .i64 i] h (fun v h' => Qr h' v (x / 2 ^ p)) NP := by
  by_cases h0' : p = 0
  · subst h0'
    have : i = ((0 : Nat) : Int) := by omega
    subst this
    have e : x / 2 ^ 0 = x * 2 ^ 0 := by simp [Rat.div_def, inv_one]
    rw [e]; exact Scaled_spec hx bx (by decide)
  subst hi
  have hx0 := hx
  obtain ⟨na, nl, nc, da, dl, dc, e, rfl, hn, hd, he⟩ := hx.sl
  have b1 := sz_num x; have b2 := sz_den x; have b3 := bl_shl x.den p
  have hs := sgn_unscale x p
  obtain ⟨n1, en1⟩ : ∃ b, decide (x.num < 0) = b := ⟨_, rfl⟩
  rw [en1] at hx0 hs ⊢
  have e1 : IntKind.i64.wrap (0 - -(p : Int)) = (p : Int) := by rw [wi64 (by omega) (by omega)]; omega
  refine Spec.enter (args := [_, _]) (n := 26) Tryz.func78 rfl (by kernel_rfl) rfl (by simp) [.cell 4 56] rfl (fun C _ => ?_)
  repeat (first | ((first | refine rg rfl rfl (fun K hK => ?_) | refine rd [.o 0, .o 1, .o 2, .o 3, .o 4, .o 6, .o 7, .o 5, .o 8, .o 9, .o 10] rfl (by decide +kernel) rfl (fun K hK => ?_) | refine rd [.o 0, .o 1, .o 2, .o 3, .o 4, .o 6, .o 5, .o 7, .o 8, .o 9] rfl (by decide +kernel) rfl (fun K hK => ?_)); (repeat (first | (refine wo rfl (fun k hk => ?_); simp (disch := omega) only [go_sem, Nat.reduceBEq, Nat.reduceAdd, e1]; refine hk _ _ ?_; clear hk k) | refine wkt rfl ?_)); (try refine wk0 ?_); refine hK _ _ ?_; clear hK K; (try dsimp only [behind, qs, qb])) | ((first | refine AWP_exit ?_ | refine AWP_skip ?_); simp (disch := decide) only [qs, qb, if_true, if_false, reduceIte]) | refine AWP_sq rfl (fun K hK => ?_) | refine ct rfl ?_ | ((first | refine hK _ _ ?_ | (clear hK; refine hK _ _ ?_) | (clear hK; clear hK; refine hK _ _ ?_)); clear hK; (try clear K)))
  (first | refine rg rfl rfl (fun K hK => ?_) | refine rd [.o 0, .o 1, .o 2, .o 3, .o 4, .o 6, .o 7, .o 5, .o 8, .o 9, .o 10] rfl (by decide +kernel) rfl (fun K hK => ?_) | refine rd [.o 0, .o 1, .o 2, .o 3, .o 4, .o 6, .o 5, .o 7, .o 8, .o 9] rfl (by decide +kernel) rfl (fun K hK => ?_)); (repeat (first | (refine wo rfl (fun k hk => ?_); simp (disch := omega) only [go_sem, Nat.reduceBEq, Nat.reduceAdd, e1]; refine hk _ _ ?_; clear hk k) | refine wkt rfl ?_)); (try refine wk0 ?_)
  refine cN rfl rfl rfl rfl (by exact den_spec hx0) ?_; rintro v2 h2 s2 hv2; obtain ⟨va2, vl2, vc2, rfl, hv2⟩ := hv2.sl; (repeat (first | (refine wo rfl (fun k hk => ?_); simp (disch := omega) only [go_sem, Nat.reduceBEq, Nat.reduceAdd]; refine hk _ _ ?_; clear hk k) | refine wkt rfl ?_)); (try refine wk0 ?_)
  (repeat (first | (refine wo rfl (fun k hk => ?_); simp (disch := omega) only [go_sem, Nat.reduceBEq, Nat.reduceAdd, e1]; refine hk _ _ ?_; clear hk k) | refine wkt rfl ?_)); (try refine wk0 ?_)
  refine cN rfl rfl rfl rfl (by exact NatShl_spec (n := p) hv2 (by omega)) ?_; rintro v1 h1 _ hv1; obtain ⟨v1, v1_l, v1_c, rfl, hv1⟩ := hv1.sl; (repeat (first | (refine wo rfl (fun k hk => ?_); simp (disch := omega) only [go_sem, Nat.reduceBEq, Nat.reduceAdd]; refine hk _ _ ?_; clear hk k) | refine wkt rfl ?_)); (try refine wk0 ?_)
  refine cN rfl rfl rfl rfl (by exact Make_spec (neg := n1) (hn.to (h' := h1)) hv1 (by omega) (by omega)) ?_; rintro v3 h3 _ hv3; obtain ⟨v3_0, v3_1, v3_2, v3_3, v3_4, v3_5, v3_6, rfl, hv3⟩ := hv3.sa; (repeat (first | (refine wo rfl (fun k hk => ?_); simp (disch := omega) only [go_sem, Nat.reduceBEq, Nat.reduceAdd]; refine hk _ _ ?_; clear hk k) | refine wkt rfl ?_)); (try refine wk0 ?_)
  (try (simp (disch := omega) only [go_sem, Nat.reduceBEq, Nat.reduceAdd])); refine hK _ _ ?_; clear hK; (try clear K); (try dsimp only [behind, qs])
  refine AWP_ret ?_; simp (disch := omega) only [go_sem, Nat.reduceBEq, Nat.reduceAdd]
  rw [hs] at hv3; exact hv3
theorem floor_val (x : Rat) : sgn (decide (x.num < 0)) (x.num.natAbs / x.den + (if decide (x.num < 0) = true ∧ x.num.natAbs % x.den ≠ 0 then 1 else 0)) 1 = (x.floor : Rat) := by
  rw [sgn_nat, Rat.floor_def]
  have hd := x.den_nz
  congr 1
  generalize x.num = a at *
  generalize x.den = d at *
  by_cases h : a < 0
  · obtain ⟨m, rfl⟩ : ∃ m : Nat, a = -(m : Int) := ⟨a.natAbs, by omega⟩
    rw [decide_eq_true h, neg_ediv m hd]
    simp only [Int.natAbs_neg, Int.natAbs_natCast, if_true]
    by_cases hr : m % d = 0 <;> simp [hr]
  · obtain ⟨m, rfl⟩ : ∃ m : Nat, a = (m : Int) := ⟨a.natAbs, by omega⟩
    rw [decide_eq_false h]
    simp
theorem Bottom_spec {h0 h : PH} [Le h0 h] {v : Value} {x : Rat} (hx : Qr h0 v x) (bx : sz x ≤ 2 ^ 35) :
    Spec mach 138 #[v] h (fun v h' => Qr h' v (x.floor : Rat)) NP := by
  have hx0 := hx
  obtain ⟨na, nl, nc, da, dl, dc, e, rfl, hn, hd, he⟩ := hx.sl
  have b1 := sz_num x; have b2 := sz_den x
  have b3 := bl_div_le x.num.natAbs x.den
  have b4 := bl_add (x.num.natAbs / x.den) 1
  have b5 := bl_one
  have hs := floor_val x
  obtain ⟨neg, en⟩ : ∃ b, decide (x.num < 0) = b := ⟨_, rfl⟩
  rw [en] at hx0 hs ⊢
  refine Spec.enter (args := [_]) (n := 28) Tryz.func138 rfl (by kernel_rfl) rfl (by simp) [.cell 2 56] rfl (fun C _ => ?_)
  repeat (first | (refine wo rfl (fun k hk => ?_); simp (disch := omega) only [go_sem, Nat.reduceBEq, Nat.reduceAdd]; refine hk _ _ ?_; clear hk k) | refine wkt rfl ?_ | refine wk0 ?_ | refine rg rfl rfl (fun K hK => ?_) | refine rd [.o 0, .o 1, .o 2, .o 3, .o 4, .o 5, .o 6, .o 7, .o 8, .o 9] rfl (by decide +kernel) rfl (fun K hK => ?_) | refine rd [.o 0, .o 1, .o 2, .o 3, .o 4, .o 5] rfl (by decide +kernel) rfl (fun K hK => ?_) | ((first | refine AWP_exit ?_ | refine AWP_skip ?_); simp (disch := decide) only [qs, qb, if_true, if_false, reduceIte]) | refine AWP_sq rfl (fun K hK => ?_) | refine ct rfl ?_ | ((try simp (disch := omega) only [go_sem, Nat.reduceBEq, Nat.reduceAdd]); (first | apply hK | (clear hK; apply hK) | (clear hK; clear hK; apply hK)); clear hK; (try clear K); (try dsimp only [behind, qs, qb])))
  refine cN rfl rfl rfl rfl (by exact den_spec hx0) ?_; rintro d1 g1 _ hd1; obtain ⟨d1, d1_l, d1_c, rfl, hd1⟩ := hd1.sl; (repeat (first | (refine wo rfl (fun k hk => ?_); simp (disch := omega) only [go_sem, Nat.reduceBEq, Nat.reduceAdd]; refine hk _ _ ?_; clear hk k) | refine wkt rfl ?_)); (try refine wk0 ?_)
  refine cN rfl rfl rfl rfl (by exact NatDiv_spec (hn.to (h' := g1)) hd1 x.den_nz (by omega) (by omega)) ?_; rintro v2 h2 s2 ⟨q, r, rfl, hq, hr⟩; (repeat (first | (refine wo rfl (fun k hk => ?_); simp (disch := omega) only [go_sem, Nat.reduceBEq, Nat.reduceAdd]; refine hk _ _ ?_; clear hk k) | refine wkt rfl ?_)); (try refine wk0 ?_)
  obtain ⟨qa, ql, qc, rfl, hq⟩ := hq.sl
  obtain ⟨ra, rl, rc, rfl, hr⟩ := hr.sl
  have lr := hr.len0
  (try (simp (disch := omega) only [go_sem, Nat.reduceBEq, Nat.reduceAdd])); refine hK _ _ ?_; clear hK; (try clear K); (try dsimp only [behind, qs])
  refine AWP_sqs (fun K hK => ?_)
  have rest : ∀ (v : Value) (q' : Nat) (S : AS) (h : PH), Le h0 h → N16 h v q' → bl q' ≤ 2 ^ 37 → sgn neg q' 1 = (x.floor : Rat) → S.le ⟨[(1, .p 0 0), (2, .p 1 0), (3, .v v)], [[.bool neg, .slice na nl nc, .slice da dl dc], [.bool false, .slice none 0 0, .slice none 0 0]]⟩ → K S h := by
    intro v q' S h _ hv bq hs hS
    refine hK _ _ (AWP_le _ hS ?_); clear hK K
    obtain ⟨va, vl, vc, rfl, hv⟩ := hv.sl
    (first | refine rg rfl rfl (fun K hK => ?_) | refine rd [.o 0, .o 1, .o 2, .o 3, .o 4, .o 5, .o 6, .o 7, .o 8, .o 9] rfl (by decide +kernel) rfl (fun K hK => ?_) | refine rd [.o 0, .o 1, .o 2, .o 3, .o 4, .o 5] rfl (by decide +kernel) rfl (fun K hK => ?_)); (repeat (first | (refine wo rfl (fun k hk => ?_); simp (disch := omega) only [go_sem, Nat.reduceBEq, Nat.reduceAdd]; refine hk _ _ ?_; clear hk k) | refine wkt rfl ?_)); (try refine wk0 ?_)
    refine cN rfl rfl rfl rfl (by exact NatOf_spec (n := 1) (by decide)) ?_; rintro w1 h3 _ hw1; obtain ⟨w1, w1_l, w1_c, rfl, hw1⟩ := hw1.sl; (repeat (first | (refine wo rfl (fun k hk => ?_); simp (disch := omega) only [go_sem, Nat.reduceBEq, Nat.reduceAdd]; refine hk _ _ ?_; clear hk k) | refine wkt rfl ?_)); (try refine wk0 ?_)
    refine cN rfl rfl rfl rfl (by exact Make_spec (neg := neg) (hv.to (h' := h3)) hw1 (by omega) (by decide)) ?_; rintro w3 h5 _ hw3; obtain ⟨w3_0, w3_1, w3_2, w3_3, w3_4, w3_5, w3_6, rfl, hw3⟩ := hw3.sa; (repeat (first | (refine wo rfl (fun k hk => ?_); simp (disch := omega) only [go_sem, Nat.reduceBEq, Nat.reduceAdd]; refine hk _ _ ?_; clear hk k) | refine wkt rfl ?_)); (try refine wk0 ?_)
    (try (simp (disch := omega) only [go_sem, Nat.reduceBEq, Nat.reduceAdd])); refine hK _ _ ?_; clear hK; (try clear K); (try dsimp only [behind, qs])
    refine AWP_ret ?_; simp (disch := omega) only [go_sem, Nat.reduceBEq, Nat.reduceAdd]
    rw [hs] at hw3
    exact hw3
  cases neg with
  | false =>
    rw [if_neg (by simp), Nat.add_zero] at hs
    refine AWP_rs rfl (fun K hK => ?_); (repeat (first | (refine wo rfl (fun k hk => ?_); simp (disch := omega) only [go_sem, Nat.reduceBEq, Nat.reduceAdd]; refine hk _ _ ?_; clear hk k) | refine wkt rfl ?_)); (try refine wk0 ?_); (first | refine hK _ _ ?_ | (clear hK; refine hK _ _ ?_) | (clear hK; clear hK; refine hK _ _ ?_)); clear hK; (try clear K)
    refine AWP_condF rfl ?_
    refine AWP_skip ?_; simp only [qs, qb, if_true, if_false, reduceIte]
    refine rest _ _ _ _ inferInstance hq (by omega) hs ?_
    simp (disch := omega) only [go_sem, Nat.reduceBEq, Nat.reduceAdd]
  | true =>
    by_cases hr0 : x.num.natAbs % x.den = 0
    · rw [if_neg (by simp [hr0]), Nat.add_zero] at hs
      refine AWP_rs rfl (fun K hK => ?_); (repeat (first | (refine wo rfl (fun k hk => ?_); simp (disch := omega) only [go_sem, Nat.reduceBEq, Nat.reduceAdd]; refine hk _ _ ?_; clear hk k) | refine wkt rfl ?_)); (try refine wk0 ?_); (first | refine hK _ _ ?_ | (clear hK; refine hK _ _ ?_) | (clear hK; clear hK; refine hK _ _ ?_)); clear hK; (try clear K)
      refine AWP_condF rfl ?_
      refine AWP_skip ?_; simp only [qs, qb, if_true, if_false, reduceIte]
      refine rest _ _ _ _ inferInstance hq (by omega) hs ?_
      simp (disch := omega) only [go_sem, Nat.reduceBEq, Nat.reduceAdd]
    · rw [if_pos ⟨rfl, hr0⟩] at hs
      have e3 : 0 < rl := by omega
      refine AWP_rs rfl (fun K hK => ?_); (repeat (first | (refine wo rfl (fun k hk => ?_); simp (disch := omega) only [go_sem, Nat.reduceBEq, Nat.reduceAdd]; refine hk _ _ ?_; clear hk k) | refine wkt rfl ?_)); (try refine wk0 ?_); (first | refine hK _ _ ?_ | (clear hK; refine hK _ _ ?_) | (clear hK; clear hK; refine hK _ _ ?_)); clear hK; (try clear K)
      refine AWP_condT rfl ?_
      (first | refine rg rfl rfl (fun K hK => ?_) | refine rd [.o 0, .o 1, .o 2, .o 3, .o 4, .o 5, .o 6, .o 7, .o 8, .o 9] rfl (by decide +kernel) rfl (fun K hK => ?_) | refine rd [.o 0, .o 1, .o 2, .o 3, .o 4, .o 5] rfl (by decide +kernel) rfl (fun K hK => ?_)); (repeat (first | (refine wo rfl (fun k hk => ?_); simp (disch := omega) only [go_sem, Nat.reduceBEq, Nat.reduceAdd]; refine hk _ _ ?_; clear hk k) | refine wkt rfl ?_)); (try refine wk0 ?_)
      refine cN rfl rfl rfl rfl (by exact NatOf_spec (n := 1) (by decide)) ?_; rintro w1 h4 _ hw1; obtain ⟨w1, w1_l, w1_c, rfl, hw1⟩ := hw1.sl; (repeat (first | (refine wo rfl (fun k hk => ?_); simp (disch := omega) only [go_sem, Nat.reduceBEq, Nat.reduceAdd]; refine hk _ _ ?_; clear hk k) | refine wkt rfl ?_)); (try refine wk0 ?_)
      refine cN rfl rfl rfl rfl (by exact NatAdd_spec (hq.to (h' := h4)) hw1 (by omega) (by decide)) ?_; rintro w2 h5 _ hw2; obtain ⟨w2, w2_l, w2_c, rfl, hw2⟩ := hw2.sl; (repeat (first | (refine wo rfl (fun k hk => ?_); simp (disch := omega) only [go_sem, Nat.reduceBEq, Nat.reduceAdd]; refine hk _ _ ?_; clear hk k) | refine wkt rfl ?_)); (try refine wk0 ?_)
      (try (simp (disch := omega) only [go_sem, Nat.reduceBEq, Nat.reduceAdd])); refine hK _ _ ?_; clear hK; (try clear K); (try dsimp only [behind, qs])
      refine rest _ _ _ _ inferInstance hw2 (by omega) hs ?_
      simp (disch := omega) only [go_sem, Nat.reduceBEq, Nat.reduceAdd]
end Go.Q
namespace Go.Q
open Go.Proofs
set_option maxRecDepth 100000
set_option maxHeartbeats 4000000
theorem Top_spec {h0 h : PH} [Le h0 h] {v : Value} {x : Rat} (hx : Qr h0 v x) (bx : sz x ≤ 2 ^ 34) :
    Spec mach 139 #[v] h (fun v h' => Qr h' v (x.ceil : Rat)) NP := by
  obtain ⟨_, _, _, _, _, _, _, rfl, hx⟩ := hx.sa
  refine Spec.enter (args := [_]) (n := 7) Tryz.func139 rfl (by kernel_rfl) rfl (by simp) [.cell 2 56] rfl (fun C _ => ?_)
  repeat (first | (refine wo rfl (fun k hk => ?_); simp (disch := omega) only [go_sem, Nat.reduceBEq, Nat.reduceAdd]; refine hk _ _ ?_; clear hk k) | refine wkt rfl ?_ | refine wk0 ?_ | refine rg rfl rfl (fun K hK => ?_) | ((first | refine AWP_exit ?_ | refine AWP_skip ?_); simp (disch := decide) only [qs, qb, if_true, if_false, reduceIte]) | refine AWP_sq rfl (fun K hK => ?_) | refine ct rfl ?_ | ((try simp (disch := omega) only [go_sem, Nat.reduceBEq, Nat.reduceAdd]); (first | apply hK | (clear hK; apply hK) | (clear hK; clear hK; apply hK)); clear hK; (try clear K); (try dsimp only [behind, qs, qb])))
  refine cN rfl rfl rfl rfl (by exact Opp_spec hx) ?_; rintro v1 h1 _ hv1; obtain ⟨v1_0, v1_1, v1_2, v1_3, v1_4, v1_5, v1_6, rfl, hv1⟩ := hv1.sa; (repeat (first | (refine wo rfl (fun k hk => ?_); simp (disch := omega) only [go_sem, Nat.reduceBEq, Nat.reduceAdd]; refine hk _ _ ?_; clear hk k) | refine wkt rfl ?_)); (try refine wk0 ?_)
  refine cN rfl rfl rfl rfl (by exact Bottom_spec hv1 (by rw [sz_neg]; omega)) ?_; rintro v2 h2 _ hv2; obtain ⟨v2_0, v2_1, v2_2, v2_3, v2_4, v2_5, v2_6, rfl, hv2⟩ := hv2.sa; (repeat (first | (refine wo rfl (fun k hk => ?_); simp (disch := omega) only [go_sem, Nat.reduceBEq, Nat.reduceAdd]; refine hk _ _ ?_; clear hk k) | refine wkt rfl ?_)); (try refine wk0 ?_)
  refine cN rfl rfl rfl rfl (by exact Opp_spec hv2) ?_; rintro v3 h3 _ hv3; obtain ⟨v3_0, v3_1, v3_2, v3_3, v3_4, v3_5, v3_6, rfl, hv3⟩ := hv3.sa; (repeat (first | (refine wo rfl (fun k hk => ?_); simp (disch := omega) only [go_sem, Nat.reduceBEq, Nat.reduceAdd]; refine hk _ _ ?_; clear hk k) | refine wkt rfl ?_)); (try refine wk0 ?_)
  (try (simp (disch := omega) only [go_sem, Nat.reduceBEq, Nat.reduceAdd])); refine hK _ _ ?_; clear hK; (try clear K); (try dsimp only [behind, qs])
  refine AWP_ret ?_; simp (disch := omega) only [go_sem, Nat.reduceBEq, Nat.reduceAdd]
  have : -(((-x).floor : Int) : Rat) = ((x.ceil : Int) : Rat) := by rw [Rat.ceil_eq_neg_floor_neg]; simp
  rw [this] at hv3; exact hv3
theorem sz_ceil (x : Rat) : sz (x.ceil : Rat) ≤ sz x := by
  rw [Rat.ceil_eq_neg_floor_neg, Rat.intCast_neg, sz_neg]
  have := sz_floor (-x)
  rw [sz_neg] at this; exact this
theorem neg_i {p : Nat} (hp : p ≤ 2 ^ 30) : IntKind.i64.wrap (0 - (p : Int)) = -(p : Int) := by rw [wi64 (by omega) (by omega)]; omega
theorem GridDown_spec {h0 h : PH} [Le h0 h] {v : Value} {x : Rat} {p : Nat} (hx : Qr h0 v x) (bx : sz x ≤ 2 ^ 30) (hp : p ≤ 2 ^ 30) :
    Spec mach 98 #[v, .int .i64 p] h (fun v h' => Qr h' v (gdown x p)) NP := by
  obtain ⟨_, _, _, _, _, _, _, rfl, hx⟩ := hx.sa
  have b1 := sz_scale x p
  have b2 := sz_floor (x * 2 ^ p)
  have e1 := neg_i hp
  refine Spec.enter (args := [_, _]) (n := 12) Tryz.func98 rfl (by kernel_rfl) rfl (by simp) [.cell 4 56] rfl (fun C _ => ?_)
  repeat (first | (refine wo rfl (fun k hk => ?_); simp (disch := omega) only [go_sem, Nat.reduceBEq, Nat.reduceAdd]; refine hk _ _ ?_; clear hk k) | refine wkt rfl ?_ | refine wk0 ?_ | refine rg rfl rfl (fun K hK => ?_) | ((first | refine AWP_exit ?_ | refine AWP_skip ?_); simp (disch := decide) only [qs, qb, if_true, if_false, reduceIte]) | refine AWP_sq rfl (fun K hK => ?_) | refine ct rfl ?_ | ((try simp (disch := omega) only [go_sem, Nat.reduceBEq, Nat.reduceAdd]); (first | apply hK | (clear hK; apply hK) | (clear hK; clear hK; apply hK)); clear hK; (try clear K); (try dsimp only [behind, qs, qb])))
  refine cN rfl rfl rfl rfl (by exact Scaled_spec (p := p) hx (by omega) (by omega)) ?_; rintro v1 h1 _ hv1; obtain ⟨v1_0, v1_1, v1_2, v1_3, v1_4, v1_5, v1_6, rfl, hv1⟩ := hv1.sa; (repeat (first | (refine wo rfl (fun k hk => ?_); simp (disch := omega) only [go_sem, Nat.reduceBEq, Nat.reduceAdd]; refine hk _ _ ?_; clear hk k) | refine wkt rfl ?_)); (try refine wk0 ?_)
  refine cN rfl rfl rfl rfl (by exact Bottom_spec hv1 (by omega)) ?_; rintro v2 h2 s2 hv2; obtain ⟨_, _, _, _, _, _, _, rfl, hv2⟩ := hv2.sa; (repeat (first | (refine wo rfl (fun k hk => ?_); simp (disch := omega) only [go_sem, Nat.reduceBEq, Nat.reduceAdd]; refine hk _ _ ?_; clear hk k) | refine wkt rfl ?_)); (try refine wk0 ?_)
  (repeat (first | (refine wo rfl (fun k hk => ?_); simp (disch := omega) only [go_sem, Nat.reduceBEq, Nat.reduceAdd, e1]; refine hk _ _ ?_; clear hk k) | refine wkt rfl ?_)); (try refine wk0 ?_)
  refine cN rfl rfl rfl rfl (by exact Unscaled_spec (p := p) hv2 (by omega) (by omega) (by omega)) ?_; rintro v3 h3 _ hv3; obtain ⟨v3_0, v3_1, v3_2, v3_3, v3_4, v3_5, v3_6, rfl, hv3⟩ := hv3.sa; (repeat (first | (refine wo rfl (fun k hk => ?_); simp (disch := omega) only [go_sem, Nat.reduceBEq, Nat.reduceAdd]; refine hk _ _ ?_; clear hk k) | refine wkt rfl ?_)); (try refine wk0 ?_)
  (try (simp (disch := omega) only [go_sem, Nat.reduceBEq, Nat.reduceAdd])); refine hK _ _ ?_; clear hK; (try clear K); (try dsimp only [behind, qs])
  refine AWP_ret ?_; simp (disch := omega) only [go_sem, Nat.reduceBEq, Nat.reduceAdd]
  exact hv3
theorem GridUp_spec {h0 h : PH} [Le h0 h] {v : Value} {x : Rat} {p : Nat} (hx : Qr h0 v x) (bx : sz x ≤ 2 ^ 30) (hp : p ≤ 2 ^ 30) :
    Spec mach 99 #[v, .int .i64 p] h (fun v h' => Qr h' v (gup x p)) NP := by
  obtain ⟨_, _, _, _, _, _, _, rfl, hx⟩ := hx.sa
  have b1 := sz_scale x p
  have b2 := sz_ceil (x * 2 ^ p)
  have e1 := neg_i hp
  refine Spec.enter (args := [_, _]) (n := 12) Tryz.func99 rfl (by kernel_rfl) rfl (by simp) [.cell 4 56] rfl (fun C _ => ?_)
  repeat (first | (refine wo rfl (fun k hk => ?_); simp (disch := omega) only [go_sem, Nat.reduceBEq, Nat.reduceAdd]; refine hk _ _ ?_; clear hk k) | refine wkt rfl ?_ | refine wk0 ?_ | refine rg rfl rfl (fun K hK => ?_) | ((first | refine AWP_exit ?_ | refine AWP_skip ?_); simp (disch := decide) only [qs, qb, if_true, if_false, reduceIte]) | refine AWP_sq rfl (fun K hK => ?_) | refine ct rfl ?_ | ((try simp (disch := omega) only [go_sem, Nat.reduceBEq, Nat.reduceAdd]); (first | apply hK | (clear hK; apply hK) | (clear hK; clear hK; apply hK)); clear hK; (try clear K); (try dsimp only [behind, qs, qb])))
  refine cN rfl rfl rfl rfl (by exact Scaled_spec (p := p) hx (by omega) (by omega)) ?_; rintro v1 h1 _ hv1; obtain ⟨v1_0, v1_1, v1_2, v1_3, v1_4, v1_5, v1_6, rfl, hv1⟩ := hv1.sa; (repeat (first | (refine wo rfl (fun k hk => ?_); simp (disch := omega) only [go_sem, Nat.reduceBEq, Nat.reduceAdd]; refine hk _ _ ?_; clear hk k) | refine wkt rfl ?_)); (try refine wk0 ?_)
  refine cN rfl rfl rfl rfl (by exact Top_spec hv1 (by omega)) ?_; rintro v2 h2 s2 hv2; obtain ⟨_, _, _, _, _, _, _, rfl, hv2⟩ := hv2.sa; (repeat (first | (refine wo rfl (fun k hk => ?_); simp (disch := omega) only [go_sem, Nat.reduceBEq, Nat.reduceAdd]; refine hk _ _ ?_; clear hk k) | refine wkt rfl ?_)); (try refine wk0 ?_)
  (repeat (first | (refine wo rfl (fun k hk => ?_); simp (disch := omega) only [go_sem, Nat.reduceBEq, Nat.reduceAdd, e1]; refine hk _ _ ?_; clear hk k) | refine wkt rfl ?_)); (try refine wk0 ?_)
  refine cN rfl rfl rfl rfl (by exact Unscaled_spec (p := p) hv2 (by omega) (by omega) (by omega)) ?_; rintro v3 h3 _ hv3; obtain ⟨v3_0, v3_1, v3_2, v3_3, v3_4, v3_5, v3_6, rfl, hv3⟩ := hv3.sa; (repeat (first | (refine wo rfl (fun k hk => ?_); simp (disch := omega) only [go_sem, Nat.reduceBEq, Nat.reduceAdd]; refine hk _ _ ?_; clear hk k) | refine wkt rfl ?_)); (try refine wk0 ?_)
  (try (simp (disch := omega) only [go_sem, Nat.reduceBEq, Nat.reduceAdd])); refine hK _ _ ?_; clear hK; (try clear K); (try dsimp only [behind, qs])
  refine AWP_ret ?_; simp (disch := omega) only [go_sem, Nat.reduceBEq, Nat.reduceAdd]
  exact hv3
theorem sgn_quo (x y : Rat) : sgn (!(decide (x.num < 0) == decide (y.num < 0))) (x.num.natAbs * y.den) (x.den * y.num.natAbs) = x / y := by
  by_cases hy : y = 0
  · subst hy
    simp [sgn, Rat.div_def]
  · have hn0 : y.num ≠ 0 := fun e => hy (Rat.num_eq_zero.1 e)
    have hp := y.den_nz
    have e1 : decide ((y⁻¹).num < 0) = decide (y.num < 0) := by
      rw [Rat.num_inv]
      rcases Int.lt_trichotomy y.num 0 with h | h | h
      · rw [Int.sign_eq_neg_one_of_neg h, decide_eq_decide]; omega
      · exact (hn0 h).elim
      · rw [Int.sign_eq_one_of_pos h, decide_eq_decide]; omega
    have e2 : (y⁻¹).num.natAbs = y.den := by rw [Rat.num_inv, Int.natAbs_mul, Int.natAbs_sign_of_ne_zero hn0, Nat.one_mul, Int.natAbs_natCast]
    have e3 : (y⁻¹).den = y.num.natAbs := by rw [Rat.den_inv, if_neg hn0]
    have := sgn_mul x y⁻¹
    rw [e1, e2, e3] at this
    rw [this, Rat.div_def]
theorem QDiv_spec {h0 h : PH} [Le h0 h] {v w : Value} {x y : Rat} (hx : Qr h0 v x) (hy : Qr h0 w y) (bx : sz x ≤ 2 ^ 35) (by_ : sz y ≤ 2 ^ 35) :
    Spec mach 97 #[v, w] h (fun v h' => Qr h' v (x / y)) NP := by
  have hx0 := hx
  have hy0 := hy
  obtain ⟨na, nl, nc, da, dl, dc, e, rfl, hn, hd, he⟩ := hx.sl
  obtain ⟨na', nl', nc', da', dl', dc', e', rfl, hn', hd', he'⟩ := hy.sl
  have b1 := sz_num x; have b2 := sz_den x; have b3 := sz_num y; have b4 := sz_den y
  have b5 := bl_mul x.num.natAbs y.den
  have b6 := bl_mul x.den y.num.natAbs
  refine Spec.enter (args := [_, _]) (n := 21) Tryz.func97 rfl (by kernel_rfl) rfl (by simp) [.cell 4 56] rfl (fun C _ => ?_)
  repeat (first | (refine wo rfl (fun k hk => ?_); simp (disch := omega) only [go_sem, Nat.reduceBEq, Nat.reduceAdd]; refine hk _ _ ?_; clear hk k) | refine wkt rfl ?_ | refine wk0 ?_ | refine rg rfl rfl (fun K hK => ?_) | refine rd [.o 0, .o 1, .o 2, .o 3, .o 4, .o 5, .o 6, .o 7, .o 10, .o 12, .o 13, .o 8, .o 9, .o 11, .o 14, .o 15, .o 16] rfl (by decide +kernel) rfl (fun K hK => ?_) | ((first | refine AWP_exit ?_ | refine AWP_skip ?_); simp (disch := decide) only [qs, qb, if_true, if_false, reduceIte]) | refine AWP_sq rfl (fun K hK => ?_) | refine ct rfl ?_ | ((try simp (disch := omega) only [go_sem, Nat.reduceBEq, Nat.reduceAdd]); (first | apply hK | (clear hK; apply hK) | (clear hK; clear hK; apply hK)); clear hK; (try clear K); (try dsimp only [behind, qs, qb])))
  refine cN rfl rfl rfl rfl (by exact den_spec hy0) ?_; rintro d1 g1 _ hd1; obtain ⟨d1, d1_l, d1_c, rfl, hd1⟩ := hd1.sl; (repeat (first | (refine wo rfl (fun k hk => ?_); simp (disch := omega) only [go_sem, Nat.reduceBEq, Nat.reduceAdd]; refine hk _ _ ?_; clear hk k) | refine wkt rfl ?_)); (try refine wk0 ?_)
  refine cN rfl rfl rfl rfl (by exact NatMul_spec (hn.to (h' := g1)) hd1 (by omega) (by omega)) ?_; rintro v1 h1 _ hv1; obtain ⟨v1, v1_l, v1_c, rfl, hv1⟩ := hv1.sl; (repeat (first | (refine wo rfl (fun k hk => ?_); simp (disch := omega) only [go_sem, Nat.reduceBEq, Nat.reduceAdd]; refine hk _ _ ?_; clear hk k) | refine wkt rfl ?_)); (try refine wk0 ?_)
  refine cN rfl rfl rfl rfl (by exact den_spec hx0) ?_; rintro d2 g2 _ hd2; obtain ⟨d2, d2_l, d2_c, rfl, hd2⟩ := hd2.sl; (repeat (first | (refine wo rfl (fun k hk => ?_); simp (disch := omega) only [go_sem, Nat.reduceBEq, Nat.reduceAdd]; refine hk _ _ ?_; clear hk k) | refine wkt rfl ?_)); (try refine wk0 ?_)
  refine cN rfl rfl rfl rfl (by exact NatMul_spec hd2 (hn'.to (h' := g2)) (by omega) (by omega)) ?_; rintro v2 h2 _ hv2; obtain ⟨v2, v2_l, v2_c, rfl, hv2⟩ := hv2.sl; (repeat (first | (refine wo rfl (fun k hk => ?_); simp (disch := omega) only [go_sem, Nat.reduceBEq, Nat.reduceAdd]; refine hk _ _ ?_; clear hk k) | refine wkt rfl ?_)); (try refine wk0 ?_)
  refine cN rfl rfl rfl rfl (by exact Make_spec (hv1.to (h' := h2)) hv2 (by omega) (by omega)) ?_; rintro v3 h3 _ hv3; obtain ⟨v3_0, v3_1, v3_2, v3_3, v3_4, v3_5, v3_6, rfl, hv3⟩ := hv3.sa; (repeat (first | (refine wo rfl (fun k hk => ?_); simp (disch := omega) only [go_sem, Nat.reduceBEq, Nat.reduceAdd]; refine hk _ _ ?_; clear hk k) | refine wkt rfl ?_)); (try refine wk0 ?_)
  (try (simp (disch := omega) only [go_sem, Nat.reduceBEq, Nat.reduceAdd])); refine hK _ _ ?_; clear hK; (try clear K); (try dsimp only [behind, qs])
  refine AWP_ret ?_; simp (disch := omega) only [go_sem, Nat.reduceBEq, Nat.reduceAdd]
  rw [sgn_quo] at hv3
  exact hv3
theorem Same_spec {h0 h : PH} [Le h0 h] {v w : Value} {neg neg' : Bool} {n d n' d' : Nat} (hx : Rw h0 v neg n d) (hy : Rw h0 w neg' n' d') (bx : sz (qof neg n d) ≤ 2 ^ 34) (by_ : sz (qof neg' n' d') ≤ 2 ^ 34) :
    Spec mach 88 #[v, w] h (fun v _ => v = .bool (decide (qof neg n d = qof neg' n' d'))) NP := by
  obtain ⟨_, _, _, _, _, _, _, rfl, hx⟩ := hx.sa
  obtain ⟨_, _, _, _, _, _, _, rfl, hy⟩ := hy.sa
  refine Spec.enter (args := [_, _]) (n := 11) Tryz.func88 rfl (by kernel_rfl) rfl (by simp) [.tmp 4] rfl (fun C _ => ?_)
  repeat (first | (refine wo rfl (fun k hk => ?_); simp (disch := omega) only [go_sem, Nat.reduceBEq, Nat.reduceAdd]; refine hk _ _ ?_; clear hk k) | refine wkt rfl ?_ | refine wk0 ?_ | refine rg rfl rfl (fun K hK => ?_) | refine rd [.o 0, .o 2, .o 1, .o 3, .o 4, .o 5, .o 6] rfl (by decide +kernel) rfl (fun K hK => ?_) | ((first | refine AWP_exit ?_ | refine AWP_skip ?_); simp (disch := decide) only [qs, qb, if_true, if_false, reduceIte]) | refine AWP_sq rfl (fun K hK => ?_) | refine ct rfl ?_ | ((try simp (disch := omega) only [go_sem, Nat.reduceBEq, Nat.reduceAdd]); (first | apply hK | (clear hK; apply hK) | (clear hK; clear hK; apply hK)); clear hK; (try clear K); (try dsimp only [behind, qs, qb])))
  refine cN rfl rfl rfl rfl (by exact QOf_spec hx) ?_; rintro v1 h1 _ hv1; obtain ⟨v1_0, v1_1, v1_2, v1_3, v1_4, v1_5, v1_6, rfl, hv1⟩ := hv1.sa; (repeat (first | (refine wo rfl (fun k hk => ?_); simp (disch := omega) only [go_sem, Nat.reduceBEq, Nat.reduceAdd]; refine hk _ _ ?_; clear hk k) | refine wkt rfl ?_)); (try refine wk0 ?_)
  refine cN rfl rfl rfl rfl (by exact QOf_spec hy) ?_; rintro v2 h2 _ hv2; obtain ⟨v2_0, v2_1, v2_2, v2_3, v2_4, v2_5, v2_6, rfl, hv2⟩ := hv2.sa; (repeat (first | (refine wo rfl (fun k hk => ?_); simp (disch := omega) only [go_sem, Nat.reduceBEq, Nat.reduceAdd]; refine hk _ _ ?_; clear hk k) | refine wkt rfl ?_)); (try refine wk0 ?_)
  refine cN rfl rfl rfl rfl (by exact QCmp_spec (hv1.to (h' := h2)) hv2 bx by_) ?_; rintro v3 h3 s3 rfl; (repeat (first | (refine wo rfl (fun k hk => ?_); simp (disch := omega) only [go_sem, Nat.reduceBEq, Nat.reduceAdd]; refine hk _ _ ?_; clear hk k) | refine wkt rfl ?_)); (try refine wk0 ?_)
  by_cases he : qof neg n d = qof neg' n' d'
  · have e1 : cmpQ (qof neg n d) (qof neg' n' d') = 0 := by rw [he]; unfold cmpQ; grind
    (try (simp (disch := omega) only [go_sem, Nat.reduceBEq, Nat.reduceAdd])); refine hK _ _ ?_; clear hK; (try clear K); (try dsimp only [behind, qs])
    refine AWP_ret ?_; simp (disch := omega) only [go_sem, Nat.reduceBEq, Nat.reduceAdd]
    all_goals simp [he, e1]
  · have e1 : cmpQ (qof neg n d) (qof neg' n' d') ≠ 0 := by unfold cmpQ; grind
    (try (simp (disch := omega) only [go_sem, Nat.reduceBEq, Nat.reduceAdd])); refine hK _ _ ?_; clear hK; (try clear K); (try dsimp only [behind, qs])
    refine AWP_ret ?_; simp (disch := omega) only [go_sem, Nat.reduceBEq, Nat.reduceAdd]
    all_goals simp [he, e1]
theorem cn_len {a : Option Addr} {l c n : Nat} {h : PH} (r : N32 h (.slice a l c) n) : l = (W 4294967296 n).length := by
  obtain ⟨a', c', h1, _⟩ := r; cases h1; rfl
theorem Canonical_cn {h0 h : PH} [Le h0 h] {v : Value} {x : Rat} (hx : Cn h0 v x) (bx : sz x ≤ 2 ^ 30) : Spec mach 87 #[v] h (fun v _ => v = .bool true) NP := by
  have hrw := hx.rw bx
  have hq := qof_cn x
  obtain ⟨sn, sd, rfl, h2, h3⟩ := hx
  obtain ⟨a, c, xs, rfl, ha, hxs, hxm⟩ := h2.out
  obtain ⟨a', c', ys, rfl, ha', hys, hym⟩ := h3.out
  have sx := ha.small
  have sy := ha'.small
  obtain ⟨neg, en⟩ : ∃ b, decide (x.num < 0) = b := ⟨_, rfl⟩
  rw [en] at hrw hq ⊢
  refine Spec.enter (args := [_]) (n := 68) Tryz.func87 rfl (by kernel_rfl) rfl (by simp) [.tmp 2] rfl (fun C _ => ?_)
  repeat (first | (refine wo rfl (fun k hk => ?_); simp (disch := omega) only [go_sem, Nat.reduceBEq, Nat.reduceAdd]; refine hk _ _ ?_; clear hk k) | refine wkt rfl ?_ | refine wk0 ?_ | refine rg rfl rfl (fun K hK => ?_) | refine rd [.o 0, .o 1, .o 2, .o 3, .o 4, .o 5, .o 6, .o 7, .o 8, .o 9, .o 10] rfl (by decide +kernel) rfl (fun K hK => ?_) | ((first | refine AWP_exit ?_ | refine AWP_skip ?_); simp (disch := decide) only [qs, qb, if_true, if_false, reduceIte]) | refine AWP_sq rfl (fun K hK => ?_) | refine ct rfl ?_ | ((try simp (disch := omega) only [go_sem, Nat.reduceBEq, Nat.reduceAdd]); (first | apply hK | (clear hK; apply hK) | (clear hK; clear hK; apply hK)); clear hK; (try clear K); (try dsimp only [behind, qs, qb])))
  refine cN rfl rfl rfl rfl (by exact QOf_spec hrw) ?_; rintro v1 h1 _ hv1; obtain ⟨v1_0, v1_1, v1_2, v1_3, v1_4, v1_5, v1_6, rfl, hv1⟩ := hv1.sa; (repeat (first | (refine wo rfl (fun k hk => ?_); simp (disch := omega) only [go_sem, Nat.reduceBEq, Nat.reduceAdd]; refine hk _ _ ?_; clear hk k) | refine wkt rfl ?_)); (try refine wk0 ?_)
  rw [hq] at hv1
  refine cN rfl rfl rfl rfl (by exact QRat_spec hv1 (by omega)) ?_; rintro v2 h2' s2 hv2; (repeat (first | (refine wo rfl (fun k hk => ?_); simp (disch := omega) only [go_sem, Nat.reduceBEq, Nat.reduceAdd]; refine hk _ _ ?_; clear hk k) | refine wkt rfl ?_)); (try refine wk0 ?_)
  obtain ⟨tn, td, rfl, t2, t3⟩ := hv2
  rw [en]
  obtain ⟨ta, tc, ts, rfl, hta, hts, _⟩ := t2.out
  obtain rfl : xs = ts := hxs.symm.trans hts
  obtain ⟨ta', tc', ts', rfl, hta', hts', _⟩ := t3.out
  obtain rfl : ys = ts' := hys.symm.trans hts'
  (repeat (first | (refine wo rfl (fun k hk => ?_); simp (disch := omega) only [go_sem, Nat.reduceBEq, Nat.reduceAdd]; refine hk _ _ ?_; clear hk k) | refine wkt rfl ?_)); (try refine wk0 ?_)
  have e0 : (neg == neg) = true := by simp
  repeat (first | (refine wo rfl (fun k hk => ?_); simp (disch := omega) only [go_sem, Nat.reduceBEq, Nat.reduceAdd, e0]; refine hk _ _ ?_; clear hk k) | refine wkt rfl ?_ | refine wk0 ?_ | refine rg rfl rfl (fun K hK => ?_) | refine rd [.o 0, .o 1, .o 2, .o 3, .o 4, .o 5, .o 6, .o 7, .o 8, .o 9, .o 10] rfl (by decide +kernel) rfl (fun K hK => ?_) | ((first | refine AWP_exit ?_ | refine AWP_skip ?_); simp (disch := decide) only [qs, qb, if_true, if_false, reduceIte]) | refine AWP_sq rfl (fun K hK => ?_) | refine ct rfl ?_ | ((try simp (disch := omega) only [go_sem, Nat.reduceBEq, Nat.reduceAdd]); (first | apply hK | (clear hK; apply hK) | (clear hK; clear hK; apply hK)); clear hK; (try clear K); (try dsimp only [behind, qs, qb])))
  refine AWP_loop (fun i : Nat => ⟨[(1, .p 0 0), (3, .p 1 0), (34, .v (.int .i64 xs.length)), (35, .v (.int .i64 i))], [[.bool neg, .slice a xs.length c, .slice a' ys.length c'], [.bool neg, .slice ta xs.length tc, .slice ta' ys.length tc']]⟩)
    (fun i h' => Le h2' h' ∧ Le h0 h' ∧ i ≤ xs.length) (fun i => xs.length - i) 0 ?_ ⟨inferInstance, inferInstance, by omega⟩ ?_
  · simp (disch := omega) only [go_sem, Nat.reduceBEq, Nat.reduceAdd]
  rintro i g1 ⟨hle, hle0, hi⟩
  by_cases hil : i < xs.length
  · obtain ⟨ad, rfl, hat⟩ := ha.rd g1 (i := i) (by omega)
    obtain ⟨ad', rfl, hat'⟩ := hta.rd g1 (i := i) (by omega)
    repeat (first | (refine wo rfl (fun k hk => ?_); simp (disch := omega) only [go_sem, Nat.reduceBEq, Nat.reduceAdd, hat, hat']; refine hk _ _ ?_; clear hk k) | refine wkt rfl ?_ | refine wk0 ?_ | refine rg rfl rfl (fun K hK => ?_) | refine rd [.o 0, .o 1, .o 2, .o 3, .o 4, .o 5, .o 6, .o 7, .o 8, .o 9, .o 10] rfl (by decide +kernel) rfl (fun K hK => ?_) | ((first | refine AWP_exit ?_ | refine AWP_skip ?_); simp (disch := decide) only [qs, qb, if_true, if_false, reduceIte]) | refine AWP_sq rfl (fun K hK => ?_) | refine ct rfl ?_ | ((try simp (disch := omega) only [go_sem, Nat.reduceBEq, Nat.reduceAdd]); (first | apply hK | (clear hK; apply hK) | (clear hK; clear hK; apply hK)); clear hK; (try clear K); (try dsimp only [behind, qs, qb])))
    refine ⟨i + 1, ?_, ⟨hle, hle0, by omega⟩, by omega⟩
    simp (disch := omega) only [go_sem, Nat.reduceBEq, Nat.reduceAdd]
  · repeat (first | (refine wo rfl (fun k hk => ?_); simp (disch := omega) only [go_sem, Nat.reduceBEq, Nat.reduceAdd]; refine hk _ _ ?_; clear hk k) | refine wkt rfl ?_ | refine wk0 ?_ | refine rg rfl rfl (fun K hK => ?_) | refine rd [.o 0, .o 1, .o 2, .o 3, .o 4, .o 5, .o 6, .o 7, .o 8, .o 9, .o 10] rfl (by decide +kernel) rfl (fun K hK => ?_) | ((first | refine AWP_exit ?_ | refine AWP_skip ?_); simp (disch := decide) only [qs, qb, if_true, if_false, reduceIte]) | refine AWP_sq rfl (fun K hK => ?_) | refine ct rfl ?_ | ((try simp (disch := omega) only [go_sem, Nat.reduceBEq, Nat.reduceAdd]); (first | apply hK | (clear hK; apply hK) | (clear hK; clear hK; apply hK)); clear hK; (try clear K); (try dsimp only [behind, qs, qb])))
    refine AWP_loop (fun i : Nat => ⟨[(1, .p 0 0), (3, .p 1 0), (52, .v (.int .i64 ys.length)), (53, .v (.int .i64 i))], [[.bool neg, .slice a xs.length c, .slice a' ys.length c'], [.bool neg, .slice ta xs.length tc, .slice ta' ys.length tc']]⟩)
      (fun i h' => Le h2' h' ∧ Le h0 h' ∧ i ≤ ys.length) (fun i => ys.length - i) 0 ?_ ⟨hle, hle0, by omega⟩ ?_
    · simp (disch := omega) only [go_sem, Nat.reduceBEq, Nat.reduceAdd]
    rintro i g2 ⟨hle, hle0, hi⟩
    by_cases hil : i < ys.length
    · obtain ⟨ad, rfl, hat⟩ := ha'.rd g2 (i := i) (by omega)
      obtain ⟨ad', rfl, hat'⟩ := hta'.rd g2 (i := i) (by omega)
      repeat (first | (refine wo rfl (fun k hk => ?_); simp (disch := omega) only [go_sem, Nat.reduceBEq, Nat.reduceAdd, hat, hat']; refine hk _ _ ?_; clear hk k) | refine wkt rfl ?_ | refine wk0 ?_ | refine rg rfl rfl (fun K hK => ?_) | refine rd [.o 0, .o 1, .o 2, .o 3, .o 4, .o 5, .o 6, .o 7, .o 8, .o 9, .o 10] rfl (by decide +kernel) rfl (fun K hK => ?_) | ((first | refine AWP_exit ?_ | refine AWP_skip ?_); simp (disch := decide) only [qs, qb, if_true, if_false, reduceIte]) | refine AWP_sq rfl (fun K hK => ?_) | refine ct rfl ?_ | ((try simp (disch := omega) only [go_sem, Nat.reduceBEq, Nat.reduceAdd]); (first | apply hK | (clear hK; apply hK) | (clear hK; clear hK; apply hK)); clear hK; (try clear K); (try dsimp only [behind, qs, qb])))
      refine ⟨i + 1, ?_, ⟨hle, hle0, by omega⟩, by omega⟩
      simp (disch := omega) only [go_sem, Nat.reduceBEq, Nat.reduceAdd]
    · repeat (first | (refine wo rfl (fun k hk => ?_); simp (disch := omega) only [go_sem, Nat.reduceBEq, Nat.reduceAdd]; refine hk _ _ ?_; clear hk k) | refine wkt rfl ?_ | refine wk0 ?_ | refine rg rfl rfl (fun K hK => ?_) | refine rd [.o 0, .o 1, .o 2, .o 3, .o 4, .o 5, .o 6, .o 7, .o 8, .o 9, .o 10] rfl (by decide +kernel) rfl (fun K hK => ?_) | ((first | refine AWP_exit ?_ | refine AWP_skip ?_); simp (disch := decide) only [qs, qb, if_true, if_false, reduceIte]) | refine AWP_sq rfl (fun K hK => ?_) | refine ct rfl ?_ | ((try simp (disch := omega) only [go_sem, Nat.reduceBEq, Nat.reduceAdd]); (first | apply hK | (clear hK; apply hK) | (clear hK; clear hK; apply hK)); clear hK; (try clear K); (try dsimp only [behind, qs, qb])))
      refine AWP_ret ?_; simp (disch := omega) only [go_sem, Nat.reduceBEq, Nat.reduceAdd]
end Go.Q
