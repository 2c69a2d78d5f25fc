/-
  Contracts of the reference's rational numbers: making them, denominators. Conditions: the slices hold digits (N16), of at most 2^38 bits.
  Contracts of the reference's rational numbers: words of 32 bits and digits of 16. Conditions: the slices hold words (Arr), digits (N16).
  Contracts of the reference's rational numbers: reading them from values, and giving them back. Conditions: the slices hold words (Rw), digits (Qr).
  Contracts of the reference's rational numbers: reading, giving, sizes, signs. Conditions: the values are rational numbers (Rw, Qr), of at most 2^36 binary digits.
  Contracts of the reference's rational numbers: sizes, signs, sums, order. Conditions: the values are rational numbers (Rw, Qr), of at most 2^34 binary digits.
  Contracts of the reference's rational numbers: grids, quotients. Conditions: the values are rational numbers (Qr), of at most 2^30 binary digits.
  Contracts of the reference's rational numbers: rounding to grids, quotients, results. Conditions: the values are rational numbers (Qr), of at most 2^30 binary digits.
  Powers of numbers, plain: their order, their size; whole parts of roots, and the step that finds them. Conditions: none.
  Contract of package word: powers of natural numbers. Conditions: the slice holds words (N32), the power has at most 2^36 bits.
  Contract of package word: whole parts of roots. Conditions: the slice holds words (N32), of at most 2^20 bits; the index is from 2 to 8.
  Roots of numbers on a grid, plain; what package number returns for them. Conditions: the number is not large, the index from 2 to 8, the precision at most 256.
  Roots of numbers on a grid, plain: their signs, when they are exact, their order. Conditions: the index is not 0.
  Contract of package word: powers of rational numbers. Conditions: the value is a rational number (Fr), of at most 2^20 binary digits, the exponent at most 64.
  Contracts of the reference's natural numbers: powers. Conditions: the slice holds digits (N16); the power has at most 2^30 bits.
  Contracts of the reference's rational numbers: powers. Conditions: the value is a rational number (Qr), of at most 2^20 binary digits, the exponent at most 64.
  Contracts of the reference's natural numbers: binary digits, whole parts of roots. Conditions: the slice holds digits (N16), of at most 2^20 bits; the index is from 2 to 8.
  Contracts of the reference's rational numbers: roots on a grid. Conditions: the values are rational numbers (Qr), of at most 2048 binary digits, the index from 2 to 8, the precision at most 256.
-/
import Derived.Test.YthagpdbpgdfojaaGreatDoorKd284b9PkG
import Derived.Test.YthagpdbpgdfojaaGreatDoorK8c26a1PkD
set_option linter.unusedVariables false
set_option linter.unusedSimpArgs false
namespace Go.Q
open Go.Proofs
set_option maxRecDepth 100000
set_option maxHeartbeats 4000000
def Qr (h : PH) (v : Value) (x : Rat) : Prop := ∃ sn sd e, v = .agg #[.bool (decide (x.num < 0)), sn, sd] ∧ N16 h sn x.num.natAbs ∧ N16 h sd e ∧ dz e = x.den
theorem Qr.to {h h' : PH} {v : Value} {x : Rat} (r : Qr h v x) [Le h h'] : Qr h' v x := let ⟨a, b, e, h1, h2, h3, h4⟩ := r; ⟨a, b, e, h1, h2.to, h3.to, h4⟩
theorem Qr.sl {h : PH} {v : Value} {x : Rat} (r : Qr h v x) : ∃ na nl nc da dl dc e, v = .agg #[.bool (decide (x.num < 0)), .slice na nl nc, .slice da dl dc] ∧ N16 h (.slice na nl nc) x.num.natAbs ∧ N16 h (.slice da dl dc) e ∧ dz e = x.den := by
  obtain ⟨sn, sd, e, rfl, h2, h3, h4⟩ := r
  obtain ⟨na, nl, nc, rfl, h2⟩ := h2.sl
  obtain ⟨da, dl, dc, rfl, h3⟩ := h3.sl
  exact ⟨_, _, _, _, _, _, e, rfl, h2, h3, h4⟩
theorem Qr.sa {h : PH} {v : Value} {x : Rat} (r : Qr h v x) : ∃ b na nl nc da dl dc, v = .agg #[.bool b, .slice na nl nc, .slice da dl dc] ∧ Qr h (.agg #[.bool b, .slice na nl nc, .slice da dl dc]) x := by
  obtain ⟨_, _, _, _, _, _, _, rfl, _⟩ := r.sl
  exact ⟨_, _, _, _, _, _, _, rfl, r⟩
theorem dz_self {d : Nat} (h : d ≠ 0) : dz d = d := by unfold dz; rw [if_neg h]
theorem Qr.of {h : PH} {neg : Bool} {n d : Nat} {sn sd : Value} {x : Rat} (hn : N16 h sn n) (hd : N16 h sd d) (h0 : n ≠ 0) (hd0 : d ≠ 0) (hc : Nat.gcd n d = 1) (hx : x = sgn neg n d) : Qr h (.agg #[.bool neg, sn, sd]) x := by
  obtain ⟨h1, h2⟩ := sgn_num (neg := neg) hd0 hc
  rw [← hx] at h1 h2
  refine ⟨sn, sd, d, ?_, ?_, hd, by rw [h2, dz_self hd0]⟩
  · have : decide (x.num < 0) = neg := by rw [h1]; cases neg <;> simp <;> omega
    rw [this]
  · have : x.num.natAbs = n := by rw [h1]; cases neg <;> simp
    rw [this]; exact hn
theorem Qr.zero {h : PH} {sd : Value} {e : Nat} (hd : N16 h sd e) (he : dz e = 1) : Qr h (.agg #[.bool false, .slice none 0 0, sd]) 0 := ⟨.slice none 0 0, sd, e, by simp, by simpa using N16.zero h, hd, by simpa using he⟩
theorem Qr.none (h : PH) : Qr h (.agg #[.bool false, .slice none 0 0, .slice none 0 0]) 0 := Qr.zero (N16.zero h) (by simp [dz])
theorem N16.len0 {h : PH} {a : Option Addr} {l c n : Nat} (r : N16 h (.slice a l c) n) : l = 0 ↔ n = 0 := by
  obtain ⟨a', c', h1, _⟩ := r
  cases h1
  exact W_len0 B16
theorem Make_1 {h0 h : PH} [Le h0 h] {neg : Bool} {v w : Value} {n : Nat} (hv : N16 h0 v n) (hw : N16 h0 w 1) (bn : bl n ≤ 2 ^ 38) :
    Spec mach 50 #[.bool neg, v, w] h (fun v h' => Qr h' v (sgn neg n 1)) NP := by
  obtain ⟨va, vc, xs, rfl, hva, hxs, hxm, hx16⟩ := hv.out
  obtain ⟨wa, wc, ys, rfl, hwa, hys, hym, hy16⟩ := hw.out
  have lv := hv.len0
  have sx : xs.length ≤ 2 ^ 38 := by have := len16_le_bl n; rw [hxs] at this; omega
  have hl : ys.length = 1 := by rw [← hys, W_one B16]; rfl
  obtain ⟨ad, rfl, hat⟩ := hwa.rd0 h (by omega)
  have e1 : ys.getD 0 0 = 1 := by rw [← hys, W_one B16]; rfl
  rw [e1, nc1] at hat
  refine Spec.enter (args := [_, _, _]) (n := 56) Tryz.func50 rfl (by kernel_rfl) rfl (by simp) [.cell 6 47] rfl (fun C _ => ?_)
  by_cases hn : n = 0
  · rw [hn, sgn_zero]
    repeat (first | (refine wo rfl (fun k hk => ?_); simp (disch := omega) only [go_sem, Nat.reduceBEq, Nat.reduceAdd]; refine hk _ _ ?_; clear hk k) | refine wkt rfl ?_ | refine wk0 ?_ | refine rg rfl rfl (fun K hK => ?_) | ((first | refine AWP_exit ?_ | refine AWP_skip ?_); simp (disch := decide) only [qs, qb, if_true, if_false, reduceIte]) | refine AWP_sq rfl (fun K hK => ?_) | refine ct rfl ?_ | ((try simp (disch := omega) only [go_sem, Nat.reduceBEq, Nat.reduceAdd]); (first | apply hK | (clear hK; apply hK) | (clear hK; clear hK; apply hK)); clear hK; (try clear K); (try dsimp only [behind, qs, qb])))
    refine cN rfl rfl rfl rfl (by exact NatOf_spec (n := 1) (by decide)) ?_; rintro v1 h1 s1 hv1; obtain ⟨va1, vl1, vc1, rfl, hv1⟩ := hv1.sl; (repeat (first | (refine wo rfl (fun k hk => ?_); simp (disch := omega) only [go_sem, Nat.reduceBEq, Nat.reduceAdd]; refine hk _ _ ?_; clear hk k) | refine wkt rfl ?_)); (try refine wk0 ?_)
    (try (simp (disch := omega) only [go_sem, Nat.reduceBEq, Nat.reduceAdd])); refine hK _ _ ?_; clear hK; (try clear K); (try dsimp only [behind, qs])
    refine AWP_ret ?_; simp (disch := omega) only [go_sem, Nat.reduceBEq, Nat.reduceAdd]
    exact Qr.zero hv1 (by decide)
  · repeat (first | (refine rg rfl rfl (fun K hK => ?_); (repeat (first | (refine wo rfl (fun k hk => ?_); simp (disch := omega) only [go_sem, Nat.reduceBEq, Nat.reduceAdd, hat]; refine hk _ _ ?_; clear hk k) | refine wkt rfl ?_)); (try refine wk0 ?_); refine hK _ _ ?_; clear hK K; (try dsimp only [behind, qs, qb])) | ((first | refine AWP_exit ?_ | refine AWP_skip ?_); simp (disch := decide) only [qs, qb, if_true, if_false, reduceIte]) | refine AWP_sq rfl (fun K hK => ?_) | refine ct rfl ?_ | ((first | refine hK _ _ ?_ | (clear hK; refine hK _ _ ?_) | (clear hK; clear hK; refine hK _ _ ?_)); clear hK; (try clear K)))
    refine AWP_rsp [.o 0, .o 1, .o 2, .o 3, .p 2, .o 4, .o 5, .o 6] rfl rfl (fun K hK => ?_); (repeat (first | (refine wo rfl (fun k hk => ?_); simp (disch := omega) only [go_sem, Nat.reduceBEq, Nat.reduceAdd]; refine hk _ _ ?_; clear hk k) | refine wkt rfl ?_)); (try refine wk0 ?_)
    refine wo rfl (fun k hk => ?_); simp (disch := omega) only [go_sem, Nat.reduceBEq, Nat.reduceAdd]
    refine ⟨uw xs, by simp [uw], fun hne => ?_, uw_all xs, fun junk => ?_⟩
    · obtain ⟨ad', h3, h4⟩ := hva.cells h hne
      exact ⟨ad', h3, h4⟩
    refine hk _ _ ?_; clear hk k
    refine wkp ?_; simp (disch := omega) only [go_sem, Nat.reduceBEq, Nat.reduceAdd]; intro b h2 hs2 hb; (repeat (first | (refine wo rfl (fun k hk => ?_); simp (disch := omega) only [go_sem, Nat.reduceBEq, Nat.reduceAdd]; refine hk _ _ ?_; clear hk k) | refine wkt rfl ?_)); (try refine wk0 ?_)
    have hA : N16 h2 (.slice (some ⟨b, 0, none⟩) xs.length (xs.length + junk.length)) n := N16.of_pub hb hxs (by omega) rfl (by omega)
    refine cN rfl rfl rfl rfl (by exact NatOf_spec (n := 1) (by decide)) ?_; rintro v1 h1 s1 hv1; obtain ⟨va1, vl1, vc1, rfl, hv1⟩ := hv1.sl; (repeat (first | (refine wo rfl (fun k hk => ?_); simp (disch := omega) only [go_sem, Nat.reduceBEq, Nat.reduceAdd]; refine hk _ _ ?_; clear hk k) | refine wkt rfl ?_)); (try refine wk0 ?_)
    (try (simp (disch := omega) only [go_sem, Nat.reduceBEq, Nat.reduceAdd])); refine hK _ _ ?_; clear hK; (try clear K); (try dsimp only [behind, qs])
    refine AWP_ret ?_; simp (disch := omega) only [go_sem, Nat.reduceBEq, Nat.reduceAdd]
    exact Qr.of hA.to hv1 hn (by decide) (by simp) rfl
theorem whole_spec {h0 h : PH} [Le h0 h] {v : Value} {x : Rat} (hx : Qr h0 v x) : Spec mach 49 #[v] h (fun v _ => v = .bool (decide (x.den = 1))) NP := by
  obtain ⟨na, nl, nc, da, dl, dc, e, rfl, hn, hd, he⟩ := hx.sl
  obtain ⟨da', c', ys, hde, hya, hys, hym, hy16⟩ := hd.out
  cases hde
  have ld := hd.len0
  have sy := hya.small
  rw [← he]
  refine Spec.enter (args := [_]) (n := 20) Tryz.func49 rfl (by kernel_rfl) rfl (by simp) [.tmp 2] rfl (fun C _ => ?_)
  by_cases h0 : e = 0
  · repeat (first | (refine wo rfl (fun k hk => ?_); simp (disch := omega) only [go_sem, Nat.reduceBEq, Nat.reduceAdd]; refine hk _ _ ?_; clear hk k) | refine wkt rfl ?_ | refine wk0 ?_ | refine rg rfl rfl (fun K hK => ?_) | ((first | refine AWP_exit ?_ | refine AWP_skip ?_); simp (disch := decide) only [qs, qb, if_true, if_false, reduceIte]) | refine AWP_sq rfl (fun K hK => ?_) | refine ct rfl ?_ | ((try simp (disch := omega) only [go_sem, Nat.reduceBEq, Nat.reduceAdd]); (first | apply hK | (clear hK; apply hK) | (clear hK; clear hK; apply hK)); clear hK; (try clear K); (try dsimp only [behind, qs, qb])))
    refine AWP_ret ?_; simp (disch := omega) only [go_sem, Nat.reduceBEq, Nat.reduceAdd]
    simp [h0, dz]
  · rw [dz_self h0]
    by_cases hl : ys.length = 1
    · obtain ⟨ad, rfl, hat⟩ := hya.rd0 h (by omega)
      obtain ⟨_, h2⟩ := W_len1 B16 (n := e) (by rw [hys]; exact hl)
      rw [hys] at h2
      rw [h2] at hat
      by_cases h1 : e = 1
      · repeat (first | (refine wo rfl (fun k hk => ?_); simp (disch := omega) only [go_sem, Nat.reduceBEq, Nat.reduceAdd, hat]; refine hk _ _ ?_; clear hk k) | refine wkt rfl ?_ | refine wk0 ?_ | refine rg rfl rfl (fun K hK => ?_) | ((first | refine AWP_exit ?_ | refine AWP_skip ?_); simp (disch := decide) only [qs, qb, if_true, if_false, reduceIte]) | refine AWP_sq rfl (fun K hK => ?_) | refine ct rfl ?_ | ((try simp (disch := omega) only [go_sem, Nat.reduceBEq, Nat.reduceAdd]); (first | apply hK | (clear hK; apply hK) | (clear hK; clear hK; apply hK)); clear hK; (try clear K); (try dsimp only [behind, qs, qb])))
        refine AWP_ret ?_; simp (disch := omega) only [go_sem, Nat.reduceBEq, Nat.reduceAdd]
        all_goals simp [h1]
      · repeat (first | (refine wo rfl (fun k hk => ?_); simp (disch := omega) only [go_sem, Nat.reduceBEq, Nat.reduceAdd, hat]; refine hk _ _ ?_; clear hk k) | refine wkt rfl ?_ | refine wk0 ?_ | refine rg rfl rfl (fun K hK => ?_) | ((first | refine AWP_exit ?_ | refine AWP_skip ?_); simp (disch := decide) only [qs, qb, if_true, if_false, reduceIte]) | refine AWP_sq rfl (fun K hK => ?_) | refine ct rfl ?_ | ((try simp (disch := omega) only [go_sem, Nat.reduceBEq, Nat.reduceAdd]); (first | apply hK | (clear hK; apply hK) | (clear hK; clear hK; apply hK)); clear hK; (try clear K); (try dsimp only [behind, qs, qb])))
        refine AWP_ret ?_; simp (disch := omega) only [go_sem, Nat.reduceBEq, Nat.reduceAdd]
        all_goals simp [h1]
    · have h1 : e ≠ 1 := by rintro rfl; rw [W_one B16] at hys; rw [← hys] at hl; exact hl rfl
      repeat (first | (refine wo rfl (fun k hk => ?_); simp (disch := omega) only [go_sem, Nat.reduceBEq, Nat.reduceAdd]; refine hk _ _ ?_; clear hk k) | refine wkt rfl ?_ | refine wk0 ?_ | refine rg rfl rfl (fun K hK => ?_) | ((first | refine AWP_exit ?_ | refine AWP_skip ?_); simp (disch := decide) only [qs, qb, if_true, if_false, reduceIte]) | refine AWP_sq rfl (fun K hK => ?_) | refine ct rfl ?_ | ((try simp (disch := omega) only [go_sem, Nat.reduceBEq, Nat.reduceAdd]); (first | apply hK | (clear hK; apply hK) | (clear hK; clear hK; apply hK)); clear hK; (try clear K); (try dsimp only [behind, qs, qb])))
      refine AWP_ret ?_; simp (disch := omega) only [go_sem, Nat.reduceBEq, Nat.reduceAdd]
      all_goals simp [h1]
theorem QInt_spec {h : PH} {n : Int} (h1 : -9223372036854775808 ≤ n) (h2 : n ≤ 9223372036854775807) : Spec mach 18 #[.int .i64 n] h (fun v h' => Qr h' v (n : Rat)) NP := by
  by_cases hn : n < 0
  · obtain ⟨m, rfl⟩ : ∃ m : Nat, n = -((m + 1 : Nat) : Int) := ⟨n.natAbs - 1, by omega⟩
    have e1 : IntKind.i64.wrap (-((m + 1 : Nat) : Int) + 1) = -(m : Int) := by rw [wi64 (by omega) (by omega)]; omega
    have e2 : IntKind.i64.wrap (0 - -(m : Int)) = (m : Int) := by rw [wi64 (by omega) (by omega)]; omega
    refine Spec.enter (args := [_]) (n := 18) Tryz.func18 rfl (by kernel_rfl) rfl (by simp) [.cell 2 47] rfl (fun C _ => ?_)
    repeat (first | (refine rg rfl rfl (fun K hK => ?_); (repeat (first | (refine wo rfl (fun k hk => ?_); simp (disch := omega) only [go_sem, Nat.reduceBEq, Nat.reduceAdd]; refine hk _ _ ?_; clear hk k) | refine wkt rfl ?_)); (try refine wk0 ?_); refine hK _ _ ?_; clear hK K; (try dsimp only [behind, qs, qb])) | ((first | refine AWP_exit ?_ | refine AWP_skip ?_); simp (disch := decide) only [qs, qb, if_true, if_false, reduceIte]) | refine AWP_sq rfl (fun K hK => ?_) | refine ct rfl ?_ | ((first | refine hK _ _ ?_ | (clear hK; refine hK _ _ ?_) | (clear hK; clear hK; refine hK _ _ ?_)); clear hK; (try clear K)))
    refine rg rfl rfl (fun K hK => ?_); (repeat (first | (refine wo rfl (fun k hk => ?_); simp (disch := omega) only [go_sem, Nat.reduceBEq, Nat.reduceAdd, e1, e2]; refine hk _ _ ?_; clear hk k) | refine wkt rfl ?_)); (try refine wk0 ?_)
    refine cN rfl rfl rfl rfl (by exact NatOf_spec (n := m + 1) (by omega)) ?_; rintro v1 h3 s3 hv1; obtain ⟨va1, vl1, vc1, rfl, hv1⟩ := hv1.sl; (repeat (first | (refine wo rfl (fun k hk => ?_); simp (disch := omega) only [go_sem, Nat.reduceBEq, Nat.reduceAdd]; refine hk _ _ ?_; clear hk k) | refine wkt rfl ?_)); (try refine wk0 ?_)
    refine cN rfl rfl rfl rfl (by exact NatOf_spec (n := 1) (by decide)) ?_; rintro v2 h4 s4 hv2; obtain ⟨va2, vl2, vc2, rfl, hv2⟩ := hv2.sl; (repeat (first | (refine wo rfl (fun k hk => ?_); simp (disch := omega) only [go_sem, Nat.reduceBEq, Nat.reduceAdd]; refine hk _ _ ?_; clear hk k) | refine wkt rfl ?_)); (try refine wk0 ?_)
    refine cN rfl rfl rfl rfl (by exact Make_1 (neg := true) (hv1.to (h' := h4)) hv2 (Nat.le_trans (bl_le.2 (show m + 1 < 2 ^ 64 by omega)) (by decide))) ?_; rintro v5 h5 _ hv5; obtain ⟨v5_0, v5_1, v5_2, v5_3, v5_4, v5_5, v5_6, rfl, hv5⟩ := hv5.sa; (repeat (first | (refine wo rfl (fun k hk => ?_); simp (disch := omega) only [go_sem, Nat.reduceBEq, Nat.reduceAdd]; refine hk _ _ ?_; clear hk k) | refine wkt rfl ?_)); (try refine wk0 ?_)
    (try (simp (disch := omega) only [go_sem, Nat.reduceBEq, Nat.reduceAdd])); refine hK _ _ ?_; clear hK; (try clear K); (try dsimp only [behind, qs])
    refine AWP_ret ?_; simp (disch := omega) only [go_sem, Nat.reduceBEq, Nat.reduceAdd]
    have : sgn true (m + 1) 1 = ((-((m + 1 : Nat) : Int) : Int) : Rat) := by rw [sgn_nat]; simp
    rw [this] at hv5; exact hv5
  · obtain ⟨m, rfl⟩ : ∃ m : Nat, n = (m : Int) := ⟨n.natAbs, by omega⟩
    refine Spec.enter (args := [_]) (n := 18) Tryz.func18 rfl (by kernel_rfl) rfl (by simp) [.cell 2 47] rfl (fun C _ => ?_)
    repeat (first | (refine wo rfl (fun k hk => ?_); simp (disch := omega) only [go_sem, Nat.reduceBEq, Nat.reduceAdd]; refine hk _ _ ?_; clear hk k) | refine wkt rfl ?_ | refine wk0 ?_ | refine rg rfl rfl (fun K hK => ?_) | ((first | refine AWP_exit ?_ | refine AWP_skip ?_); simp (disch := decide) only [qs, qb, if_true, if_false, reduceIte]) | refine AWP_sq rfl (fun K hK => ?_) | refine ct rfl ?_ | ((try simp (disch := omega) only [go_sem, Nat.reduceBEq, Nat.reduceAdd]); (first | apply hK | (clear hK; apply hK) | (clear hK; clear hK; apply hK)); clear hK; (try clear K); (try dsimp only [behind, qs, qb])))
    refine cN rfl rfl rfl rfl (by exact NatOf_spec (n := m) (by omega)) ?_; rintro v1 h3 s3 hv1; obtain ⟨va1, vl1, vc1, rfl, hv1⟩ := hv1.sl; (repeat (first | (refine wo rfl (fun k hk => ?_); simp (disch := omega) only [go_sem, Nat.reduceBEq, Nat.reduceAdd]; refine hk _ _ ?_; clear hk k) | refine wkt rfl ?_)); (try refine wk0 ?_)
    refine cN rfl rfl rfl rfl (by exact NatOf_spec (n := 1) (by decide)) ?_; rintro v2 h4 s4 hv2; obtain ⟨va2, vl2, vc2, rfl, hv2⟩ := hv2.sl; (repeat (first | (refine wo rfl (fun k hk => ?_); simp (disch := omega) only [go_sem, Nat.reduceBEq, Nat.reduceAdd]; refine hk _ _ ?_; clear hk k) | refine wkt rfl ?_)); (try refine wk0 ?_)
    refine cN rfl rfl rfl rfl (by exact Make_1 (neg := false) (hv1.to (h' := h4)) hv2 (Nat.le_trans (bl_le.2 (show m < 2 ^ 64 by omega)) (by decide))) ?_; rintro v5 h5 _ hv5; obtain ⟨v5_0, v5_1, v5_2, v5_3, v5_4, v5_5, v5_6, rfl, hv5⟩ := hv5.sa; (repeat (first | (refine wo rfl (fun k hk => ?_); simp (disch := omega) only [go_sem, Nat.reduceBEq, Nat.reduceAdd]; refine hk _ _ ?_; clear hk k) | refine wkt rfl ?_)); (try refine wk0 ?_)
    (try (simp (disch := omega) only [go_sem, Nat.reduceBEq, Nat.reduceAdd])); refine hK _ _ ?_; clear hK; (try clear K); (try dsimp only [behind, qs])
    refine AWP_ret ?_; simp (disch := omega) only [go_sem, Nat.reduceBEq, Nat.reduceAdd]
    have : sgn false m 1 = (((m : Nat) : Int) : Rat) := by rw [sgn_nat]; simp
    rw [this] at hv5; exact hv5
end Go.Q
namespace Go.Q
open Go.Proofs
set_option maxRecDepth 100000
set_option maxHeartbeats 4000000
theorem take_snoc_getD {xs : List Nat} {k : Nat} (h : k < xs.length) : xs.take (k + 1) = xs.take k ++ [xs.getD k 0] := by
  rw [List.take_succ_eq_append_getElem h]; simp [h]
@[go_sem] theorem uw_mk2 (c d : Nat) : [Value.int .u32 (c : Nat), Value.int .u32 (d : Nat)] = uw [c, d] := rfl
@[go_sem] theorem spl2 (c d : Nat) : spl (spl [Value.int .u32 0, Value.int .u32 0] 0 (uw [c])) 1 (uw [d]) = uw [c, d] := rfl
@[go_sem] theorem take2 (c d : Nat) : (uw [c, d]).take 2 = uw [c, d] := rfl
end Go.Q
namespace Go.Q
open Go.Proofs
set_option maxRecDepth 100000
set_option maxHeartbeats 4000000
theorem P16_32 (k : Nat) : 65536 ^ (2 * k) = 4294967296 ^ k := by rw [Nat.pow_mul]
theorem len_16_32 {n k : Nat} : (W 65536 n).length ≤ 2 * k ↔ (W 4294967296 n).length ≤ k := by
  constructor
  · intro h
    refine W_length_le B32 ?_
    rw [← P16_32]
    exact Nat.lt_of_lt_of_le (lt_W_length B16 n) (Nat.pow_le_pow_right (by decide) h)
  · intro h
    refine W_length_le B16 ?_
    rw [P16_32]
    exact Nat.lt_of_lt_of_le (lt_W_length B32 n) (Nat.pow_le_pow_right (by decide) h)
theorem digit_16_32 (n k : Nat) : (W 65536 n).getD (2 * k) 0 + (W 65536 n).getD (2 * k + 1) 0 * 65536 = (W 4294967296 n).getD k 0 := by
  rw [W_getD B16, W_getD B16, W_getD B32, Nat.pow_succ, P16_32, ← Nat.div_div_eq_div_mul]
  omega
theorem N32.of_pub {h : PH} {b : Nat} {ds : List Nat} {junk : List Value} {n L c : Nat} (hb : uw ds ++ junk ≠ [] → h b = some (uw ds ++ junk).toArray) (hW : W 4294967296 n = ds) (hs : ds.length ≤ 2 ^ 46) (hL : ds.length = L) (hc : ds.length ≤ c) : N32 h (.slice (some ⟨b, 0, none⟩) L c) n := by
  refine ⟨_, c, by rw [hW, hL], ?_⟩
  rw [hW]
  have hlt : ∀ x ∈ ds, x < 4294967296 := by rw [← hW]; exact W_lt B32 n
  refine .of_block hb (fun i x hi => ?_) hlt hs hc
  have hil : i < ds.length := (List.getElem?_eq_some_iff.1 hi).1
  rw [List.getElem?_append_left (by simp [uw]; exact hil)]
  simp [uw, hi]
theorem list_spec {h0 h : PH} [Le h0 h] {v : Value} {n : Nat} (hv : N16 h0 v n) (bn : bl n ≤ 2 ^ 40) : Spec mach 48 #[v] h (fun v h' => N32 h' v n) NP := by
  obtain ⟨a, c, xs, rfl, ha, hxs, hm, hx16⟩ := hv.out
  obtain ⟨zs, hzs⟩ : ∃ zs, W 4294967296 n = zs := ⟨_, rfl⟩
  have hs : xs.length ≤ 2 ^ 40 := by have := len16_le_bl n; rw [hxs] at this; omega
  have hzl : zs.length ≤ 2 ^ 40 := by have := len_le_bl n; rw [hzs] at this; omega
  have hlen : ∀ k, xs.length ≤ 2 * k ↔ zs.length ≤ k := fun k => by rw [← hxs, ← hzs]; exact len_16_32
  have hdig : ∀ k, xs.getD (2 * k) 0 + xs.getD (2 * k + 1) 0 * 65536 = zs.getD k 0 := fun k => by rw [← hxs, ← hzs]; exact digit_16_32 n k
  refine Spec.enter (args := [_]) (n := 34) Tryz.func48 rfl (by kernel_rfl) rfl (by simp) [.tmp 2] rfl (fun C _ => ?_)
  repeat (first | (refine wo rfl (fun k hk => ?_); simp (disch := omega) only [go_sem, Nat.reduceBEq, Nat.reduceAdd]; refine hk _ _ ?_; clear hk k) | refine wkt rfl ?_ | refine wk0 ?_ | refine rg rfl rfl (fun K hK => ?_) | ((first | refine AWP_exit ?_ | refine AWP_skip ?_); simp (disch := decide) only [qs, qb, if_true, if_false, reduceIte]) | refine AWP_sq rfl (fun K hK => ?_) | refine ct rfl ?_ | ((try simp (disch := omega) only [go_sem, Nat.reduceBEq, Nat.reduceAdd]); (first | apply hK | (clear hK; apply hK) | (clear hK; clear hK; apply hK)); clear hK; (try clear K); (try dsimp only [behind, qs, qb])))
  refine AWP_loopS (fun x : Nat ⊕ (Nat × List Value) => match x with
      | .inl _ => ⟨[(0, .v (.slice a xs.length c)), (3, .v (.slice none 0 0)), (4, .v (.int .i64 0))], []⟩
      | .inr (k, jk) => ⟨[(0, .v (.slice a xs.length c)), (3, .s 0 0 k (k + jk.length)), (4, .v (.int .i64 (2 * k : Nat)))], [uw (zs.take k) ++ jk]⟩)
    (fun x h' => Le h0 h' ∧ match x with
      | .inl _ => True
      | .inr (k, _) => k ≤ zs.length)
    (fun x => match x with
      | .inl _ => zs.length + 1
      | .inr (k, _) => zs.length - k) (.inl 0) [] ?_ ⟨inferInstance, trivial⟩ ?_
  · simp (disch := omega) only [go_sem, Nat.reduceBEq, Nat.reduceAdd]
  · rintro (r | ⟨i, jk⟩) h1 ⟨hle, hi⟩
    · dsimp only at hi ⊢
      have hl0 := hlen 0
      have hd0 := hdig 0
      simp only [Nat.mul_zero, Nat.zero_add] at hl0 hd0
      by_cases hx0 : xs.length = 0
      · repeat (first | (refine wo rfl (fun k hk => ?_); simp (disch := omega) only [go_sem, Nat.reduceBEq, Nat.reduceAdd]; refine hk _ _ ?_; clear hk k) | refine wkt rfl ?_ | refine wk0 ?_ | refine rg rfl rfl (fun K hK => ?_) | ((first | refine AWP_exit ?_ | refine AWP_skip ?_); simp (disch := decide) only [qs, qb, if_true, if_false, reduceIte]) | refine AWP_sq rfl (fun K hK => ?_) | refine ct rfl ?_ | ((try simp (disch := omega) only [go_sem, Nat.reduceBEq, Nat.reduceAdd]); (first | apply hK | (clear hK; apply hK) | (clear hK; clear hK; apply hK)); clear hK; (try clear K); (try dsimp only [behind, qs, qb])))
        refine AWP_ret ?_; simp (disch := omega) only [go_sem, Nat.reduceBEq, Nat.reduceAdd]
        have : n = 0 := by rw [← hm, List.eq_nil_of_length_eq_zero hx0]; rfl
        rw [this]; exact N32.zero _
      · obtain ⟨ad, rfl, hat⟩ := ha.rd0 h1 (by omega)
        have hx := getD_lt (by decide) hx16 0
        have e1 : zs.take 1 = [zs.getD 0 0] := by rw [take_snoc_getD (k := 0) (by omega)]; rfl
        by_cases hx1 : 1 < xs.length
        · obtain ⟨ad', h', hat'⟩ := ha.rd h1 (i := 1) (by omega)
          obtain rfl : ad = ad' := by simpa using h'
          have hy := getD_lt (by decide) hx16 1
          have hat1 : h1.at (ad.add ((0 : Int) + 1).toNat) = some (.int .u32 (xs.getD 1 0 : Nat)) := hat'
          repeat (first | (refine wo rfl (fun k hk => ?_); simp (disch := omega) only [go_sem, Nat.reduceBEq, Nat.reduceAdd, hat, hat1, hd0]; refine hk _ _ ?_; clear hk k) | refine wkt rfl ?_ | refine wk0 ?_ | refine rg rfl rfl (fun K hK => ?_) | ((first | refine AWP_exit ?_ | refine AWP_skip ?_); simp (disch := decide) only [qs, qb, if_true, if_false, reduceIte]) | refine AWP_sq rfl (fun K hK => ?_) | refine ct rfl ?_ | ((try simp (disch := omega) only [go_sem, Nat.reduceBEq, Nat.reduceAdd]); (first | apply hK | (clear hK; apply hK) | (clear hK; clear hK; apply hK)); clear hK; (try clear K); (try dsimp only [behind, qs, qb])))
          refine wo rfl (fun k hk => ?_); simp (disch := omega) only [go_sem, Nat.reduceBEq, Nat.reduceAdd]
          intro _ junk
          refine hk _ _ ?_; clear hk k
          (repeat (first | (refine wo rfl (fun k hk => ?_); simp (disch := omega) only [go_sem, Nat.reduceBEq, Nat.reduceAdd]; refine hk _ _ ?_; clear hk k) | refine wkt rfl ?_)); (try refine wk0 ?_)
          repeat (first | (refine wo rfl (fun k hk => ?_); simp (disch := omega) only [go_sem, Nat.reduceBEq, Nat.reduceAdd]; refine hk _ _ ?_; clear hk k) | refine wkt rfl ?_ | refine wk0 ?_ | refine rg rfl rfl (fun K hK => ?_) | ((first | refine AWP_exit ?_ | refine AWP_skip ?_); simp (disch := decide) only [qs, qb, if_true, if_false, reduceIte]) | refine AWP_sq rfl (fun K hK => ?_) | refine ct rfl ?_ | ((try simp (disch := omega) only [go_sem, Nat.reduceBEq, Nat.reduceAdd]); (first | apply hK | (clear hK; apply hK) | (clear hK; clear hK; apply hK)); clear hK; (try clear K); (try dsimp only [behind, qs, qb])))
          refine ⟨.inr (1, junk), [1], ?_, ⟨hle, by dsimp only; omega⟩, by dsimp only; omega⟩
          simp (disch := omega) only [go_sem, Nat.reduceBEq, Nat.reduceAdd, e1]
          rfl
        · have hy : xs.getD 1 0 = 0 := getD_none (by omega)
          rw [hy, Nat.zero_mul, Nat.add_zero] at hd0
          repeat (first | (refine wo rfl (fun k hk => ?_); simp (disch := omega) only [go_sem, Nat.reduceBEq, Nat.reduceAdd, hat, hd0]; refine hk _ _ ?_; clear hk k) | refine wkt rfl ?_ | refine wk0 ?_ | refine rg rfl rfl (fun K hK => ?_) | ((first | refine AWP_exit ?_ | refine AWP_skip ?_); simp (disch := decide) only [qs, qb, if_true, if_false, reduceIte]) | refine AWP_sq rfl (fun K hK => ?_) | refine ct rfl ?_ | ((try simp (disch := omega) only [go_sem, Nat.reduceBEq, Nat.reduceAdd]); (first | apply hK | (clear hK; apply hK) | (clear hK; clear hK; apply hK)); clear hK; (try clear K); (try dsimp only [behind, qs, qb])))
          refine wo rfl (fun k hk => ?_); simp (disch := omega) only [go_sem, Nat.reduceBEq, Nat.reduceAdd]
          intro _ junk
          refine hk _ _ ?_; clear hk k
          (repeat (first | (refine wo rfl (fun k hk => ?_); simp (disch := omega) only [go_sem, Nat.reduceBEq, Nat.reduceAdd]; refine hk _ _ ?_; clear hk k) | refine wkt rfl ?_)); (try refine wk0 ?_)
          repeat (first | (refine wo rfl (fun k hk => ?_); simp (disch := omega) only [go_sem, Nat.reduceBEq, Nat.reduceAdd]; refine hk _ _ ?_; clear hk k) | refine wkt rfl ?_ | refine wk0 ?_ | refine rg rfl rfl (fun K hK => ?_) | ((first | refine AWP_exit ?_ | refine AWP_skip ?_); simp (disch := decide) only [qs, qb, if_true, if_false, reduceIte]) | refine AWP_sq rfl (fun K hK => ?_) | refine ct rfl ?_ | ((try simp (disch := omega) only [go_sem, Nat.reduceBEq, Nat.reduceAdd]); (first | apply hK | (clear hK; apply hK) | (clear hK; clear hK; apply hK)); clear hK; (try clear K); (try dsimp only [behind, qs, qb])))
          refine ⟨.inr (1, junk), [1], ?_, ⟨hle, by dsimp only; omega⟩, by dsimp only; omega⟩
          simp (disch := omega) only [go_sem, Nat.reduceBEq, Nat.reduceAdd, e1]
          rfl
    · dsimp only at hi ⊢
      have hli := hlen i
      have hdi := hdig i
      by_cases hil : i < zs.length
      · obtain ⟨ad, rfl, hat⟩ := ha.rd h1 (i := 2 * i) (by omega)
        have hx := getD_lt (by decide) hx16 (2 * i)
        have e1 := take_snoc_getD hil
        have ez : (zs.take i).length = i := by rw [List.length_take, Nat.min_eq_left (by omega)]
        by_cases hx1 : 2 * i + 1 < xs.length
        · obtain ⟨ad', h', hat'⟩ := ha.rd h1 (i := 2 * i + 1) (by omega)
          obtain rfl : ad = ad' := by simpa using h'
          have hy := getD_lt (by decide) hx16 (2 * i + 1)
          simp (disch := omega) only [go_sem, Nat.reduceBEq, Nat.reduceAdd] at hat'
          repeat (first | (refine wo rfl (fun k hk => ?_); simp (disch := omega) only [go_sem, Nat.reduceBEq, Nat.reduceAdd, hat, hat', hdi]; refine hk _ _ ?_; clear hk k) | refine wkt rfl ?_ | refine wk0 ?_ | refine rg rfl rfl (fun K hK => ?_) | ((first | refine AWP_exit ?_ | refine AWP_skip ?_); simp (disch := decide) only [qs, qb, if_true, if_false, reduceIte]) | refine AWP_sq rfl (fun K hK => ?_) | refine ct rfl ?_ | ((try simp (disch := omega) only [go_sem, Nat.reduceBEq, Nat.reduceAdd]); (first | apply hK | (clear hK; apply hK) | (clear hK; clear hK; apply hK)); clear hK; (try clear K); (try dsimp only [behind, qs, qb])))
          refine wo rfl (fun k hk => ?_); simp (disch := omega) only [go_sem, Nat.reduceBEq, Nat.reduceAdd]
          intro junk
          refine hk _ _ ?_; clear hk k
          (repeat (first | (refine wo rfl (fun k hk => ?_); simp (disch := omega) only [go_sem, Nat.reduceBEq, Nat.reduceAdd]; refine hk _ _ ?_; clear hk k) | refine wkt rfl ?_)); (try refine wk0 ?_)
          repeat (first | (refine wo rfl (fun k hk => ?_); simp (disch := omega) only [go_sem, Nat.reduceBEq, Nat.reduceAdd]; refine hk _ _ ?_; clear hk k) | refine wkt rfl ?_ | refine wk0 ?_ | refine rg rfl rfl (fun K hK => ?_) | ((first | refine AWP_exit ?_ | refine AWP_skip ?_); simp (disch := decide) only [qs, qb, if_true, if_false, reduceIte]) | refine AWP_sq rfl (fun K hK => ?_) | refine ct rfl ?_ | ((try simp (disch := omega) only [go_sem, Nat.reduceBEq, Nat.reduceAdd]); (first | apply hK | (clear hK; apply hK) | (clear hK; clear hK; apply hK)); clear hK; (try clear K); (try dsimp only [behind, qs, qb])))
          refine ⟨.inr (i + 1, junk), [2], ?_, ⟨hle, by dsimp only; omega⟩, by dsimp only; omega⟩
          simp (disch := omega) only [go_sem, Nat.reduceBEq, Nat.reduceAdd, e1, uw_snoc, Nat.mul_add]
        · have hy : xs.getD (2 * i + 1) 0 = 0 := getD_none (by omega)
          rw [hy, Nat.zero_mul, Nat.add_zero] at hdi
          repeat (first | (refine wo rfl (fun k hk => ?_); simp (disch := omega) only [go_sem, Nat.reduceBEq, Nat.reduceAdd, hat, hdi]; refine hk _ _ ?_; clear hk k) | refine wkt rfl ?_ | refine wk0 ?_ | refine rg rfl rfl (fun K hK => ?_) | ((first | refine AWP_exit ?_ | refine AWP_skip ?_); simp (disch := decide) only [qs, qb, if_true, if_false, reduceIte]) | refine AWP_sq rfl (fun K hK => ?_) | refine ct rfl ?_ | ((try simp (disch := omega) only [go_sem, Nat.reduceBEq, Nat.reduceAdd]); (first | apply hK | (clear hK; apply hK) | (clear hK; clear hK; apply hK)); clear hK; (try clear K); (try dsimp only [behind, qs, qb])))
          refine wo rfl (fun k hk => ?_); simp (disch := omega) only [go_sem, Nat.reduceBEq, Nat.reduceAdd]
          intro junk
          refine hk _ _ ?_; clear hk k
          (repeat (first | (refine wo rfl (fun k hk => ?_); simp (disch := omega) only [go_sem, Nat.reduceBEq, Nat.reduceAdd]; refine hk _ _ ?_; clear hk k) | refine wkt rfl ?_)); (try refine wk0 ?_)
          repeat (first | (refine wo rfl (fun k hk => ?_); simp (disch := omega) only [go_sem, Nat.reduceBEq, Nat.reduceAdd]; refine hk _ _ ?_; clear hk k) | refine wkt rfl ?_ | refine wk0 ?_ | refine rg rfl rfl (fun K hK => ?_) | ((first | refine AWP_exit ?_ | refine AWP_skip ?_); simp (disch := decide) only [qs, qb, if_true, if_false, reduceIte]) | refine AWP_sq rfl (fun K hK => ?_) | refine ct rfl ?_ | ((try simp (disch := omega) only [go_sem, Nat.reduceBEq, Nat.reduceAdd]); (first | apply hK | (clear hK; apply hK) | (clear hK; clear hK; apply hK)); clear hK; (try clear K); (try dsimp only [behind, qs, qb])))
          refine ⟨.inr (i + 1, junk), [2], ?_, ⟨hle, by dsimp only; omega⟩, by dsimp only; omega⟩
          simp (disch := omega) only [go_sem, Nat.reduceBEq, Nat.reduceAdd, e1, uw_snoc, Nat.mul_add]
      · obtain rfl : i = zs.length := by omega
        rw [List.take_of_length_le (Nat.le_refl _)]
        repeat (first | (refine rg rfl rfl (fun K hK => ?_); (repeat (first | (refine wo rfl (fun k hk => ?_); simp (disch := omega) only [go_sem, Nat.reduceBEq, Nat.reduceAdd]; refine hk _ _ ?_; clear hk k) | refine wkt rfl ?_)); (try refine wk0 ?_); refine hK _ _ ?_; clear hK K; (try dsimp only [behind, qs, qb])) | ((first | refine AWP_exit ?_ | refine AWP_skip ?_); simp (disch := decide) only [qs, qb, if_true, if_false, reduceIte]) | refine AWP_sq rfl (fun K hK => ?_) | refine ct rfl ?_ | ((first | refine hK _ _ ?_ | (clear hK; refine hK _ _ ?_) | (clear hK; clear hK; refine hK _ _ ?_)); clear hK; (try clear K)))
        refine AWP_pub 0 ?_
        simp (disch := omega) only [go_sem, Nat.reduceBEq, Nat.reduceAdd]
        intro b h2 hs2 hb
        refine AWP_ret ?_; simp (disch := omega) only [go_sem, Nat.reduceBEq, Nat.reduceAdd]
        exact N32.of_pub hb hzs (by omega) rfl (by omega)
end Go.Q
namespace Go.Q
open Go.Proofs
set_option maxRecDepth 100000
set_option maxHeartbeats 4000000
theorem QRat_spec {h0 h : PH} [Le h0 h] {v : Value} {x : Rat} (hx : Qr h0 v x) (bx : sz x ≤ 2 ^ 36) : Spec mach 17 #[v] h (fun v h' => Cn h' v x) NP := by
  obtain ⟨na, nl, nc, da, dl, dc, e, rfl, hn, hd, he⟩ := hx.sl
  have b1 := sz_num x; have b2 := sz_den x
  have b3 : bl e ≤ sz x := by
    rcases Nat.eq_zero_or_pos e with h | h
    · subst h; have : bl 0 = 0 := by decide
      omega
    · rw [dz_self (by omega)] at he; rw [he]; exact b2
  have ln := hn.len0
  obtain ⟨neg, en⟩ : ∃ b, decide (x.num < 0) = b := ⟨_, rfl⟩
  rw [en] at hx ⊢
  have hnn : neg = true → 0 < nl := by
    intro e1
    rw [e1, decide_eq_true_eq] at en
    rcases Nat.eq_zero_or_pos nl with h | h
    · have := ln.1 h; omega
    · exact h
  refine Spec.enter (args := [_]) (n := 24) Tryz.func17 rfl (by kernel_rfl) rfl (by simp) [.cell 2 24] rfl (fun C _ => ?_)
  repeat (first | (refine rg rfl rfl (fun K hK => ?_); (repeat (first | (refine wo rfl (fun k hk => ?_); simp (disch := omega) only [go_sem, Nat.reduceBEq, Nat.reduceAdd]; refine hk _ _ ?_; clear hk k) | refine wkt rfl ?_)); (try refine wk0 ?_); refine hK _ _ ?_; clear hK K; (try dsimp only [behind, qs, qb])) | ((first | refine AWP_exit ?_ | refine AWP_skip ?_); simp (disch := decide) only [qs, qb, if_true, if_false, reduceIte]) | refine AWP_sq rfl (fun K hK => ?_) | refine ct rfl ?_ | ((first | refine hK _ _ ?_ | (clear hK; refine hK _ _ ?_) | (clear hK; clear hK; refine hK _ _ ?_)); clear hK; (try clear K)))
  (first | refine AWP_t (.seg [.o 0, .o 1, .o 2, .o 3, .o 4, .o 5, .o 6, .o 7, .o 8, .o 9] (.alt 10 (.seg [.o 11] (.alt 12 (.alt 13 .done .no) .no)) (.alt 12 (.alt 10 (.seg [.o 11] (.alt 13 .done .no)) .no) .no))) (by decide +kernel) rfl (fun K hK => ?_) | refine AWP_tk (.seg [.o 0, .o 1, .o 2, .o 3, .o 4, .o 5, .o 6, .o 7, .o 8, .o 9] (.alt 10 (.seg [.o 11] (.alt 12 (.alt 13 .done .no) .no)) (.alt 12 (.alt 10 (.seg [.o 11] (.alt 13 .done .no)) .no) .no))) (by decide +kernel) rfl (fun K hK => ?_))
  have rest : ∀ (va : Option Addr) (vl vc : Nat) (h' : PH) (S : AS), Le h0 h' → N32 h' (.slice va vl vc) x.num.natAbs → S.le ⟨[(1, .p 0 0), (2, .p 1 0), (3, .p 2 0)], [[.bool neg, .slice na nl nc, .slice da dl dc], [.bool false, .slice none 0 0, .slice none 0 0], [.bool neg, .slice va vl vc, .slice none 0 0]]⟩ → K S h' := by
    intro va vl vc h' S _ hz hS
    refine hK _ _ (AWP_le _ hS ?_); clear hK K
    refine AWP_sqs (fun K hK => ?_)
    refine rg rfl rfl (fun K hK => ?_); (repeat (first | (refine wo rfl (fun k hk => ?_); simp (disch := omega) only [go_sem, Nat.reduceBEq, Nat.reduceAdd]; refine hk _ _ ?_; clear hk k) | refine wkt rfl ?_ | with_reducible refine wk0 ?_ | with_reducible refine wt_seg ?_ | with_reducible refine wt_alt ?_ wt_no | with_reducible refine wt_done ?_))
    refine cN rfl rfl rfl rfl (by exact whole_spec hx) ?_; rintro v3 h3 s3 rfl; (repeat (first | (refine wo rfl (fun k hk => ?_); simp (disch := omega) only [go_sem, Nat.reduceBEq, Nat.reduceAdd]; refine hk _ _ ?_; clear hk k) | refine wkt rfl ?_ | with_reducible refine wk0 ?_ | with_reducible refine wt_seg ?_ | with_reducible refine wt_alt ?_ wt_no | with_reducible refine wt_done ?_))
    by_cases h1 : x.den = 1
    · ((try (simp (disch := omega) only [go_sem, Nat.reduceBEq, Nat.reduceAdd])); refine hK _ _ ?_; clear hK; (try clear K); (try dsimp only [behind, qs])); (repeat (first | (refine rg rfl rfl (fun K hK => ?_); (repeat (first | (refine wo rfl (fun k hk => ?_); simp (disch := omega) only [go_sem, Nat.reduceBEq, Nat.reduceAdd]; refine hk _ _ ?_; clear hk k) | refine wkt rfl ?_)); (try refine wk0 ?_); refine hK _ _ ?_; clear hK K; (try dsimp only [behind, qs, qb])) | ((first | refine AWP_exit ?_ | refine AWP_skip ?_); simp (disch := decide) only [qs, qb, if_true, if_false, reduceIte]) | refine AWP_sq rfl (fun K hK => ?_) | refine ct rfl ?_ | ((first | refine hK _ _ ?_ | (clear hK; refine hK _ _ ?_) | (clear hK; clear hK; refine hK _ _ ?_)); clear hK; (try clear K))))
      refine AWP_ret ?_; simp (disch := omega) only [go_sem, Nat.reduceBEq, Nat.reduceAdd]
      exact ⟨_, _, by rw [en], hz.to, by rw [if_pos h1]; exact N32.zero _⟩
    · have e1 : e = x.den := by
        rw [← he] at h1 ⊢
        unfold dz at h1 ⊢
        split at h1
        · exact (h1 rfl).elim
        · rename_i h2; rw [if_neg h2]
      rw [e1] at hd b3
      ((try (simp (disch := omega) only [go_sem, Nat.reduceBEq, Nat.reduceAdd])); refine hK _ _ ?_; clear hK; (try clear K); (try dsimp only [behind, qs])); (repeat (first | (refine rg rfl rfl (fun K hK => ?_); (repeat (first | (refine wo rfl (fun k hk => ?_); simp (disch := omega) only [go_sem, Nat.reduceBEq, Nat.reduceAdd]; refine hk _ _ ?_; clear hk k) | refine wkt rfl ?_)); (try refine wk0 ?_); refine hK _ _ ?_; clear hK K; (try dsimp only [behind, qs, qb])) | ((first | refine AWP_exit ?_ | refine AWP_skip ?_); simp (disch := decide) only [qs, qb, if_true, if_false, reduceIte]) | refine AWP_sq rfl (fun K hK => ?_) | refine ct rfl ?_ | ((first | refine hK _ _ ?_ | (clear hK; refine hK _ _ ?_) | (clear hK; clear hK; refine hK _ _ ?_)); clear hK; (try clear K)))); (refine rg rfl rfl (fun K hK => ?_); (repeat (first | (refine wo rfl (fun k hk => ?_); simp (disch := omega) only [go_sem, Nat.reduceBEq, Nat.reduceAdd]; refine hk _ _ ?_; clear hk k) | refine wkt rfl ?_ | with_reducible refine wk0 ?_ | with_reducible refine wt_seg ?_ | with_reducible refine wt_alt ?_ wt_no | with_reducible refine wt_done ?_)))
      refine cN rfl rfl rfl rfl (by exact list_spec hd (by omega)) ?_; rintro v4 h4 _ hv4; obtain ⟨v4, v4_l, v4_c, rfl, hv4⟩ := hv4.sl; (repeat (first | (refine wo rfl (fun k hk => ?_); simp (disch := omega) only [go_sem, Nat.reduceBEq, Nat.reduceAdd]; refine hk _ _ ?_; clear hk k) | refine wkt rfl ?_ | with_reducible refine wk0 ?_ | with_reducible refine wt_seg ?_ | with_reducible refine wt_alt ?_ wt_no | with_reducible refine wt_done ?_))
      ((try (simp (disch := omega) only [go_sem, Nat.reduceBEq, Nat.reduceAdd])); refine hK _ _ ?_; clear hK; (try clear K); (try dsimp only [behind, qs])); (repeat (first | (refine rg rfl rfl (fun K hK => ?_); (repeat (first | (refine wo rfl (fun k hk => ?_); simp (disch := omega) only [go_sem, Nat.reduceBEq, Nat.reduceAdd]; refine hk _ _ ?_; clear hk k) | refine wkt rfl ?_)); (try refine wk0 ?_); refine hK _ _ ?_; clear hK K; (try dsimp only [behind, qs, qb])) | ((first | refine AWP_exit ?_ | refine AWP_skip ?_); simp (disch := decide) only [qs, qb, if_true, if_false, reduceIte]) | refine AWP_sq rfl (fun K hK => ?_) | refine ct rfl ?_ | ((first | refine hK _ _ ?_ | (clear hK; refine hK _ _ ?_) | (clear hK; clear hK; refine hK _ _ ?_)); clear hK; (try clear K))))
      refine AWP_ret ?_; simp (disch := omega) only [go_sem, Nat.reduceBEq, Nat.reduceAdd]
      exact ⟨_, _, by rw [en], hz.to, by rw [if_neg h1]; exact hv4⟩
  cases neg with
  | true =>
    have hnn' := hnn rfl
    (repeat (first | (refine wo rfl (fun k hk => ?_); simp (disch := omega) only [go_sem, Nat.reduceBEq, Nat.reduceAdd]; refine hk _ _ ?_; clear hk k) | refine wkt rfl ?_ | with_reducible refine wk0 ?_ | with_reducible refine wt_seg ?_ | with_reducible refine wt_alt ?_ wt_no | with_reducible refine wt_done ?_))
    refine wt_alt ?_ (wt_alt ?_ wt_no)
    · refine cN rfl rfl rfl rfl (by exact list_spec hn (by omega)) ?_; rintro v2 h2 _ hv2; obtain ⟨v2, v2_l, v2_c, rfl, hv2⟩ := hv2.sl; (repeat (first | (refine wo rfl (fun k hk => ?_); simp (disch := omega) only [go_sem, Nat.reduceBEq, Nat.reduceAdd]; refine hk _ _ ?_; clear hk k) | refine wkt rfl ?_ | with_reducible refine wk0 ?_ | with_reducible refine wt_seg ?_ | with_reducible refine wt_alt ?_ wt_no | with_reducible refine wt_done ?_))
      refine rest _ _ _ _ _ inferInstance hv2 ?_
      simp (disch := omega) only [go_sem, Nat.reduceBEq, Nat.reduceAdd]
    · (repeat (first | (refine wo rfl (fun k hk => ?_); simp (disch := omega) only [go_sem, Nat.reduceBEq, Nat.reduceAdd]; refine hk _ _ ?_; clear hk k) | refine wkt rfl ?_ | with_reducible refine wk0 ?_ | with_reducible refine wt_seg ?_ | with_reducible refine wt_alt ?_ wt_no | with_reducible refine wt_done ?_))
      refine cN rfl rfl rfl rfl (by exact list_spec hn (by omega)) ?_; rintro v2 h2 _ hv2; obtain ⟨v2, v2_l, v2_c, rfl, hv2⟩ := hv2.sl; (repeat (first | (refine wo rfl (fun k hk => ?_); simp (disch := omega) only [go_sem, Nat.reduceBEq, Nat.reduceAdd]; refine hk _ _ ?_; clear hk k) | refine wkt rfl ?_ | with_reducible refine wk0 ?_ | with_reducible refine wt_seg ?_ | with_reducible refine wt_alt ?_ wt_no | with_reducible refine wt_done ?_))
      refine rest _ _ _ _ _ inferInstance hv2 ?_
      simp (disch := omega) only [go_sem, Nat.reduceBEq, Nat.reduceAdd]
  | false =>
    (repeat (first | (refine wo rfl (fun k hk => ?_); simp (disch := omega) only [go_sem, Nat.reduceBEq, Nat.reduceAdd]; refine hk _ _ ?_; clear hk k) | refine wkt rfl ?_ | with_reducible refine wk0 ?_ | with_reducible refine wt_seg ?_ | with_reducible refine wt_alt ?_ wt_no | with_reducible refine wt_done ?_))
    refine wt_alt ?_ (wt_alt ?_ wt_no)
    · refine cN rfl rfl rfl rfl (by exact list_spec hn (by omega)) ?_; rintro v2 h2 _ hv2; obtain ⟨v2, v2_l, v2_c, rfl, hv2⟩ := hv2.sl; (repeat (first | (refine wo rfl (fun k hk => ?_); simp (disch := omega) only [go_sem, Nat.reduceBEq, Nat.reduceAdd]; refine hk _ _ ?_; clear hk k) | refine wkt rfl ?_ | with_reducible refine wk0 ?_ | with_reducible refine wt_seg ?_ | with_reducible refine wt_alt ?_ wt_no | with_reducible refine wt_done ?_))
      refine rest _ _ _ _ _ inferInstance hv2 ?_
      simp (disch := omega) only [go_sem, Nat.reduceBEq, Nat.reduceAdd]
    · (repeat (first | (refine wo rfl (fun k hk => ?_); simp (disch := omega) only [go_sem, Nat.reduceBEq, Nat.reduceAdd]; refine hk _ _ ?_; clear hk k) | refine wkt rfl ?_ | with_reducible refine wk0 ?_ | with_reducible refine wt_seg ?_ | with_reducible refine wt_alt ?_ wt_no | with_reducible refine wt_done ?_))
      refine cN rfl rfl rfl rfl (by exact list_spec hn (by omega)) ?_; rintro v2 h2 _ hv2; obtain ⟨v2, v2_l, v2_c, rfl, hv2⟩ := hv2.sl; (repeat (first | (refine wo rfl (fun k hk => ?_); simp (disch := omega) only [go_sem, Nat.reduceBEq, Nat.reduceAdd]; refine hk _ _ ?_; clear hk k) | refine wkt rfl ?_ | with_reducible refine wk0 ?_ | with_reducible refine wt_seg ?_ | with_reducible refine wt_alt ?_ wt_no | with_reducible refine wt_done ?_))
      refine rest _ _ _ _ _ inferInstance hv2 ?_
      simp (disch := omega) only [go_sem, Nat.reduceBEq, Nat.reduceAdd]
end Go.Q
namespace Go.Q
open Go.Proofs
set_option maxRecDepth 100000
set_option maxHeartbeats 4000000
theorem W16_len_bl {n k : Nat} : (W 65536 n).length ≤ k ↔ bl n ≤ 16 * k := by
  rw [bl_le, B16_pow]
  refine ⟨fun h => ?_, fun h => W_length_le (by decide) h⟩
  exact Nat.lt_of_lt_of_le (lt_W_length (by decide) n) (Nat.pow_le_pow_right (by decide) h)
theorem N16.len {h : PH} {a : Option Addr} {l c n k : Nat} (r : N16 h (.slice a l c) n) : l ≤ k ↔ bl n ≤ 16 * k := by
  obtain ⟨a', c', h1, _⟩ := r
  cases h1
  exact W16_len_bl
end Go.Q
namespace Go.Q
open Go.Proofs
set_option maxRecDepth 100000
set_option maxHeartbeats 4000000
end Go.Q
namespace Go.Q
open Go.Proofs
set_option maxRecDepth 100000
set_option maxHeartbeats 4000000
end Go.Q
namespace Go.Q
theorem rpow_mono {a b : Rat} (n : Nat) (h0 : 0 ≤ a) (h : a ≤ b) : a ^ n ≤ b ^ n := by
  induction n with
  | zero => rw [Rat.pow_zero, Rat.pow_zero]; exact Rat.le_refl
  | succ n ih =>
    rw [Rat.pow_succ, Rat.pow_succ]
    have h1 := Rat.mul_le_mul_of_nonneg_left h (Rat.pow_nonneg (n := n) h0)
    have h2 := Rat.mul_le_mul_of_nonneg_right ih (show 0 ≤ b by grind)
    exact Rat.le_trans h1 h2
theorem rneg_pow (a : Rat) (n : Nat) : (-a) ^ n = if n % 2 = 0 then a ^ n else -(a ^ n) := by
  induction n with
  | zero => simp
  | succ n ih =>
    rw [Rat.pow_succ, ih, Rat.pow_succ]
    by_cases h : n % 2 = 0
    · rw [if_pos h, if_neg (by omega)]; grind
    · rw [if_neg h, if_pos (by omega)]; grind
theorem rpow_odd {a b : Rat} {n : Nat} (hn : n % 2 = 1) (h : a ≤ b) : a ^ n ≤ b ^ n := by
  by_cases ha : 0 ≤ a
  · exact rpow_mono n ha h
  · have e1 := rneg_pow (-a) n
    rw [Rat.neg_neg, if_neg (by omega)] at e1
    by_cases hb : 0 ≤ b
    · have h1 := Rat.pow_nonneg (n := n) hb
      have h2 := Rat.pow_nonneg (n := n) (show 0 ≤ -a by grind)
      grind
    · have e2 := rneg_pow (-b) n
      rw [Rat.neg_neg, if_neg (by omega)] at e2
      have h1 := rpow_mono n (show 0 ≤ -b by grind) (show -b ≤ -a by grind)
      grind
theorem bl_pow (m n : Nat) : bl (m ^ n) ≤ n * bl m + 1 := by
  induction n with
  | zero => rw [Nat.pow_zero, bl_one]; omega
  | succ n ih =>
    rw [Nat.pow_succ]
    have := bl_mul (m ^ n) m
    have e : (n + 1) * bl m = n * bl m + bl m := Nat.succ_mul _ _
    omega
theorem sz_pow (q : Rat) (n : Nat) : sz (q ^ n) ≤ n * sz q + 1 := by
  have h1 := bl_pow q.num.natAbs n
  have h2 := bl_pow q.den n
  have h3 := Nat.mul_le_mul_left n (sz_num q)
  have h4 := Nat.mul_le_mul_left n (sz_den q)
  show max (bl (q ^ n).num.natAbs) (bl (q ^ n).den) ≤ _
  rw [Rat.num_pow, Rat.den_pow, Int.natAbs_pow]
  omega
def irtTo (n a : Nat) : Nat → Nat
  | 0 => 0
  | k + 1 => if (k + 1) ^ n ≤ a then k + 1 else irtTo n a k
def irt (n a : Nat) : Nat := irtTo n a a
theorem irtTo_le (n a k : Nat) (hn : n ≠ 0) : irtTo n a k ^ n ≤ a := by
  induction k with
  | zero => show 0 ^ n ≤ a; rw [Nat.zero_pow (Nat.pos_of_ne_zero hn)]; exact Nat.zero_le _
  | succ k ih =>
    show (if _ then _ else _) ^ n ≤ a
    split
    · assumption
    · exact ih
theorem irtTo_lt (n a k : Nat) {j : Nat} (h : j ^ n ≤ a) (hj : j ≤ k) : j ≤ irtTo n a k := by
  induction k with
  | zero => omega
  | succ k ih =>
    show j ≤ if _ then _ else _
    split
    · exact hj
    · rename_i h1
      have : j ≠ k + 1 := fun e => h1 (e ▸ h)
      exact ih (by omega)
theorem irt_le {n a : Nat} (hn : n ≠ 0) : irt n a ^ n ≤ a := irtTo_le n a a hn
theorem irt_max {n a j : Nat} (hn : n ≠ 0) (h : j ^ n ≤ a) : j ≤ irt n a := by
  refine irtTo_lt n a a h (Nat.le_trans ?_ h)
  cases j with
  | zero => exact Nat.zero_le _
  | succ j => exact Nat.le_self_pow hn _
theorem irt_eq {n a x : Nat} (hn : n ≠ 0) (h1 : x ^ n ≤ a) (h2 : irt n a ≤ x) : x = irt n a := Nat.le_antisymm (irt_max hn h1) h2
theorem irt_zero {n : Nat} (hn : n ≠ 0) : irt n 0 = 0 := by
  have := irt_le (n := n) (a := 0) hn
  have h1 : irt n 0 ≤ irt n 0 ^ n := Nat.le_self_pow hn _
  omega
theorem irt_lt_pow {n a k : Nat} (hn : n ≠ 0) (h : a < 2 ^ (n * k)) : irt n a < 2 ^ k := by
  refine Decidable.byContradiction fun c => ?_
  have h1 : 2 ^ k ≤ irt n a := by omega
  have h2 := Nat.pow_le_pow_left h1 n
  rw [← Nat.pow_mul, Nat.mul_comm k n] at h2
  have := irt_le (n := n) (a := a) hn
  omega
theorem bern (r x m : Nat) : (m + 1) * (r * x ^ m) ≤ r ^ (m + 1) + m * x ^ (m + 1) := by
  induction m with
  | zero => simp
  | succ m ih =>
    have h1 := Nat.mul_le_mul_right r ih
    have h2 : 2 * (r * x) ≤ r * r + x * x := by
      rcases Nat.le_total r x with h | h
      · obtain ⟨d, rfl⟩ := Nat.exists_eq_add_of_le h
        have : 0 ≤ d * d := Nat.zero_le _
        grind
      · obtain ⟨d, rfl⟩ := Nat.exists_eq_add_of_le h
        have : 0 ≤ d * d := Nat.zero_le _
        grind
    have h3 := Nat.mul_le_mul_left ((m + 1) * x ^ m) h2
    have e1 : r ^ (m + 1 + 1) = r ^ (m + 1) * r := Nat.pow_succ ..
    have e2 : x ^ (m + 1) = x ^ m * x := Nat.pow_succ ..
    have e3 : x ^ (m + 1 + 1) = x ^ m * x * x := by rw [Nat.pow_succ, e2]
    rw [e1, e3, e2]
    rw [e2] at h1
    generalize x ^ m = y at *
    generalize r ^ (m + 1) = z at *
    grind
def nwt (n a x : Nat) : Nat := ((n - 1) * x + a / x ^ (n - 1)) / n
theorem nwt_ge {n a x : Nat} (hn : n ≠ 0) (hx : 0 < x) : irt n a ≤ nwt n a x := by
  have hr := irt_le (n := n) (a := a) hn
  generalize irt n a = r at *
  obtain ⟨m, rfl⟩ : ∃ m, n = m + 1 := ⟨n - 1, by omega⟩
  unfold nwt
  rw [Nat.add_sub_cancel, Nat.le_div_iff_mul_le (by omega)]
  have hb := bern r x m
  have hp : 0 < x ^ m := Nat.pow_pos hx
  by_cases hc : r * (m + 1) ≤ m * x
  · exact Nat.le_trans hc (Nat.le_add_right _ _)
  · obtain ⟨t, ht⟩ : ∃ t, r * (m + 1) = m * x + t := ⟨r * (m + 1) - m * x, by omega⟩
    have h1 : t ≤ a / x ^ m := by
      rw [Nat.le_div_iff_mul_le hp]
      have e1 : (m + 1) * (r * x ^ m) = m * x * x ^ m + t * x ^ m := by
        rw [← Nat.add_mul, ← ht, ← Nat.mul_assoc, Nat.mul_comm (m + 1) r]
      have e2 : m * x ^ (m + 1) = m * x * x ^ m := by rw [Nat.pow_succ, Nat.mul_comm (x ^ m) x, Nat.mul_assoc]
      omega
    omega
theorem nwt_stop {n a x : Nat} (hn : n ≠ 0) (hx : 0 < x) (h : x ≤ nwt n a x) : x ^ n ≤ a := by
  obtain ⟨m, rfl⟩ : ∃ m, n = m + 1 := ⟨n - 1, by omega⟩
  unfold nwt at h
  rw [Nat.add_sub_cancel, Nat.le_div_iff_mul_le (by omega)] at h
  have hp : 0 < x ^ m := Nat.pow_pos hx
  have e1 : x * (m + 1) = m * x + x := by rw [Nat.mul_add, Nat.mul_one, Nat.mul_comm]
  have h1 : x ≤ a / x ^ m := by omega
  rw [Nat.le_div_iff_mul_le hp] at h1
  rw [Nat.pow_succ, Nat.mul_comm]
  exact h1
theorem irt_pos {n a : Nat} (hn : n ≠ 0) (ha : 0 < a) : 0 < irt n a := irt_max hn (by rw [Nat.one_pow]; exact ha)
theorem nwt_pos {n a x : Nat} (hn : n ≠ 0) (ha : 0 < a) (hx : 0 < x) : 0 < nwt n a x := Nat.lt_of_lt_of_le (irt_pos hn ha) (nwt_ge hn hx)
end Go.Q
namespace Go.Q
open Go.Proofs
set_option maxRecDepth 100000
theorem emod_two (s : Int) : ((s % 18446744073709551616).toNat % 2 : Nat) = (s % 2).toNat := by omega
theorem and_one {k : Nat} : andI .i64 (k : Int) 1 = ((k % 2 : Nat) : Int) := by
  unfold andI
  rw [BitVec.toNat_and]
  have e1 : (BitVec.ofInt IntKind.i64.bits (k : Int)).toNat = ((k : Int) % 18446744073709551616).toNat := by rw [BitVec.toNat_ofInt]; rfl
  have e2 : (BitVec.ofInt IntKind.i64.bits 1).toNat = 2 ^ 1 - 1 := by decide
  rw [e1, e2, Nat.and_two_pow_sub_one_eq_mod, show (2 : Nat) ^ 1 = 2 from rfl, emod_two, IntKind.wrap_i64]
  omega
theorem shr_one {k : Nat} : (k : Int).fdiv (2 ^ min (Int.toNat 1) 64) = ((k / 2 : Nat) : Int) := by
  rw [show (2 : Int) ^ min (Int.toNat 1) 64 = 2 from rfl, Int.fdiv_eq_ediv_of_nonneg _ (by decide)]; omega
theorem npow_odd {a o k p : Nat} (hm : k % 2 = 1) (h : o * a ^ k = p) : o * a * (a * a) ^ (k / 2) = p := by
  obtain ⟨j, rfl⟩ : ∃ j, k = 2 * j + 1 := ⟨k / 2, by omega⟩
  rw [show (2 * j + 1) / 2 = j by omega, ← h, Nat.pow_succ, Nat.pow_mul, Nat.pow_two, Nat.mul_assoc, Nat.mul_comm ((a * a) ^ j) a]
theorem npow_even {a o k p : Nat} (hm : k % 2 = 0) (h : o * a ^ k = p) : o * (a * a) ^ (k / 2) = p := by
  obtain ⟨j, rfl⟩ : ∃ j, k = 2 * j := ⟨k / 2, by omega⟩
  rw [show (2 * j) / 2 = j by omega, ← h, Nat.pow_mul, Nat.pow_two]
theorem npow_bits {a o k B : Nat} (h : bl o + bl a * k ≤ B) (hk : k ≠ 0) : bl a + bl o ≤ B ∧ bl (o * a) + bl (a * a) * (k / 2) ≤ B + (bl a - bl a * (k % 2)) ∧ bl o + bl (a * a) * (k / 2) ≤ B := by
  have h1 := bl_mul o a
  have h2 := bl_mul a a
  have h3 : bl (a * a) * (k / 2) ≤ (bl a + bl a) * (k / 2) := Nat.mul_le_mul_right _ h2
  have h4 : bl a * k = bl a * (2 * (k / 2)) + bl a * (k % 2) := by rw [← Nat.mul_add]; congr 1; omega
  have h5 : (bl a + bl a) * (k / 2) = bl a * (2 * (k / 2)) := by rw [← Nat.two_mul, Nat.mul_comm 2, Nat.mul_assoc]
  have h6 : bl a ≤ bl a * k := Nat.le_mul_of_pos_right _ (by omega)
  rcases (show k % 2 = 0 ∨ k % 2 = 1 by omega) with e | e <;> rw [e] at h4 ⊢ <;> omega
theorem NPow_spec {h0 h : PH} [Le h0 h] {v : Value} {m n : Nat} (hv : N32 h0 v m) (hn : n ≤ 2 ^ 20) (bm : bl m * n ≤ 2 ^ 36) : Spec mach 123 #[v, .int .i64 n] h (fun v h' => N32 h' v (m ^ n)) NP := by
  refine Spec.enter (args := [_, _]) (n := 23) Tryz.func123 rfl (by kernel_rfl) rfl (by simp) [.tmp 4] rfl (fun C _ => ?_)
  repeat (first | (refine wo rfl (fun k hk => ?_); simp (disch := omega) only [go_sem, Nat.reduceBEq, Nat.reduceAdd]; refine hk _ _ ?_; clear hk k) | refine wkt rfl ?_ | refine wk0 ?_ | refine rg rfl rfl (fun K hK => ?_) | ((first | refine AWP_exit ?_ | refine AWP_skip ?_); simp (disch := decide) only [qs, qb, if_true, if_false, reduceIte]) | refine AWP_sq rfl (fun K hK => ?_) | refine ct rfl ?_ | ((try simp (disch := omega) only [go_sem, Nat.reduceBEq, Nat.reduceAdd]); (first | apply hK | (clear hK; apply hK) | (clear hK; clear hK; apply hK)); clear hK; (try clear K); (try dsimp only [behind, qs, qb])))
  refine cN rfl rfl rfl rfl (by exact Small_spec (n := 1) (by decide)) ?_; rintro o1 h1 s1 ho1
  repeat (first | (refine wo rfl (fun k hk => ?_); simp (disch := omega) only [go_sem, Nat.reduceBEq, Nat.reduceAdd]; refine hk _ _ ?_; clear hk k) | refine wkt rfl ?_ | refine wk0 ?_ | refine rg rfl rfl (fun K hK => ?_) | ((first | refine AWP_exit ?_ | refine AWP_skip ?_); simp (disch := decide) only [qs, qb, if_true, if_false, reduceIte]) | refine AWP_sq rfl (fun K hK => ?_) | refine ct rfl ?_ | ((try simp (disch := omega) only [go_sem, Nat.reduceBEq, Nat.reduceAdd]); (first | apply hK | (clear hK; apply hK) | (clear hK; clear hK; apply hK)); clear hK; (try clear K); (try dsimp only [behind, qs, qb])))
  refine AWP_loop (fun x : Value × Value × Nat × Nat × Nat => ⟨[(0, .v x.1), (1, .v (.int .i64 (x.2.2.2.2 : Nat))), (5, .v x.2.1)], []⟩)
    (fun x h' => N32 h' x.1 x.2.2.1 ∧ N32 h' x.2.1 x.2.2.2.1 ∧ x.2.2.2.2 ≤ 2 ^ 20 ∧ bl x.2.2.2.1 + bl x.2.2.1 * x.2.2.2.2 ≤ 1 + bl m * n ∧ x.2.2.2.1 * x.2.2.1 ^ x.2.2.2.2 = m ^ n)
    (fun x => x.2.2.2.2) (v, o1, m, 1, n) ?_ ⟨hv.to, ho1, hn, by rw [bl_one]; exact Nat.le_refl _, by rw [Nat.one_mul]⟩ ?_
  · simp (disch := omega) only [go_sem, Nat.reduceBEq, Nat.reduceAdd]
  · rintro ⟨va, vo, a, o, k⟩ h2 ⟨ha, ho, hk, hb, he⟩
    dsimp only at ha ho hk hb he ⊢
    by_cases hk0 : k = 0
    · repeat (first | (refine wo rfl (fun k hk => ?_); simp (disch := omega) only [go_sem, Nat.reduceBEq, Nat.reduceAdd]; refine hk _ _ ?_; clear hk k) | refine wkt rfl ?_ | refine wk0 ?_ | refine rg rfl rfl (fun K hK => ?_) | ((first | refine AWP_exit ?_ | refine AWP_skip ?_); simp (disch := decide) only [qs, qb, if_true, if_false, reduceIte]) | refine AWP_sq rfl (fun K hK => ?_) | refine ct rfl ?_ | ((try simp (disch := omega) only [go_sem, Nat.reduceBEq, Nat.reduceAdd]); (first | apply hK | (clear hK; apply hK) | (clear hK; clear hK; apply hK)); clear hK; (try clear K); (try dsimp only [behind, qs, qb])))
      refine AWP_ret ?_; simp (disch := omega) only [go_sem, Nat.reduceBEq, Nat.reduceAdd]
      rw [hk0, Nat.pow_zero, Nat.mul_one] at he
      rwa [← he]
    · obtain ⟨b1, b2, b3⟩ := npow_bits hb hk0
      have hk2 : k / 2 ≤ 2 ^ 20 := by omega
      have hlt : k / 2 < k := by omega
      by_cases hm : k % 2 = 1
      · by_cases hk1 : k = 1
        · subst hk1
          repeat (first | (refine wo rfl (fun k hk => ?_); simp (disch := omega) only [go_sem, Nat.reduceBEq, Nat.reduceAdd, and_one, hm]; refine hk _ _ ?_; clear hk k) | refine wkt rfl ?_ | refine wk0 ?_ | refine rg rfl rfl (fun K hK => ?_) | ((first | refine AWP_exit ?_ | refine AWP_skip ?_); simp (disch := decide) only [qs, qb, if_true, if_false, reduceIte]) | refine AWP_sq rfl (fun K hK => ?_) | refine ct rfl ?_ | ((try simp (disch := omega) only [go_sem, Nat.reduceBEq, Nat.reduceAdd]); (first | apply hK | (clear hK; apply hK) | (clear hK; clear hK; apply hK)); clear hK; (try clear K); (try dsimp only [behind, qs, qb])))
          refine cN rfl rfl rfl rfl (by exact Mul_spec ho ha (by omega) (by omega)) ?_; rintro v3 h3 s3 q3
          repeat (first | (refine wo rfl (fun k hk => ?_); simp (disch := omega) only [go_sem, Nat.reduceBEq, Nat.reduceAdd, and_one, shr_one]; refine hk _ _ ?_; clear hk k) | refine wkt rfl ?_ | refine wk0 ?_ | refine rg rfl rfl (fun K hK => ?_) | ((first | refine AWP_exit ?_ | refine AWP_skip ?_); simp (disch := decide) only [qs, qb, if_true, if_false, reduceIte]) | refine AWP_sq rfl (fun K hK => ?_) | refine ct rfl ?_ | ((try simp (disch := omega) only [go_sem, Nat.reduceBEq, Nat.reduceAdd]); (first | apply hK | (clear hK; apply hK) | (clear hK; clear hK; apply hK)); clear hK; (try clear K); (try dsimp only [behind, qs, qb])))
          refine ⟨(va, v3, a, o * a, 0), ?_, ⟨ha.to, q3, by omega, ?_, ?_⟩, (show 0 < 1 by decide)⟩
          · simp (disch := omega) only [go_sem, Nat.reduceBEq, Nat.reduceAdd]
            rfl
          · show bl (o * a) + bl a * 0 ≤ 1 + bl m * n
            rw [Nat.mul_zero]
            have := bl_mul o a
            omega
          · show o * a * a ^ 0 = m ^ n
            rw [Nat.pow_zero, Nat.mul_one]; rw [Nat.pow_one] at he; exact he
        · have h1k : 1 < k := by omega
          repeat (first | (refine wo rfl (fun k hk => ?_); simp (disch := omega) only [go_sem, Nat.reduceBEq, Nat.reduceAdd, and_one, hm]; refine hk _ _ ?_; clear hk k) | refine wkt rfl ?_ | refine wk0 ?_ | refine rg rfl rfl (fun K hK => ?_) | ((first | refine AWP_exit ?_ | refine AWP_skip ?_); simp (disch := decide) only [qs, qb, if_true, if_false, reduceIte]) | refine AWP_sq rfl (fun K hK => ?_) | refine ct rfl ?_ | ((try simp (disch := omega) only [go_sem, Nat.reduceBEq, Nat.reduceAdd]); (first | apply hK | (clear hK; apply hK) | (clear hK; clear hK; apply hK)); clear hK; (try clear K); (try dsimp only [behind, qs, qb])))
          refine cN rfl rfl rfl rfl (by exact Mul_spec ho ha (by omega) (by omega)) ?_; rintro v3 h3 s3 q3
          repeat (first | (refine wo rfl (fun k hk => ?_); simp (disch := omega) only [go_sem, Nat.reduceBEq, Nat.reduceAdd]; refine hk _ _ ?_; clear hk k) | refine wkt rfl ?_ | refine wk0 ?_ | refine rg rfl rfl (fun K hK => ?_) | ((first | refine AWP_exit ?_ | refine AWP_skip ?_); simp (disch := decide) only [qs, qb, if_true, if_false, reduceIte]) | refine AWP_sq rfl (fun K hK => ?_) | refine ct rfl ?_ | ((try simp (disch := omega) only [go_sem, Nat.reduceBEq, Nat.reduceAdd]); (first | apply hK | (clear hK; apply hK) | (clear hK; clear hK; apply hK)); clear hK; (try clear K); (try dsimp only [behind, qs, qb])))
          refine cN rfl rfl rfl rfl (by exact Mul_spec (ha.to (h' := h3)) (ha.to (h' := h3)) (by omega) (by omega)) ?_; rintro v4 h4 s4 q4
          repeat (first | (refine wo rfl (fun k hk => ?_); simp (disch := omega) only [go_sem, Nat.reduceBEq, Nat.reduceAdd, shr_one]; refine hk _ _ ?_; clear hk k) | refine wkt rfl ?_ | refine wk0 ?_ | refine rg rfl rfl (fun K hK => ?_) | ((first | refine AWP_exit ?_ | refine AWP_skip ?_); simp (disch := decide) only [qs, qb, if_true, if_false, reduceIte]) | refine AWP_sq rfl (fun K hK => ?_) | refine ct rfl ?_ | ((try simp (disch := omega) only [go_sem, Nat.reduceBEq, Nat.reduceAdd]); (first | apply hK | (clear hK; apply hK) | (clear hK; clear hK; apply hK)); clear hK; (try clear K); (try dsimp only [behind, qs, qb])))
          refine ⟨(v4, v3, a * a, o * a, k / 2), ?_, ⟨q4, q3.to, hk2, ?_, npow_odd hm he⟩, hlt⟩
          · simp (disch := omega) only [go_sem, Nat.reduceBEq, Nat.reduceAdd]
          · show bl (o * a) + bl (a * a) * (k / 2) ≤ 1 + bl m * n
            rw [hm, Nat.mul_one] at b2; omega
      · have hm : k % 2 = 0 := by omega
        have h1k : 1 < k := by omega
        repeat (first | (refine wo rfl (fun k hk => ?_); simp (disch := omega) only [go_sem, Nat.reduceBEq, Nat.reduceAdd, and_one, hm]; refine hk _ _ ?_; clear hk k) | refine wkt rfl ?_ | refine wk0 ?_ | refine rg rfl rfl (fun K hK => ?_) | ((first | refine AWP_exit ?_ | refine AWP_skip ?_); simp (disch := decide) only [qs, qb, if_true, if_false, reduceIte]) | refine AWP_sq rfl (fun K hK => ?_) | refine ct rfl ?_ | ((try simp (disch := omega) only [go_sem, Nat.reduceBEq, Nat.reduceAdd]); (first | apply hK | (clear hK; apply hK) | (clear hK; clear hK; apply hK)); clear hK; (try clear K); (try dsimp only [behind, qs, qb])))
        refine cN rfl rfl rfl rfl (by exact Mul_spec ha ha (by omega) (by omega)) ?_; rintro v4 h4 s4 q4
        repeat (first | (refine wo rfl (fun k hk => ?_); simp (disch := omega) only [go_sem, Nat.reduceBEq, Nat.reduceAdd, shr_one]; refine hk _ _ ?_; clear hk k) | refine wkt rfl ?_ | refine wk0 ?_ | refine rg rfl rfl (fun K hK => ?_) | ((first | refine AWP_exit ?_ | refine AWP_skip ?_); simp (disch := decide) only [qs, qb, if_true, if_false, reduceIte]) | refine AWP_sq rfl (fun K hK => ?_) | refine ct rfl ?_ | ((try simp (disch := omega) only [go_sem, Nat.reduceBEq, Nat.reduceAdd]); (first | apply hK | (clear hK; apply hK) | (clear hK; clear hK; apply hK)); clear hK; (try clear K); (try dsimp only [behind, qs, qb])))
        refine ⟨(v4, vo, a * a, o, k / 2), ?_, ⟨q4, ho.to, hk2, b3, npow_even hm he⟩, hlt⟩
        simp (disch := omega) only [go_sem, Nat.reduceBEq, Nat.reduceAdd]
end Go.Q
namespace Go.Q
open Go.Proofs
set_option maxRecDepth 100000
set_option maxHeartbeats 4000000
def rt0 (n a : Nat) : Nat := 2 ^ ((bl a + n - 1) / n + 1)
theorem rt_start {n a k : Nat} (hn : n ≠ 0) (hk : (bl a + n - 1) / n ≤ k) : irt n a ≤ 2 ^ k := by
  have h1 : bl a ≤ n * ((bl a + n - 1) / n) := by
    have := Nat.div_add_mod (bl a + n - 1) n
    have := Nat.mod_lt (bl a + n - 1) (Nat.pos_of_ne_zero hn)
    omega
  have h2 : a < 2 ^ bl a := bl_le.1 (Nat.le_refl _)
  have h3 : (2 : Nat) ^ bl a ≤ 2 ^ (n * k) := Nat.pow_le_pow_right (by decide) (Nat.le_trans h1 (Nat.mul_le_mul_left _ hk))
  exact Nat.le_of_lt (irt_lt_pow hn (Nat.lt_of_lt_of_le h2 h3))
theorem cmp3_ge {m n : Nat} : 0 ≤ cmp3 m n ↔ n ≤ m := by unfold cmp3; (repeat' split) <;> omega
theorem cmp3_eq0 {m n : Nat} : cmp3 m n = 0 ↔ m = n := by unfold cmp3; (repeat' split) <;> omega
theorem div_lt' {b n : Nat} (hn : 2 ≤ n) (hb : b ≤ 2 ^ 20) : (b + n - 1) / n ≤ 2 ^ 20 := by
  rw [Nat.div_le_iff_le_mul_add_pred (by omega)]
  have := Nat.mul_le_mul hn (Nat.le_refl (2 ^ 20))
  omega
theorem N32.len0 {h : PH} {a : Option Addr} {l c n : Nat} (r : N32 h (.slice a l c) n) : l = 0 ↔ n = 0 := by
  obtain ⟨_, _, _, e, _, h2, _⟩ := r.out
  cases e
  have := W_len0 B32 (n := n)
  rw [h2] at this
  exact this
@[go_sem] theorem wrap_div {x y : Nat} (h : x < 4611686018427387904) : IntKind.i64.wrap ((x / y : Nat) : Int) = ((x / y : Nat) : Int) := by
  have := Nat.div_le_self x y
  generalize x / y = z at *
  exact wi64 (by omega) (by omega)
@[go_sem] theorem wrap_div1 {x y c : Nat} (h : x + c < 4611686018427387904) : IntKind.i64.wrap ((x / y + c : Nat) : Int) = ((x / y + c : Nat) : Int) := by
  have := Nat.div_le_self x y
  generalize x / y = z at *
  exact wi64 (by omega) (by omega)
theorem NRoot_spec {h0 h : PH} [Le h0 h] {v : Value} {a n : Nat} (hv : N32 h0 v a) (hn : 2 ≤ n) (hn8 : n ≤ 8) (ba : bl a ≤ 2 ^ 20) : Spec mach 126 #[v, .int .i64 n] h (fun v h' => ∃ r, v = .tuple #[r, .bool (decide (irt n a ^ n = a))] ∧ N32 h' r (irt n a)) NP := by
  obtain ⟨va, vl, vc, rfl, hv⟩ := hv.sl
  have hv0 := hv.len0
  have hn0 : n ≠ 0 := by omega
  by_cases ha0 : a = 0
  · have hl : vl = 0 := hv0.2 ha0
    subst ha0 hl
    refine Spec.enter (args := [_, _]) (n := 59) Tryz.func126 rfl (by kernel_rfl) rfl (by simp) [.tmp 4, .tmp 5] rfl (fun C _ => ?_)
    repeat (first | (refine wo rfl (fun k hk => ?_); simp (disch := omega) only [go_sem, Nat.reduceBEq, Nat.reduceAdd]; refine hk _ _ ?_; clear hk k) | refine wkt rfl ?_ | refine wk0 ?_ | refine rg rfl rfl (fun K hK => ?_) | ((first | refine AWP_exit ?_ | refine AWP_skip ?_); simp (disch := decide) only [qs, qb, if_true, if_false, reduceIte]) | refine AWP_sq rfl (fun K hK => ?_) | refine ct rfl ?_ | ((try simp (disch := omega) only [go_sem, Nat.reduceBEq, Nat.reduceAdd]); (first | apply hK | (clear hK; apply hK) | (clear hK; clear hK; apply hK)); clear hK; (try clear K); (try dsimp only [behind, qs, qb])))
    refine AWP_ret ?_; simp (disch := omega) only [go_sem, Nat.reduceBEq, Nat.reduceAdd]
    rw [irt_zero hn0, Nat.zero_pow (by omega)]
    exact ⟨_, rfl, N32.zero _⟩
  · have hl : ¬ vl = 0 := fun k => ha0 (hv0.1 k)
    refine Spec.enter (args := [_, _]) (n := 59) Tryz.func126 rfl (by kernel_rfl) rfl (by simp) [.tmp 4, .tmp 5] rfl (fun C _ => ?_)
    repeat (first | (refine rg rfl rfl (fun K hK => ?_); (repeat (first | (refine wo rfl (fun k hk => ?_); simp (disch := omega) only [go_sem, Nat.reduceBEq, Nat.reduceAdd]; refine hk _ _ ?_; clear hk k) | refine wkt rfl ?_)); (try refine wk0 ?_); refine hK _ _ ?_; clear hK K; (try dsimp only [behind, qs, qb])) | ((first | refine AWP_exit ?_ | refine AWP_skip ?_); simp (disch := decide) only [qs, qb, if_true, if_false, reduceIte]) | refine AWP_sq rfl (fun K hK => ?_) | refine ct rfl ?_ | ((first | refine hK _ _ ?_ | (clear hK; refine hK _ _ ?_) | (clear hK; clear hK; refine hK _ _ ?_)); clear hK; (try clear K)))
    have bx : ∀ x, x ≤ rt0 n a → bl x ≤ 2 ^ 20 + 2 := fun x hx => by
      have h1 := bl_mono hx
      have h2 := bl_pow2 ((bl a + n - 1) / n + 1)
      have h3 := div_lt' hn ba
      unfold rt0 at h1
      omega
    have hs : (bl a + n - 1) / n + 1 ≤ 2 ^ 20 + 1 := by have := div_lt' hn ba; omega
    refine rg rfl rfl (fun K hK => ?_); (repeat (first | (refine wo rfl (fun k hk => ?_); simp (disch := omega) only [go_sem, Nat.reduceBEq, Nat.reduceAdd]; refine hk _ _ ?_; clear hk k) | refine wkt rfl ?_)); (try refine wk0 ?_)
    refine cN rfl rfl rfl rfl (by exact Small_spec (n := 1) (by decide)) ?_; rintro o1 h1 _ q1; obtain ⟨o1, o1_l, o1_c, rfl, q1⟩ := q1.sl; (repeat (first | (refine wo rfl (fun k hk => ?_); simp (disch := omega) only [go_sem, Nat.reduceBEq, Nat.reduceAdd]; refine hk _ _ ?_; clear hk k) | refine wkt rfl ?_)); (try refine wk0 ?_)
    refine cN rfl rfl rfl rfl (by exact Bits_spec hv) ?_; rintro o2 h2 s2 rfl; (repeat (first | (refine wo rfl (fun k hk => ?_); simp (disch := omega) only [go_sem, Nat.reduceBEq, Nat.reduceAdd]; refine hk _ _ ?_; clear hk k) | refine wkt rfl ?_)); (try refine wk0 ?_)
    refine cN rfl rfl rfl rfl (by exact Shl_spec (n := (bl a + n - 1) / n + 1) (q1.to (h' := h2)) (by rw [bl_one]; omega)) ?_; rintro o3 h3 _ q3; obtain ⟨o3, o3_l, o3_c, rfl, q3⟩ := q3.sl
    repeat (first | (refine wo rfl (fun k hk => ?_); simp (disch := omega) only [go_sem, Nat.reduceBEq, Nat.reduceAdd]; refine hk _ _ ?_; clear hk k) | refine wkt rfl ?_ | refine wk0 ?_ | ((first | refine rg rfl rfl (fun K hK => ?_)); (repeat (first | (refine wo rfl (fun k hk => ?_); simp (disch := omega) only [go_sem, Nat.reduceBEq, Nat.reduceAdd]; refine hk _ _ ?_; clear hk k) | refine wkt rfl ?_ | refine wk0 ?_)); (first | apply hK | (clear hK; apply hK) | (clear hK; clear hK; apply hK)); clear hK; (try clear K); (try dsimp only [behind, qs, qb])) | ((first | refine AWP_exit ?_ | refine AWP_skip ?_); simp (disch := decide) only [qs, qb, if_true, if_false, reduceIte]) | refine AWP_sq rfl (fun K hK => ?_) | refine ct rfl ?_ | ((try simp (disch := omega) only [go_sem, Nat.reduceBEq, Nat.reduceAdd]); (first | apply hK | (clear hK; apply hK) | (clear hK; clear hK; apply hK)); clear hK; (try clear K); (try dsimp only [behind, qs, qb])))
    rw [Nat.one_mul] at q3
    refine AWP_loop (fun x : Value × Nat => ⟨[(0, .v (.slice va vl vc)), (1, .v (.int .i64 n)), (6, .v x.1)], []⟩)
      (fun x h' => Le h0 h' ∧ N32 h' x.1 x.2 ∧ 0 < x.2 ∧ irt n a ≤ x.2 ∧ x.2 ≤ rt0 n a) (fun x => x.2) (.slice o3 o3_l o3_c, rt0 n a) ?_ ⟨inferInstance, q3, Nat.pow_pos (by decide), rt_start hn0 (Nat.le_succ _), Nat.le_refl _⟩ ?_
    · simp (disch := omega) only [go_sem, Nat.reduceBEq, Nat.reduceAdd]
    · rintro ⟨xv, x⟩ h4 ⟨le4, hx, hx0, hxi, hxr⟩
      dsimp only at hx hx0 hxi hxr ⊢
      have bxx := bx x hxr
      obtain ⟨xa, xl, xc, rfl, hx⟩ := hx.sl
      have m1 : bl x * (n - 1) ≤ (2 ^ 20 + 2) * 8 := Nat.mul_le_mul bxx (by omega)
      have m2 : bl x * n ≤ (2 ^ 20 + 2) * 8 := Nat.mul_le_mul bxx hn8
      have p1 := bl_pow x (n - 1)
      have p2 := bl_pow x n
      rw [Nat.mul_comm] at p1 p2
      have hp : 0 < x ^ (n - 1) := Nat.pow_pos hx0
      have hy1 := nwt_ge (n := n) (a := a) hn0 hx0
      have hy2 := nwt_stop (n := n) (a := a) hn0 hx0
      have hy3 := nwt_pos (n := n) (a := a) hn0 (by omega) hx0
      have b3 := bl_mono (Nat.div_le_self a (x ^ (n - 1)))
      have b4 := bl_mul x (n - 1)
      have b5 : bl (n - 1) ≤ 8 := Nat.le_trans (bl_mono (show n - 1 ≤ 8 by omega)) (by decide)
      have b6 := bl_add (x * (n - 1)) (a / x ^ (n - 1))
      repeat (first | (refine wo rfl (fun k hk => ?_); simp (disch := omega) only [go_sem, Nat.reduceBEq, Nat.reduceAdd]; refine hk _ _ ?_; clear hk k) | refine wkt rfl ?_ | refine wk0 ?_ | refine rg rfl rfl (fun K hK => ?_) | ((first | refine AWP_exit ?_ | refine AWP_skip ?_); simp (disch := decide) only [qs, qb, if_true, if_false, reduceIte]) | refine AWP_sq rfl (fun K hK => ?_) | refine ct rfl ?_ | ((try simp (disch := omega) only [go_sem, Nat.reduceBEq, Nat.reduceAdd]); (first | apply hK | (clear hK; apply hK) | (clear hK; clear hK; apply hK)); clear hK; (try clear K); (try dsimp only [behind, qs, qb])))
      refine cN rfl rfl rfl rfl (by exact NPow_spec (n := n - 1) hx (by omega) (by omega)) ?_; rintro u1 g1 _ t1; obtain ⟨u1, u1_l, u1_c, rfl, t1⟩ := t1.sl; (repeat (first | (refine wo rfl (fun k hk => ?_); simp (disch := omega) only [go_sem, Nat.reduceBEq, Nat.reduceAdd]; refine hk _ _ ?_; clear hk k) | refine wkt rfl ?_)); (try refine wk0 ?_)
      refine cN rfl rfl rfl rfl (by exact Div_spec (hv.to (h' := g1)) t1 (by omega) (by omega) (by omega)) ?_; rintro w2 g2 s2 ⟨q, r, rfl, hq, hr⟩; (repeat (first | (refine wo rfl (fun k hk => ?_); simp (disch := omega) only [go_sem, Nat.reduceBEq, Nat.reduceAdd]; refine hk _ _ ?_; clear hk k) | refine wkt rfl ?_)); (try refine wk0 ?_)
      (repeat (first | (refine wo rfl (fun k hk => ?_); simp (disch := omega) only [go_sem, Nat.reduceBEq, Nat.reduceAdd]; refine hk _ _ ?_; clear hk k) | refine wkt rfl ?_)); (try refine wk0 ?_)
      repeat (first | (refine wo rfl (fun k hk => ?_); simp (disch := omega) only [go_sem, Nat.reduceBEq, Nat.reduceAdd]; refine hk _ _ ?_; clear hk k) | refine wkt rfl ?_ | refine wk0 ?_ | ((first | refine rg rfl rfl (fun K hK => ?_)); (repeat (first | (refine wo rfl (fun k hk => ?_); simp (disch := omega) only [go_sem, Nat.reduceBEq, Nat.reduceAdd]; refine hk _ _ ?_; clear hk k) | refine wkt rfl ?_ | refine wk0 ?_)); (first | apply hK | (clear hK; apply hK) | (clear hK; clear hK; apply hK)); clear hK; (try clear K); (try dsimp only [behind, qs, qb])) | ((first | refine AWP_exit ?_ | refine AWP_skip ?_); simp (disch := decide) only [qs, qb, if_true, if_false, reduceIte]) | refine AWP_sq rfl (fun K hK => ?_) | refine ct rfl ?_ | ((try simp (disch := omega) only [go_sem, Nat.reduceBEq, Nat.reduceAdd]); (first | apply hK | (clear hK; apply hK) | (clear hK; clear hK; apply hK)); clear hK; (try clear K); (try dsimp only [behind, qs, qb])))
      have en : x * (n - 1) + a / x ^ (n - 1) = (n - 1) * x + a / x ^ (n - 1) := by rw [Nat.mul_comm]
      refine rg rfl rfl (fun K hK => ?_); (repeat (first | (refine wo rfl (fun k hk => ?_); simp (disch := omega) only [go_sem, Nat.reduceBEq, Nat.reduceAdd]; refine hk _ _ ?_; clear hk k) | refine wkt rfl ?_)); (try refine wk0 ?_)
      refine cN rfl rfl rfl rfl (by exact Small_spec (n := n - 1) (by omega)) ?_; rintro u3 g3 _ t3; obtain ⟨u3, u3_l, u3_c, rfl, t3⟩ := t3.sl; (repeat (first | (refine wo rfl (fun k hk => ?_); simp (disch := omega) only [go_sem, Nat.reduceBEq, Nat.reduceAdd]; refine hk _ _ ?_; clear hk k) | refine wkt rfl ?_)); (try refine wk0 ?_)
      refine cN rfl rfl rfl rfl (by exact Mul_spec (hx.to (h' := g3)) t3 (by omega) (by omega)) ?_; rintro u4 g4 _ t4; obtain ⟨u4, u4_l, u4_c, rfl, t4⟩ := t4.sl; (repeat (first | (refine wo rfl (fun k hk => ?_); simp (disch := omega) only [go_sem, Nat.reduceBEq, Nat.reduceAdd]; refine hk _ _ ?_; clear hk k) | refine wkt rfl ?_)); (try refine wk0 ?_)
      refine cN rfl rfl rfl rfl (by exact Add_spec t4 (hq.to (h' := g4)) (by omega) (by omega)) ?_; rintro u5 g5 _ t5; obtain ⟨u5, u5_l, u5_c, rfl, t5⟩ := t5.sl; (repeat (first | (refine wo rfl (fun k hk => ?_); simp (disch := omega) only [go_sem, Nat.reduceBEq, Nat.reduceAdd]; refine hk _ _ ?_; clear hk k) | refine wkt rfl ?_)); (try refine wk0 ?_)
      refine cN rfl rfl rfl rfl (by exact DivSmall_spec (d := n) t5 (by omega) (by omega) (by omega)) ?_; rintro w6 g6 s6 ⟨y, rfl, hy⟩; (repeat (first | (refine wo rfl (fun k hk => ?_); simp (disch := omega) only [go_sem, Nat.reduceBEq, Nat.reduceAdd]; refine hk _ _ ?_; clear hk k) | refine wkt rfl ?_)); (try refine wk0 ?_)
      (repeat (first | (refine wo rfl (fun k hk => ?_); simp (disch := omega) only [go_sem, Nat.reduceBEq, Nat.reduceAdd]; refine hk _ _ ?_; clear hk k) | refine wkt rfl ?_)); (try refine wk0 ?_)
      (try (simp (disch := omega) only [go_sem, Nat.reduceBEq, Nat.reduceAdd])); refine hK _ _ ?_; clear hK; (try clear K); (try dsimp only [behind, qs])
      rw [en] at hy
      have hy : N32 g6 y (nwt n a x) := hy
      clear en
      generalize nwt n a x = z at *
      obtain ⟨ya, yl, yc, rfl, hy⟩ := hy.sl
      repeat (first | (refine rg rfl rfl (fun K hK => ?_); (repeat (first | (refine wo rfl (fun k hk => ?_); simp (disch := omega) only [go_sem, Nat.reduceBEq, Nat.reduceAdd]; refine hk _ _ ?_; clear hk k) | refine wkt rfl ?_)); (try refine wk0 ?_); refine hK _ _ ?_; clear hK K; (try dsimp only [behind, qs, qb])) | ((first | refine AWP_exit ?_ | refine AWP_skip ?_); simp (disch := decide) only [qs, qb, if_true, if_false, reduceIte]) | refine AWP_sq rfl (fun K hK => ?_) | refine ct rfl ?_ | ((first | refine hK _ _ ?_ | (clear hK; refine hK _ _ ?_) | (clear hK; clear hK; refine hK _ _ ?_)); clear hK; (try clear K)))
      by_cases hc : x ≤ z
      · have e1 : 0 ≤ cmp3 z x := cmp3_ge.2 hc
        have exi : x = irt n a := irt_eq hn0 (hy2 hc) hxi
        refine rg rfl rfl (fun K hK => ?_); (repeat (first | (refine wo rfl (fun k hk => ?_); simp (disch := omega) only [go_sem, Nat.reduceBEq, Nat.reduceAdd]; refine hk _ _ ?_; clear hk k) | refine wkt rfl ?_)); (try refine wk0 ?_)
        refine cN rfl rfl rfl rfl (by exact Cmp_spec hy (hx.to (h' := g6))) ?_; rintro w7 g7 s7 rfl
        repeat (first | (refine wo rfl (fun k hk => ?_); simp (disch := omega) only [go_sem, Nat.reduceBEq, Nat.reduceAdd]; refine hk _ _ ?_; clear hk k) | refine wkt rfl ?_ | refine wk0 ?_ | ((first | refine rg rfl rfl (fun K hK => ?_)); (repeat (first | (refine wo rfl (fun k hk => ?_); simp (disch := omega) only [go_sem, Nat.reduceBEq, Nat.reduceAdd]; refine hk _ _ ?_; clear hk k) | refine wkt rfl ?_ | refine wk0 ?_)); (first | apply hK | (clear hK; apply hK) | (clear hK; clear hK; apply hK)); clear hK; (try clear K); (try dsimp only [behind, qs, qb])) | ((first | refine AWP_exit ?_ | refine AWP_skip ?_); simp (disch := decide) only [qs, qb, if_true, if_false, reduceIte]) | refine AWP_sq rfl (fun K hK => ?_) | refine ct rfl ?_ | ((try simp (disch := omega) only [go_sem, Nat.reduceBEq, Nat.reduceAdd]); (first | apply hK | (clear hK; apply hK) | (clear hK; clear hK; apply hK)); clear hK; (try clear K); (try dsimp only [behind, qs, qb])))
        by_cases hq0 : x ^ n = a
        · have e2 : cmp3 (x ^ n) a = 0 := cmp3_eq0.2 hq0
          refine rg rfl rfl (fun K hK => ?_); (repeat (first | (refine wo rfl (fun k hk => ?_); simp (disch := omega) only [go_sem, Nat.reduceBEq, Nat.reduceAdd]; refine hk _ _ ?_; clear hk k) | refine wkt rfl ?_)); (try refine wk0 ?_)
          refine cN rfl rfl rfl rfl (by exact NPow_spec (n := n) (hx.to (h' := g7)) (by omega) (by omega)) ?_; rintro u8 g8 _ t8; obtain ⟨u8, u8_l, u8_c, rfl, t8⟩ := t8.sl; (repeat (first | (refine wo rfl (fun k hk => ?_); simp (disch := omega) only [go_sem, Nat.reduceBEq, Nat.reduceAdd]; refine hk _ _ ?_; clear hk k) | refine wkt rfl ?_)); (try refine wk0 ?_)
          refine cN rfl rfl rfl rfl (by exact Cmp_spec t8 (hv.to (h' := g8))) ?_; rintro w9 g9 s9 rfl
          repeat (first | (refine wo rfl (fun k hk => ?_); simp (disch := omega) only [go_sem, Nat.reduceBEq, Nat.reduceAdd]; refine hk _ _ ?_; clear hk k) | refine wkt rfl ?_ | refine wk0 ?_ | refine rg rfl rfl (fun K hK => ?_) | ((first | refine AWP_exit ?_ | refine AWP_skip ?_); simp (disch := decide) only [qs, qb, if_true, if_false, reduceIte]) | refine AWP_sq rfl (fun K hK => ?_) | refine ct rfl ?_ | ((try simp (disch := omega) only [go_sem, Nat.reduceBEq, Nat.reduceAdd]); (first | apply hK | (clear hK; apply hK) | (clear hK; clear hK; apply hK)); clear hK; (try clear K); (try dsimp only [behind, qs, qb])))
          refine AWP_ret ?_; simp (disch := omega) only [go_sem, Nat.reduceBEq, Nat.reduceAdd]
          rw [← exi, decide_eq_true hq0]
          exact ⟨_, rfl, hx.to⟩
        · have e2 : ¬ cmp3 (x ^ n) a = 0 := fun k => hq0 (cmp3_eq0.1 k)
          refine rg rfl rfl (fun K hK => ?_); (repeat (first | (refine wo rfl (fun k hk => ?_); simp (disch := omega) only [go_sem, Nat.reduceBEq, Nat.reduceAdd]; refine hk _ _ ?_; clear hk k) | refine wkt rfl ?_)); (try refine wk0 ?_)
          refine cN rfl rfl rfl rfl (by exact NPow_spec (n := n) (hx.to (h' := g7)) (by omega) (by omega)) ?_; rintro u8 g8 _ t8; obtain ⟨u8, u8_l, u8_c, rfl, t8⟩ := t8.sl; (repeat (first | (refine wo rfl (fun k hk => ?_); simp (disch := omega) only [go_sem, Nat.reduceBEq, Nat.reduceAdd]; refine hk _ _ ?_; clear hk k) | refine wkt rfl ?_)); (try refine wk0 ?_)
          refine cN rfl rfl rfl rfl (by exact Cmp_spec t8 (hv.to (h' := g8))) ?_; rintro w9 g9 s9 rfl
          repeat (first | (refine wo rfl (fun k hk => ?_); simp (disch := omega) only [go_sem, Nat.reduceBEq, Nat.reduceAdd]; refine hk _ _ ?_; clear hk k) | refine wkt rfl ?_ | refine wk0 ?_ | refine rg rfl rfl (fun K hK => ?_) | ((first | refine AWP_exit ?_ | refine AWP_skip ?_); simp (disch := decide) only [qs, qb, if_true, if_false, reduceIte]) | refine AWP_sq rfl (fun K hK => ?_) | refine ct rfl ?_ | ((try simp (disch := omega) only [go_sem, Nat.reduceBEq, Nat.reduceAdd]); (first | apply hK | (clear hK; apply hK) | (clear hK; clear hK; apply hK)); clear hK; (try clear K); (try dsimp only [behind, qs, qb])))
          refine AWP_ret ?_; simp (disch := omega) only [go_sem, Nat.reduceBEq, Nat.reduceAdd]
          rw [← exi, decide_eq_false hq0]
          exact ⟨_, rfl, hx.to⟩
      · have e1 : ¬ 0 ≤ cmp3 z x := fun k => hc (cmp3_ge.1 k)
        refine rg rfl rfl (fun K hK => ?_); (repeat (first | (refine wo rfl (fun k hk => ?_); simp (disch := omega) only [go_sem, Nat.reduceBEq, Nat.reduceAdd]; refine hk _ _ ?_; clear hk k) | refine wkt rfl ?_)); (try refine wk0 ?_)
        refine cN rfl rfl rfl rfl (by exact Cmp_spec hy (hx.to (h' := g6))) ?_; rintro w7 g7 s7 rfl
        repeat (first | (refine wo rfl (fun k hk => ?_); simp (disch := omega) only [go_sem, Nat.reduceBEq, Nat.reduceAdd]; refine hk _ _ ?_; clear hk k) | refine wkt rfl ?_ | refine wk0 ?_ | refine rg rfl rfl (fun K hK => ?_) | ((first | refine AWP_exit ?_ | refine AWP_skip ?_); simp (disch := decide) only [qs, qb, if_true, if_false, reduceIte]) | refine AWP_sq rfl (fun K hK => ?_) | refine ct rfl ?_ | ((try simp (disch := omega) only [go_sem, Nat.reduceBEq, Nat.reduceAdd]); (first | apply hK | (clear hK; apply hK) | (clear hK; clear hK; apply hK)); clear hK; (try clear K); (try dsimp only [behind, qs, qb])))
        refine ⟨(_, z), ?_, ⟨inferInstance, hy.to, hy3, hy1, by omega⟩, by omega⟩
        simp (disch := omega) only [go_sem, Nat.reduceBEq, Nat.reduceAdd]
end Go.Q
namespace Go.Q
open Go.Proofs
set_option maxRecDepth 100000
set_option maxHeartbeats 8000000
def rtw (q : Rat) (n p : Nat) : Nat := q.num.natAbs * 2 ^ (p * n) / q.den
def rtx (q : Rat) (n p : Nat) : Bool := decide (irt n (rtw q n p) ^ n = rtw q n p) && decide (q.num.natAbs * 2 ^ (p * n) % q.den = 0)
def rtm (up : Bool) (q : Rat) (n p : Nat) : Nat := if (up != decide (q.num < 0)) = true ∧ rtx q n p = false then irt n (rtw q n p) + 1 else irt n (rtw q n p)
def rootg (up : Bool) (q : Rat) (n p : Nat) : Rat := sgn (decide (q.num < 0)) (rtm up q n p) (2 ^ p)
theorem irt_bl {n a k : Nat} (hn : n ≠ 0) (h : bl a ≤ n * k) : bl (irt n a) ≤ k := by
  have h1 : a < 2 ^ bl a := bl_le.1 (Nat.le_refl _)
  have h2 : (2 : Nat) ^ bl a ≤ 2 ^ (n * k) := Nat.pow_le_pow_right (by decide) h
  exact bl_le.2 (irt_lt_pow hn (Nat.lt_of_lt_of_le h1 h2))
theorem rtw_bl {q : Rat} {n p : Nat} (hs : sz q ≤ 2048) (hn : 2 ≤ n) : bl (rtw q n p) ≤ n * (1024 + p) := by
  have h1 := bl_div_le (q.num.natAbs * 2 ^ (p * n)) q.den
  have h2 := bl_shl q.num.natAbs (p * n)
  have h3 := sz_num q
  have h4 : 2 * 1024 ≤ n * 1024 := Nat.mul_le_mul_right _ hn
  have h5 : n * (1024 + p) = n * 1024 + p * n := by rw [Nat.mul_add, Nat.mul_comm n p]
  unfold rtw
  omega
theorem rtm_bl {up : Bool} {q : Rat} {n p : Nat} (hs : sz q ≤ 2048) (hn : 2 ≤ n) : bl (rtm up q n p) ≤ 1025 + p := by
  have h1 := irt_bl (n := n) (by omega) (rtw_bl (p := p) hs hn)
  unfold rtm
  split
  · have h2 := bl_add (irt n (rtw q n p)) 1
    rw [bl_one] at h2
    omega
  · omega
theorem rootg_sz {up : Bool} {q : Rat} {n p : Nat} (hs : sz q ≤ 2048) (hn : 2 ≤ n) (hp : p ≤ 256) : sz (rootg up q n p) ≤ 2048 := by
  have h1 := sz_sgn (decide (q.num < 0)) (rtm up q n p) (d := 2 ^ p) (Nat.ne_of_gt (Nat.pow_pos (by decide)))
  have h2 := rtm_bl (up := up) (p := p) hs hn
  have h3 := bl_pow2 p
  unfold rootg
  omega
end Go.Q
namespace Go.Q
theorem sgn_negs (m d : Nat) : sgn true m d = -(sgn false m d) := by
  show mkRat (-(m : Int)) d = -(mkRat (m : Int) d)
  rw [Rat.neg_mkRat]
theorem dec_pos {q : Rat} (h : 0 ≤ q) : decide (q.num < 0) = false := by
  rw [decide_eq_false_iff_not, num_neg]
  grind
theorem dec_neg {q : Rat} (h : q < 0) : decide (q.num < 0) = true := by
  rw [decide_eq_true_iff, num_neg]
  exact h
theorem rtw_neg (q : Rat) (n p : Nat) : rtw (-q) n p = rtw q n p := by
  unfold rtw
  rw [Rat.neg_num, Int.natAbs_neg, Rat.neg_den]
theorem rtx_neg (q : Rat) (n p : Nat) : rtx (-q) n p = rtx q n p := by
  unfold rtx
  rw [rtw_neg, Rat.neg_num, Int.natAbs_neg, Rat.neg_den]
theorem rootg_neg {q : Rat} (h : q < 0) (up : Bool) (n p : Nat) : rootg up q n p = -(rootg (!up) (-q) n p) := by
  unfold rootg rtm
  rw [dec_neg h, dec_pos (show 0 ≤ -q by grind), rtw_neg, rtx_neg, sgn_negs]
  cases up <;> rfl
theorem rootg_dn {q : Rat} (h : 0 ≤ q) (n p : Nat) : rootg false q n p = sgn false (irt n (rtw q n p)) (2 ^ p) := by
  unfold rootg rtm
  rw [dec_pos h]
  rfl
theorem rootg_up {q : Rat} (h : 0 ≤ q) (n p : Nat) : rootg true q n p = sgn false (if rtx q n p = true then irt n (rtw q n p) else irt n (rtw q n p) + 1) (2 ^ p) := by
  unfold rootg rtm
  rw [dec_pos h]
  cases rtx q n p <;> rfl
theorem rmul_pow (a b : Rat) (n : Nat) : (a * b) ^ n = a ^ n * b ^ n := by
  induction n with
  | zero => simp
  | succ n ih => rw [Rat.pow_succ, Rat.pow_succ, Rat.pow_succ, ih]; grind
theorem sgn_mul_den (m : Nat) {d : Nat} (hd : d ≠ 0) : sgn false m d * (d : Rat) = (m : Rat) := by
  show mkRat (m : Int) d * (d : Rat) = _
  have h1 : (d : Rat) ≠ 0 := by exact_mod_cast hd
  rw [Rat.mkRat_eq_div]
  exact Rat.div_mul_cancel h1
theorem num_den {q : Rat} (h : 0 ≤ q) : q * (q.den : Rat) = (q.num.natAbs : Rat) := by
  have h1 := sgn_self q
  rw [dec_pos h] at h1
  have h2 := sgn_mul_den q.num.natAbs (d := q.den) q.den_nz
  rwa [h1] at h2
theorem grid_pow (m n p : Nat) (q : Rat) : sgn false m (2 ^ p) ^ n * ((2 ^ (p * n) : Nat) : Rat) * (q.den : Rat) = ((m ^ n * q.den : Nat) : Rat) := by
  have h1 := sgn_mul_den m (d := 2 ^ p) (Nat.ne_of_gt (Nat.pow_pos (by decide)))
  have h2 : (sgn false m (2 ^ p) * ((2 ^ p : Nat) : Rat)) ^ n = (m : Rat) ^ n := by rw [h1]
  rw [rmul_pow] at h2
  have h3 : (((2 ^ p : Nat) : Rat)) ^ n = ((2 ^ (p * n) : Nat) : Rat) := by rw [Nat.pow_mul]; push_cast; rfl
  rw [h3] at h2
  rw [h2]
  push_cast
  rfl
theorem num_pow' {q : Rat} (h : 0 ≤ q) (n p : Nat) : q * ((2 ^ (p * n) : Nat) : Rat) * (q.den : Rat) = ((q.num.natAbs * 2 ^ (p * n) : Nat) : Rat) := by
  have h1 := num_den h
  have : q * ((2 ^ (p * n) : Nat) : Rat) * (q.den : Rat) = (q * (q.den : Rat)) * ((2 ^ (p * n) : Nat) : Rat) := by grind
  rw [this, h1]
  push_cast
  rfl
theorem scale_pos (q : Rat) (n p : Nat) : (0 : Rat) < ((2 ^ (p * n) : Nat) : Rat) ∧ (0 : Rat) < (q.den : Rat) := by
  have h1 : 0 < 2 ^ (p * n) := Nat.pow_pos (by decide)
  have h2 : 0 < q.den := Nat.pos_of_ne_zero q.den_nz
  exact ⟨by exact_mod_cast h1, by exact_mod_cast h2⟩
theorem mul_mono2 {a b c d : Rat} (hc : 0 < c) (hd : 0 < d) : a * c * d ≤ b * c * d ↔ a ≤ b := by
  constructor
  · intro h
    refine Decidable.byContradiction fun k => ?_
    have h1 : b < a := by grind
    have h2 := Rat.mul_lt_mul_of_pos_right h1 hc
    have h3 := Rat.mul_lt_mul_of_pos_right h2 hd
    grind
  · intro h
    have h2 := Rat.mul_le_mul_of_nonneg_right h (show 0 ≤ c by grind)
    exact Rat.mul_le_mul_of_nonneg_right h2 (show 0 ≤ d by grind)
theorem grid_le {q : Rat} (h : 0 ≤ q) (m n p : Nat) : sgn false m (2 ^ p) ^ n ≤ q ↔ m ^ n * q.den ≤ q.num.natAbs * 2 ^ (p * n) := by
  obtain ⟨h1, h2⟩ := scale_pos q n p
  rw [← mul_mono2 h1 h2, grid_pow, num_pow' h]
  exact_mod_cast Iff.rfl
theorem grid_ge {q : Rat} (h : 0 ≤ q) (m n p : Nat) : q ≤ sgn false m (2 ^ p) ^ n ↔ q.num.natAbs * 2 ^ (p * n) ≤ m ^ n * q.den := by
  obtain ⟨h1, h2⟩ := scale_pos q n p
  rw [← mul_mono2 h1 h2, grid_pow, num_pow' h]
  exact_mod_cast Iff.rfl
theorem rtx_iff (q : Rat) (n p : Nat) : rtx q n p = true ↔ irt n (rtw q n p) ^ n * q.den = q.num.natAbs * 2 ^ (p * n) := by
  have hd : 0 < q.den := Nat.pos_of_ne_zero q.den_nz
  unfold rtx
  rw [Bool.and_eq_true, decide_eq_true_iff, decide_eq_true_iff]
  have hw : rtw q n p = q.num.natAbs * 2 ^ (p * n) / q.den := rfl
  generalize irt n (rtw q n p) ^ n = r at *
  rw [hw]
  generalize q.num.natAbs * 2 ^ (p * n) = N at *
  have := Nat.div_add_mod N q.den
  constructor
  · rintro ⟨h1, h2⟩
    rw [h1, Nat.mul_comm]; omega
  · intro h
    rw [← h]
    exact ⟨(Nat.mul_div_cancel _ hd).symm, Nat.mul_mod_left ..⟩
theorem root_low {q : Rat} (h : 0 ≤ q) {n : Nat} (hn : n ≠ 0) (p : Nat) : rootg false q n p ^ n ≤ q := by
  rw [rootg_dn h, grid_le h]
  have h1 := irt_le (n := n) (a := rtw q n p) hn
  have h2 : rtw q n p * q.den ≤ q.num.natAbs * 2 ^ (p * n) := Nat.div_mul_le_self _ _
  exact Nat.le_trans (Nat.mul_le_mul_right _ h1) h2
theorem root_high {q : Rat} (h : 0 ≤ q) {n : Nat} (hn : n ≠ 0) (p : Nat) : q ≤ rootg true q n p ^ n := by
  rw [rootg_up h, grid_ge h]
  cases hx : rtx q n p with
  | true =>
    have := (rtx_iff q n p).1 hx
    simp only [if_true]
    omega
  | false =>
    simp only [Bool.false_eq_true, if_false]
    have h1 : rtw q n p < (irt n (rtw q n p) + 1) ^ n := Decidable.byContradiction fun k => by
      have := irt_max (n := n) (a := rtw q n p) (j := irt n (rtw q n p) + 1) hn (by omega)
      omega
    have hd : 0 < q.den := Nat.pos_of_ne_zero q.den_nz
    have h2 : q.num.natAbs * 2 ^ (p * n) < (irt n (rtw q n p) + 1) ^ n * q.den := by
      have hw : rtw q n p = q.num.natAbs * 2 ^ (p * n) / q.den := rfl
      rw [hw, Nat.div_lt_iff_lt_mul hd] at h1
      exact h1
    omega
theorem rootg_nonneg {q : Rat} (h : 0 ≤ q) (up : Bool) (n p : Nat) : 0 ≤ rootg up q n p := by
  unfold rootg
  rw [dec_pos h]
  have h1 := sgn_mul_den (rtm up q n p) (d := 2 ^ p) (Nat.ne_of_gt (Nat.pow_pos (by decide)))
  have h2 : (0 : Rat) < ((2 ^ p : Nat) : Rat) := by
    have : 0 < 2 ^ p := Nat.pow_pos (by decide)
    exact_mod_cast this
  have h3 : (0 : Rat) ≤ ((rtm up q n p : Nat) : Rat) := by exact_mod_cast Nat.zero_le _
  refine Decidable.byContradiction fun k => ?_
  have h4 := Rat.mul_lt_mul_of_pos_right (show sgn false (rtm up q n p) (2 ^ p) < 0 by grind) h2
  rw [h1, Rat.zero_mul] at h4
  grind
theorem rpow_lt {a b : Rat} {n : Nat} (hn : n ≠ 0) (h0 : 0 ≤ a) (h : a < b) : a ^ n < b ^ n := by
  obtain ⟨m, rfl⟩ : ∃ m, n = m + 1 := ⟨n - 1, by omega⟩
  rw [Rat.pow_succ, Rat.pow_succ]
  have h1 := rpow_mono m h0 (show a ≤ b by grind)
  have h2 := Rat.mul_le_mul_of_nonneg_right h1 h0
  have h3 := Rat.mul_lt_mul_of_pos_left h (Rat.pow_pos (n := m) (show 0 < b by grind))
  grind
theorem root_mono0 {a b : Rat} (ha : 0 ≤ a) (h : a ≤ b) {n : Nat} (hn : n ≠ 0) (p : Nat) : rootg false a n p ≤ rootg true b n p := by
  refine Decidable.byContradiction fun k => ?_
  have hb : 0 ≤ b := Rat.le_trans ha h
  have h1 := rpow_lt hn (rootg_nonneg hb true n p) (show rootg true b n p < rootg false a n p by grind)
  have h2 := root_low ha hn p
  have h3 := root_high hb hn p
  grind
theorem root_mono {a b : Rat} (h : a ≤ b) {n : Nat} (hn : n ≠ 0) (p : Nat) : rootg false a n p ≤ rootg true b n p := by
  by_cases ha : 0 ≤ a
  · exact root_mono0 ha h hn p
  · have e1 := rootg_neg (show a < 0 by grind) false n p
    have n1 := rootg_nonneg (show 0 ≤ -a by grind) true n p
    have e1 : rootg false a n p = -(rootg true (-a) n p) := e1
    by_cases hb : 0 ≤ b
    · have := rootg_nonneg hb true n p
      rw [e1]; grind
    · have e2 : rootg true b n p = -(rootg false (-b) n p) := rootg_neg (show b < 0 by grind) true n p
      have := root_mono0 (show 0 ≤ -b by grind) (show -b ≤ -a by grind) hn p
      rw [e1, e2]; grind
end Go.Q
namespace Go.Q
open Go.Proofs
set_option maxRecDepth 100000
set_option maxHeartbeats 4000000
theorem ipow_sign (a : Int) (n : Nat) : (a < 0 → (n % 2 = 1 → a ^ n < 0) ∧ (n % 2 = 0 → 0 < a ^ n)) ∧ (0 ≤ a → 0 ≤ a ^ n) := by
  induction n with
  | zero => exact ⟨fun _ => ⟨fun h => by omega, fun _ => by rw [Int.pow_zero]; decide⟩, fun _ => by rw [Int.pow_zero]; decide⟩
  | succ n ih =>
    rw [Int.pow_succ]
    refine ⟨fun h => ⟨fun hm => ?_, fun hm => ?_⟩, fun h => Int.mul_nonneg (ih.2 h) h⟩
    · exact Int.mul_neg_of_pos_of_neg ((ih.1 h).2 (by omega)) h
    · exact Int.mul_pos_of_neg_of_neg ((ih.1 h).1 (by omega)) h
theorem pow_neg (x : Rat) (n : Nat) : decide ((x ^ n).num < 0) = (decide (x.num < 0) && decide (n % 2 = 1)) := by
  have h := ipow_sign x.num n
  rw [Rat.num_pow]
  generalize x.num ^ n = z at *
  by_cases h1 : x.num < 0
  · by_cases h2 : n % 2 = 1
    · have := (h.1 h1).1 h2
      simp [h1, h2, this]
    · have := (h.1 h1).2 (by omega)
      have h3 : ¬ z < 0 := by omega
      simp [h1, h2, h3]
  · have := h.2 (by omega)
    have h3 : ¬ z < 0 := by omega
    simp [h1, h3]
theorem PowF_spec {h0 h : PH} [Le h0 h] {v : Value} {x : Rat} {n : Nat} (hx : Fr h0 v x) (hn : n ≤ 64) (bx : sz x ≤ 2 ^ 20) : Spec mach 95 #[v, .int .i64 n] h (fun v h' => Fr h' v (x ^ n)) NP := by
  obtain ⟨na, nl, nc, da, dl, dc, rfl, hn1, hd1⟩ := hx.sl
  have b1 := sz_num x
  have b2 := sz_den x
  have m1 : bl x.num.natAbs * n ≤ 2 ^ 20 * 64 := Nat.mul_le_mul (by omega) hn
  have m2 : bl x.den * n ≤ 2 ^ 20 * 64 := Nat.mul_le_mul (by omega) hn
  have e1 : (x ^ n).num.natAbs = x.num.natAbs ^ n := by rw [Rat.num_pow, Int.natAbs_pow]
  have e2 : (x ^ n).den = x.den ^ n := Rat.den_pow ..
  have e3 := pow_neg x n
  generalize decide (x.num < 0) = s at *
  by_cases hm : n % 2 = 1
  · rw [decide_eq_true hm, Bool.and_true] at e3
    cases s <;>
    · refine Spec.enter (args := [_, _]) (n := 21) Tryz.func95 rfl (by kernel_rfl) rfl (by simp) [.cell 4 65] rfl (fun C _ => ?_)
      repeat (first | (refine wo rfl (fun k hk => ?_); simp (disch := omega) only [go_sem, Nat.reduceBEq, Nat.reduceAdd]; refine hk _ _ ?_; clear hk k) | refine wkt rfl ?_ | refine wk0 ?_ | refine rg rfl rfl (fun K hK => ?_) | refine rd [.o 0, .o 1, .o 2, .o 3, .o 4, .o 5, .o 6, .o 7, .o 8, .o 9, .o 11, .o 12, .o 13, .o 10, .o 14, .o 15, .o 16] rfl (by decide +kernel) rfl (fun K hK => ?_) | ((first | refine AWP_exit ?_ | refine AWP_skip ?_); simp (disch := decide) only [qs, qb, if_true, if_false, reduceIte]) | refine AWP_sq rfl (fun K hK => ?_) | refine ct rfl ?_ | ((try simp (disch := omega) only [go_sem, Nat.reduceBEq, Nat.reduceAdd]); (first | apply hK | (clear hK; apply hK) | (clear hK; clear hK; apply hK)); clear hK; (try clear K); (try dsimp only [behind, qs, qb])))
      refine cN rfl rfl rfl rfl (by exact NPow_spec hn1 (by omega) (by omega)) ?_; rintro v1 h1 _ q1; obtain ⟨v1, v1_l, v1_c, rfl, q1⟩ := q1.sl; (repeat (first | (refine wo rfl (fun k hk => ?_); simp (disch := omega) only [go_sem, Nat.reduceBEq, Nat.reduceAdd]; refine hk _ _ ?_; clear hk k) | refine wkt rfl ?_)); (try refine wk0 ?_)
      refine cN rfl rfl rfl rfl (by exact NPow_spec (hd1.to (h' := h1)) (by omega) (by omega)) ?_; rintro v2 h2 _ q2; obtain ⟨v2, v2_l, v2_c, rfl, q2⟩ := q2.sl; (repeat (first | (refine wo rfl (fun k hk => ?_); simp (disch := omega) only [go_sem, Nat.reduceBEq, Nat.reduceAdd]; refine hk _ _ ?_; clear hk k) | refine wkt rfl ?_)); (try refine wk0 ?_)
      (try (simp (disch := omega) only [go_sem, Nat.reduceBEq, Nat.reduceAdd])); refine hK _ _ ?_; clear hK; (try clear K); (try dsimp only [behind, qs])
      refine AWP_ret ?_; simp (disch := omega) only [go_sem, Nat.reduceBEq, Nat.reduceAdd]
      exact ⟨_, _, by rw [e3], by rw [e1]; exact q1.to, by rw [e2]; exact q2⟩
  · rw [decide_eq_false hm, Bool.and_false] at e3
    cases s <;>
    · refine Spec.enter (args := [_, _]) (n := 21) Tryz.func95 rfl (by kernel_rfl) rfl (by simp) [.cell 4 65] rfl (fun C _ => ?_)
      repeat (first | (refine wo rfl (fun k hk => ?_); simp (disch := omega) only [go_sem, Nat.reduceBEq, Nat.reduceAdd]; refine hk _ _ ?_; clear hk k) | refine wkt rfl ?_ | refine wk0 ?_ | refine rg rfl rfl (fun K hK => ?_) | refine rd [.o 0, .o 1, .o 2, .o 3, .o 4, .o 5, .o 6, .o 7, .o 8, .o 9, .o 11, .o 12, .o 13, .o 10, .o 14, .o 15, .o 16] rfl (by decide +kernel) rfl (fun K hK => ?_) | ((first | refine AWP_exit ?_ | refine AWP_skip ?_); simp (disch := decide) only [qs, qb, if_true, if_false, reduceIte]) | refine AWP_sq rfl (fun K hK => ?_) | refine ct rfl ?_ | ((try simp (disch := omega) only [go_sem, Nat.reduceBEq, Nat.reduceAdd]); (first | apply hK | (clear hK; apply hK) | (clear hK; clear hK; apply hK)); clear hK; (try clear K); (try dsimp only [behind, qs, qb])))
      refine cN rfl rfl rfl rfl (by exact NPow_spec hn1 (by omega) (by omega)) ?_; rintro v1 h1 _ q1; obtain ⟨v1, v1_l, v1_c, rfl, q1⟩ := q1.sl; (repeat (first | (refine wo rfl (fun k hk => ?_); simp (disch := omega) only [go_sem, Nat.reduceBEq, Nat.reduceAdd]; refine hk _ _ ?_; clear hk k) | refine wkt rfl ?_)); (try refine wk0 ?_)
      refine cN rfl rfl rfl rfl (by exact NPow_spec (hd1.to (h' := h1)) (by omega) (by omega)) ?_; rintro v2 h2 _ q2; obtain ⟨v2, v2_l, v2_c, rfl, q2⟩ := q2.sl; (repeat (first | (refine wo rfl (fun k hk => ?_); simp (disch := omega) only [go_sem, Nat.reduceBEq, Nat.reduceAdd]; refine hk _ _ ?_; clear hk k) | refine wkt rfl ?_)); (try refine wk0 ?_)
      (try (simp (disch := omega) only [go_sem, Nat.reduceBEq, Nat.reduceAdd])); refine hK _ _ ?_; clear hK; (try clear K); (try dsimp only [behind, qs])
      refine AWP_ret ?_; simp (disch := omega) only [go_sem, Nat.reduceBEq, Nat.reduceAdd]
      exact ⟨_, _, by rw [e3], by rw [e1]; exact q1.to, by rw [e2]; exact q2⟩
end Go.Q
namespace Go.Q
open Go.Proofs
set_option maxRecDepth 100000
end Go.Q
namespace Go.Q
open Go.Proofs
set_option maxRecDepth 100000
set_option maxHeartbeats 4000000
end Go.Q
namespace Go.Q
open Go.Proofs
set_option maxRecDepth 100000
set_option maxHeartbeats 4000000
end Go.Q
namespace Go.Q
open Go.Proofs
set_option maxRecDepth 100000
set_option maxHeartbeats 8000000
end Go.Q
