/-
  Contracts of the reference's rational numbers: making them, denominators. Conditions: the slices hold digits (N16), of at most 2^38 bits.
  Contracts of the reference's rational numbers: words of 32 bits and digits of 16. Conditions: the slices hold words (Arr), digits (N16).
  Contracts of the reference's rational numbers: reading them from values, and giving them back. Conditions: the slices hold words (Rw), digits (Qr).
  Contracts of the reference's rational numbers: reading, giving, sizes, signs. Conditions: the values are rational numbers (Rw, Qr), of at most 2^36 binary digits.
-/
import Derived.Test.YtdmecaojlbkclaaGreatDoorRaBunJ
import Derived.Test.YtdmecaojlbkclaaGreatDoorRaBunH
set_option linter.unusedVariables false
set_option linter.unusedSimpArgs false
namespace Go.Q
open Go.Proofs
set_option maxRecDepth 100000
set_option maxHeartbeats 4000000
/-- A rational number of the reference; a denominator 0 stands for 1. -/
def Qr (h : PH) (v : Value) (x : Rat) : Prop := ∃ sn sd e, v = .agg #[.bool (decide (x.num < 0)), sn, sd] ∧ N16 h sn x.num.natAbs ∧ N16 h sd e ∧ dz e = x.den
theorem Qr.to {h h' : PH} {v : Value} {x : Rat} (r : Qr h v x) [Le h h'] : Qr h' v x := let ⟨a, b, e, h1, h2, h3, h4⟩ := r; ⟨a, b, e, h1, h2.to, h3.to, h4⟩
theorem Qr.sl {h : PH} {v : Value} {x : Rat} (r : Qr h v x) : ∃ na nl nc da dl dc e, v = .agg #[.bool (decide (x.num < 0)), .slice na nl nc, .slice da dl dc] ∧ N16 h (.slice na nl nc) x.num.natAbs ∧ N16 h (.slice da dl dc) e ∧ dz e = x.den := by
  obtain ⟨sn, sd, e, rfl, h2, h3, h4⟩ := r
  obtain ⟨na, nl, nc, rfl, h2⟩ := h2.sl
  obtain ⟨da, dl, dc, rfl, h3⟩ := h3.sl
  exact ⟨_, _, _, _, _, _, e, rfl, h2, h3, h4⟩
theorem Qr.sa {h : PH} {v : Value} {x : Rat} (r : Qr h v x) : ∃ b na nl nc da dl dc, v = .agg #[.bool b, .slice na nl nc, .slice da dl dc] ∧ Qr h (.agg #[.bool b, .slice na nl nc, .slice da dl dc]) x := by
  obtain ⟨_, _, _, _, _, _, _, rfl, _⟩ := r.sl
  exact ⟨_, _, _, _, _, _, _, rfl, r⟩
theorem dz_self {d : Nat} (h : d ≠ 0) : dz d = d := by unfold dz; rw [if_neg h]
theorem Qr.of {h : PH} {neg : Bool} {n d : Nat} {sn sd : Value} {x : Rat} (hn : N16 h sn n) (hd : N16 h sd d) (h0 : n ≠ 0) (hd0 : d ≠ 0) (hc : Nat.gcd n d = 1) (hx : x = sgn neg n d) : Qr h (.agg #[.bool neg, sn, sd]) x := by
  obtain ⟨h1, h2⟩ := sgn_num (neg := neg) hd0 hc
  rw [← hx] at h1 h2
  refine ⟨sn, sd, d, ?_, ?_, hd, by rw [h2, dz_self hd0]⟩
  · have : decide (x.num < 0) = neg := by rw [h1]; cases neg <;> simp <;> omega
    rw [this]
  · have : x.num.natAbs = n := by rw [h1]; cases neg <;> simp
    rw [this]; exact hn
theorem Qr.zero {h : PH} {sd : Value} {e : Nat} (hd : N16 h sd e) (he : dz e = 1) : Qr h (.agg #[.bool false, .slice none 0 0, sd]) 0 := ⟨.slice none 0 0, sd, e, by simp, by simpa using N16.zero h, hd, by simpa using he⟩
/-- The zero value stands for 0. -/
theorem Qr.none (h : PH) : Qr h (.agg #[.bool false, .slice none 0 0, .slice none 0 0]) 0 := Qr.zero (N16.zero h) (by simp [dz])
theorem N16.len0 {h : PH} {a : Option Addr} {l c n : Nat} (r : N16 h (.slice a l c) n) : l = 0 ↔ n = 0 := by
  obtain ⟨a', c', h1, _⟩ := r
  cases h1
  exact W_len0 B16
theorem sgn_den0 (neg : Bool) (n : Nat) : sgn neg n 0 = 0 := by simp [sgn]
theorem Make_spec {h0 h : PH} [Le h0 h] {neg : Bool} {v w : Value} {n d : Nat} (hv : N16 h0 v n) (hw : N16 h0 w d) (bn : bl n ≤ 2 ^ 38) (bd : bl d ≤ 2 ^ 38) :
    Spec mach 79 #[.bool neg, v, w] h (fun v h' => Qr h' v (sgn neg n d)) NP := by
  obtain ⟨va, vc, xs, rfl, hva, hxs, hxm, hx16⟩ := hv.out
  obtain ⟨wa, wc, ys, rfl, hwa, hys, hym, hy16⟩ := hw.out
  have lv := hv.len0
  have lw := hw.len0
  have sx : xs.length ≤ 2 ^ 38 := by have := len16_le_bl n; rw [hxs] at this; omega
  have sy := hwa.small
  refine Spec.enter (args := [_, _, _]) (n := 56) Tryz.func79 rfl (by kernel_rfl) rfl (by simp) [.cell 6 56] rfl (fun C _ => ?_)
  by_cases hz : n = 0 ∨ d = 0
  · have e0 : sgn neg n d = 0 := by
      rcases hz with rfl | rfl
      · exact sgn_zero _ _
      · exact sgn_den0 _ _
    rw [e0]
    by_cases hn : n = 0
    · repeat (first | (refine wo rfl (fun k hk => ?_); simp (disch := omega) only [go_sem, Nat.reduceBEq, Nat.reduceAdd]; refine hk _ _ ?_; clear hk k) | refine wkt rfl ?_ | refine wk0 ?_ | refine rg rfl rfl (fun K hK => ?_) | ((first | refine AWP_exit ?_ | refine AWP_skip ?_); simp (disch := decide) only [qs, qb, if_true, if_false, reduceIte]) | refine AWP_sq rfl (fun K hK => ?_) | refine ct rfl ?_ | ((try simp (disch := omega) only [go_sem, Nat.reduceBEq, Nat.reduceAdd]); (first | apply hK | (clear hK; apply hK) | (clear hK; clear hK; apply hK)); clear hK; (try clear K); (try dsimp only [behind, qs, qb])))
      refine cN rfl rfl rfl rfl (by exact NatOf_spec (n := 1) (by decide)) ?_; rintro v1 h1 s1 hv1; obtain ⟨va1, vl1, vc1, rfl, hv1⟩ := hv1.sl; (repeat (first | (refine wo rfl (fun k hk => ?_); simp (disch := omega) only [go_sem, Nat.reduceBEq, Nat.reduceAdd]; refine hk _ _ ?_; clear hk k) | refine wkt rfl ?_)); (try refine wk0 ?_)
      (try (simp (disch := omega) only [go_sem, Nat.reduceBEq, Nat.reduceAdd])); refine hK _ _ ?_; clear hK; (try clear K); (try dsimp only [behind, qs])
      refine AWP_ret ?_; simp (disch := omega) only [go_sem, Nat.reduceBEq, Nat.reduceAdd]
      exact Qr.zero hv1 (by decide)
    · have hd : d = 0 := hz.resolve_left hn
      repeat (first | (refine wo rfl (fun k hk => ?_); simp (disch := omega) only [go_sem, Nat.reduceBEq, Nat.reduceAdd]; refine hk _ _ ?_; clear hk k) | refine wkt rfl ?_ | refine wk0 ?_ | refine rg rfl rfl (fun K hK => ?_) | ((first | refine AWP_exit ?_ | refine AWP_skip ?_); simp (disch := decide) only [qs, qb, if_true, if_false, reduceIte]) | refine AWP_sq rfl (fun K hK => ?_) | refine ct rfl ?_ | ((try simp (disch := omega) only [go_sem, Nat.reduceBEq, Nat.reduceAdd]); (first | apply hK | (clear hK; apply hK) | (clear hK; clear hK; apply hK)); clear hK; (try clear K); (try dsimp only [behind, qs, qb])))
      refine cN rfl rfl rfl rfl (by exact NatOf_spec (n := 1) (by decide)) ?_; rintro v1 h1 s1 hv1; obtain ⟨va1, vl1, vc1, rfl, hv1⟩ := hv1.sl; (repeat (first | (refine wo rfl (fun k hk => ?_); simp (disch := omega) only [go_sem, Nat.reduceBEq, Nat.reduceAdd]; refine hk _ _ ?_; clear hk k) | refine wkt rfl ?_)); (try refine wk0 ?_)
      (try (simp (disch := omega) only [go_sem, Nat.reduceBEq, Nat.reduceAdd])); refine hK _ _ ?_; clear hK; (try clear K); (try dsimp only [behind, qs])
      refine AWP_ret ?_; simp (disch := omega) only [go_sem, Nat.reduceBEq, Nat.reduceAdd]
      exact Qr.zero hv1 (by decide)
  have hn : n ≠ 0 := fun e => hz (.inl e)
  have hd : d ≠ 0 := fun e => hz (.inr e)
  by_cases hd1 : d = 1
  · have hl : ys.length = 1 := by rw [← hys, hd1, W_one B16]; rfl
    obtain ⟨ad, rfl, hat⟩ := hwa.rd0 h (by omega)
    have e1 : ys.getD 0 0 = 1 := by rw [← hys, hd1, W_one B16]; rfl
    rw [e1, nc1] at hat
    repeat (first | (refine rg rfl rfl (fun K hK => ?_); (repeat (first | (refine wo rfl (fun k hk => ?_); simp (disch := omega) only [go_sem, Nat.reduceBEq, Nat.reduceAdd, hat]; refine hk _ _ ?_; clear hk k) | refine wkt rfl ?_)); (try refine wk0 ?_); refine hK _ _ ?_; clear hK K; (try dsimp only [behind, qs, qb])) | ((first | refine AWP_exit ?_ | refine AWP_skip ?_); simp (disch := decide) only [qs, qb, if_true, if_false, reduceIte]) | refine AWP_sq rfl (fun K hK => ?_) | refine ct rfl ?_ | ((first | refine hK _ _ ?_ | (clear hK; refine hK _ _ ?_) | (clear hK; clear hK; refine hK _ _ ?_)); clear hK; (try clear K)))
    refine AWP_rsp [.o 0, .o 1, .o 2, .o 3, .p 2, .o 4, .o 5, .o 6] rfl rfl (fun K hK => ?_); (repeat (first | (refine wo rfl (fun k hk => ?_); simp (disch := omega) only [go_sem, Nat.reduceBEq, Nat.reduceAdd]; refine hk _ _ ?_; clear hk k) | refine wkt rfl ?_)); (try refine wk0 ?_)
    refine wo rfl (fun k hk => ?_); simp (disch := omega) only [go_sem, Nat.reduceBEq, Nat.reduceAdd]
    refine ⟨uw xs, by simp [uw], fun hne => ?_, uw_all xs, fun junk => ?_⟩
    · obtain ⟨ad', h3, h4⟩ := hva.cells h hne
      exact ⟨ad', h3, h4⟩
    refine hk _ _ ?_; clear hk k
    refine wkp ?_; simp (disch := omega) only [go_sem, Nat.reduceBEq, Nat.reduceAdd]; intro b h2 hs2 hb; (repeat (first | (refine wo rfl (fun k hk => ?_); simp (disch := omega) only [go_sem, Nat.reduceBEq, Nat.reduceAdd]; refine hk _ _ ?_; clear hk k) | refine wkt rfl ?_)); (try refine wk0 ?_)
    have hA : N16 h2 (.slice (some ⟨b, 0, none⟩) xs.length (xs.length + junk.length)) n := N16.of_pub hb hxs (by omega) rfl (by omega)
    refine cN rfl rfl rfl rfl (by exact NatOf_spec (n := 1) (by decide)) ?_; rintro v1 h1 s1 hv1; obtain ⟨va1, vl1, vc1, rfl, hv1⟩ := hv1.sl; (repeat (first | (refine wo rfl (fun k hk => ?_); simp (disch := omega) only [go_sem, Nat.reduceBEq, Nat.reduceAdd]; refine hk _ _ ?_; clear hk k) | refine wkt rfl ?_)); (try refine wk0 ?_)
    (try (simp (disch := omega) only [go_sem, Nat.reduceBEq, Nat.reduceAdd])); refine hK _ _ ?_; clear hK; (try clear K); (try dsimp only [behind, qs])
    refine AWP_ret ?_; simp (disch := omega) only [go_sem, Nat.reduceBEq, Nat.reduceAdd]
    exact Qr.of hA.to hv1 hn (by decide) (by simp) (by rw [hd1])
  · have hnot : ¬ (ys.length = 1 ∧ ys.getD 0 0 = 1) := by
      rintro ⟨e1, e2⟩
      obtain ⟨_, h2⟩ := W_len1 B16 (n := d) (by rw [hys]; exact e1)
      rw [hys, e2] at h2
      exact hd1 h2.symm
    obtain ⟨hg1, hg2, hg3, hg4⟩ := red_gcd hn hd
    have hg0 : 0 < Nat.gcd n d := Nat.gcd_pos_of_pos_left _ (by omega)
    have b3 : bl (Nat.gcd n d) ≤ 2 ^ 38 := Nat.le_trans (bl_mono (Nat.gcd_le_left d (by omega))) bn
    have hsg := sgn_eq (neg := neg) hd hg2 hg3
    by_cases hl : ys.length = 1
    · obtain ⟨ad, rfl, hat⟩ := hwa.rd0 h (by omega)
      have hne1 : ¬ ys.getD 0 0 = 1 := fun e => hnot ⟨hl, e⟩
      repeat (first | (refine wo rfl (fun k hk => ?_); simp (disch := omega) only [go_sem, Nat.reduceBEq, Nat.reduceAdd, hat]; refine hk _ _ ?_; clear hk k) | refine wkt rfl ?_ | refine wk0 ?_ | refine rg rfl rfl (fun K hK => ?_) | ((first | refine AWP_exit ?_ | refine AWP_skip ?_); simp (disch := decide) only [qs, qb, if_true, if_false, reduceIte]) | refine AWP_sq rfl (fun K hK => ?_) | refine ct rfl ?_ | ((try simp (disch := omega) only [go_sem, Nat.reduceBEq, Nat.reduceAdd]); (first | apply hK | (clear hK; apply hK) | (clear hK; clear hK; apply hK)); clear hK; (try clear K); (try dsimp only [behind, qs, qb])))
      refine cN rfl rfl rfl rfl (by exact NatGcd_spec hv hw bn bd) ?_; rintro v1 h1 s1 hv1; obtain ⟨va1, vl1, vc1, rfl, hv1⟩ := hv1.sl; (repeat (first | (refine wo rfl (fun k hk => ?_); simp (disch := omega) only [go_sem, Nat.reduceBEq, Nat.reduceAdd]; refine hk _ _ ?_; clear hk k) | refine wkt rfl ?_)); (try refine wk0 ?_)
      (try (simp (disch := omega) only [go_sem, Nat.reduceBEq, Nat.reduceAdd])); refine hK _ _ ?_; clear hK; (try clear K); (try dsimp only [behind, qs])
      refine rg rfl rfl (fun K hK => ?_); (repeat (first | (refine wo rfl (fun k hk => ?_); simp (disch := omega) only [go_sem, Nat.reduceBEq, Nat.reduceAdd]; refine hk _ _ ?_; clear hk k) | refine wkt rfl ?_)); (try refine wk0 ?_)
      refine cN rfl rfl rfl rfl (by exact NatDiv_spec (hv.to (h' := h1)) hv1 (by omega) (by omega) (by omega)) ?_; rintro v2 h2 s2 ⟨q1, r1, rfl, hq1, hr1⟩; obtain ⟨qa, ql, qc, rfl, hq1⟩ := hq1.sl; (repeat (first | (refine wo rfl (fun k hk => ?_); simp (disch := omega) only [go_sem, Nat.reduceBEq, Nat.reduceAdd]; refine hk _ _ ?_; clear hk k) | refine wkt rfl ?_)); (try refine wk0 ?_)
      (try (simp (disch := omega) only [go_sem, Nat.reduceBEq, Nat.reduceAdd])); refine hK _ _ ?_; clear hK; (try clear K); (try dsimp only [behind, qs])
      refine rg rfl rfl (fun K hK => ?_); (repeat (first | (refine wo rfl (fun k hk => ?_); simp (disch := omega) only [go_sem, Nat.reduceBEq, Nat.reduceAdd]; refine hk _ _ ?_; clear hk k) | refine wkt rfl ?_)); (try refine wk0 ?_)
      refine cN rfl rfl rfl rfl (by exact NatDiv_spec (hw.to (h' := h1)) hv1 (by omega) (by omega) (by omega)) ?_; rintro v3 h3 s3 ⟨q2, r2, rfl, hq2, hr2⟩; obtain ⟨qa2, ql2, qc2, rfl, hq2⟩ := hq2.sl
      repeat (first | (refine wo rfl (fun k hk => ?_); simp (disch := omega) only [go_sem, Nat.reduceBEq, Nat.reduceAdd]; refine hk _ _ ?_; clear hk k) | refine wkt rfl ?_ | refine wk0 ?_ | refine rg rfl rfl (fun K hK => ?_) | ((first | refine AWP_exit ?_ | refine AWP_skip ?_); simp (disch := decide) only [qs, qb, if_true, if_false, reduceIte]) | refine AWP_sq rfl (fun K hK => ?_) | refine ct rfl ?_ | ((try simp (disch := omega) only [go_sem, Nat.reduceBEq, Nat.reduceAdd]); (first | apply hK | (clear hK; apply hK) | (clear hK; clear hK; apply hK)); clear hK; (try clear K); (try dsimp only [behind, qs, qb])))
      refine AWP_ret ?_; simp (disch := omega) only [go_sem, Nat.reduceBEq, Nat.reduceAdd]
      exact Qr.of hq1.to hq2.to hg1 hg2 hg4 hsg
    · repeat (first | (refine wo rfl (fun k hk => ?_); simp (disch := omega) only [go_sem, Nat.reduceBEq, Nat.reduceAdd]; refine hk _ _ ?_; clear hk k) | refine wkt rfl ?_ | refine wk0 ?_ | refine rg rfl rfl (fun K hK => ?_) | ((first | refine AWP_exit ?_ | refine AWP_skip ?_); simp (disch := decide) only [qs, qb, if_true, if_false, reduceIte]) | refine AWP_sq rfl (fun K hK => ?_) | refine ct rfl ?_ | ((try simp (disch := omega) only [go_sem, Nat.reduceBEq, Nat.reduceAdd]); (first | apply hK | (clear hK; apply hK) | (clear hK; clear hK; apply hK)); clear hK; (try clear K); (try dsimp only [behind, qs, qb])))
      refine cN rfl rfl rfl rfl (by exact NatGcd_spec hv hw bn bd) ?_; rintro v1 h1 s1 hv1; obtain ⟨va1, vl1, vc1, rfl, hv1⟩ := hv1.sl; (repeat (first | (refine wo rfl (fun k hk => ?_); simp (disch := omega) only [go_sem, Nat.reduceBEq, Nat.reduceAdd]; refine hk _ _ ?_; clear hk k) | refine wkt rfl ?_)); (try refine wk0 ?_)
      (try (simp (disch := omega) only [go_sem, Nat.reduceBEq, Nat.reduceAdd])); refine hK _ _ ?_; clear hK; (try clear K); (try dsimp only [behind, qs])
      refine rg rfl rfl (fun K hK => ?_); (repeat (first | (refine wo rfl (fun k hk => ?_); simp (disch := omega) only [go_sem, Nat.reduceBEq, Nat.reduceAdd]; refine hk _ _ ?_; clear hk k) | refine wkt rfl ?_)); (try refine wk0 ?_)
      refine cN rfl rfl rfl rfl (by exact NatDiv_spec (hv.to (h' := h1)) hv1 (by omega) (by omega) (by omega)) ?_; rintro v2 h2 s2 ⟨q1, r1, rfl, hq1, hr1⟩; obtain ⟨qa, ql, qc, rfl, hq1⟩ := hq1.sl; (repeat (first | (refine wo rfl (fun k hk => ?_); simp (disch := omega) only [go_sem, Nat.reduceBEq, Nat.reduceAdd]; refine hk _ _ ?_; clear hk k) | refine wkt rfl ?_)); (try refine wk0 ?_)
      (try (simp (disch := omega) only [go_sem, Nat.reduceBEq, Nat.reduceAdd])); refine hK _ _ ?_; clear hK; (try clear K); (try dsimp only [behind, qs])
      refine rg rfl rfl (fun K hK => ?_); (repeat (first | (refine wo rfl (fun k hk => ?_); simp (disch := omega) only [go_sem, Nat.reduceBEq, Nat.reduceAdd]; refine hk _ _ ?_; clear hk k) | refine wkt rfl ?_)); (try refine wk0 ?_)
      refine cN rfl rfl rfl rfl (by exact NatDiv_spec (hw.to (h' := h1)) hv1 (by omega) (by omega) (by omega)) ?_; rintro v3 h3 s3 ⟨q2, r2, rfl, hq2, hr2⟩; obtain ⟨qa2, ql2, qc2, rfl, hq2⟩ := hq2.sl
      repeat (first | (refine wo rfl (fun k hk => ?_); simp (disch := omega) only [go_sem, Nat.reduceBEq, Nat.reduceAdd]; refine hk _ _ ?_; clear hk k) | refine wkt rfl ?_ | refine wk0 ?_ | refine rg rfl rfl (fun K hK => ?_) | ((first | refine AWP_exit ?_ | refine AWP_skip ?_); simp (disch := decide) only [qs, qb, if_true, if_false, reduceIte]) | refine AWP_sq rfl (fun K hK => ?_) | refine ct rfl ?_ | ((try simp (disch := omega) only [go_sem, Nat.reduceBEq, Nat.reduceAdd]); (first | apply hK | (clear hK; apply hK) | (clear hK; clear hK; apply hK)); clear hK; (try clear K); (try dsimp only [behind, qs, qb])))
      refine AWP_ret ?_; simp (disch := omega) only [go_sem, Nat.reduceBEq, Nat.reduceAdd]
      exact Qr.of hq1.to hq2.to hg1 hg2 hg4 hsg
theorem den_spec {h0 h : PH} [Le h0 h] {v : Value} {x : Rat} (hx : Qr h0 v x) : Spec mach 77 #[v] h (fun v h' => N16 h' v x.den) NP := by
  obtain ⟨na, nl, nc, da, dl, dc, e, rfl, hn, hd, he⟩ := hx.sl
  have ld := hd.len0
  refine Spec.enter (args := [_]) (n := 10) Tryz.func77 rfl (by kernel_rfl) rfl (by simp) [.tmp 2] rfl (fun C _ => ?_)
  by_cases h0 : e = 0
  · repeat (first | (refine wo rfl (fun k hk => ?_); simp (disch := omega) only [go_sem, Nat.reduceBEq, Nat.reduceAdd]; refine hk _ _ ?_; clear hk k) | refine wkt rfl ?_ | refine wk0 ?_ | refine rg rfl rfl (fun K hK => ?_) | ((first | refine AWP_exit ?_ | refine AWP_skip ?_); simp (disch := decide) only [qs, qb, if_true, if_false, reduceIte]) | refine AWP_sq rfl (fun K hK => ?_) | refine ct rfl ?_ | ((try simp (disch := omega) only [go_sem, Nat.reduceBEq, Nat.reduceAdd]); (first | apply hK | (clear hK; apply hK) | (clear hK; clear hK; apply hK)); clear hK; (try clear K); (try dsimp only [behind, qs, qb])))
    refine cN rfl rfl rfl rfl (by exact NatOf_spec (n := 1) (by decide)) ?_; rintro v1 h1 s1 hv1; (repeat (first | (refine wo rfl (fun k hk => ?_); simp (disch := omega) only [go_sem, Nat.reduceBEq, Nat.reduceAdd]; refine hk _ _ ?_; clear hk k) | refine wkt rfl ?_)); (try refine wk0 ?_)
    (try (simp (disch := omega) only [go_sem, Nat.reduceBEq, Nat.reduceAdd])); refine hK _ _ ?_; clear hK; (try clear K); (try dsimp only [behind, qs])
    refine AWP_ret ?_; simp (disch := omega) only [go_sem, Nat.reduceBEq, Nat.reduceAdd]
    rw [← he, h0]; exact hv1
  · repeat (first | (refine wo rfl (fun k hk => ?_); simp (disch := omega) only [go_sem, Nat.reduceBEq, Nat.reduceAdd]; refine hk _ _ ?_; clear hk k) | refine wkt rfl ?_ | refine wk0 ?_ | refine rg rfl rfl (fun K hK => ?_) | ((first | refine AWP_exit ?_ | refine AWP_skip ?_); simp (disch := decide) only [qs, qb, if_true, if_false, reduceIte]) | refine AWP_sq rfl (fun K hK => ?_) | refine ct rfl ?_ | ((try simp (disch := omega) only [go_sem, Nat.reduceBEq, Nat.reduceAdd]); (first | apply hK | (clear hK; apply hK) | (clear hK; clear hK; apply hK)); clear hK; (try clear K); (try dsimp only [behind, qs, qb])))
    refine AWP_ret ?_; simp (disch := omega) only [go_sem, Nat.reduceBEq, Nat.reduceAdd]
    rw [← he, dz_self h0]; exact hd.to
theorem whole_spec {h0 h : PH} [Le h0 h] {v : Value} {x : Rat} (hx : Qr h0 v x) : Spec mach 90 #[v] h (fun v _ => v = .bool (decide (x.den = 1))) NP := by
  obtain ⟨na, nl, nc, da, dl, dc, e, rfl, hn, hd, he⟩ := hx.sl
  obtain ⟨da', c', ys, hde, hya, hys, hym, hy16⟩ := hd.out
  cases hde
  have ld := hd.len0
  have sy := hya.small
  rw [← he]
  refine Spec.enter (args := [_]) (n := 20) Tryz.func90 rfl (by kernel_rfl) rfl (by simp) [.tmp 2] rfl (fun C _ => ?_)
  by_cases h0 : e = 0
  · repeat (first | (refine wo rfl (fun k hk => ?_); simp (disch := omega) only [go_sem, Nat.reduceBEq, Nat.reduceAdd]; refine hk _ _ ?_; clear hk k) | refine wkt rfl ?_ | refine wk0 ?_ | refine rg rfl rfl (fun K hK => ?_) | ((first | refine AWP_exit ?_ | refine AWP_skip ?_); simp (disch := decide) only [qs, qb, if_true, if_false, reduceIte]) | refine AWP_sq rfl (fun K hK => ?_) | refine ct rfl ?_ | ((try simp (disch := omega) only [go_sem, Nat.reduceBEq, Nat.reduceAdd]); (first | apply hK | (clear hK; apply hK) | (clear hK; clear hK; apply hK)); clear hK; (try clear K); (try dsimp only [behind, qs, qb])))
    refine AWP_ret ?_; simp (disch := omega) only [go_sem, Nat.reduceBEq, Nat.reduceAdd]
    simp [h0, dz]
  · rw [dz_self h0]
    by_cases hl : ys.length = 1
    · obtain ⟨ad, rfl, hat⟩ := hya.rd0 h (by omega)
      obtain ⟨_, h2⟩ := W_len1 B16 (n := e) (by rw [hys]; exact hl)
      rw [hys] at h2
      rw [h2] at hat
      by_cases h1 : e = 1
      · repeat (first | (refine wo rfl (fun k hk => ?_); simp (disch := omega) only [go_sem, Nat.reduceBEq, Nat.reduceAdd, hat]; refine hk _ _ ?_; clear hk k) | refine wkt rfl ?_ | refine wk0 ?_ | refine rg rfl rfl (fun K hK => ?_) | ((first | refine AWP_exit ?_ | refine AWP_skip ?_); simp (disch := decide) only [qs, qb, if_true, if_false, reduceIte]) | refine AWP_sq rfl (fun K hK => ?_) | refine ct rfl ?_ | ((try simp (disch := omega) only [go_sem, Nat.reduceBEq, Nat.reduceAdd]); (first | apply hK | (clear hK; apply hK) | (clear hK; clear hK; apply hK)); clear hK; (try clear K); (try dsimp only [behind, qs, qb])))
        refine AWP_ret ?_; simp (disch := omega) only [go_sem, Nat.reduceBEq, Nat.reduceAdd]
        all_goals simp [h1]
      · repeat (first | (refine wo rfl (fun k hk => ?_); simp (disch := omega) only [go_sem, Nat.reduceBEq, Nat.reduceAdd, hat]; refine hk _ _ ?_; clear hk k) | refine wkt rfl ?_ | refine wk0 ?_ | refine rg rfl rfl (fun K hK => ?_) | ((first | refine AWP_exit ?_ | refine AWP_skip ?_); simp (disch := decide) only [qs, qb, if_true, if_false, reduceIte]) | refine AWP_sq rfl (fun K hK => ?_) | refine ct rfl ?_ | ((try simp (disch := omega) only [go_sem, Nat.reduceBEq, Nat.reduceAdd]); (first | apply hK | (clear hK; apply hK) | (clear hK; clear hK; apply hK)); clear hK; (try clear K); (try dsimp only [behind, qs, qb])))
        refine AWP_ret ?_; simp (disch := omega) only [go_sem, Nat.reduceBEq, Nat.reduceAdd]
        all_goals simp [h1]
    · have h1 : e ≠ 1 := by rintro rfl; rw [W_one B16] at hys; rw [← hys] at hl; exact hl rfl
      repeat (first | (refine wo rfl (fun k hk => ?_); simp (disch := omega) only [go_sem, Nat.reduceBEq, Nat.reduceAdd]; refine hk _ _ ?_; clear hk k) | refine wkt rfl ?_ | refine wk0 ?_ | refine rg rfl rfl (fun K hK => ?_) | ((first | refine AWP_exit ?_ | refine AWP_skip ?_); simp (disch := decide) only [qs, qb, if_true, if_false, reduceIte]) | refine AWP_sq rfl (fun K hK => ?_) | refine ct rfl ?_ | ((try simp (disch := omega) only [go_sem, Nat.reduceBEq, Nat.reduceAdd]); (first | apply hK | (clear hK; apply hK) | (clear hK; clear hK; apply hK)); clear hK; (try clear K); (try dsimp only [behind, qs, qb])))
      refine AWP_ret ?_; simp (disch := omega) only [go_sem, Nat.reduceBEq, Nat.reduceAdd]
      all_goals simp [h1]
theorem QInt_spec {h : PH} {n : Int} (h1 : -9223372036854775808 ≤ n) (h2 : n ≤ 9223372036854775807) : Spec mach 39 #[.int .i64 n] h (fun v h' => Qr h' v (n : Rat)) NP := by
  by_cases hn : n < 0
  · obtain ⟨m, rfl⟩ : ∃ m : Nat, n = -((m + 1 : Nat) : Int) := ⟨n.natAbs - 1, by omega⟩
    have e1 : IntKind.i64.wrap (-((m + 1 : Nat) : Int) + 1) = -(m : Int) := by rw [wi64 (by omega) (by omega)]; omega
    have e2 : IntKind.i64.wrap (0 - -(m : Int)) = (m : Int) := by rw [wi64 (by omega) (by omega)]; omega
    refine Spec.enter (args := [_]) (n := 18) Tryz.func39 rfl (by kernel_rfl) rfl (by simp) [.cell 2 56] rfl (fun C _ => ?_)
    repeat (first | (refine rg rfl rfl (fun K hK => ?_); (repeat (first | (refine wo rfl (fun k hk => ?_); simp (disch := omega) only [go_sem, Nat.reduceBEq, Nat.reduceAdd]; refine hk _ _ ?_; clear hk k) | refine wkt rfl ?_)); (try refine wk0 ?_); refine hK _ _ ?_; clear hK K; (try dsimp only [behind, qs, qb])) | ((first | refine AWP_exit ?_ | refine AWP_skip ?_); simp (disch := decide) only [qs, qb, if_true, if_false, reduceIte]) | refine AWP_sq rfl (fun K hK => ?_) | refine ct rfl ?_ | ((first | refine hK _ _ ?_ | (clear hK; refine hK _ _ ?_) | (clear hK; clear hK; refine hK _ _ ?_)); clear hK; (try clear K)))
    refine rg rfl rfl (fun K hK => ?_); (repeat (first | (refine wo rfl (fun k hk => ?_); simp (disch := omega) only [go_sem, Nat.reduceBEq, Nat.reduceAdd, e1, e2]; refine hk _ _ ?_; clear hk k) | refine wkt rfl ?_)); (try refine wk0 ?_)
    refine cN rfl rfl rfl rfl (by exact NatOf_spec (n := m + 1) (by omega)) ?_; rintro v1 h3 s3 hv1; obtain ⟨va1, vl1, vc1, rfl, hv1⟩ := hv1.sl; (repeat (first | (refine wo rfl (fun k hk => ?_); simp (disch := omega) only [go_sem, Nat.reduceBEq, Nat.reduceAdd]; refine hk _ _ ?_; clear hk k) | refine wkt rfl ?_)); (try refine wk0 ?_)
    refine cN rfl rfl rfl rfl (by exact NatOf_spec (n := 1) (by decide)) ?_; rintro v2 h4 s4 hv2; obtain ⟨va2, vl2, vc2, rfl, hv2⟩ := hv2.sl; (repeat (first | (refine wo rfl (fun k hk => ?_); simp (disch := omega) only [go_sem, Nat.reduceBEq, Nat.reduceAdd]; refine hk _ _ ?_; clear hk k) | refine wkt rfl ?_)); (try refine wk0 ?_)
    refine cN rfl rfl rfl rfl (by exact Make_spec (neg := true) (hv1.to (h' := h4)) hv2 (Nat.le_trans (bl_le.2 (show m + 1 < 2 ^ 64 by omega)) (by decide)) (by decide)) ?_; rintro v5 h5 _ hv5; obtain ⟨v5_0, v5_1, v5_2, v5_3, v5_4, v5_5, v5_6, rfl, hv5⟩ := hv5.sa; (repeat (first | (refine wo rfl (fun k hk => ?_); simp (disch := omega) only [go_sem, Nat.reduceBEq, Nat.reduceAdd]; refine hk _ _ ?_; clear hk k) | refine wkt rfl ?_)); (try refine wk0 ?_)
    (try (simp (disch := omega) only [go_sem, Nat.reduceBEq, Nat.reduceAdd])); refine hK _ _ ?_; clear hK; (try clear K); (try dsimp only [behind, qs])
    refine AWP_ret ?_; simp (disch := omega) only [go_sem, Nat.reduceBEq, Nat.reduceAdd]
    have : sgn true (m + 1) 1 = ((-((m + 1 : Nat) : Int) : Int) : Rat) := by rw [sgn_nat]; simp
    rw [this] at hv5; exact hv5
  · obtain ⟨m, rfl⟩ : ∃ m : Nat, n = (m : Int) := ⟨n.natAbs, by omega⟩
    refine Spec.enter (args := [_]) (n := 18) Tryz.func39 rfl (by kernel_rfl) rfl (by simp) [.cell 2 56] rfl (fun C _ => ?_)
    repeat (first | (refine wo rfl (fun k hk => ?_); simp (disch := omega) only [go_sem, Nat.reduceBEq, Nat.reduceAdd]; refine hk _ _ ?_; clear hk k) | refine wkt rfl ?_ | refine wk0 ?_ | refine rg rfl rfl (fun K hK => ?_) | ((first | refine AWP_exit ?_ | refine AWP_skip ?_); simp (disch := decide) only [qs, qb, if_true, if_false, reduceIte]) | refine AWP_sq rfl (fun K hK => ?_) | refine ct rfl ?_ | ((try simp (disch := omega) only [go_sem, Nat.reduceBEq, Nat.reduceAdd]); (first | apply hK | (clear hK; apply hK) | (clear hK; clear hK; apply hK)); clear hK; (try clear K); (try dsimp only [behind, qs, qb])))
    refine cN rfl rfl rfl rfl (by exact NatOf_spec (n := m) (by omega)) ?_; rintro v1 h3 s3 hv1; obtain ⟨va1, vl1, vc1, rfl, hv1⟩ := hv1.sl; (repeat (first | (refine wo rfl (fun k hk => ?_); simp (disch := omega) only [go_sem, Nat.reduceBEq, Nat.reduceAdd]; refine hk _ _ ?_; clear hk k) | refine wkt rfl ?_)); (try refine wk0 ?_)
    refine cN rfl rfl rfl rfl (by exact NatOf_spec (n := 1) (by decide)) ?_; rintro v2 h4 s4 hv2; obtain ⟨va2, vl2, vc2, rfl, hv2⟩ := hv2.sl; (repeat (first | (refine wo rfl (fun k hk => ?_); simp (disch := omega) only [go_sem, Nat.reduceBEq, Nat.reduceAdd]; refine hk _ _ ?_; clear hk k) | refine wkt rfl ?_)); (try refine wk0 ?_)
    refine cN rfl rfl rfl rfl (by exact Make_spec (neg := false) (hv1.to (h' := h4)) hv2 (Nat.le_trans (bl_le.2 (show m < 2 ^ 64 by omega)) (by decide)) (by decide)) ?_; rintro v5 h5 _ hv5; obtain ⟨v5_0, v5_1, v5_2, v5_3, v5_4, v5_5, v5_6, rfl, hv5⟩ := hv5.sa; (repeat (first | (refine wo rfl (fun k hk => ?_); simp (disch := omega) only [go_sem, Nat.reduceBEq, Nat.reduceAdd]; refine hk _ _ ?_; clear hk k) | refine wkt rfl ?_)); (try refine wk0 ?_)
    (try (simp (disch := omega) only [go_sem, Nat.reduceBEq, Nat.reduceAdd])); refine hK _ _ ?_; clear hK; (try clear K); (try dsimp only [behind, qs])
    refine AWP_ret ?_; simp (disch := omega) only [go_sem, Nat.reduceBEq, Nat.reduceAdd]
    have : sgn false m 1 = (((m : Nat) : Int) : Rat) := by rw [sgn_nat]; simp
    rw [this] at hv5; exact hv5
end Go.Q
namespace Go.Q
open Go.Proofs
set_option maxRecDepth 100000
set_option maxHeartbeats 4000000
def halves : List Nat → List Nat
  | [] => []
  | x :: xs => x % 65536 :: x / 65536 :: halves xs
theorem val_halves : ∀ xs : List Nat, val 65536 (halves xs) = val 4294967296 xs
  | [] => rfl
  | x :: xs => by
    simp only [halves, val, val_halves xs]
    omega
theorem halves_lt : ∀ {xs : List Nat}, (∀ x ∈ xs, x < 4294967296) → ∀ d ∈ halves xs, d < 65536
  | [], _, d, hd => by cases hd
  | x :: xs, h, d, hd => by
    have hx := h x (List.mem_cons_self ..)
    simp only [halves, List.mem_cons] at hd
    rcases hd with rfl | rfl | hd
    · omega
    · omega
    · exact halves_lt (fun y hy => h y (List.mem_cons_of_mem _ hy)) d hd
theorem halves_len : ∀ xs : List Nat, (halves xs).length = 2 * xs.length
  | [] => rfl
  | x :: xs => by simp only [halves, List.length_cons, halves_len xs]; omega
theorem halves_snoc : ∀ (xs : List Nat) (x : Nat), halves (xs ++ [x]) = halves xs ++ [x % 65536, x / 65536]
  | [], x => rfl
  | y :: xs, x => by simp only [List.cons_append, halves, halves_snoc xs x]
theorem take_snoc_getD {xs : List Nat} {k : Nat} (h : k < xs.length) : xs.take (k + 1) = xs.take k ++ [xs.getD k 0] := by
  rw [List.take_succ_eq_append_getElem h]; simp [h]
theorem uw_two (ds : List Nat) (c d : Nat) (jk : List Value) : uw ds ++ (uw [c, d] ++ jk) = uw (ds ++ [c, d]) ++ jk := by simp [uw]
@[go_sem] theorem uw_mk2 (c d : Nat) : [Value.int .u32 (c : Nat), Value.int .u32 (d : Nat)] = uw [c, d] := rfl
@[go_sem] theorem spl2 (c d : Nat) : spl (spl [Value.int .u32 0, Value.int .u32 0] 0 (uw [c])) 1 (uw [d]) = uw [c, d] := rfl
@[go_sem] theorem take2 (c d : Nat) : (uw [c, d]).take 2 = uw [c, d] := rfl
theorem words_spec {h0 h : PH} [Le h0 h] {a : Option Addr} {c : Nat} {xs : List Nat} (ha : Arr h0 a c xs) (hs : xs.length ≤ 2 ^ 40) :
    Spec mach 157 #[.slice a xs.length c] h (fun v h' => N16 h' v (val 4294967296 xs)) NP := by
  refine Spec.enter (args := [_]) (n := 22) Tryz.func157 rfl (by kernel_rfl) rfl (by simp) [.tmp 2] rfl (fun C _ => ?_)
  repeat (first | (refine wo rfl (fun k hk => ?_); simp (disch := omega) only [go_sem, Nat.reduceBEq, Nat.reduceAdd]; refine hk _ _ ?_; clear hk k) | refine wkt rfl ?_ | refine wk0 ?_ | refine rg rfl rfl (fun K hK => ?_) | ((first | refine AWP_exit ?_ | refine AWP_skip ?_); simp (disch := decide) only [qs, qb, if_true, if_false, reduceIte]) | refine AWP_sq rfl (fun K hK => ?_) | refine ct rfl ?_ | ((try simp (disch := omega) only [go_sem, Nat.reduceBEq, Nat.reduceAdd]); (first | apply hK | (clear hK; apply hK) | (clear hK; clear hK; apply hK)); clear hK; (try clear K); (try dsimp only [behind, qs, qb])))
  refine AWP_loopS (fun x : Nat ⊕ (Nat × List Value) => match x with
      | .inl _ => ⟨[(3, .v (.slice none 0 0)), (6, .v (.slice a xs.length c)), (7, .v (.int .i64 xs.length)), (8, .v (.int .i64 0))], []⟩
      | .inr (k, jk) => ⟨[(3, .s 0 0 (2 * k) (2 * k + jk.length)), (6, .v (.slice a xs.length c)), (7, .v (.int .i64 xs.length)), (8, .v (.int .i64 k))], [uw (halves (xs.take k)) ++ jk]⟩)
    (fun x h' => Le h0 h' ∧ match x with
      | .inl _ => True
      | .inr (k, _) => k ≤ xs.length)
    (fun x => match x with
      | .inl _ => xs.length + 1
      | .inr (k, _) => xs.length - k) (.inl 0) [] ?_ ⟨inferInstance, trivial⟩ ?_
  · simp (disch := omega) only [go_sem, Nat.reduceBEq, Nat.reduceAdd]
  · rintro (r | ⟨i, jk⟩) h1 ⟨hle, hi⟩
    · dsimp only at hi ⊢
      by_cases hx0 : xs.length = 0
      · repeat (first | (refine wo rfl (fun k hk => ?_); simp (disch := omega) only [go_sem, Nat.reduceBEq, Nat.reduceAdd]; refine hk _ _ ?_; clear hk k) | refine wkt rfl ?_ | refine wk0 ?_ | refine rg rfl rfl (fun K hK => ?_) | ((first | refine AWP_exit ?_ | refine AWP_skip ?_); simp (disch := decide) only [qs, qb, if_true, if_false, reduceIte]) | refine AWP_sq rfl (fun K hK => ?_) | refine ct rfl ?_ | ((try simp (disch := omega) only [go_sem, Nat.reduceBEq, Nat.reduceAdd]); (first | apply hK | (clear hK; apply hK) | (clear hK; clear hK; apply hK)); clear hK; (try clear K); (try dsimp only [behind, qs, qb])))
        have hA : Arr h1 none 0 [] := Arr.nil h1
        refine cN rfl rfl rfl rfl (by exact trim_N (L := 0) hA (by simp) rfl) ?_; rintro v2 h2 s2 hv2; (repeat (first | (refine wo rfl (fun k hk => ?_); simp (disch := omega) only [go_sem, Nat.reduceBEq, Nat.reduceAdd]; refine hk _ _ ?_; clear hk k) | refine wkt rfl ?_)); (try refine wk0 ?_)
        (try (simp (disch := omega) only [go_sem, Nat.reduceBEq, Nat.reduceAdd])); refine hK _ _ ?_; clear hK; (try clear K); (try dsimp only [behind, qs])
        refine AWP_ret ?_; simp (disch := omega) only [go_sem, Nat.reduceBEq, Nat.reduceAdd]
        rw [List.eq_nil_of_length_eq_zero hx0]
        exact hv2
      · obtain ⟨ad, rfl, hat⟩ := ha.rd0 h1 (by omega)
        have hx := getD_lt (by decide) ha.lt 0
        repeat (first | (refine wo rfl (fun k hk => ?_); simp (disch := omega) only [go_sem, Nat.reduceBEq, Nat.reduceAdd, hat]; refine hk _ _ ?_; clear hk k) | refine wkt rfl ?_ | refine wk0 ?_ | refine rg rfl rfl (fun K hK => ?_) | ((first | refine AWP_exit ?_ | refine AWP_skip ?_); simp (disch := decide) only [qs, qb, if_true, if_false, reduceIte]) | refine AWP_sq rfl (fun K hK => ?_) | refine ct rfl ?_ | ((try simp (disch := omega) only [go_sem, Nat.reduceBEq, Nat.reduceAdd]); (first | apply hK | (clear hK; apply hK) | (clear hK; clear hK; apply hK)); clear hK; (try clear K); (try dsimp only [behind, qs, qb])))
        refine wo rfl (fun k hk => ?_); simp (disch := omega) only [go_sem, Nat.reduceBEq, Nat.reduceAdd]
        intro _ junk
        refine hk _ _ ?_; clear hk k
        (repeat (first | (refine wo rfl (fun k hk => ?_); simp (disch := omega) only [go_sem, Nat.reduceBEq, Nat.reduceAdd]; refine hk _ _ ?_; clear hk k) | refine wkt rfl ?_)); (try refine wk0 ?_)
        repeat (first | (refine wo rfl (fun k hk => ?_); simp (disch := omega) only [go_sem, Nat.reduceBEq, Nat.reduceAdd]; refine hk _ _ ?_; clear hk k) | refine wkt rfl ?_ | refine wk0 ?_ | refine rg rfl rfl (fun K hK => ?_) | ((first | refine AWP_exit ?_ | refine AWP_skip ?_); simp (disch := decide) only [qs, qb, if_true, if_false, reduceIte]) | refine AWP_sq rfl (fun K hK => ?_) | refine ct rfl ?_ | ((try simp (disch := omega) only [go_sem, Nat.reduceBEq, Nat.reduceAdd]); (first | apply hK | (clear hK; apply hK) | (clear hK; clear hK; apply hK)); clear hK; (try clear K); (try dsimp only [behind, qs, qb])))
        refine ⟨.inr (1, junk), [1], ?_, ⟨hle, by dsimp only; omega⟩, by dsimp only; omega⟩
        have e1 : xs.take 1 = [xs.getD 0 0] := by rw [take_snoc_getD (k := 0) (by omega)]; rfl
        simp (disch := omega) only [go_sem, Nat.reduceBEq, Nat.reduceAdd, e1, halves]
        rfl
    · dsimp only at hi ⊢
      by_cases hil : i < xs.length
      · obtain ⟨ad, rfl, hat⟩ := ha.rd h1 (i := i) (by omega)
        have hx := getD_lt (by decide) ha.lt i
        have hlen := halves_len (xs.take i)
        rw [List.length_take, Nat.min_eq_left (by omega)] at hlen
        repeat (first | (refine wo rfl (fun k hk => ?_); simp (disch := omega) only [go_sem, Nat.reduceBEq, Nat.reduceAdd, hat]; refine hk _ _ ?_; clear hk k) | refine wkt rfl ?_ | refine wk0 ?_ | refine rg rfl rfl (fun K hK => ?_) | ((first | refine AWP_exit ?_ | refine AWP_skip ?_); simp (disch := decide) only [qs, qb, if_true, if_false, reduceIte]) | refine AWP_sq rfl (fun K hK => ?_) | refine ct rfl ?_ | ((try simp (disch := omega) only [go_sem, Nat.reduceBEq, Nat.reduceAdd]); (first | apply hK | (clear hK; apply hK) | (clear hK; clear hK; apply hK)); clear hK; (try clear K); (try dsimp only [behind, qs, qb])))
        refine wo rfl (fun k hk => ?_); simp (disch := omega) only [go_sem, Nat.reduceBEq, Nat.reduceAdd]
        intro junk
        refine hk _ _ ?_; clear hk k
        (repeat (first | (refine wo rfl (fun k hk => ?_); simp (disch := omega) only [go_sem, Nat.reduceBEq, Nat.reduceAdd]; refine hk _ _ ?_; clear hk k) | refine wkt rfl ?_)); (try refine wk0 ?_)
        repeat (first | (refine wo rfl (fun k hk => ?_); simp (disch := omega) only [go_sem, Nat.reduceBEq, Nat.reduceAdd]; refine hk _ _ ?_; clear hk k) | refine wkt rfl ?_ | refine wk0 ?_ | refine rg rfl rfl (fun K hK => ?_) | ((first | refine AWP_exit ?_ | refine AWP_skip ?_); simp (disch := decide) only [qs, qb, if_true, if_false, reduceIte]) | refine AWP_sq rfl (fun K hK => ?_) | refine ct rfl ?_ | ((try simp (disch := omega) only [go_sem, Nat.reduceBEq, Nat.reduceAdd]); (first | apply hK | (clear hK; apply hK) | (clear hK; clear hK; apply hK)); clear hK; (try clear K); (try dsimp only [behind, qs, qb])))
        refine ⟨.inr (i + 1, junk), [2], ?_, ⟨hle, by dsimp only; omega⟩, by dsimp only; omega⟩
        have e1 := take_snoc_getD hil
        simp (disch := omega) only [go_sem, Nat.reduceBEq, Nat.reduceAdd, e1, halves_snoc, uw_two]
        rfl
      · obtain rfl : i = xs.length := by omega
        have hlen := halves_len xs
        rw [List.take_of_length_le (Nat.le_refl _)]
        repeat (first | (refine rg rfl rfl (fun K hK => ?_); (repeat (first | (refine wo rfl (fun k hk => ?_); simp (disch := omega) only [go_sem, Nat.reduceBEq, Nat.reduceAdd]; refine hk _ _ ?_; clear hk k) | refine wkt rfl ?_)); (try refine wk0 ?_); refine hK _ _ ?_; clear hK K; (try dsimp only [behind, qs, qb])) | ((first | refine AWP_exit ?_ | refine AWP_skip ?_); simp (disch := decide) only [qs, qb, if_true, if_false, reduceIte]) | refine AWP_sq rfl (fun K hK => ?_) | refine ct rfl ?_ | ((first | refine hK _ _ ?_ | (clear hK; refine hK _ _ ?_) | (clear hK; clear hK; refine hK _ _ ?_)); clear hK; (try clear K)))
        refine AWP_rsp [.p 0, .o 0, .o 1, .o 2] rfl rfl (fun K hK => ?_); (repeat (first | (refine wo rfl (fun k hk => ?_); simp (disch := omega) only [go_sem, Nat.reduceBEq, Nat.reduceAdd]; refine hk _ _ ?_; clear hk k) | refine wkt rfl ?_)); (try refine wk0 ?_)
        refine wkp ?_; simp (disch := omega) only [go_sem, Nat.reduceBEq, Nat.reduceAdd]; intro b h2 hs2 hb; (repeat (first | (refine wo rfl (fun k hk => ?_); simp (disch := omega) only [go_sem, Nat.reduceBEq, Nat.reduceAdd]; refine hk _ _ ?_; clear hk k) | refine wkt rfl ?_)); (try refine wk0 ?_)
        have hA : Arr h2 (some ⟨b, 0, none⟩) (2 * xs.length + jk.length) (halves xs) := .of_app hb (halves_lt ha.lt) (by omega) (by omega)
        refine cN rfl rfl rfl rfl (by exact trim_N hA (halves_lt ha.lt) hlen) ?_; rintro v2 h3 s2 hv2; (repeat (first | (refine wo rfl (fun k hk => ?_); simp (disch := omega) only [go_sem, Nat.reduceBEq, Nat.reduceAdd]; refine hk _ _ ?_; clear hk k) | refine wkt rfl ?_)); (try refine wk0 ?_)
        (try (simp (disch := omega) only [go_sem, Nat.reduceBEq, Nat.reduceAdd])); refine hK _ _ ?_; clear hK; (try clear K); (try dsimp only [behind, qs])
        refine AWP_ret ?_; simp (disch := omega) only [go_sem, Nat.reduceBEq, Nat.reduceAdd]
        rwa [val_halves] at hv2
end Go.Q
namespace Go.Q
open Go.Proofs
set_option maxRecDepth 100000
set_option maxHeartbeats 4000000
theorem P16_32 (k : Nat) : 65536 ^ (2 * k) = 4294967296 ^ k := by rw [Nat.pow_mul]
theorem len_16_32 {n k : Nat} : (W 65536 n).length ≤ 2 * k ↔ (W 4294967296 n).length ≤ k := by
  constructor
  · intro h
    refine W_length_le B32 ?_
    rw [← P16_32]
    exact Nat.lt_of_lt_of_le (lt_W_length B16 n) (Nat.pow_le_pow_right (by decide) h)
  · intro h
    refine W_length_le B16 ?_
    rw [P16_32]
    exact Nat.lt_of_lt_of_le (lt_W_length B32 n) (Nat.pow_le_pow_right (by decide) h)
theorem digit_16_32 (n k : Nat) : (W 65536 n).getD (2 * k) 0 + (W 65536 n).getD (2 * k + 1) 0 * 65536 = (W 4294967296 n).getD k 0 := by
  rw [W_getD B16, W_getD B16, W_getD B32, Nat.pow_succ, P16_32, ← Nat.div_div_eq_div_mul]
  omega
theorem N32.of_pub {h : PH} {b : Nat} {ds : List Nat} {junk : List Value} {n L c : Nat} (hb : uw ds ++ junk ≠ [] → h b = some (uw ds ++ junk).toArray) (hW : W 4294967296 n = ds) (hs : ds.length ≤ 2 ^ 46) (hL : ds.length = L) (hc : ds.length ≤ c) : N32 h (.slice (some ⟨b, 0, none⟩) L c) n := by
  refine ⟨_, c, by rw [hW, hL], ?_⟩
  rw [hW]
  have hlt : ∀ x ∈ ds, x < 4294967296 := by rw [← hW]; exact W_lt B32 n
  refine .of_block hb (fun i x hi => ?_) hlt hs hc
  have hil : i < ds.length := (List.getElem?_eq_some_iff.1 hi).1
  rw [List.getElem?_append_left (by simp [uw]; exact hil)]
  simp [uw, hi]
theorem list_spec {h0 h : PH} [Le h0 h] {v : Value} {n : Nat} (hv : N16 h0 v n) (bn : bl n ≤ 2 ^ 40) : Spec mach 89 #[v] h (fun v h' => N32 h' v n) NP := by
  obtain ⟨a, c, xs, rfl, ha, hxs, hm, hx16⟩ := hv.out
  obtain ⟨zs, hzs⟩ : ∃ zs, W 4294967296 n = zs := ⟨_, rfl⟩
  have hs : xs.length ≤ 2 ^ 40 := by have := len16_le_bl n; rw [hxs] at this; omega
  have hzl : zs.length ≤ 2 ^ 40 := by have := len_le_bl n; rw [hzs] at this; omega
  have hlen : ∀ k, xs.length ≤ 2 * k ↔ zs.length ≤ k := fun k => by rw [← hxs, ← hzs]; exact len_16_32
  have hdig : ∀ k, xs.getD (2 * k) 0 + xs.getD (2 * k + 1) 0 * 65536 = zs.getD k 0 := fun k => by rw [← hxs, ← hzs]; exact digit_16_32 n k
  refine Spec.enter (args := [_]) (n := 34) Tryz.func89 rfl (by kernel_rfl) rfl (by simp) [.tmp 2] rfl (fun C _ => ?_)
  repeat (first | (refine wo rfl (fun k hk => ?_); simp (disch := omega) only [go_sem, Nat.reduceBEq, Nat.reduceAdd]; refine hk _ _ ?_; clear hk k) | refine wkt rfl ?_ | refine wk0 ?_ | refine rg rfl rfl (fun K hK => ?_) | ((first | refine AWP_exit ?_ | refine AWP_skip ?_); simp (disch := decide) only [qs, qb, if_true, if_false, reduceIte]) | refine AWP_sq rfl (fun K hK => ?_) | refine ct rfl ?_ | ((try simp (disch := omega) only [go_sem, Nat.reduceBEq, Nat.reduceAdd]); (first | apply hK | (clear hK; apply hK) | (clear hK; clear hK; apply hK)); clear hK; (try clear K); (try dsimp only [behind, qs, qb])))
  refine AWP_loopS (fun x : Nat ⊕ (Nat × List Value) => match x with
      | .inl _ => ⟨[(0, .v (.slice a xs.length c)), (3, .v (.slice none 0 0)), (4, .v (.int .i64 0))], []⟩
      | .inr (k, jk) => ⟨[(0, .v (.slice a xs.length c)), (3, .s 0 0 k (k + jk.length)), (4, .v (.int .i64 (2 * k : Nat)))], [uw (zs.take k) ++ jk]⟩)
    (fun x h' => Le h0 h' ∧ match x with
      | .inl _ => True
      | .inr (k, _) => k ≤ zs.length)
    (fun x => match x with
      | .inl _ => zs.length + 1
      | .inr (k, _) => zs.length - k) (.inl 0) [] ?_ ⟨inferInstance, trivial⟩ ?_
  · simp (disch := omega) only [go_sem, Nat.reduceBEq, Nat.reduceAdd]
  · rintro (r | ⟨i, jk⟩) h1 ⟨hle, hi⟩
    · dsimp only at hi ⊢
      have hl0 := hlen 0
      have hd0 := hdig 0
      simp only [Nat.mul_zero, Nat.zero_add] at hl0 hd0
      by_cases hx0 : xs.length = 0
      · repeat (first | (refine wo rfl (fun k hk => ?_); simp (disch := omega) only [go_sem, Nat.reduceBEq, Nat.reduceAdd]; refine hk _ _ ?_; clear hk k) | refine wkt rfl ?_ | refine wk0 ?_ | refine rg rfl rfl (fun K hK => ?_) | ((first | refine AWP_exit ?_ | refine AWP_skip ?_); simp (disch := decide) only [qs, qb, if_true, if_false, reduceIte]) | refine AWP_sq rfl (fun K hK => ?_) | refine ct rfl ?_ | ((try simp (disch := omega) only [go_sem, Nat.reduceBEq, Nat.reduceAdd]); (first | apply hK | (clear hK; apply hK) | (clear hK; clear hK; apply hK)); clear hK; (try clear K); (try dsimp only [behind, qs, qb])))
        refine AWP_ret ?_; simp (disch := omega) only [go_sem, Nat.reduceBEq, Nat.reduceAdd]
        have : n = 0 := by rw [← hm, List.eq_nil_of_length_eq_zero hx0]; rfl
        rw [this]; exact N32.zero _
      · obtain ⟨ad, rfl, hat⟩ := ha.rd0 h1 (by omega)
        have hx := getD_lt (by decide) hx16 0
        have e1 : zs.take 1 = [zs.getD 0 0] := by rw [take_snoc_getD (k := 0) (by omega)]; rfl
        by_cases hx1 : 1 < xs.length
        · obtain ⟨ad', h', hat'⟩ := ha.rd h1 (i := 1) (by omega)
          obtain rfl : ad = ad' := by simpa using h'
          have hy := getD_lt (by decide) hx16 1
          have hat1 : h1.at (ad.add ((0 : Int) + 1).toNat) = some (.int .u32 (xs.getD 1 0 : Nat)) := hat'
          repeat (first | (refine wo rfl (fun k hk => ?_); simp (disch := omega) only [go_sem, Nat.reduceBEq, Nat.reduceAdd, hat, hat1, hd0]; refine hk _ _ ?_; clear hk k) | refine wkt rfl ?_ | refine wk0 ?_ | refine rg rfl rfl (fun K hK => ?_) | ((first | refine AWP_exit ?_ | refine AWP_skip ?_); simp (disch := decide) only [qs, qb, if_true, if_false, reduceIte]) | refine AWP_sq rfl (fun K hK => ?_) | refine ct rfl ?_ | ((try simp (disch := omega) only [go_sem, Nat.reduceBEq, Nat.reduceAdd]); (first | apply hK | (clear hK; apply hK) | (clear hK; clear hK; apply hK)); clear hK; (try clear K); (try dsimp only [behind, qs, qb])))
          refine wo rfl (fun k hk => ?_); simp (disch := omega) only [go_sem, Nat.reduceBEq, Nat.reduceAdd]
          intro _ junk
          refine hk _ _ ?_; clear hk k
          (repeat (first | (refine wo rfl (fun k hk => ?_); simp (disch := omega) only [go_sem, Nat.reduceBEq, Nat.reduceAdd]; refine hk _ _ ?_; clear hk k) | refine wkt rfl ?_)); (try refine wk0 ?_)
          repeat (first | (refine wo rfl (fun k hk => ?_); simp (disch := omega) only [go_sem, Nat.reduceBEq, Nat.reduceAdd]; refine hk _ _ ?_; clear hk k) | refine wkt rfl ?_ | refine wk0 ?_ | refine rg rfl rfl (fun K hK => ?_) | ((first | refine AWP_exit ?_ | refine AWP_skip ?_); simp (disch := decide) only [qs, qb, if_true, if_false, reduceIte]) | refine AWP_sq rfl (fun K hK => ?_) | refine ct rfl ?_ | ((try simp (disch := omega) only [go_sem, Nat.reduceBEq, Nat.reduceAdd]); (first | apply hK | (clear hK; apply hK) | (clear hK; clear hK; apply hK)); clear hK; (try clear K); (try dsimp only [behind, qs, qb])))
          refine ⟨.inr (1, junk), [1], ?_, ⟨hle, by dsimp only; omega⟩, by dsimp only; omega⟩
          simp (disch := omega) only [go_sem, Nat.reduceBEq, Nat.reduceAdd, e1]
          rfl
        · have hy : xs.getD 1 0 = 0 := getD_none (by omega)
          rw [hy, Nat.zero_mul, Nat.add_zero] at hd0
          repeat (first | (refine wo rfl (fun k hk => ?_); simp (disch := omega) only [go_sem, Nat.reduceBEq, Nat.reduceAdd, hat, hd0]; refine hk _ _ ?_; clear hk k) | refine wkt rfl ?_ | refine wk0 ?_ | refine rg rfl rfl (fun K hK => ?_) | ((first | refine AWP_exit ?_ | refine AWP_skip ?_); simp (disch := decide) only [qs, qb, if_true, if_false, reduceIte]) | refine AWP_sq rfl (fun K hK => ?_) | refine ct rfl ?_ | ((try simp (disch := omega) only [go_sem, Nat.reduceBEq, Nat.reduceAdd]); (first | apply hK | (clear hK; apply hK) | (clear hK; clear hK; apply hK)); clear hK; (try clear K); (try dsimp only [behind, qs, qb])))
          refine wo rfl (fun k hk => ?_); simp (disch := omega) only [go_sem, Nat.reduceBEq, Nat.reduceAdd]
          intro _ junk
          refine hk _ _ ?_; clear hk k
          (repeat (first | (refine wo rfl (fun k hk => ?_); simp (disch := omega) only [go_sem, Nat.reduceBEq, Nat.reduceAdd]; refine hk _ _ ?_; clear hk k) | refine wkt rfl ?_)); (try refine wk0 ?_)
          repeat (first | (refine wo rfl (fun k hk => ?_); simp (disch := omega) only [go_sem, Nat.reduceBEq, Nat.reduceAdd]; refine hk _ _ ?_; clear hk k) | refine wkt rfl ?_ | refine wk0 ?_ | refine rg rfl rfl (fun K hK => ?_) | ((first | refine AWP_exit ?_ | refine AWP_skip ?_); simp (disch := decide) only [qs, qb, if_true, if_false, reduceIte]) | refine AWP_sq rfl (fun K hK => ?_) | refine ct rfl ?_ | ((try simp (disch := omega) only [go_sem, Nat.reduceBEq, Nat.reduceAdd]); (first | apply hK | (clear hK; apply hK) | (clear hK; clear hK; apply hK)); clear hK; (try clear K); (try dsimp only [behind, qs, qb])))
          refine ⟨.inr (1, junk), [1], ?_, ⟨hle, by dsimp only; omega⟩, by dsimp only; omega⟩
          simp (disch := omega) only [go_sem, Nat.reduceBEq, Nat.reduceAdd, e1]
          rfl
    · dsimp only at hi ⊢
      have hli := hlen i
      have hdi := hdig i
      by_cases hil : i < zs.length
      · obtain ⟨ad, rfl, hat⟩ := ha.rd h1 (i := 2 * i) (by omega)
        have hx := getD_lt (by decide) hx16 (2 * i)
        have e1 := take_snoc_getD hil
        have ez : (zs.take i).length = i := by rw [List.length_take, Nat.min_eq_left (by omega)]
        by_cases hx1 : 2 * i + 1 < xs.length
        · obtain ⟨ad', h', hat'⟩ := ha.rd h1 (i := 2 * i + 1) (by omega)
          obtain rfl : ad = ad' := by simpa using h'
          have hy := getD_lt (by decide) hx16 (2 * i + 1)
          simp (disch := omega) only [go_sem, Nat.reduceBEq, Nat.reduceAdd] at hat'
          repeat (first | (refine wo rfl (fun k hk => ?_); simp (disch := omega) only [go_sem, Nat.reduceBEq, Nat.reduceAdd, hat, hat', hdi]; refine hk _ _ ?_; clear hk k) | refine wkt rfl ?_ | refine wk0 ?_ | refine rg rfl rfl (fun K hK => ?_) | ((first | refine AWP_exit ?_ | refine AWP_skip ?_); simp (disch := decide) only [qs, qb, if_true, if_false, reduceIte]) | refine AWP_sq rfl (fun K hK => ?_) | refine ct rfl ?_ | ((try simp (disch := omega) only [go_sem, Nat.reduceBEq, Nat.reduceAdd]); (first | apply hK | (clear hK; apply hK) | (clear hK; clear hK; apply hK)); clear hK; (try clear K); (try dsimp only [behind, qs, qb])))
          refine wo rfl (fun k hk => ?_); simp (disch := omega) only [go_sem, Nat.reduceBEq, Nat.reduceAdd]
          intro junk
          refine hk _ _ ?_; clear hk k
          (repeat (first | (refine wo rfl (fun k hk => ?_); simp (disch := omega) only [go_sem, Nat.reduceBEq, Nat.reduceAdd]; refine hk _ _ ?_; clear hk k) | refine wkt rfl ?_)); (try refine wk0 ?_)
          repeat (first | (refine wo rfl (fun k hk => ?_); simp (disch := omega) only [go_sem, Nat.reduceBEq, Nat.reduceAdd]; refine hk _ _ ?_; clear hk k) | refine wkt rfl ?_ | refine wk0 ?_ | refine rg rfl rfl (fun K hK => ?_) | ((first | refine AWP_exit ?_ | refine AWP_skip ?_); simp (disch := decide) only [qs, qb, if_true, if_false, reduceIte]) | refine AWP_sq rfl (fun K hK => ?_) | refine ct rfl ?_ | ((try simp (disch := omega) only [go_sem, Nat.reduceBEq, Nat.reduceAdd]); (first | apply hK | (clear hK; apply hK) | (clear hK; clear hK; apply hK)); clear hK; (try clear K); (try dsimp only [behind, qs, qb])))
          refine ⟨.inr (i + 1, junk), [2], ?_, ⟨hle, by dsimp only; omega⟩, by dsimp only; omega⟩
          simp (disch := omega) only [go_sem, Nat.reduceBEq, Nat.reduceAdd, e1, uw_snoc, Nat.mul_add]
        · have hy : xs.getD (2 * i + 1) 0 = 0 := getD_none (by omega)
          rw [hy, Nat.zero_mul, Nat.add_zero] at hdi
          repeat (first | (refine wo rfl (fun k hk => ?_); simp (disch := omega) only [go_sem, Nat.reduceBEq, Nat.reduceAdd, hat, hdi]; refine hk _ _ ?_; clear hk k) | refine wkt rfl ?_ | refine wk0 ?_ | refine rg rfl rfl (fun K hK => ?_) | ((first | refine AWP_exit ?_ | refine AWP_skip ?_); simp (disch := decide) only [qs, qb, if_true, if_false, reduceIte]) | refine AWP_sq rfl (fun K hK => ?_) | refine ct rfl ?_ | ((try simp (disch := omega) only [go_sem, Nat.reduceBEq, Nat.reduceAdd]); (first | apply hK | (clear hK; apply hK) | (clear hK; clear hK; apply hK)); clear hK; (try clear K); (try dsimp only [behind, qs, qb])))
          refine wo rfl (fun k hk => ?_); simp (disch := omega) only [go_sem, Nat.reduceBEq, Nat.reduceAdd]
          intro junk
          refine hk _ _ ?_; clear hk k
          (repeat (first | (refine wo rfl (fun k hk => ?_); simp (disch := omega) only [go_sem, Nat.reduceBEq, Nat.reduceAdd]; refine hk _ _ ?_; clear hk k) | refine wkt rfl ?_)); (try refine wk0 ?_)
          repeat (first | (refine wo rfl (fun k hk => ?_); simp (disch := omega) only [go_sem, Nat.reduceBEq, Nat.reduceAdd]; refine hk _ _ ?_; clear hk k) | refine wkt rfl ?_ | refine wk0 ?_ | refine rg rfl rfl (fun K hK => ?_) | ((first | refine AWP_exit ?_ | refine AWP_skip ?_); simp (disch := decide) only [qs, qb, if_true, if_false, reduceIte]) | refine AWP_sq rfl (fun K hK => ?_) | refine ct rfl ?_ | ((try simp (disch := omega) only [go_sem, Nat.reduceBEq, Nat.reduceAdd]); (first | apply hK | (clear hK; apply hK) | (clear hK; clear hK; apply hK)); clear hK; (try clear K); (try dsimp only [behind, qs, qb])))
          refine ⟨.inr (i + 1, junk), [2], ?_, ⟨hle, by dsimp only; omega⟩, by dsimp only; omega⟩
          simp (disch := omega) only [go_sem, Nat.reduceBEq, Nat.reduceAdd, e1, uw_snoc, Nat.mul_add]
      · obtain rfl : i = zs.length := by omega
        rw [List.take_of_length_le (Nat.le_refl _)]
        repeat (first | (refine rg rfl rfl (fun K hK => ?_); (repeat (first | (refine wo rfl (fun k hk => ?_); simp (disch := omega) only [go_sem, Nat.reduceBEq, Nat.reduceAdd]; refine hk _ _ ?_; clear hk k) | refine wkt rfl ?_)); (try refine wk0 ?_); refine hK _ _ ?_; clear hK K; (try dsimp only [behind, qs, qb])) | ((first | refine AWP_exit ?_ | refine AWP_skip ?_); simp (disch := decide) only [qs, qb, if_true, if_false, reduceIte]) | refine AWP_sq rfl (fun K hK => ?_) | refine ct rfl ?_ | ((first | refine hK _ _ ?_ | (clear hK; refine hK _ _ ?_) | (clear hK; clear hK; refine hK _ _ ?_)); clear hK; (try clear K)))
        refine AWP_pub 0 ?_
        simp (disch := omega) only [go_sem, Nat.reduceBEq, Nat.reduceAdd]
        intro b h2 hs2 hb
        refine AWP_ret ?_; simp (disch := omega) only [go_sem, Nat.reduceBEq, Nat.reduceAdd]
        exact N32.of_pub hb hzs (by omega) rfl (by omega)
end Go.Q
namespace Go.Q
open Go.Proofs
set_option maxRecDepth 100000
set_option maxHeartbeats 4000000
theorem bl_dz (d : Nat) : bl (dz d) ≤ bl d + 1 := by
  unfold dz; split
  · subst d; decide
  · omega
theorem words_N {h0 h : PH} [Le h0 h] {a : Option Addr} {c n L : Nat} {xs : List Nat} (ha : Arr h0 a c xs) (hl : xs.length = L) (hs : xs.length ≤ 2 ^ 40) (hn : val 4294967296 xs = n) :
    Spec mach 157 #[.slice a L c] h (fun v h' => N16 h' v n) NP := by subst hl hn; exact words_spec ha hs
theorem val_bl {xs : List Nat} (hlt : ∀ x ∈ xs, x < 4294967296) : bl (val 4294967296 xs) ≤ 32 * xs.length := by
  rw [bl_le, B_pow]; exact val_lt (by decide) xs hlt
theorem QOf_spec {h0 h : PH} [Le h0 h] {v : Value} {neg : Bool} {n d : Nat} (hv : Rw h0 v neg n d) :
    Spec mach 123 #[v] h (fun v h' => Qr h' v (qof neg n d)) NP := by
  obtain ⟨a, c, xs, a', c', ys, rfl, ha, ha', hn, hd, hsx, hsy⟩ := hv
  have bn : bl n ≤ 2 ^ 37 := by have := val_bl ha.lt; rw [hn] at this; omega
  have bd : bl d ≤ 2 ^ 37 := by have := val_bl ha'.lt; rw [hd] at this; omega
  have bz := bl_dz d
  refine Spec.enter (args := [_]) (n := 18) Tryz.func123 rfl (by kernel_rfl) rfl (by simp) [.cell 2 56] rfl (fun C _ => ?_)
  repeat (first | (refine wo rfl (fun k hk => ?_); simp (disch := omega) only [go_sem, Nat.reduceBEq, Nat.reduceAdd]; refine hk _ _ ?_; clear hk k) | refine wkt rfl ?_ | refine wk0 ?_ | refine rg rfl rfl (fun K hK => ?_) | refine rd [.o 0, .o 1, .o 2, .o 3, .o 5, .o 4, .o 6, .o 7] rfl (by decide +kernel) rfl (fun K hK => ?_) | ((first | refine AWP_exit ?_ | refine AWP_skip ?_); simp (disch := decide) only [qs, qb, if_true, if_false, reduceIte]) | refine AWP_sq rfl (fun K hK => ?_) | refine ct rfl ?_ | ((try simp (disch := omega) only [go_sem, Nat.reduceBEq, Nat.reduceAdd]); (first | apply hK | (clear hK; apply hK) | (clear hK; clear hK; apply hK)); clear hK; (try clear K); (try dsimp only [behind, qs, qb])))
  refine cN rfl rfl rfl rfl (by exact words_N ha' rfl (by omega) hd) ?_; rintro v1 h1 _ hv1; obtain ⟨v1, v1_l, v1_c, rfl, hv1⟩ := hv1.sl; (repeat (first | (refine wo rfl (fun k hk => ?_); simp (disch := omega) only [go_sem, Nat.reduceBEq, Nat.reduceAdd]; refine hk _ _ ?_; clear hk k) | refine wkt rfl ?_)); (try refine wk0 ?_)
  (try (simp (disch := omega) only [go_sem, Nat.reduceBEq, Nat.reduceAdd])); refine hK _ _ ?_; clear hK; (try clear K); (try dsimp only [behind, qs])
  have l1 := hv1.len0
  refine AWP_sqs (fun K hK => ?_)
  have rest : ∀ (va : Option Addr) (vl vc : Nat) (h' : PH) (S : AS), Le h0 h' → N16 h' (.slice va vl vc) (dz d) → S.le ⟨[(1, .p 0 0), (2, .p 1 0), (3, .v (.slice va vl vc))], [[.bool neg, .slice a xs.length c, .slice a' ys.length c'], [.bool false, .slice none 0 0, .slice none 0 0]]⟩ → K S h' := by
    intro va vl vc h' S _ hz hS
    refine hK _ _ (AWP_le _ hS ?_); clear hK K
    (first | refine rg rfl rfl (fun K hK => ?_) | refine rd [.o 0, .o 1, .o 2, .o 3, .o 5, .o 4, .o 6, .o 7] rfl (by decide +kernel) rfl (fun K hK => ?_)); (repeat (first | (refine wo rfl (fun k hk => ?_); simp (disch := omega) only [go_sem, Nat.reduceBEq, Nat.reduceAdd]; refine hk _ _ ?_; clear hk k) | refine wkt rfl ?_)); (try refine wk0 ?_)
    refine cN rfl rfl rfl rfl (by exact words_N ha rfl (by omega) hn) ?_; rintro v2 h2 _ hv2; obtain ⟨v2, v2_l, v2_c, rfl, hv2⟩ := hv2.sl; (repeat (first | (refine wo rfl (fun k hk => ?_); simp (disch := omega) only [go_sem, Nat.reduceBEq, Nat.reduceAdd]; refine hk _ _ ?_; clear hk k) | refine wkt rfl ?_)); (try refine wk0 ?_)
    refine cN rfl rfl rfl rfl (by exact Make_spec (neg := neg) hv2 (hz.to (h' := h2)) (by omega) (by omega)) ?_; rintro v3 h3 _ hv3; obtain ⟨v3_0, v3_1, v3_2, v3_3, v3_4, v3_5, v3_6, rfl, hv3⟩ := hv3.sa; (repeat (first | (refine wo rfl (fun k hk => ?_); simp (disch := omega) only [go_sem, Nat.reduceBEq, Nat.reduceAdd]; refine hk _ _ ?_; clear hk k) | refine wkt rfl ?_)); (try refine wk0 ?_)
    (try (simp (disch := omega) only [go_sem, Nat.reduceBEq, Nat.reduceAdd])); refine hK _ _ ?_; clear hK; (try clear K); (try dsimp only [behind, qs])
    refine AWP_ret ?_; simp (disch := omega) only [go_sem, Nat.reduceBEq, Nat.reduceAdd]
    exact hv3
  by_cases hd0 : d = 0
  · refine AWP_rs rfl (fun K hK => ?_); (repeat (first | (refine wo rfl (fun k hk => ?_); simp (disch := omega) only [go_sem, Nat.reduceBEq, Nat.reduceAdd]; refine hk _ _ ?_; clear hk k) | refine wkt rfl ?_)); (try refine wk0 ?_); (first | refine hK _ _ ?_ | (clear hK; refine hK _ _ ?_) | (clear hK; clear hK; refine hK _ _ ?_)); clear hK; (try clear K)
    refine AWP_condT rfl ?_
    (first | refine rg rfl rfl (fun K hK => ?_) | refine rd [.o 0, .o 1, .o 2, .o 3, .o 5, .o 4, .o 6, .o 7] rfl (by decide +kernel) rfl (fun K hK => ?_)); (repeat (first | (refine wo rfl (fun k hk => ?_); simp (disch := omega) only [go_sem, Nat.reduceBEq, Nat.reduceAdd]; refine hk _ _ ?_; clear hk k) | refine wkt rfl ?_)); (try refine wk0 ?_)
    refine cN rfl rfl rfl rfl (by exact NatOf_spec (n := 1) (by decide)) ?_; rintro w1 h2 _ hw1; obtain ⟨w1, w1_l, w1_c, rfl, hw1⟩ := hw1.sl; (repeat (first | (refine wo rfl (fun k hk => ?_); simp (disch := omega) only [go_sem, Nat.reduceBEq, Nat.reduceAdd]; refine hk _ _ ?_; clear hk k) | refine wkt rfl ?_)); (try refine wk0 ?_)
    (try (simp (disch := omega) only [go_sem, Nat.reduceBEq, Nat.reduceAdd])); refine hK _ _ ?_; clear hK; (try clear K); (try dsimp only [behind, qs])
    refine rest _ _ _ _ _ inferInstance (by rw [hd0]; exact hw1) ?_
    simp (disch := omega) only [go_sem, Nat.reduceBEq, Nat.reduceAdd]
  · refine AWP_rs rfl (fun K hK => ?_); (repeat (first | (refine wo rfl (fun k hk => ?_); simp (disch := omega) only [go_sem, Nat.reduceBEq, Nat.reduceAdd]; refine hk _ _ ?_; clear hk k) | refine wkt rfl ?_)); (try refine wk0 ?_); (first | refine hK _ _ ?_ | (clear hK; refine hK _ _ ?_) | (clear hK; clear hK; refine hK _ _ ?_)); clear hK; (try clear K)
    refine AWP_condF rfl ?_
    refine AWP_skip ?_; simp only [qs, qb, if_true, if_false, reduceIte]
    refine rest _ _ _ _ _ inferInstance (by rw [dz_self hd0]; exact hv1) ?_
    simp (disch := omega) only [go_sem, Nat.reduceBEq, Nat.reduceAdd]
theorem QRat_spec {h0 h : PH} [Le h0 h] {v : Value} {x : Rat} (hx : Qr h0 v x) (bx : sz x ≤ 2 ^ 36) : Spec mach 38 #[v] h (fun v h' => Cn h' v x) NP := by
  obtain ⟨na, nl, nc, da, dl, dc, e, rfl, hn, hd, he⟩ := hx.sl
  have b1 := sz_num x; have b2 := sz_den x
  have b3 : bl e ≤ sz x := by
    rcases Nat.eq_zero_or_pos e with h | h
    · subst h; have : bl 0 = 0 := by decide
      omega
    · rw [dz_self (by omega)] at he; rw [he]; exact b2
  have ln := hn.len0
  obtain ⟨neg, en⟩ : ∃ b, decide (x.num < 0) = b := ⟨_, rfl⟩
  rw [en] at hx ⊢
  have hnn : neg = true → 0 < nl := by
    intro e1
    rw [e1, decide_eq_true_eq] at en
    rcases Nat.eq_zero_or_pos nl with h | h
    · have := ln.1 h; omega
    · exact h
  refine Spec.enter (args := [_]) (n := 24) Tryz.func38 rfl (by kernel_rfl) rfl (by simp) [.cell 2 24] rfl (fun C _ => ?_)
  repeat (first | (refine rg rfl rfl (fun K hK => ?_); (repeat (first | (refine wo rfl (fun k hk => ?_); simp (disch := omega) only [go_sem, Nat.reduceBEq, Nat.reduceAdd]; refine hk _ _ ?_; clear hk k) | refine wkt rfl ?_)); (try refine wk0 ?_); refine hK _ _ ?_; clear hK K; (try dsimp only [behind, qs, qb])) | ((first | refine AWP_exit ?_ | refine AWP_skip ?_); simp (disch := decide) only [qs, qb, if_true, if_false, reduceIte]) | refine AWP_sq rfl (fun K hK => ?_) | refine ct rfl ?_ | ((first | refine hK _ _ ?_ | (clear hK; refine hK _ _ ?_) | (clear hK; clear hK; refine hK _ _ ?_)); clear hK; (try clear K)))
  (first | refine AWP_t (.seg [.o 0, .o 1, .o 2, .o 3, .o 4, .o 5, .o 6, .o 7, .o 8, .o 9] (.alt 10 (.seg [.o 11] (.alt 12 (.alt 13 .done .no) .no)) (.alt 12 (.alt 10 (.seg [.o 11] (.alt 13 .done .no)) .no) .no))) (by decide +kernel) rfl (fun K hK => ?_) | refine AWP_tk (.seg [.o 0, .o 1, .o 2, .o 3, .o 4, .o 5, .o 6, .o 7, .o 8, .o 9] (.alt 10 (.seg [.o 11] (.alt 12 (.alt 13 .done .no) .no)) (.alt 12 (.alt 10 (.seg [.o 11] (.alt 13 .done .no)) .no) .no))) (by decide +kernel) rfl (fun K hK => ?_))
  have rest : ∀ (va : Option Addr) (vl vc : Nat) (h' : PH) (S : AS), Le h0 h' → N32 h' (.slice va vl vc) x.num.natAbs → S.le ⟨[(1, .p 0 0), (2, .p 1 0), (3, .p 2 0)], [[.bool neg, .slice na nl nc, .slice da dl dc], [.bool false, .slice none 0 0, .slice none 0 0], [.bool neg, .slice va vl vc, .slice none 0 0]]⟩ → K S h' := by
    intro va vl vc h' S _ hz hS
    refine hK _ _ (AWP_le _ hS ?_); clear hK K
    refine AWP_sqs (fun K hK => ?_)
    refine rg rfl rfl (fun K hK => ?_); (repeat (first | (refine wo rfl (fun k hk => ?_); simp (disch := omega) only [go_sem, Nat.reduceBEq, Nat.reduceAdd]; refine hk _ _ ?_; clear hk k) | refine wkt rfl ?_ | with_reducible refine wk0 ?_ | with_reducible refine wt_seg ?_ | with_reducible refine wt_alt ?_ wt_no | with_reducible refine wt_done ?_))
    refine cN rfl rfl rfl rfl (by exact whole_spec hx) ?_; rintro v3 h3 s3 rfl; (repeat (first | (refine wo rfl (fun k hk => ?_); simp (disch := omega) only [go_sem, Nat.reduceBEq, Nat.reduceAdd]; refine hk _ _ ?_; clear hk k) | refine wkt rfl ?_ | with_reducible refine wk0 ?_ | with_reducible refine wt_seg ?_ | with_reducible refine wt_alt ?_ wt_no | with_reducible refine wt_done ?_))
    by_cases h1 : x.den = 1
    · ((try (simp (disch := omega) only [go_sem, Nat.reduceBEq, Nat.reduceAdd])); refine hK _ _ ?_; clear hK; (try clear K); (try dsimp only [behind, qs])); (repeat (first | (refine rg rfl rfl (fun K hK => ?_); (repeat (first | (refine wo rfl (fun k hk => ?_); simp (disch := omega) only [go_sem, Nat.reduceBEq, Nat.reduceAdd]; refine hk _ _ ?_; clear hk k) | refine wkt rfl ?_)); (try refine wk0 ?_); refine hK _ _ ?_; clear hK K; (try dsimp only [behind, qs, qb])) | ((first | refine AWP_exit ?_ | refine AWP_skip ?_); simp (disch := decide) only [qs, qb, if_true, if_false, reduceIte]) | refine AWP_sq rfl (fun K hK => ?_) | refine ct rfl ?_ | ((first | refine hK _ _ ?_ | (clear hK; refine hK _ _ ?_) | (clear hK; clear hK; refine hK _ _ ?_)); clear hK; (try clear K))))
      refine AWP_ret ?_; simp (disch := omega) only [go_sem, Nat.reduceBEq, Nat.reduceAdd]
      exact ⟨_, _, by rw [en], hz.to, by rw [if_pos h1]; exact N32.zero _⟩
    · have e1 : e = x.den := by
        rw [← he] at h1 ⊢
        unfold dz at h1 ⊢
        split at h1
        · exact (h1 rfl).elim
        · rename_i h2; rw [if_neg h2]
      rw [e1] at hd b3
      ((try (simp (disch := omega) only [go_sem, Nat.reduceBEq, Nat.reduceAdd])); refine hK _ _ ?_; clear hK; (try clear K); (try dsimp only [behind, qs])); (repeat (first | (refine rg rfl rfl (fun K hK => ?_); (repeat (first | (refine wo rfl (fun k hk => ?_); simp (disch := omega) only [go_sem, Nat.reduceBEq, Nat.reduceAdd]; refine hk _ _ ?_; clear hk k) | refine wkt rfl ?_)); (try refine wk0 ?_); refine hK _ _ ?_; clear hK K; (try dsimp only [behind, qs, qb])) | ((first | refine AWP_exit ?_ | refine AWP_skip ?_); simp (disch := decide) only [qs, qb, if_true, if_false, reduceIte]) | refine AWP_sq rfl (fun K hK => ?_) | refine ct rfl ?_ | ((first | refine hK _ _ ?_ | (clear hK; refine hK _ _ ?_) | (clear hK; clear hK; refine hK _ _ ?_)); clear hK; (try clear K)))); (refine rg rfl rfl (fun K hK => ?_); (repeat (first | (refine wo rfl (fun k hk => ?_); simp (disch := omega) only [go_sem, Nat.reduceBEq, Nat.reduceAdd]; refine hk _ _ ?_; clear hk k) | refine wkt rfl ?_ | with_reducible refine wk0 ?_ | with_reducible refine wt_seg ?_ | with_reducible refine wt_alt ?_ wt_no | with_reducible refine wt_done ?_)))
      refine cN rfl rfl rfl rfl (by exact list_spec hd (by omega)) ?_; rintro v4 h4 _ hv4; obtain ⟨v4, v4_l, v4_c, rfl, hv4⟩ := hv4.sl; (repeat (first | (refine wo rfl (fun k hk => ?_); simp (disch := omega) only [go_sem, Nat.reduceBEq, Nat.reduceAdd]; refine hk _ _ ?_; clear hk k) | refine wkt rfl ?_ | with_reducible refine wk0 ?_ | with_reducible refine wt_seg ?_ | with_reducible refine wt_alt ?_ wt_no | with_reducible refine wt_done ?_))
      ((try (simp (disch := omega) only [go_sem, Nat.reduceBEq, Nat.reduceAdd])); refine hK _ _ ?_; clear hK; (try clear K); (try dsimp only [behind, qs])); (repeat (first | (refine rg rfl rfl (fun K hK => ?_); (repeat (first | (refine wo rfl (fun k hk => ?_); simp (disch := omega) only [go_sem, Nat.reduceBEq, Nat.reduceAdd]; refine hk _ _ ?_; clear hk k) | refine wkt rfl ?_)); (try refine wk0 ?_); refine hK _ _ ?_; clear hK K; (try dsimp only [behind, qs, qb])) | ((first | refine AWP_exit ?_ | refine AWP_skip ?_); simp (disch := decide) only [qs, qb, if_true, if_false, reduceIte]) | refine AWP_sq rfl (fun K hK => ?_) | refine ct rfl ?_ | ((first | refine hK _ _ ?_ | (clear hK; refine hK _ _ ?_) | (clear hK; clear hK; refine hK _ _ ?_)); clear hK; (try clear K))))
      refine AWP_ret ?_; simp (disch := omega) only [go_sem, Nat.reduceBEq, Nat.reduceAdd]
      exact ⟨_, _, by rw [en], hz.to, by rw [if_neg h1]; exact hv4⟩
  cases neg with
  | true =>
    have hnn' := hnn rfl
    (repeat (first | (refine wo rfl (fun k hk => ?_); simp (disch := omega) only [go_sem, Nat.reduceBEq, Nat.reduceAdd]; refine hk _ _ ?_; clear hk k) | refine wkt rfl ?_ | with_reducible refine wk0 ?_ | with_reducible refine wt_seg ?_ | with_reducible refine wt_alt ?_ wt_no | with_reducible refine wt_done ?_))
    refine wt_alt ?_ (wt_alt ?_ wt_no)
    · refine cN rfl rfl rfl rfl (by exact list_spec hn (by omega)) ?_; rintro v2 h2 _ hv2; obtain ⟨v2, v2_l, v2_c, rfl, hv2⟩ := hv2.sl; (repeat (first | (refine wo rfl (fun k hk => ?_); simp (disch := omega) only [go_sem, Nat.reduceBEq, Nat.reduceAdd]; refine hk _ _ ?_; clear hk k) | refine wkt rfl ?_ | with_reducible refine wk0 ?_ | with_reducible refine wt_seg ?_ | with_reducible refine wt_alt ?_ wt_no | with_reducible refine wt_done ?_))
      refine rest _ _ _ _ _ inferInstance hv2 ?_
      simp (disch := omega) only [go_sem, Nat.reduceBEq, Nat.reduceAdd]
    · (repeat (first | (refine wo rfl (fun k hk => ?_); simp (disch := omega) only [go_sem, Nat.reduceBEq, Nat.reduceAdd]; refine hk _ _ ?_; clear hk k) | refine wkt rfl ?_ | with_reducible refine wk0 ?_ | with_reducible refine wt_seg ?_ | with_reducible refine wt_alt ?_ wt_no | with_reducible refine wt_done ?_))
      refine cN rfl rfl rfl rfl (by exact list_spec hn (by omega)) ?_; rintro v2 h2 _ hv2; obtain ⟨v2, v2_l, v2_c, rfl, hv2⟩ := hv2.sl; (repeat (first | (refine wo rfl (fun k hk => ?_); simp (disch := omega) only [go_sem, Nat.reduceBEq, Nat.reduceAdd]; refine hk _ _ ?_; clear hk k) | refine wkt rfl ?_ | with_reducible refine wk0 ?_ | with_reducible refine wt_seg ?_ | with_reducible refine wt_alt ?_ wt_no | with_reducible refine wt_done ?_))
      refine rest _ _ _ _ _ inferInstance hv2 ?_
      simp (disch := omega) only [go_sem, Nat.reduceBEq, Nat.reduceAdd]
  | false =>
    (repeat (first | (refine wo rfl (fun k hk => ?_); simp (disch := omega) only [go_sem, Nat.reduceBEq, Nat.reduceAdd]; refine hk _ _ ?_; clear hk k) | refine wkt rfl ?_ | with_reducible refine wk0 ?_ | with_reducible refine wt_seg ?_ | with_reducible refine wt_alt ?_ wt_no | with_reducible refine wt_done ?_))
    refine wt_alt ?_ (wt_alt ?_ wt_no)
    · refine cN rfl rfl rfl rfl (by exact list_spec hn (by omega)) ?_; rintro v2 h2 _ hv2; obtain ⟨v2, v2_l, v2_c, rfl, hv2⟩ := hv2.sl; (repeat (first | (refine wo rfl (fun k hk => ?_); simp (disch := omega) only [go_sem, Nat.reduceBEq, Nat.reduceAdd]; refine hk _ _ ?_; clear hk k) | refine wkt rfl ?_ | with_reducible refine wk0 ?_ | with_reducible refine wt_seg ?_ | with_reducible refine wt_alt ?_ wt_no | with_reducible refine wt_done ?_))
      refine rest _ _ _ _ _ inferInstance hv2 ?_
      simp (disch := omega) only [go_sem, Nat.reduceBEq, Nat.reduceAdd]
    · (repeat (first | (refine wo rfl (fun k hk => ?_); simp (disch := omega) only [go_sem, Nat.reduceBEq, Nat.reduceAdd]; refine hk _ _ ?_; clear hk k) | refine wkt rfl ?_ | with_reducible refine wk0 ?_ | with_reducible refine wt_seg ?_ | with_reducible refine wt_alt ?_ wt_no | with_reducible refine wt_done ?_))
      refine cN rfl rfl rfl rfl (by exact list_spec hn (by omega)) ?_; rintro v2 h2 _ hv2; obtain ⟨v2, v2_l, v2_c, rfl, hv2⟩ := hv2.sl; (repeat (first | (refine wo rfl (fun k hk => ?_); simp (disch := omega) only [go_sem, Nat.reduceBEq, Nat.reduceAdd]; refine hk _ _ ?_; clear hk k) | refine wkt rfl ?_ | with_reducible refine wk0 ?_ | with_reducible refine wt_seg ?_ | with_reducible refine wt_alt ?_ wt_no | with_reducible refine wt_done ?_))
      refine rest _ _ _ _ _ inferInstance hv2 ?_
      simp (disch := omega) only [go_sem, Nat.reduceBEq, Nat.reduceAdd]
end Go.Q
