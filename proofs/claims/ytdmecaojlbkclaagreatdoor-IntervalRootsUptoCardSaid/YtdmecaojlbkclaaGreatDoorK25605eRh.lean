/-
  Contracts of the reference's natural numbers: binary digits, whole parts of roots. Conditions: the slice holds digits (N16), of at most 2^20 bits; the index is from 2 to 8.
-/
import Derived.Test.YtdmecaojlbkclaaGreatDoorK622b40Rg
import Derived.Test.YtdmecaojlbkclaaGreatDoorRaBunJ
import Derived.Test.YtdmecaojlbkclaaGreatDoorRaBunK
import Derived.Test.YtdmecaojlbkclaaGreatDoorK84e199Wr
set_option linter.unusedVariables false
set_option linter.unusedSimpArgs false
namespace Go.Q
open Go.Proofs
set_option maxRecDepth 100000
set_option maxHeartbeats 4000000
theorem B_pow16 (k : Nat) : 2 ^ (16 * k) = 65536 ^ k := by
  rw [Nat.pow_mul, show (2 : Nat) ^ 16 = 65536 from by decide]
theorem bl_half {y : Nat} (hy : y ≠ 0) : bl (y / 2) + 1 = bl y := by
  have h1 : y < 2 ^ (bl (y / 2) + 1) := by
    have := bl_le.1 (Nat.le_refl (bl (y / 2)))
    rw [Nat.pow_succ]; omega
  have h2 := bl_le.2 h1
  have h3 : y < 2 ^ bl y := bl_le.1 (Nat.le_refl _)
  obtain ⟨k, hk⟩ : ∃ k, bl y = k + 1 := by
    cases hb : bl y with
    | zero => rw [hb, Nat.pow_zero] at h3; omega
    | succ k => exact ⟨k, rfl⟩
  rw [hk, Nat.pow_succ] at h3
  have h4 : bl (y / 2) ≤ k := bl_le.2 (by omega)
  omega
theorem NatBits_spec {h0 h : PH} [Le h0 h] {v : Value} {n : Nat} (hv : N16 h0 v n) (bn : bl n ≤ 2 ^ 40) : Spec mach 130 #[v] h (fun v _ => v = .int .i64 (bl n)) NP := by
  obtain ⟨a, c, rfl, ha⟩ := hv
  have hs := ha.small
  have hc := ha.cap
  have hl := W_len0 B16 (n := n)
  refine Spec.enter (args := [_]) (n := 25) Tryz.func130 rfl (by kernel_rfl) rfl (by simp) [.tmp 2] rfl (fun C _ => ?_)
  by_cases hn : n = 0
  · repeat (first | (refine wo rfl (fun k hk => ?_); simp (disch := omega) only [go_sem, Nat.reduceBEq, Nat.reduceAdd]; refine hk _ _ ?_; clear hk k) | refine wkt rfl ?_ | refine wk0 ?_ | refine rg rfl rfl (fun K hK => ?_) | ((first | refine AWP_exit ?_ | refine AWP_skip ?_); simp (disch := decide) only [qs, qb, if_true, if_false, reduceIte]) | refine AWP_sq rfl (fun K hK => ?_) | refine ct rfl ?_ | ((try simp (disch := omega) only [go_sem, Nat.reduceBEq, Nat.reduceAdd]); (first | apply hK | (clear hK; apply hK) | (clear hK; clear hK; apply hK)); clear hK; (try clear K); (try dsimp only [behind, qs, qb])))
    refine AWP_ret ?_; simp (disch := omega) only [go_sem, Nat.reduceBEq, Nat.reduceAdd]
    subst hn; rfl
  · have hp := W_len_pos B16 hn
    obtain ⟨h1, h2, h3⟩ := W_top B16 hn
    obtain ⟨ad, rfl, hat⟩ := ha.rd h (i := (W 65536 n).length - 1) (by omega)
    rw [h1] at hat
    have h6 := bl_div (n := n) (k := 16 * ((W 65536 n).length - 1)) (by rw [B_pow16]; exact h2)
    rw [B_pow16] at h6
    clear h1 h2 ha
    generalize (W 65536 n).length = L at *
    generalize n / 65536 ^ (L - 1) = t at *
    repeat (first | (refine wo rfl (fun k hk => ?_); simp (disch := omega) only [go_sem, Nat.reduceBEq, Nat.reduceAdd, hat]; refine hk _ _ ?_; clear hk k) | refine wkt rfl ?_ | refine wk0 ?_ | refine rg rfl rfl (fun K hK => ?_) | ((first | refine AWP_exit ?_ | refine AWP_skip ?_); simp (disch := decide) only [qs, qb, if_true, if_false, reduceIte]) | refine AWP_sq rfl (fun K hK => ?_) | refine ct rfl ?_ | ((try simp (disch := omega) only [go_sem, Nat.reduceBEq, Nat.reduceAdd]); (first | apply hK | (clear hK; apply hK) | (clear hK; clear hK; apply hK)); clear hK; (try clear K); (try dsimp only [behind, qs, qb])))
    refine AWP_loop (fun x : Nat × Nat => ⟨[(3, .v (.int .i64 (x.1 : Nat))), (4, .v (.int .u32 (x.2 : Nat)))], []⟩) (fun x h' => x.2 < 65536 ∧ x.1 + bl x.2 = bl n) (fun x => x.2) (16 * (L - 1), t) ?_ ⟨h3, by dsimp only; omega⟩ ?_
    · simp (disch := omega) only [go_sem, Nat.reduceBEq, Nat.reduceAdd]
    · rintro ⟨s, y⟩ h' ⟨hy, he⟩
      dsimp only at hy he ⊢
      by_cases hy0 : y = 0
      · subst hy0
        rw [show bl 0 = 0 from by decide] at he
        repeat (first | (refine wo rfl (fun k hk => ?_); simp (disch := omega) only [go_sem, Nat.reduceBEq, Nat.reduceAdd]; refine hk _ _ ?_; clear hk k) | refine wkt rfl ?_ | refine wk0 ?_ | refine rg rfl rfl (fun K hK => ?_) | ((first | refine AWP_exit ?_ | refine AWP_skip ?_); simp (disch := decide) only [qs, qb, if_true, if_false, reduceIte]) | refine AWP_sq rfl (fun K hK => ?_) | refine ct rfl ?_ | ((try simp (disch := omega) only [go_sem, Nat.reduceBEq, Nat.reduceAdd]); (first | apply hK | (clear hK; apply hK) | (clear hK; clear hK; apply hK)); clear hK; (try clear K); (try dsimp only [behind, qs, qb])))
        refine AWP_ret ?_; simp (disch := omega) only [go_sem, Nat.reduceBEq, Nat.reduceAdd]
        refine iv ?_
        omega
      · have hb := bl_half hy0
        repeat (first | (refine wo rfl (fun k hk => ?_); simp (disch := omega) only [go_sem, Nat.reduceBEq, Nat.reduceAdd]; refine hk _ _ ?_; clear hk k) | refine wkt rfl ?_ | refine wk0 ?_ | refine rg rfl rfl (fun K hK => ?_) | ((first | refine AWP_exit ?_ | refine AWP_skip ?_); simp (disch := decide) only [qs, qb, if_true, if_false, reduceIte]) | refine AWP_sq rfl (fun K hK => ?_) | refine ct rfl ?_ | ((try simp (disch := omega) only [go_sem, Nat.reduceBEq, Nat.reduceAdd]); (first | apply hK | (clear hK; apply hK) | (clear hK; clear hK; apply hK)); clear hK; (try clear K); (try dsimp only [behind, qs, qb])))
        refine ⟨(s + 1, y / 2), ?_, ⟨by dsimp only; omega, by dsimp only; omega⟩, by dsimp only; omega⟩
        simp (disch := omega) only [go_sem, Nat.reduceBEq, Nat.reduceAdd]
theorem NatRoot_spec {h0 h : PH} [Le h0 h] {v : Value} {a n : Nat} (hv : N16 h0 v a) (hn : 2 ≤ n) (hn8 : n ≤ 8) (ba : bl a ≤ 2 ^ 20) : Spec mach 80 #[v, .int .i64 n] h (fun r h' => N16 h' r (irt n a)) NP := by
  obtain ⟨va, vl, vc, rfl, hv⟩ := hv.sl
  have hv0 := hv.len0
  have hn0 : n ≠ 0 := by omega
  have hn1 : ¬ (n : Int) < 1 := by omega
  by_cases ha0 : a = 0
  · have hl : vl = 0 := hv0.2 ha0
    subst ha0 hl
    refine Spec.enter (args := [_, _]) (n := 54) Tryz.func80 rfl (by kernel_rfl) rfl (by simp) [.tmp 4] rfl (fun C _ => ?_)
    repeat (first | (refine wo rfl (fun k hk => ?_); simp (disch := omega) only [go_sem, Nat.reduceBEq, Nat.reduceAdd]; refine hk _ _ ?_; clear hk k) | refine wkt rfl ?_ | refine wk0 ?_ | refine rg rfl rfl (fun K hK => ?_) | ((first | refine AWP_exit ?_ | refine AWP_skip ?_); simp (disch := decide) only [qs, qb, if_true, if_false, reduceIte]) | refine AWP_sq rfl (fun K hK => ?_) | refine ct rfl ?_ | ((try simp (disch := omega) only [go_sem, Nat.reduceBEq, Nat.reduceAdd]); (first | apply hK | (clear hK; apply hK) | (clear hK; clear hK; apply hK)); clear hK; (try clear K); (try dsimp only [behind, qs, qb])))
    refine AWP_ret ?_; simp (disch := omega) only [go_sem, Nat.reduceBEq, Nat.reduceAdd]
    rw [irt_zero hn0]
    exact N16.zero _
  · have hl : ¬ vl = 0 := fun k => ha0 (hv0.1 k)
    refine Spec.enter (args := [_, _]) (n := 54) Tryz.func80 rfl (by kernel_rfl) rfl (by simp) [.tmp 4] rfl (fun C _ => ?_)
    repeat (first | (refine rg rfl rfl (fun K hK => ?_); (repeat (first | (refine wo rfl (fun k hk => ?_); simp (disch := omega) only [go_sem, Nat.reduceBEq, Nat.reduceAdd]; refine hk _ _ ?_; clear hk k) | refine wkt rfl ?_)); (try refine wk0 ?_); refine hK _ _ ?_; clear hK K; (try dsimp only [behind, qs, qb])) | ((first | refine AWP_exit ?_ | refine AWP_skip ?_); simp (disch := decide) only [qs, qb, if_true, if_false, reduceIte]) | refine AWP_sq rfl (fun K hK => ?_) | refine ct rfl ?_ | ((first | refine hK _ _ ?_ | (clear hK; refine hK _ _ ?_) | (clear hK; clear hK; refine hK _ _ ?_)); clear hK; (try clear K)))
    have bx : ∀ x, x ≤ 2 ^ ((bl a + n - 1) / n) → bl x ≤ 2 ^ 20 + 2 := fun x hx => by
      have h1 := bl_mono hx
      have h2 := bl_pow2 ((bl a + n - 1) / n)
      have h3 := div_lt' hn ba
      omega
    have hs : (bl a + n - 1) / n ≤ 2 ^ 20 := div_lt' hn ba
    refine rg rfl rfl (fun K hK => ?_); (repeat (first | (refine wo rfl (fun k hk => ?_); simp (disch := omega) only [go_sem, Nat.reduceBEq, Nat.reduceAdd]; refine hk _ _ ?_; clear hk k) | refine wkt rfl ?_)); (try refine wk0 ?_)
    refine cN rfl rfl rfl rfl (by exact NatOf_spec (n := 1) (by decide)) ?_; rintro o1 h1 _ q1; obtain ⟨o1, o1_l, o1_c, rfl, q1⟩ := q1.sl; (repeat (first | (refine wo rfl (fun k hk => ?_); simp (disch := omega) only [go_sem, Nat.reduceBEq, Nat.reduceAdd]; refine hk _ _ ?_; clear hk k) | refine wkt rfl ?_)); (try refine wk0 ?_)
    refine cN rfl rfl rfl rfl (by exact NatBits_spec hv (by omega)) ?_; rintro o2 h2 s2 rfl; (repeat (first | (refine wo rfl (fun k hk => ?_); simp (disch := omega) only [go_sem, Nat.reduceBEq, Nat.reduceAdd]; refine hk _ _ ?_; clear hk k) | refine wkt rfl ?_)); (try refine wk0 ?_)
    refine cN rfl rfl rfl rfl (by exact NatShl_spec (n := (bl a + n - 1) / n) (q1.to (h' := h2)) (by rw [bl_one]; omega)) ?_; rintro o3 h3 _ q3; obtain ⟨o3, o3_l, o3_c, rfl, q3⟩ := q3.sl
    repeat (first | (refine wo rfl (fun k hk => ?_); simp (disch := omega) only [go_sem, Nat.reduceBEq, Nat.reduceAdd]; refine hk _ _ ?_; clear hk k) | refine wkt rfl ?_ | refine wk0 ?_ | ((first | refine rg rfl rfl (fun K hK => ?_)); (repeat (first | (refine wo rfl (fun k hk => ?_); simp (disch := omega) only [go_sem, Nat.reduceBEq, Nat.reduceAdd]; refine hk _ _ ?_; clear hk k) | refine wkt rfl ?_ | refine wk0 ?_)); (first | apply hK | (clear hK; apply hK) | (clear hK; clear hK; apply hK)); clear hK; (try clear K); (try dsimp only [behind, qs, qb])) | ((first | refine AWP_exit ?_ | refine AWP_skip ?_); simp (disch := decide) only [qs, qb, if_true, if_false, reduceIte]) | refine AWP_sq rfl (fun K hK => ?_) | refine ct rfl ?_ | ((try simp (disch := omega) only [go_sem, Nat.reduceBEq, Nat.reduceAdd]); (first | apply hK | (clear hK; apply hK) | (clear hK; clear hK; apply hK)); clear hK; (try clear K); (try dsimp only [behind, qs, qb])))
    rw [Nat.one_mul] at q3
    refine AWP_loop (fun x : Value × Nat => ⟨[(0, .v (.slice va vl vc)), (1, .v (.int .i64 n)), (5, .v x.1)], []⟩)
      (fun x h' => Le h0 h' ∧ N16 h' x.1 x.2 ∧ 0 < x.2 ∧ irt n a ≤ x.2 ∧ x.2 ≤ 2 ^ ((bl a + n - 1) / n)) (fun x => x.2) (.slice o3 o3_l o3_c, 2 ^ ((bl a + n - 1) / n)) ?_ ⟨inferInstance, q3, Nat.pow_pos (by decide), rt_start hn0 (Nat.le_refl _), Nat.le_refl _⟩ ?_
    · simp (disch := omega) only [go_sem, Nat.reduceBEq, Nat.reduceAdd]
    · rintro ⟨xv, x⟩ h4 ⟨le4, hx, hx0, hxi, hxr⟩
      dsimp only at hx hx0 hxi hxr ⊢
      have bxx := bx x hxr
      obtain ⟨xa, xl, xc, rfl, hx⟩ := hx.sl
      have m1 : bl x * (n - 1) ≤ (2 ^ 20 + 2) * 8 := Nat.mul_le_mul bxx (by omega)
      have p1 := bl_pow x (n - 1)
      rw [Nat.mul_comm] at p1
      have hp : 0 < x ^ (n - 1) := Nat.pow_pos hx0
      have hy1 := nwt_ge (n := n) (a := a) hn0 hx0
      have hy2 := nwt_stop (n := n) (a := a) hn0 hx0
      have hy3 := nwt_pos (n := n) (a := a) hn0 (by omega) hx0
      have b3 := bl_mono (Nat.div_le_self a (x ^ (n - 1)))
      have b4 := bl_mul x (n - 1)
      have b5 : bl (n - 1) ≤ 8 := Nat.le_trans (bl_mono (show n - 1 ≤ 8 by omega)) (by decide)
      have b7 : bl n ≤ 8 := Nat.le_trans (bl_mono hn8) (by decide)
      have b6 := bl_add (x * (n - 1)) (a / x ^ (n - 1))
      repeat (first | (refine wo rfl (fun k hk => ?_); simp (disch := omega) only [go_sem, Nat.reduceBEq, Nat.reduceAdd]; refine hk _ _ ?_; clear hk k) | refine wkt rfl ?_ | refine wk0 ?_ | refine rg rfl rfl (fun K hK => ?_) | ((first | refine AWP_exit ?_ | refine AWP_skip ?_); simp (disch := decide) only [qs, qb, if_true, if_false, reduceIte]) | refine AWP_sq rfl (fun K hK => ?_) | refine ct rfl ?_ | ((try simp (disch := omega) only [go_sem, Nat.reduceBEq, Nat.reduceAdd]); (first | apply hK | (clear hK; apply hK) | (clear hK; clear hK; apply hK)); clear hK; (try clear K); (try dsimp only [behind, qs, qb])))
      refine cN rfl rfl rfl rfl (by exact NatPow_spec (n := n - 1) hx (by omega) (by omega)) ?_; rintro u1 g1 _ t1; obtain ⟨u1, u1_l, u1_c, rfl, t1⟩ := t1.sl; (repeat (first | (refine wo rfl (fun k hk => ?_); simp (disch := omega) only [go_sem, Nat.reduceBEq, Nat.reduceAdd]; refine hk _ _ ?_; clear hk k) | refine wkt rfl ?_)); (try refine wk0 ?_)
      refine cN rfl rfl rfl rfl (by exact NatDiv_spec (hv.to (h' := g1)) t1 (by omega) (by omega) (by omega)) ?_; rintro w2 g2 s2 ⟨q, r, rfl, hq, hr⟩; (repeat (first | (refine wo rfl (fun k hk => ?_); simp (disch := omega) only [go_sem, Nat.reduceBEq, Nat.reduceAdd]; refine hk _ _ ?_; clear hk k) | refine wkt rfl ?_)); (try refine wk0 ?_)
      (repeat (first | (refine wo rfl (fun k hk => ?_); simp (disch := omega) only [go_sem, Nat.reduceBEq, Nat.reduceAdd]; refine hk _ _ ?_; clear hk k) | refine wkt rfl ?_)); (try refine wk0 ?_)
      repeat (first | (refine wo rfl (fun k hk => ?_); simp (disch := omega) only [go_sem, Nat.reduceBEq, Nat.reduceAdd]; refine hk _ _ ?_; clear hk k) | refine wkt rfl ?_ | refine wk0 ?_ | ((first | refine rg rfl rfl (fun K hK => ?_)); (repeat (first | (refine wo rfl (fun k hk => ?_); simp (disch := omega) only [go_sem, Nat.reduceBEq, Nat.reduceAdd]; refine hk _ _ ?_; clear hk k) | refine wkt rfl ?_ | refine wk0 ?_)); (first | apply hK | (clear hK; apply hK) | (clear hK; clear hK; apply hK)); clear hK; (try clear K); (try dsimp only [behind, qs, qb])) | ((first | refine AWP_exit ?_ | refine AWP_skip ?_); simp (disch := decide) only [qs, qb, if_true, if_false, reduceIte]) | refine AWP_sq rfl (fun K hK => ?_) | refine ct rfl ?_ | ((try simp (disch := omega) only [go_sem, Nat.reduceBEq, Nat.reduceAdd]); (first | apply hK | (clear hK; apply hK) | (clear hK; clear hK; apply hK)); clear hK; (try clear K); (try dsimp only [behind, qs, qb])))
      have en : x * (n - 1) + a / x ^ (n - 1) = (n - 1) * x + a / x ^ (n - 1) := by rw [Nat.mul_comm]
      refine rg rfl rfl (fun K hK => ?_); (repeat (first | (refine wo rfl (fun k hk => ?_); simp (disch := omega) only [go_sem, Nat.reduceBEq, Nat.reduceAdd]; refine hk _ _ ?_; clear hk k) | refine wkt rfl ?_)); (try refine wk0 ?_)
      refine cN rfl rfl rfl rfl (by exact NatOf_spec (n := n - 1) (by omega)) ?_; rintro u3 g3 _ t3; obtain ⟨u3, u3_l, u3_c, rfl, t3⟩ := t3.sl; (repeat (first | (refine wo rfl (fun k hk => ?_); simp (disch := omega) only [go_sem, Nat.reduceBEq, Nat.reduceAdd]; refine hk _ _ ?_; clear hk k) | refine wkt rfl ?_)); (try refine wk0 ?_)
      refine cN rfl rfl rfl rfl (by exact NatMul_spec (hx.to (h' := g3)) t3 (by omega) (by omega)) ?_; rintro u4 g4 _ t4; obtain ⟨u4, u4_l, u4_c, rfl, t4⟩ := t4.sl; (repeat (first | (refine wo rfl (fun k hk => ?_); simp (disch := omega) only [go_sem, Nat.reduceBEq, Nat.reduceAdd]; refine hk _ _ ?_; clear hk k) | refine wkt rfl ?_)); (try refine wk0 ?_)
      refine cN rfl rfl rfl rfl (by exact NatAdd_spec t4 (hq.to (h' := g4)) (by omega) (by omega)) ?_; rintro u5 g5 _ t5; obtain ⟨u5, u5_l, u5_c, rfl, t5⟩ := t5.sl; (repeat (first | (refine wo rfl (fun k hk => ?_); simp (disch := omega) only [go_sem, Nat.reduceBEq, Nat.reduceAdd]; refine hk _ _ ?_; clear hk k) | refine wkt rfl ?_)); (try refine wk0 ?_)
      refine cN rfl rfl rfl rfl (by exact NatOf_spec (n := n) (by omega)) ?_; rintro u6 g6' _ t6; obtain ⟨u6, u6_l, u6_c, rfl, t6⟩ := t6.sl; (repeat (first | (refine wo rfl (fun k hk => ?_); simp (disch := omega) only [go_sem, Nat.reduceBEq, Nat.reduceAdd]; refine hk _ _ ?_; clear hk k) | refine wkt rfl ?_)); (try refine wk0 ?_)
      refine cN rfl rfl rfl rfl (by exact NatDiv_spec (t5.to (h' := g6')) t6 (by omega) (by omega) (by omega)) ?_; rintro w6 g6 s6 ⟨y, r', rfl, hy, _⟩; (repeat (first | (refine wo rfl (fun k hk => ?_); simp (disch := omega) only [go_sem, Nat.reduceBEq, Nat.reduceAdd]; refine hk _ _ ?_; clear hk k) | refine wkt rfl ?_)); (try refine wk0 ?_)
      (repeat (first | (refine wo rfl (fun k hk => ?_); simp (disch := omega) only [go_sem, Nat.reduceBEq, Nat.reduceAdd]; refine hk _ _ ?_; clear hk k) | refine wkt rfl ?_)); (try refine wk0 ?_)
      (try (simp (disch := omega) only [go_sem, Nat.reduceBEq, Nat.reduceAdd])); refine hK _ _ ?_; clear hK; (try clear K); (try dsimp only [behind, qs])
      rw [en] at hy
      have hy : N16 g6 y (nwt n a x) := hy
      clear en
      generalize nwt n a x = z at *
      obtain ⟨ya, yl, yc, rfl, hy⟩ := hy.sl
      repeat (first | (refine rg rfl rfl (fun K hK => ?_); (repeat (first | (refine wo rfl (fun k hk => ?_); simp (disch := omega) only [go_sem, Nat.reduceBEq, Nat.reduceAdd]; refine hk _ _ ?_; clear hk k) | refine wkt rfl ?_)); (try refine wk0 ?_); refine hK _ _ ?_; clear hK K; (try dsimp only [behind, qs, qb])) | ((first | refine AWP_exit ?_ | refine AWP_skip ?_); simp (disch := decide) only [qs, qb, if_true, if_false, reduceIte]) | refine AWP_sq rfl (fun K hK => ?_) | refine ct rfl ?_ | ((first | refine hK _ _ ?_ | (clear hK; refine hK _ _ ?_) | (clear hK; clear hK; refine hK _ _ ?_)); clear hK; (try clear K)))
      by_cases hc : x ≤ z
      · have e1 : 0 ≤ cmp3 z x := cmp3_ge.2 hc
        have exi : x = irt n a := irt_eq hn0 (hy2 hc) hxi
        refine rg rfl rfl (fun K hK => ?_); (repeat (first | (refine wo rfl (fun k hk => ?_); simp (disch := omega) only [go_sem, Nat.reduceBEq, Nat.reduceAdd]; refine hk _ _ ?_; clear hk k) | refine wkt rfl ?_)); (try refine wk0 ?_)
        refine cN rfl rfl rfl rfl (by exact NatCmp_spec hy (hx.to (h' := g6))) ?_; rintro w7 g7 s7 rfl
        repeat (first | (refine wo rfl (fun k hk => ?_); simp (disch := omega) only [go_sem, Nat.reduceBEq, Nat.reduceAdd]; refine hk _ _ ?_; clear hk k) | refine wkt rfl ?_ | refine wk0 ?_ | refine rg rfl rfl (fun K hK => ?_) | ((first | refine AWP_exit ?_ | refine AWP_skip ?_); simp (disch := decide) only [qs, qb, if_true, if_false, reduceIte]) | refine AWP_sq rfl (fun K hK => ?_) | refine ct rfl ?_ | ((try simp (disch := omega) only [go_sem, Nat.reduceBEq, Nat.reduceAdd]); (first | apply hK | (clear hK; apply hK) | (clear hK; clear hK; apply hK)); clear hK; (try clear K); (try dsimp only [behind, qs, qb])))
        refine AWP_ret ?_; simp (disch := omega) only [go_sem, Nat.reduceBEq, Nat.reduceAdd]
        rw [← exi]
        exact hx.to
      · have e1 : ¬ 0 ≤ cmp3 z x := fun k => hc (cmp3_ge.1 k)
        refine rg rfl rfl (fun K hK => ?_); (repeat (first | (refine wo rfl (fun k hk => ?_); simp (disch := omega) only [go_sem, Nat.reduceBEq, Nat.reduceAdd]; refine hk _ _ ?_; clear hk k) | refine wkt rfl ?_)); (try refine wk0 ?_)
        refine cN rfl rfl rfl rfl (by exact NatCmp_spec hy (hx.to (h' := g6))) ?_; rintro w7 g7 s7 rfl
        repeat (first | (refine wo rfl (fun k hk => ?_); simp (disch := omega) only [go_sem, Nat.reduceBEq, Nat.reduceAdd]; refine hk _ _ ?_; clear hk k) | refine wkt rfl ?_ | refine wk0 ?_ | refine rg rfl rfl (fun K hK => ?_) | ((first | refine AWP_exit ?_ | refine AWP_skip ?_); simp (disch := decide) only [qs, qb, if_true, if_false, reduceIte]) | refine AWP_sq rfl (fun K hK => ?_) | refine ct rfl ?_ | ((try simp (disch := omega) only [go_sem, Nat.reduceBEq, Nat.reduceAdd]); (first | apply hK | (clear hK; apply hK) | (clear hK; clear hK; apply hK)); clear hK; (try clear K); (try dsimp only [behind, qs, qb])))
        refine ⟨(_, z), ?_, ⟨inferInstance, hy.to, hy3, hy1, by omega⟩, by omega⟩
        simp (disch := omega) only [go_sem, Nat.reduceBEq, Nat.reduceAdd]
end Go.Q
