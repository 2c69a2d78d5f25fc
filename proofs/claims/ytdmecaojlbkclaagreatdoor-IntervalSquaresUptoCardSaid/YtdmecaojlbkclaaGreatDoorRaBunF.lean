/-
  Contract of package word: division. Conditions: the slices hold words (N32), of at most 2^39 bits.
  Contracts of package word: the greatest common divisor. Conditions: the slices hold words (N32), of at most 2^39 bits.
-/
import Derived.Test.YtdmecaojlbkclaaGreatDoorRaBunE
import Derived.Test.YtdmecaojlbkclaaGreatDoorRaBunC
set_option linter.unusedVariables false
set_option linter.unusedSimpArgs false
namespace Go.Q
open Go.Proofs
set_option maxRecDepth 100000
set_option maxHeartbeats 4000000
theorem bl_pos {n : Nat} (h : n ≠ 0) : 1 ≤ bl n ∧ 2 ^ (bl n - 1) ≤ n := by
  have h1 : ¬ bl n ≤ 0 := by rw [bl_le]; simp; omega
  refine ⟨by omega, ?_⟩
  rcases Nat.lt_or_ge n (2 ^ (bl n - 1)) with h' | h'
  · have := bl_le.2 h'; omega
  · exact h'
/-- A number that is shifted so that its greatest digit is great. -/
theorem norm_shift {n : Nat} (hn : n ≠ 0) {s : Nat} (hs : s = 32 - bl (n / 4294967296 ^ ((W 4294967296 n).length - 1))) :
    (W 4294967296 (n * 2 ^ s)).length = (W 4294967296 n).length ∧ 2147483648 ≤ (W 4294967296 (n * 2 ^ s)).getD ((W 4294967296 n).length - 1) 0 ∧ s ≤ 31 := by
  obtain ⟨L, hL⟩ : ∃ L, (W 4294967296 n).length = L + 1 := ⟨_, (Nat.succ_pred (by have := W_len_pos B32 hn; omega)).symm⟩
  obtain ⟨h1, h2, h3⟩ := W_top B32 hn
  rw [hL] at h1 h2 h3 hs ⊢
  simp only [Nat.add_sub_cancel] at h1 h2 h3 hs ⊢
  have ht : n / 4294967296 ^ L ≠ 0 := by have := Nat.div_pos h2 (Nat.pow_pos (by decide)); omega
  have hb := bl_pos ht
  have hb2 := (bl_le (k := 32)).2 h3
  have e : bl n = bl (n / 4294967296 ^ L) + 32 * L := by
    have := bl_div (n := n) (k := 32 * L) (by rw [B_pow]; exact h2)
    rwa [B_pow] at this
  have hlow := (bl_pos hn).2
  have hup := bl_le.1 (Nat.le_refl (bl n))
  have hDu : n * 2 ^ s < 4294967296 ^ (L + 1) := by
    have := Nat.mul_lt_mul_of_pos_right hup (show 0 < 2 ^ s from Nat.pow_pos (by decide))
    rwa [← Nat.pow_add, show bl n + s = 32 * (L + 1) by omega, B_pow] at this
  have hDl : 4294967296 ^ L * 2147483648 ≤ n * 2 ^ s := by
    have := Nat.mul_le_mul_right (2 ^ s) hlow
    rwa [← Nat.pow_add, show bl n - 1 + s = 32 * L + 31 by omega, Nat.pow_add, B_pow, show (2 : Nat) ^ 31 = 2147483648 from by decide] at this
  have hP : 0 < 4294967296 ^ L := Nat.pow_pos (by decide)
  have hlen : (W 4294967296 (n * 2 ^ s)).length = L + 1 := by
    have h4 := W_length_le B32 hDu
    have h5 := W_length_ge B32 (n := n * 2 ^ s) (k := L) (Nat.le_trans (Nat.le_mul_of_pos_right _ (by decide)) hDl)
    omega
  refine ⟨hlen, ?_, by omega⟩
  rw [W_getD B32, Nat.mod_eq_of_lt (by rw [Nat.div_lt_iff_lt_mul hP, Nat.mul_comm 4294967296, ← Nat.pow_succ]; exact hDu), Nat.le_div_iff_mul_le hP, Nat.mul_comm 2147483648]
  exact hDl
theorem val_head {B : Nat} {ws : List Nat} (h : 0 < ws.length) : val B ws = ws.getD 0 0 + B * val B (ws.drop 1) := by
  cases ws with
  | nil => simp at h
  | cons w ws => simp [val]
theorem val_take_drop (B : Nat) (ws : List Nat) (k : Nat) (h : k ≤ ws.length) : val B ws = val B (ws.take k) + B ^ k * val B (ws.drop k) := by
  conv => lhs; rw [← List.take_append_drop k ws]
  rw [val_append, List.length_take, Nat.min_eq_left h]
theorem spl_uws (rs ds : List Nat) (off : Nat) (h : off + ds.length ≤ rs.length) : spl (uw rs) off (uw ds) = uw (rs.take off ++ ds ++ rs.drop (off + ds.length)) := by
  rw [spl_eq _ _ _ (by simpa [uw] using h)]
  simp [uw, List.map_take, List.map_drop]
theorem Arr.cells {h0 : PH} {a : Option Addr} {c : Nat} {xs : List Nat} (r : Arr h0 a c xs) (h : PH) [Le h0 h] (hne : xs.length ≠ 0) : ∃ ad, a = some ad ∧ ∀ (j : Nat) (v : Value), (uw xs)[j]? = some v → h.at (ad.add j) = some v := by
  obtain ⟨ad, h1, _⟩ := r.rd h (i := 0) (by omega)
  refine ⟨ad, h1, fun j v hv => ?_⟩
  have hj : j < xs.length := by
    rcases Nat.lt_or_ge j xs.length with h | h
    · exact h
    · rw [List.getElem?_eq_none (by simpa [uw] using h)] at hv; cases hv
  obtain ⟨ad', h2, h3⟩ := r.rd h hj
  obtain rfl : ad = ad' := by rw [h1] at h2; exact Option.some.inj h2
  rw [uw_get hj] at hv
  rw [h3]; exact hv
theorem div_step {V P W D B Z M : Nat} (h : V + P * W + D * (P * B * Z) = M) : V + P * (W % D) + D * (P * (W / D + B * Z)) = M := by
  have e := congrArg (P * ·) (Nat.div_add_mod W D)
  rw [Nat.mul_add, Nat.mul_left_comm] at e
  rw [Nat.mul_add P, Nat.mul_add D, ← Nat.mul_assoc P B Z]
  omega
theorem div_window {B : Nat} (hB : 1 ≤ B) {ws ws' : List Nat} {k D : Nat} (hk : k + 1 ≤ ws.length) (hk' : k + 1 ≤ ws'.length) (hlt : val B ws < B * D) (hD : D < B ^ k) (hd : ws'.drop (k + 1) = ws.drop (k + 1)) (hv : val B (ws'.take (k + 1)) = val B (ws.take (k + 1)) % D) :
    val B (ws.take (k + 1)) = val B ws ∧ val B ws' = val B ws % D := by
  have h1 := val_take_drop B ws (k + 1) hk
  have hz : val B (ws.drop (k + 1)) = 0 := by
    rcases Nat.eq_zero_or_pos (val B (ws.drop (k + 1))) with h' | h'
    · exact h'
    · exfalso
      have h2 := Nat.le_mul_of_pos_right (B ^ (k + 1)) h'
      have h3 : B * D ≤ B ^ (k + 1) := by rw [Nat.pow_succ, Nat.mul_comm]; exact Nat.mul_le_mul_right _ (Nat.le_of_lt hD)
      omega
  rw [hz, Nat.mul_zero, Nat.add_zero] at h1
  refine ⟨h1.symm, ?_⟩
  rw [val_take_drop B ws' (k + 1) hk', hd, hz, hv, ← h1, Nat.mul_zero, Nat.add_zero]
theorem Div_spec {h0 h : PH} [Le h0 h] {v w : Value} {m n : Nat} (hv : N32 h0 v m) (hw : N32 h0 w n) (hn : n ≠ 0) (bm : bl m ≤ 2 ^ 39) (bn : bl n ≤ 2 ^ 39) :
    Spec mach 119 #[v, w] h (fun v h' => ∃ q r, v = .tuple #[q, r] ∧ N32 h' q (m / n) ∧ N32 h' r (m % n)) NP := by
  obtain ⟨a, c, xs, hve, ha, hxs, hm⟩ := hv.out
  obtain ⟨a', c', ys, hwe, ha', hys, hnn⟩ := hw.out
  subst hve hwe
  have hs : xs.length ≤ 2 ^ 39 := by have := len_le_bl m; rw [hxs] at this; omega
  have hs' : ys.length ≤ 2 ^ 39 := by have := len_le_bl n; rw [hys] at this; omega
  have hl0 := W_len_pos B32 hn
  rw [hys] at hl0
  refine Spec.enter (args := [_, _]) (n := 85) Tryz.func119 rfl (by kernel_rfl) rfl (by simp) [.tmp 4, .tmp 5] rfl (fun C _ => ?_)
  by_cases hlt : m < n
  · have hc : cmp3 m n < 0 := by simp [cmp3, hlt]
    repeat (first | (refine wo rfl (fun k hk => ?_); simp (disch := omega) only [go_sem, Nat.reduceBEq, Nat.reduceAdd]; refine hk _ _ ?_; clear hk k) | refine wkt rfl ?_ | refine wk0 ?_ | refine rg rfl rfl (fun K hK => ?_) | ((first | refine AWP_exit ?_ | refine AWP_skip ?_); simp (disch := decide) only [qs, qb, if_true, if_false, reduceIte]) | refine AWP_sq rfl (fun K hK => ?_) | refine ct rfl ?_ | ((try simp (disch := omega) only [go_sem, Nat.reduceBEq, Nat.reduceAdd]); (first | apply hK | (clear hK; apply hK) | (clear hK; clear hK; apply hK)); clear hK; (try clear K); (try dsimp only [behind, qs, qb])))
    refine cN rfl rfl rfl rfl (by exact Cmp_spec hv hw) ?_; rintro v h1 hs1 rfl
    repeat (first | (refine wo rfl (fun k hk => ?_); simp (disch := omega) only [go_sem, Nat.reduceBEq, Nat.reduceAdd]; refine hk _ _ ?_; clear hk k) | refine wkt rfl ?_ | refine wk0 ?_ | refine rg rfl rfl (fun K hK => ?_) | ((first | refine AWP_exit ?_ | refine AWP_skip ?_); simp (disch := decide) only [qs, qb, if_true, if_false, reduceIte]) | refine AWP_sq rfl (fun K hK => ?_) | refine ct rfl ?_ | ((try simp (disch := omega) only [go_sem, Nat.reduceBEq, Nat.reduceAdd]); (first | apply hK | (clear hK; apply hK) | (clear hK; clear hK; apply hK)); clear hK; (try clear K); (try dsimp only [behind, qs, qb])))
    refine AWP_ret ?_; simp (disch := omega) only [go_sem, Nat.reduceBEq, Nat.reduceAdd]
    exact ⟨_, _, rfl, by rw [Nat.div_eq_of_lt hlt]; exact N32.zero _, by rw [Nat.mod_eq_of_lt hlt]; exact hv.to⟩
  have hc : 0 ≤ cmp3 m n := by simp only [cmp3, if_neg hlt]; split <;> decide
  by_cases hl1 : ys.length = 1
  · obtain ⟨hnB, hn0⟩ := W_len1 B32 (n := n) (by rw [hys]; exact hl1)
    rw [hys] at hn0
    repeat (first | (refine wo rfl (fun k hk => ?_); simp (disch := omega) only [go_sem, Nat.reduceBEq, Nat.reduceAdd]; refine hk _ _ ?_; clear hk k) | refine wkt rfl ?_ | refine wk0 ?_ | refine rg rfl rfl (fun K hK => ?_) | ((first | refine AWP_exit ?_ | refine AWP_skip ?_); simp (disch := decide) only [qs, qb, if_true, if_false, reduceIte]) | refine AWP_sq rfl (fun K hK => ?_) | refine ct rfl ?_ | ((try simp (disch := omega) only [go_sem, Nat.reduceBEq, Nat.reduceAdd]); (first | apply hK | (clear hK; apply hK) | (clear hK; clear hK; apply hK)); clear hK; (try clear K); (try dsimp only [behind, qs, qb])))
    refine cN rfl rfl rfl rfl (by exact Cmp_spec hv hw) ?_; rintro v h1 hs1 rfl; (repeat (first | (refine wo rfl (fun k hk => ?_); simp (disch := omega) only [go_sem, Nat.reduceBEq, Nat.reduceAdd]; refine hk _ _ ?_; clear hk k) | refine wkt rfl ?_)); (try refine wk0 ?_)
    (try (simp (disch := omega) only [go_sem, Nat.reduceBEq, Nat.reduceAdd])); refine hK _ _ ?_; clear hK; (try clear K); (try dsimp only [behind, qs])
    obtain ⟨ad, rfl, hat⟩ := ha'.rd0 h1 (by omega)
    rw [hn0] at hat
    repeat (first | (refine rg rfl rfl (fun K hK => ?_); (repeat (first | (refine wo rfl (fun k hk => ?_); simp (disch := omega) only [go_sem, Nat.reduceBEq, Nat.reduceAdd]; refine hk _ _ ?_; clear hk k) | refine wkt rfl ?_)); (try refine wk0 ?_); refine hK _ _ ?_; clear hK K; (try dsimp only [behind, qs, qb])) | ((first | refine AWP_exit ?_ | refine AWP_skip ?_); simp (disch := decide) only [qs, qb, if_true, if_false, reduceIte]) | refine AWP_sq rfl (fun K hK => ?_) | refine ct rfl ?_ | ((first | refine hK _ _ ?_ | (clear hK; refine hK _ _ ?_) | (clear hK; clear hK; refine hK _ _ ?_)); clear hK; (try clear K)))
    refine rg rfl rfl (fun K hK => ?_); (repeat (first | (refine wo rfl (fun k hk => ?_); simp (disch := omega) only [go_sem, Nat.reduceBEq, Nat.reduceAdd, hat]; refine hk _ _ ?_; clear hk k) | refine wkt rfl ?_)); (try refine wk0 ?_)
    refine cN rfl rfl rfl rfl (by exact DivSmall_spec hv (by omega) (by omega) hnB) ?_; rintro v h2 hs2 ⟨q, rfl, hq⟩; (repeat (first | (refine wo rfl (fun k hk => ?_); simp (disch := omega) only [go_sem, Nat.reduceBEq, Nat.reduceAdd]; refine hk _ _ ?_; clear hk k) | refine wkt rfl ?_)); (try refine wk0 ?_)
    have hmod := Nat.mod_lt m (show 0 < n by omega)
    (try (simp (disch := omega) only [go_sem, Nat.reduceBEq, Nat.reduceAdd])); refine hK _ _ ?_; clear hK; (try clear K); (try dsimp only [behind, qs])
    refine rg rfl rfl (fun K hK => ?_); (repeat (first | (refine wo rfl (fun k hk => ?_); simp (disch := omega) only [go_sem, Nat.reduceBEq, Nat.reduceAdd]; refine hk _ _ ?_; clear hk k) | refine wkt rfl ?_)); (try refine wk0 ?_)
    refine cN rfl rfl rfl rfl (by exact Small_spec (n := m % n) (by omega)) ?_; rintro v h3 hs3 hr; (repeat (first | (refine wo rfl (fun k hk => ?_); simp (disch := omega) only [go_sem, Nat.reduceBEq, Nat.reduceAdd]; refine hk _ _ ?_; clear hk k) | refine wkt rfl ?_)); (try refine wk0 ?_)
    (try (simp (disch := omega) only [go_sem, Nat.reduceBEq, Nat.reduceAdd])); refine hK _ _ ?_; clear hK; (try clear K); (try dsimp only [behind, qs])
    refine AWP_ret ?_; simp (disch := omega) only [go_sem, Nat.reduceBEq, Nat.reduceAdd]
    exact ⟨_, _, rfl, hq.to, hr⟩
  have hl2 : 2 ≤ ys.length := by omega
  repeat (first | (refine wo rfl (fun k hk => ?_); simp (disch := omega) only [go_sem, Nat.reduceBEq, Nat.reduceAdd]; refine hk _ _ ?_; clear hk k) | refine wkt rfl ?_ | refine wk0 ?_ | refine rg rfl rfl (fun K hK => ?_) | ((first | refine AWP_exit ?_ | refine AWP_skip ?_); simp (disch := decide) only [qs, qb, if_true, if_false, reduceIte]) | refine AWP_sq rfl (fun K hK => ?_) | refine ct rfl ?_ | ((try simp (disch := omega) only [go_sem, Nat.reduceBEq, Nat.reduceAdd]); (first | apply hK | (clear hK; apply hK) | (clear hK; clear hK; apply hK)); clear hK; (try clear K); (try dsimp only [behind, qs, qb])))
  refine cN rfl rfl rfl rfl (by exact Cmp_spec hv hw) ?_; rintro v h1 hs1 rfl
  repeat (first | (refine wo rfl (fun k hk => ?_); simp (disch := omega) only [go_sem, Nat.reduceBEq, Nat.reduceAdd]; refine hk _ _ ?_; clear hk k) | refine wkt rfl ?_ | refine wk0 ?_ | ((first | refine rg rfl rfl (fun K hK => ?_)); (repeat (first | (refine wo rfl (fun k hk => ?_); simp (disch := omega) only [go_sem, Nat.reduceBEq, Nat.reduceAdd]; refine hk _ _ ?_; clear hk k) | refine wkt rfl ?_ | refine wk0 ?_)); (first | apply hK | (clear hK; apply hK) | (clear hK; clear hK; apply hK)); clear hK; (try clear K); (try dsimp only [behind, qs, qb])) | ((first | refine AWP_exit ?_ | refine AWP_skip ?_); simp (disch := decide) only [qs, qb, if_true, if_false, reduceIte]) | refine AWP_sq rfl (fun K hK => ?_) | refine ct rfl ?_ | ((try simp (disch := omega) only [go_sem, Nat.reduceBEq, Nat.reduceAdd]); (first | apply hK | (clear hK; apply hK) | (clear hK; clear hK; apply hK)); clear hK; (try clear K); (try dsimp only [behind, qs, qb])))
  obtain ⟨ht1, ht2, ht3⟩ := W_top B32 hn
  obtain ⟨s, hse⟩ : ∃ s, s = 32 - bl (n / 4294967296 ^ ((W 4294967296 n).length - 1)) := ⟨_, rfl⟩
  obtain ⟨hdl, hdt, hs31⟩ := norm_shift hn hse
  rw [hys] at ht1 ht2 ht3 hdl hdt hse
  obtain ⟨ad', rfl, hat'⟩ := ha'.rd h1 (i := ys.length - 1) (by omega)
  rw [ht1] at hat'
  refine rg rfl rfl (fun K hK => ?_); (repeat (first | (refine wo rfl (fun k hk => ?_); simp (disch := omega) only [go_sem, Nat.reduceBEq, Nat.reduceAdd, hat']; refine hk _ _ ?_; clear hk k) | refine wkt rfl ?_)); (try refine wk0 ?_)
  refine cN rfl rfl rfl rfl (by exact LeadingZeros32_spec ht3) ?_; rintro v h2 hs2 hv2; (repeat (first | (refine wo rfl (fun k hk => ?_); simp (disch := omega) only [go_sem, Nat.reduceBEq, Nat.reduceAdd]; refine hk _ _ ?_; clear hk k) | refine wkt rfl ?_)); (try refine wk0 ?_)
  rw [← hse] at hv2; subst hv2
  (try (simp (disch := omega) only [go_sem, Nat.reduceBEq, Nat.reduceAdd])); refine hK _ _ ?_; clear hK; (try clear K); (try dsimp only [behind, qs])
  refine rg rfl rfl (fun K hK => ?_); (repeat (first | (refine wo rfl (fun k hk => ?_); simp (disch := omega) only [go_sem, Nat.reduceBEq, Nat.reduceAdd]; refine hk _ _ ?_; clear hk k) | refine wkt rfl ?_)); (try refine wk0 ?_)
  refine cN rfl rfl rfl rfl (by exact Shl_spec (n := s) hw (by omega)) ?_; rintro v h3 hs3 hd
  repeat (first | (refine wo rfl (fun k hk => ?_); simp (disch := omega) only [go_sem, Nat.reduceBEq, Nat.reduceAdd]; refine hk _ _ ?_; clear hk k) | refine wkt rfl ?_ | refine wk0 ?_ | refine rg rfl rfl (fun K hK => ?_) | ((first | refine AWP_exit ?_ | refine AWP_skip ?_); simp (disch := decide) only [qs, qb, if_true, if_false, reduceIte]) | refine AWP_sq rfl (fun K hK => ?_) | refine ct rfl ?_ | ((try simp (disch := omega) only [go_sem, Nat.reduceBEq, Nat.reduceAdd]); (first | apply hK | (clear hK; apply hK) | (clear hK; clear hK; apply hK)); clear hK; (try clear K); (try dsimp only [behind, qs, qb])))
  refine cN rfl rfl rfl rfl (by exact Shl_spec (n := s) hv (by omega)) ?_; rintro v4 h4 hs4 hu; (repeat (first | (refine wo rfl (fun k hk => ?_); simp (disch := omega) only [go_sem, Nat.reduceBEq, Nat.reduceAdd]; refine hk _ _ ?_; clear hk k) | refine wkt rfl ?_)); (try refine wk0 ?_)
  obtain ⟨a4, c4, us, hue, ha4, hus, hum⟩ := hu.out
  subst hue
  obtain ⟨ad, cd, ds, hde, had, hds, hdm⟩ := hd.out
  subst hde
  rw [hds] at hdl hdt
  have hul : us.length ≤ xs.length + 1 := by
    rw [← hus]
    apply W_length_le B32
    rw [Nat.pow_succ]
    have h5 : m < 4294967296 ^ xs.length := by rw [← hxs]; exact lt_W_length B32 m
    have h6 : 2 ^ s ≤ 2147483648 := Nat.pow_le_pow_right (show 0 < 2 by omega) hs31
    exact Nat.lt_of_lt_of_le (Nat.mul_lt_mul_of_pos_right h5 (Nat.pow_pos (by omega))) (Nat.mul_le_mul_left _ (by omega))
  refine wo rfl (fun k hk => ?_); simp (disch := omega) only [go_sem, Nat.reduceBEq, Nat.reduceAdd]
  refine ⟨uw us, by simp [uw]; omega, fun hne => ha4.cells h4 hne, uw_all us, ?_⟩
  rw [spl_uws _ _ _ (by simp; omega)]
  simp only [List.take_zero, List.nil_append, List.drop_replicate, Nat.zero_add]
  refine hk _ _ ?_; clear hk k
  (repeat (first | (refine wo rfl (fun k hk => ?_); simp (disch := omega) only [go_sem, Nat.reduceBEq, Nat.reduceAdd]; refine hk _ _ ?_; clear hk k) | refine wkt rfl ?_)); (try refine wk0 ?_)
  (try (simp (disch := omega) only [go_sem, Nat.reduceBEq, Nat.reduceAdd])); refine hK _ _ ?_; clear hK; (try clear K); (try dsimp only [behind, qs])
  have hyx : ys.length ≤ xs.length := by have := W_len_mono (show n ≤ m by omega); rwa [hxs, hys] at this
  repeat (first | (refine rg rfl rfl (fun K hK => ?_); (repeat (first | (refine wo rfl (fun k hk => ?_); simp (disch := omega) only [go_sem, Nat.reduceBEq, Nat.reduceAdd]; refine hk _ _ ?_; clear hk k) | refine wkt rfl ?_)); (try refine wk0 ?_); refine hK _ _ ?_; clear hK K; (try dsimp only [behind, qs, qb])) | ((first | refine AWP_exit ?_ | refine AWP_skip ?_); simp (disch := decide) only [qs, qb, if_true, if_false, reduceIte]) | refine AWP_sq rfl (fun K hK => ?_) | refine ct rfl ?_ | ((first | refine hK _ _ ?_ | (clear hK; refine hK _ _ ?_) | (clear hK; clear hK; refine hK _ _ ?_)); clear hK; (try clear K)))
  have hD0 : 0 < n * 2 ^ s := Nat.mul_pos (by omega) (Nat.pow_pos (by omega))
  have hval0 : val 4294967296 (us ++ List.replicate (xs.length + 1 - us.length) 0) = m * 2 ^ s := by rw [val_append, val_zeros, hum]; simp
  have hlt0 : ∀ x ∈ us ++ List.replicate (xs.length + 1 - us.length) 0, x < 4294967296 := by
    intro x hx
    rcases List.mem_append.1 hx with h' | h'
    · exact ha4.lt x h'
    · rw [(List.mem_replicate.1 h').2]; decide
  have hlen0 : (us ++ List.replicate (xs.length + 1 - us.length) 0).length = xs.length + 1 := by simp; omega
  obtain ⟨R0, hR0⟩ : ∃ R, us ++ List.replicate (xs.length + 1 - us.length) 0 = R := ⟨_, rfl⟩
  rw [hR0] at hval0 hlt0 hlen0 ⊢
  obtain ⟨L, hL⟩ : ∃ L, xs.length - ys.length = L := ⟨_, rfl⟩
  rw [hL]
  have hdrop : val 4294967296 (R0.drop (L + 1)) < n * 2 ^ s := by
    rcases Nat.lt_or_ge (val 4294967296 (R0.drop (L + 1))) (n * 2 ^ s) with h' | h'
    · exact h'
    · exfalso
      have e1 : val 4294967296 R0 = val 4294967296 (R0.take (L + 1)) + 4294967296 ^ (L + 1) * val 4294967296 (R0.drop (L + 1)) := by
        conv => lhs; rw [← List.take_append_drop (L + 1) R0]
        rw [val_append, List.length_take, Nat.min_eq_left (by omega)]
      have e2 := Nat.mul_le_mul_left (4294967296 ^ (L + 1)) h'
      have e3 : 4294967296 ^ xs.length * 2 ^ s ≤ 4294967296 ^ (L + 1) * (n * 2 ^ s) := by
        rw [← Nat.mul_assoc]
        refine Nat.mul_le_mul_right _ ?_
        have := Nat.mul_le_mul_left (4294967296 ^ (L + 1)) ht2
        rwa [← Nat.pow_add, show L + 1 + (ys.length - 1) = xs.length by omega] at this
      have e4 : m * 2 ^ s < 4294967296 ^ xs.length * 2 ^ s := Nat.mul_lt_mul_of_pos_right (by rw [← hxs]; exact lt_W_length B32 m) (Nat.pow_pos (by decide))
      omega
  refine AWP_loop (fun x : Nat × List Nat × List Nat => ⟨[(8, .v (.int .i64 s)), (9, .v (.slice ad ds.length cd)), (10, .s 0 0 (xs.length + 1) (xs.length + 1)), (11, .s 1 0 (L + 1) (L + 1)), (12, .v (.int .i64 ((x.1 : Int) - 1)))], [uw x.2.1, uw x.2.2]⟩)
    (fun x h' => Le h0 h' ∧ Le h4 h' ∧ x.1 ≤ L + 1 ∧ x.2.1.length = xs.length + 1 ∧ x.2.2.length = L + 1 ∧ (∀ d ∈ x.2.1, d < 4294967296) ∧ (∀ d ∈ x.2.2, d < 4294967296) ∧ val 4294967296 (x.2.1.drop x.1) < n * 2 ^ s ∧ val 4294967296 x.2.1 + n * 2 ^ s * (4294967296 ^ x.1 * val 4294967296 (x.2.2.drop x.1)) = m * 2 ^ s) (fun x => x.1) (L + 1, R0, List.replicate (L + 1) 0) ?_ ⟨?_, ?_, by simp, hlen0, by simp, hlt0, lt_zeros (by decide), hdrop, ?_⟩ ?_
  · simp (disch := omega) only [go_sem, Nat.reduceBEq, Nat.reduceAdd]
  · exact inferInstance
  · exact inferInstance
  · simp [hval0, val]
  · as_aux_lemma =>
    rintro ⟨k, rs, zs⟩ h5 ⟨hle, hle4, hk, hrl, hql, hrlt, hqlt, hrd, hinv⟩
    dsimp only at hk hrl hql hrlt hqlt hrd hinv ⊢
    by_cases hk0 : k = 0
    · as_aux_lemma =>
      subst hk0
      simp only [List.drop_zero, Nat.pow_zero, Nat.one_mul] at hrd hinv
      repeat (first | (refine rg rfl rfl (fun K hK => ?_); (repeat (first | (refine wo rfl (fun k hk => ?_); simp (disch := omega) only [go_sem, Nat.reduceBEq, Nat.reduceAdd]; refine hk _ _ ?_; clear hk k) | refine wkt rfl ?_)); (try refine wk0 ?_); refine hK _ _ ?_; clear hK K; (try dsimp only [behind, qs, qb])) | ((first | refine AWP_exit ?_ | refine AWP_skip ?_); simp (disch := decide) only [qs, qb, if_true, if_false, reduceIte]) | refine AWP_sq rfl (fun K hK => ?_) | refine ct rfl ?_ | ((first | refine hK _ _ ?_ | (clear hK; refine hK _ _ ?_) | (clear hK; clear hK; refine hK _ _ ?_)); clear hK; (try clear K)))
      refine AWP_rsp [.p 1, .p 0, .o 0, .o 1, .o 2, .o 3, .o 4, .o 5, .o 6, .o 7] rfl rfl (fun K hK => ?_)
      refine wkp ?_; simp (disch := omega) only [go_sem, Nat.reduceBEq, Nat.reduceAdd]; intro b6 h6 hs6 hb6
      refine wkp ?_; simp (disch := omega) only [go_sem, Nat.reduceBEq, Nat.reduceAdd]; intro b7 h7 hs7 hb7
      have hA : Arr h6 (some ⟨b6, 0, none⟩) (L + 1) zs := .of_row (fun hne => hb6 ((uw_ne _).1 hne)) hqlt (by omega) (by omega)
      have hB : Arr h7 (some ⟨b7, 0, none⟩) (xs.length + 1) rs := .of_row (fun hne => hb7 ((uw_ne _).1 hne)) hrlt (by omega) (by omega)
      have hmn : m * 2 ^ s = n * 2 ^ s * val 4294967296 zs + val 4294967296 rs := by omega
      have hq : val 4294967296 zs = m / n := by
        have h8 : m * 2 ^ s / (n * 2 ^ s) = val 4294967296 zs := by rw [hmn, Nat.mul_add_div hD0, Nat.div_eq_of_lt hrd, Nat.add_zero]
        rw [← h8, Nat.mul_div_mul_right _ _ (Nat.pow_pos (by decide))]
      have hr : val 4294967296 rs = (m % n) * 2 ^ s := by
        have h8 : m * 2 ^ s % (n * 2 ^ s) = val 4294967296 rs := by rw [hmn, Nat.mul_add_mod, Nat.mod_eq_of_lt hrd]
        rw [← h8, Nat.mul_mod_mul_right]
      (repeat (first | (refine wo rfl (fun k hk => ?_); simp (disch := omega) only [go_sem, Nat.reduceBEq, Nat.reduceAdd]; refine hk _ _ ?_; clear hk k) | refine wkt rfl ?_)); (try refine wk0 ?_)
      refine cN rfl rfl rfl rfl (by exact Of_L hA hql) ?_; rintro v8 h8 hs8 hq8; (repeat (first | (refine wo rfl (fun k hk => ?_); simp (disch := omega) only [go_sem, Nat.reduceBEq, Nat.reduceAdd]; refine hk _ _ ?_; clear hk k) | refine wkt rfl ?_)); (try refine wk0 ?_)
      refine cN rfl rfl rfl rfl (by exact Of_L hB hrl) ?_; rintro v9 h9 hs9 hr9; (repeat (first | (refine wo rfl (fun k hk => ?_); simp (disch := omega) only [go_sem, Nat.reduceBEq, Nat.reduceAdd]; refine hk _ _ ?_; clear hk k) | refine wkt rfl ?_)); (try refine wk0 ?_)
      rw [hr] at hr9
      have hbr : bl (m % n * 2 ^ s) ≤ 2 ^ 40 := by
        have h10 : bl (m % n * 2 ^ s) ≤ bl n + s := by
          rw [bl_le, Nat.pow_add]
          exact Nat.mul_lt_mul_of_pos_right (Nat.lt_trans (Nat.mod_lt _ (by omega)) (bl_le.1 (Nat.le_refl _))) (Nat.pow_pos (by decide))
        omega
      refine cN rfl rfl rfl rfl (by exact Shr_spec hr9 hbr (by omega)) ?_; rintro v10 h10 hs10 hr10; (repeat (first | (refine wo rfl (fun k hk => ?_); simp (disch := omega) only [go_sem, Nat.reduceBEq, Nat.reduceAdd]; refine hk _ _ ?_; clear hk k) | refine wkt rfl ?_)); (try refine wk0 ?_)
      (try (simp (disch := omega) only [go_sem, Nat.reduceBEq, Nat.reduceAdd])); refine hK _ _ ?_; clear hK; (try clear K); (try dsimp only [behind, qs])
      refine AWP_ret ?_; simp (disch := omega) only [go_sem, Nat.reduceBEq, Nat.reduceAdd]
      rw [hq] at hq8
      rw [Nat.mul_div_cancel _ (Nat.pow_pos (by decide))] at hr10
      exact ⟨_, _, rfl, hq8.to, hr10⟩
    · obtain ⟨k, rfl⟩ : ∃ j, k = j + 1 := ⟨k - 1, by omega⟩
      have hpre : (rs.take k).length = k := by simp; omega
      obtain ⟨pre, hpe⟩ : ∃ p, rs.take k = p := ⟨_, rfl⟩
      obtain ⟨ws, hwe⟩ : ∃ p, rs.drop k = p := ⟨_, rfl⟩
      have hrs : rs = pre ++ ws := by rw [← hpe, ← hwe, List.take_append_drop]
      rw [hpe] at hpre
      subst hrs hpre
      clear hpe hwe
      have hpl : (pre ++ ws).length = pre.length + ws.length := List.length_append
      rw [hpl] at hrl
      repeat (first | (refine rg rfl rfl (fun K hK => ?_); (repeat (first | (refine wo rfl (fun k hk => ?_); simp (disch := omega) only [go_sem, Nat.reduceBEq, Nat.reduceAdd]; refine hk _ _ ?_; clear hk k) | refine wkt rfl ?_)); (try refine wk0 ?_); refine hK _ _ ?_; clear hK K; (try dsimp only [behind, qs, qb])) | ((first | refine AWP_exit ?_ | refine AWP_skip ?_); simp (disch := decide) only [qs, qb, if_true, if_false, reduceIte]) | refine AWP_sq rfl (fun K hK => ?_) | refine ct rfl ?_ | ((first | refine hK _ _ ?_ | (clear hK; refine hK _ _ ?_) | (clear hK; clear hK; refine hK _ _ ?_)); clear hK; (try clear K)))
      have hif : (if xs.length + 1 = pre.length then 0 else pre.length) = pre.length := if_neg (by omega)
      have hsb : pre.length + ds.length + 1 - pre.length = ds.length + 1 := by omega
      refine AWP_sk rfl ?_
      (repeat (first | (refine wo rfl (fun k hk => ?_); simp (disch := omega) only [go_sem, Nat.reduceBEq, Nat.reduceAdd, hif, hsb]; refine hk _ _ ?_; clear hk k) | refine wkt rfl ?_)); (try refine wk0 ?_)
      refine wo rfl (fun k hk => ?_); simp (disch := omega) only [go_sem, Nat.reduceBEq, Nat.reduceAdd, true_or]
      have hwlt : ∀ x ∈ ws, x < 4294967296 := fun x hx => hrlt x (List.mem_append.2 (.inr hx))
      have hdr1 : (pre ++ ws).drop (pre.length + 1) = ws.drop 1 := by rw [List.drop_append]; simp
      rw [hdr1] at hrd
      have hw0 := getD_lt (by decide) hwlt 0
      have hUB : val 4294967296 ws < 4294967296 * (n * 2 ^ s) := by
        rw [val_head (by omega)]
        have := Nat.mul_le_mul_left 4294967296 (show val 4294967296 (ws.drop 1) + 1 ≤ n * 2 ^ s by omega)
        omega
      haveI : Le h3 h5 := ⟨hs4.sub.trans hle4.sub⟩
      refine call_loan 0 rfl ?_ rfl (digit_spec (ys := ds) (h0 := h3) (a := ad) (c := cd) had (by omega) (by omega) (by rw [hdl]; exact hdt) hwlt (by omega) (by omega) (by omega) ?_) ?_
      · intro e
        have := congrArg List.length e
        simp only [AS.box, List.getD_cons_zero, uw, List.length_map, List.length_append, List.length_nil] at this
        omega
      · rw [hdm]; exact Nat.lt_of_le_of_lt (by rw [val_take_drop 4294967296 ws (ds.length + 1) (by omega)]; omega) hUB
      · rintro v row' h6 hs6 ⟨rfl, ws', rfl, hl6, hlt6, hd6, hv6⟩
        simp (disch := omega) only [go_sem, Nat.reduceBEq, Nat.reduceAdd]
        have hpl6 : (pre ++ ws').length = pre.length + ws.length := by rw [List.length_append, hl6]
        refine hk _ _ ?_; clear hk k
        (repeat (first | (refine wo rfl (fun k hk => ?_); simp (disch := omega) only [go_sem, Nat.reduceBEq, Nat.reduceAdd]; refine hk _ _ ?_; clear hk k) | refine wkt rfl ?_)); (try refine wk0 ?_)
        simp only [Q.qs, qb, if_true, if_false]
        repeat (first | (refine wo rfl (fun k hk => ?_); simp (disch := omega) only [go_sem, Nat.reduceBEq, Nat.reduceAdd]; refine hk _ _ ?_; clear hk k) | refine wkt rfl ?_ | refine wk0 ?_ | ((first | refine rg rfl rfl (fun K hK => ?_)); (repeat (first | (refine wo rfl (fun k hk => ?_); simp (disch := omega) only [go_sem, Nat.reduceBEq, Nat.reduceAdd]; refine hk _ _ ?_; clear hk k) | refine wkt rfl ?_ | refine wk0 ?_)); (first | apply hK | (clear hK; apply hK) | (clear hK; clear hK; apply hK)); clear hK; (try clear K); (try dsimp only [behind, qs, qb])) | ((first | refine AWP_exit ?_ | refine AWP_skip ?_); simp (disch := decide) only [qs, qb, if_true, if_false, reduceIte]) | refine AWP_sq rfl (fun K hK => ?_) | refine ct rfl ?_ | ((try simp (disch := omega) only [go_sem, Nat.reduceBEq, Nat.reduceAdd]); (first | apply hK | (clear hK; apply hK) | (clear hK; clear hK; apply hK)); clear hK; (try clear K); (try dsimp only [behind, qs, qb])))
        have hDB : n * 2 ^ s < 4294967296 ^ ds.length := by rw [← hdm]; exact val_lt (by decide) ds had.lt
        rw [hdm] at hv6
        obtain ⟨hUw, hw'⟩ := div_window (by decide) (show ds.length + 1 ≤ ws.length by omega) (show ds.length + 1 ≤ ws'.length by omega) hUB hDB hd6 hv6
        rw [hUw, hdm]
        refine ⟨(pre.length, pre ++ ws', zs.set pre.length (val 4294967296 ws / (n * 2 ^ s))), ?_, ⟨inferInstance, inferInstance, by dsimp only; omega, by dsimp only; omega, by simp [hql], ?_, lt_set hqlt (by rw [Nat.div_lt_iff_lt_mul hD0]; exact hUB), ?_, ?_⟩, by dsimp only; omega⟩
        · simp (disch := omega) only [go_sem, Nat.reduceBEq, Nat.reduceAdd]
        · intro x hx
          rcases List.mem_append.1 hx with h' | h'
          · exact hrlt x (List.mem_append.2 (.inl h'))
          · exact hlt6 x h'
        · dsimp only
          rw [List.drop_left, hw']; exact Nat.mod_lt _ hD0
        · dsimp only
          rw [drop_getD (xs := zs.set pre.length _) (by simp [hql]; omega), getD_set (by omega), List.drop_set_of_lt (by omega), val, val_append, hw']
          rw [val_append, Nat.pow_succ] at hinv
          exact div_step hinv
end Go.Q
namespace Go.Q
open Go.Proofs
set_option maxRecDepth 100000
theorem AWP_skK {M : Mach} {C : Ctx} {n : Nat} {S : AS} {h : PH} {Q : Exit → AS → PH → Prop} {E : List PanicEntry → PH → Prop} {id : Nat} {ops : Array Oper} {l : List GX} (hl : prep n ops (plain ops.size) = some l) (hw : ∀ K : AS → PH → Prop, (∀ S h, Q .normal S h → K S h) → walk M E l K S h) : AWP M n C (.region id ops false) Q E S h :=
  AWP_sk hl (hw _ fun _ _ h => h)
theorem AWP_dkK {M : Mach} {C : Ctx} {n : Nat} {S : AS} {h : PH} {Q : Exit → AS → PH → Prop} {E : List PanicEntry → PH → Prop} {id : Nat} {ops : Array Oper} {l : List GX} (hc : regionOk ops (List.range ops.size) = true) (hl : prep n ops (plain ops.size) = some l) (hw : ∀ K : AS → PH → Prop, (∀ S h, Q .normal S h → K S h) → walk M E l K S h) : AWP M n C (.region id ops true) Q E S h :=
  AWP_dkp hc hl (hw _ fun _ _ h => h)
theorem AWP_dko {M : Mach} {C : Ctx} {n : Nat} {S : AS} {h : PH} {Q : Exit → AS → PH → Prop} {E : List PanicEntry → PH → Prop} {id : Nat} {ops : Array Oper} {l : List GX} (pl : List PL) (hc : regionOk ops (order pl) = true) (hl : prep n ops pl = some l) (hw : ∀ K : AS → PH → Prop, (∀ S h, Q .normal S h → K S h) → walk M E l K S h) : AWP M n C (.region id ops true) Q E S h :=
  AWP_d pl hc hl (hw _ fun _ _ h => h)
theorem bl_mono {m n : Nat} (h : m ≤ n) : bl m ≤ bl n := bl_le.2 (Nat.lt_of_le_of_lt h (bl_le.1 (Nat.le_refl _)))
theorem GCD_spec {h0 h : PH} [Le h0 h] {v w : Value} {m n : Nat} (hv : N32 h0 v m) (hw : N32 h0 w n) (bm : bl m ≤ 2 ^ 39) (bn : bl n ≤ 2 ^ 39) : Spec mach 153 #[v, w] h (fun v h' => N32 h' v (Nat.gcd m n)) NP := by
  refine Spec.enter (args := [_, _]) (n := 19) Tryz.func153 rfl (by kernel_rfl) rfl (by simp) [.tmp 4] rfl (fun C _ => ?_)
  repeat (first | (refine wo rfl (fun k hk => ?_); simp (disch := omega) only [go_sem, Nat.reduceBEq, Nat.reduceAdd]; refine hk _ _ ?_; clear hk k) | refine wkt rfl ?_ | refine wk0 ?_ | refine rg rfl rfl (fun K hK => ?_) | ((first | refine AWP_exit ?_ | refine AWP_skip ?_); simp (disch := decide) only [qs, qb, if_true, if_false, reduceIte]) | refine AWP_sq rfl (fun K hK => ?_) | refine ct rfl ?_ | ((try simp (disch := omega) only [go_sem, Nat.reduceBEq, Nat.reduceAdd]); (first | apply hK | (clear hK; apply hK) | (clear hK; clear hK; apply hK)); clear hK; (try clear K); (try dsimp only [behind, qs, qb])))
  refine AWP_loop (fun x : Value × Value × Nat × Nat => ⟨[(0, .v x.1), (1, .v x.2.1)], []⟩) (fun x h' => N32 h' x.1 x.2.2.1 ∧ N32 h' x.2.1 x.2.2.2 ∧ bl x.2.2.1 ≤ 2 ^ 39 ∧ bl x.2.2.2 ≤ 2 ^ 39 ∧ Nat.gcd x.2.2.1 x.2.2.2 = Nat.gcd m n) (fun x => x.2.2.2) (v, w, m, n) ?_ ⟨hv.to, hw.to, bm, bn, rfl⟩ ?_
  · simp (disch := omega) only [go_sem, Nat.reduceBEq, Nat.reduceAdd]
  · rintro ⟨va, vb, m', n'⟩ h1 ⟨ha, hb, ba, bb, hg⟩
    dsimp only at ha hb ba bb hg ⊢
    obtain ⟨a, c, ys, hbe, hay, hys, hyn⟩ := hb.out
    subst hbe
    have hl := W_len0 B32 (n := n')
    rw [hys] at hl
    by_cases hn : n' = 0
    · repeat (first | (refine wo rfl (fun k hk => ?_); simp (disch := omega) only [go_sem, Nat.reduceBEq, Nat.reduceAdd]; refine hk _ _ ?_; clear hk k) | refine wkt rfl ?_ | refine wk0 ?_ | refine rg rfl rfl (fun K hK => ?_) | ((first | refine AWP_exit ?_ | refine AWP_skip ?_); simp (disch := decide) only [qs, qb, if_true, if_false, reduceIte]) | refine AWP_sq rfl (fun K hK => ?_) | refine ct rfl ?_ | ((try simp (disch := omega) only [go_sem, Nat.reduceBEq, Nat.reduceAdd]); (first | apply hK | (clear hK; apply hK) | (clear hK; clear hK; apply hK)); clear hK; (try clear K); (try dsimp only [behind, qs, qb])))
      refine AWP_ret ?_; simp (disch := omega) only [go_sem, Nat.reduceBEq, Nat.reduceAdd]
      rw [hn, Nat.gcd_zero_right] at hg
      rwa [← hg]
    · repeat (first | (refine wo rfl (fun k hk => ?_); simp (disch := omega) only [go_sem, Nat.reduceBEq, Nat.reduceAdd]; refine hk _ _ ?_; clear hk k) | refine wkt rfl ?_ | refine wk0 ?_ | refine rg rfl rfl (fun K hK => ?_) | ((first | refine AWP_exit ?_ | refine AWP_skip ?_); simp (disch := decide) only [qs, qb, if_true, if_false, reduceIte]) | refine AWP_sq rfl (fun K hK => ?_) | refine ct rfl ?_ | ((try simp (disch := omega) only [go_sem, Nat.reduceBEq, Nat.reduceAdd]); (first | apply hK | (clear hK; apply hK) | (clear hK; clear hK; apply hK)); clear hK; (try clear K); (try dsimp only [behind, qs, qb])))
      refine cN rfl rfl rfl rfl (by exact Div_spec ha hb hn ba bb) ?_; rintro v2 h2 hs2 ⟨q, r, rfl, hq, hr⟩; (repeat (first | (refine wo rfl (fun k hk => ?_); simp (disch := omega) only [go_sem, Nat.reduceBEq, Nat.reduceAdd]; refine hk _ _ ?_; clear hk k) | refine wkt rfl ?_)); (try refine wk0 ?_)
      (repeat (first | (refine wo rfl (fun k hk => ?_); simp (disch := omega) only [go_sem, Nat.reduceBEq, Nat.reduceAdd]; refine hk _ _ ?_; clear hk k) | refine wkt rfl ?_)); (try refine wk0 ?_)
      repeat (first | (refine wo rfl (fun k hk => ?_); simp (disch := omega) only [go_sem, Nat.reduceBEq, Nat.reduceAdd]; refine hk _ _ ?_; clear hk k) | refine wkt rfl ?_ | refine wk0 ?_ | refine rg rfl rfl (fun K hK => ?_) | ((first | refine AWP_exit ?_ | refine AWP_skip ?_); simp (disch := decide) only [qs, qb, if_true, if_false, reduceIte]) | refine AWP_sq rfl (fun K hK => ?_) | refine ct rfl ?_ | ((try simp (disch := omega) only [go_sem, Nat.reduceBEq, Nat.reduceAdd]); (first | apply hK | (clear hK; apply hK) | (clear hK; clear hK; apply hK)); clear hK; (try clear K); (try dsimp only [behind, qs, qb])))
      refine ⟨(_, r, n', m' % n'), ?_, ⟨hb.to, hr.to, bb, Nat.le_trans (bl_mono (Nat.le_of_lt (Nat.mod_lt _ (by omega)))) bb, ?_⟩, Nat.mod_lt _ (by omega)⟩
      · simp (disch := omega) only [go_sem, Nat.reduceBEq, Nat.reduceAdd]
      · dsimp only
        rw [← hg, Nat.gcd_comm m' n', Nat.gcd_rec n' m', Nat.gcd_comm]
end Go.Q
