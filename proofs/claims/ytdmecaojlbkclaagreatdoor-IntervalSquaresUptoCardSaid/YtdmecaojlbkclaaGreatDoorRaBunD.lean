/-
  Contracts of package word's natural numbers: reading, comparing, small ones. Conditions: the slices hold words (Arr, N32).
  Contracts of package word: how often 2 divides a number. Conditions: the slices hold words (Arr, N32).
  Contracts of package word: sums and differences. Conditions: the slices hold words (N32), of at most 2^40 bits.
  Contracts of package word: products. Conditions: the slices hold words (N32), of at most 2^40 bits.
-/
import Derived.Test.YtdmecaojlbkclaaGreatDoorRaBunB
set_option linter.unusedVariables false
set_option linter.unusedSimpArgs false
namespace Go.Q
open Go.Proofs
theorem B32 : 2 ≤ 4294967296 := by decide
set_option maxRecDepth 100000 in
theorem Of_spec {h0 h : PH} [Le h0 h] {a : Option Addr} {c : Nat} {xs : List Nat} (ha : Arr h0 a c xs) :
    Spec mach 116 #[.slice a xs.length c] h (fun v _ => v = .slice a (W 4294967296 (val 4294967296 xs)).length c) NP := by
  have hs := ha.small
  have hc := ha.cap
  refine Spec.enter (args := [_]) (n := 21) Tryz.func116 rfl (by kernel_rfl) rfl (by simp) [.tmp 2] rfl (fun C _ => ?_)
  repeat (first | (refine wo rfl (fun k hk => ?_); simp (disch := omega) only [go_sem, Nat.reduceBEq, Nat.reduceAdd]; refine hk _ _ ?_; clear hk k) | refine wkt rfl ?_ | refine wk0 ?_ | refine rg rfl rfl (fun K hK => ?_) | ((first | refine AWP_exit ?_ | refine AWP_skip ?_); simp (disch := decide) only [qs, qb, if_true, if_false, reduceIte]) | refine AWP_sq rfl (fun K hK => ?_) | refine ct rfl ?_ | ((try simp (disch := omega) only [go_sem, Nat.reduceBEq, Nat.reduceAdd]); (first | apply hK | (clear hK; apply hK) | (clear hK; clear hK; apply hK)); clear hK; (try clear K); (try dsimp only [behind, qs, qb])))
  refine AWP_loop (fun k : Nat => ⟨[(0, .v (.slice a k c))], []⟩) (fun k h' => Le h0 h' ∧ k ≤ xs.length ∧ val 4294967296 (xs.take k) = val 4294967296 xs) id xs.length ?_ ⟨inferInstance, Nat.le_refl _, by simp⟩ ?_
  · simp (disch := omega) only [go_sem, Nat.reduceBEq, Nat.reduceAdd]
  · rintro k h1 ⟨hle, hk, hv⟩
    by_cases hk0 : k = 0
    · subst hk0
      repeat (first | (refine wo rfl (fun k hk => ?_); simp (disch := omega) only [go_sem, Nat.reduceBEq, Nat.reduceAdd]; refine hk _ _ ?_; clear hk k) | refine wkt rfl ?_ | refine wk0 ?_ | refine rg rfl rfl (fun K hK => ?_) | ((first | refine AWP_exit ?_ | refine AWP_skip ?_); simp (disch := decide) only [qs, qb, if_true, if_false, reduceIte]) | refine AWP_sq rfl (fun K hK => ?_) | refine ct rfl ?_ | ((try simp (disch := omega) only [go_sem, Nat.reduceBEq, Nat.reduceAdd]); (first | apply hK | (clear hK; apply hK) | (clear hK; clear hK; apply hK)); clear hK; (try clear K); (try dsimp only [behind, qs, qb])))
      refine AWP_ret ?_; simp (disch := omega) only [go_sem, Nat.reduceBEq, Nat.reduceAdd]
      rw [W_take (by decide) 0 xs (by omega) ha.lt hv (.inl rfl)]
      simp
    · obtain ⟨ad, rfl, hat⟩ := ha.get (i := k - 1) (by omega)
      have hat1 := hle.sub.at hat
      by_cases hz : xs.getD (k - 1) 0 = 0
      · repeat (first | (refine rg rfl rfl (fun K hK => ?_); (repeat (first | (refine wo rfl (fun k hk => ?_); simp (disch := omega) only [go_sem, Nat.reduceBEq, Nat.reduceAdd, hat1]; refine hk _ _ ?_; clear hk k) | refine wkt rfl ?_)); (try refine wk0 ?_); refine hK _ _ ?_; clear hK K; (try dsimp only [behind, qs, qb])) | ((first | refine AWP_exit ?_ | refine AWP_skip ?_); simp (disch := decide) only [qs, qb, if_true, if_false, reduceIte]) | refine AWP_sq rfl (fun K hK => ?_) | refine ct rfl ?_ | ((first | refine hK _ _ ?_ | (clear hK; refine hK _ _ ?_) | (clear hK; clear hK; refine hK _ _ ?_)); clear hK; (try clear K)))
        exact ⟨k - 1, ⟨⟨rfl, trivial⟩, trivial, rfl⟩, ⟨hle, by omega, by rw [val_take_succ (by omega) hz, show k - 1 + 1 = k by omega]; exact hv⟩, by simp only [id_eq]; omega⟩
      · repeat (first | (refine wo rfl (fun k hk => ?_); simp (disch := omega) only [go_sem, Nat.reduceBEq, Nat.reduceAdd, hat1]; refine hk _ _ ?_; clear hk k) | refine wkt rfl ?_ | refine wk0 ?_ | refine rg rfl rfl (fun K hK => ?_) | ((first | refine AWP_exit ?_ | refine AWP_skip ?_); simp (disch := decide) only [qs, qb, if_true, if_false, reduceIte]) | refine AWP_sq rfl (fun K hK => ?_) | refine ct rfl ?_ | ((try simp (disch := omega) only [go_sem, Nat.reduceBEq, Nat.reduceAdd]); (first | apply hK | (clear hK; apply hK) | (clear hK; clear hK; apply hK)); clear hK; (try clear K); (try dsimp only [behind, qs, qb])))
        refine AWP_ret ?_; simp (disch := omega) only [go_sem, Nat.reduceBEq, Nat.reduceAdd]
        rw [W_take (by decide) k xs (by omega) ha.lt hv (.inr hz)]
        simp; omega
theorem Of_N {h0 h : PH} [Le h0 h] {a : Option Addr} {c : Nat} {xs : List Nat} (ha : Arr h0 a c xs) :
    Spec mach 116 #[.slice a xs.length c] h (fun v h' => N32 h' v (val 4294967296 xs)) NP := 
  (Of_spec ha).mono (fun v h' hs hv => ⟨a, c, hv, (ha.to (h' := h)).W.to (l := ⟨hs⟩)⟩) (fun _ _ _ h => h)
theorem Arr.rd {h0 : PH} {a : Option Addr} {c : Nat} {xs : List Nat} (r : Arr h0 a c xs) (h : PH) [l : Le h0 h] {i : Nat} (hi : i < xs.length) : ∃ ad, a = some ad ∧ h.at (ad.add i) = some (.int .u32 (xs.getD i 0)) :=
  (r.to (h' := h)).get hi
theorem Arr.rd0 {h0 : PH} {a : Option Addr} {c : Nat} {xs : List Nat} (r : Arr h0 a c xs) (h : PH) [l : Le h0 h] (hi : 0 < xs.length) : ∃ ad, a = some ad ∧ h.at ad = some (.int .u32 (xs.getD 0 0)) := by
  obtain ⟨ad, h1, h2⟩ := r.rd h hi
  exact ⟨ad, h1, by simpa [Addr.add] using h2⟩
theorem bv {a b : Bool} (h : a = true ↔ b = true) : Value.bool a = Value.bool b := by rw [Bool.eq_iff_iff.2 h]
set_option maxRecDepth 100000
theorem Small_spec {h : PH} {n : Nat} (hn : n < 2 ^ 64) : Spec mach 110 #[.int .u64 n] h (fun v h' => N32 h' v n) NP := by
  refine Spec.enter (args := [_]) (n := 10) Tryz.func110 rfl (by kernel_rfl) rfl (by simp) [.tmp 2] rfl (fun C _ => ?_)
  refine AWP_rs rfl (fun K hK => ?_); (repeat (first | (refine wo rfl (fun k hk => ?_); simp (disch := omega) only [go_sem, Nat.reduceBEq, Nat.reduceAdd]; refine hk _ _ ?_; clear hk k) | refine wkt rfl ?_)); (try refine wk0 ?_); (first | refine hK _ _ ?_ | (clear hK; refine hK _ _ ?_) | (clear hK; clear hK; refine hK _ _ ?_)); clear hK; (try clear K)
  refine AWP_rsp [.o 0, .o 1, .o 2, .o 3, .o 4, .o 5, .p 0, .o 6, .o 7] rfl rfl (fun K hK => ?_); (repeat (first | (refine wo rfl (fun k hk => ?_); simp (disch := omega) only [go_sem, Nat.reduceBEq, Nat.reduceAdd]; refine hk _ _ ?_; clear hk k) | refine wkt rfl ?_)); (try refine wk0 ?_)
  refine wkp ?_; simp (disch := omega) only [go_sem, Nat.reduceBEq, Nat.reduceAdd]; intro b h1 hs1 hb; (repeat (first | (refine wo rfl (fun k hk => ?_); simp (disch := omega) only [go_sem, Nat.reduceBEq, Nat.reduceAdd]; refine hk _ _ ?_; clear hk k) | refine wkt rfl ?_)); (try refine wk0 ?_)
  have hA : Arr h1 (some ⟨b, 0, none⟩) 2 [n % 4294967296, n / 4294967296] := .of_row (fun _ => hb (by simp)) (by intro x hx; simp at hx; omega) (by simp) (by simp)
  refine cN rfl rfl rfl rfl (by exact Of_N hA) ?_; rintro v h2 hs2 hv; (repeat (first | (refine wo rfl (fun k hk => ?_); simp (disch := omega) only [go_sem, Nat.reduceBEq, Nat.reduceAdd]; refine hk _ _ ?_; clear hk k) | refine wkt rfl ?_)); (try refine wk0 ?_)
  (repeat (first | (refine wo rfl (fun k hk => ?_); simp (disch := omega) only [go_sem, Nat.reduceBEq, Nat.reduceAdd]; refine hk _ _ ?_; clear hk k) | refine wkt rfl ?_)); (try refine wk0 ?_)
  (try (simp (disch := omega) only [go_sem, Nat.reduceBEq, Nat.reduceAdd])); refine hK _ _ ?_; clear hK; (try clear K); (try dsimp only [behind, qs])
  refine AWP_ret ?_; simp (disch := omega) only [go_sem, Nat.reduceBEq, Nat.reduceAdd]
  have : val 4294967296 [n % 4294967296, n / 4294967296] = n := by simp only [val]; omega
  rwa [this] at hv
/-- The digits of a number in words. -/
theorem N32.out {h : PH} {v : Value} {n : Nat} (r : N32 h v n) : ∃ a c xs, v = .slice a xs.length c ∧ Arr h a c xs ∧ W 4294967296 n = xs ∧ val 4294967296 xs = n := let ⟨a, c, h1, h2⟩ := r
  ⟨a, c, _, h1, h2, rfl, val_W B32 n⟩
theorem W_len0 {B : Nat} (hB : 2 ≤ B) {n : Nat} : (W B n).length = 0 ↔ n = 0 :=
  ⟨fun h => by rw [← val_W hB n, List.eq_nil_of_length_eq_zero h]; rfl, fun h => by subst h; rw [W_zero]; rfl⟩
theorem Zero_spec {h0 h : PH} [Le h0 h] {v : Value} {n : Nat} (hv : N32 h0 v n) : Spec mach 112 #[v] h (fun v _ => v = .bool (decide (n = 0))) NP := by
  obtain ⟨a, c, rfl, ha⟩ := hv
  have hs := ha.small
  have hc := ha.cap
  refine Spec.enter (args := [_]) (n := 6) Tryz.func112 rfl (by kernel_rfl) rfl (by simp) [.tmp 2] rfl (fun C _ => ?_)
  repeat (first | (refine wo rfl (fun k hk => ?_); simp (disch := omega) only [go_sem, Nat.reduceBEq, Nat.reduceAdd]; refine hk _ _ ?_; clear hk k) | refine wkt rfl ?_ | refine wk0 ?_ | refine rg rfl rfl (fun K hK => ?_) | ((first | refine AWP_exit ?_ | refine AWP_skip ?_); simp (disch := decide) only [qs, qb, if_true, if_false, reduceIte]) | refine AWP_sq rfl (fun K hK => ?_) | refine ct rfl ?_ | ((try simp (disch := omega) only [go_sem, Nat.reduceBEq, Nat.reduceAdd]); (first | apply hK | (clear hK; apply hK) | (clear hK; clear hK; apply hK)); clear hK; (try clear K); (try dsimp only [behind, qs, qb])))
  refine AWP_ret ?_; simp (disch := omega) only [go_sem, Nat.reduceBEq, Nat.reduceAdd]
  simp only [← W_len0 B32 (n := n)]
  refine bv ?_
  simp only [beq_iff_eq, decide_eq_true_eq]; omega
/-- A number of one digit. -/
theorem W_len1 {B : Nat} (hB : 2 ≤ B) {n : Nat} (h : (W B n).length = 1) : n < B ∧ (W B n).getD 0 0 = n := by
  have h1 := lt_W_length hB n
  rw [h, Nat.pow_one] at h1
  refine ⟨h1, ?_⟩
  by_cases hn : n = 0
  · subst hn; rw [W_zero] at h; cases h
  · rw [W_pos hB hn]; simp [Nat.mod_eq_of_lt h1]
theorem W_one {B : Nat} (hB : 2 ≤ B) : W B 1 = [1] := by
  rw [W_pos hB (by omega), Nat.mod_eq_of_lt (by omega), Nat.div_eq_of_lt (by omega), W_zero]
theorem One_spec {h0 h : PH} [Le h0 h] {v : Value} {n : Nat} (hv : N32 h0 v n) : Spec mach 71 #[v] h (fun v _ => v = .bool (decide (n = 1))) NP := by
  obtain ⟨a, c, rfl, ha⟩ := hv
  have hs := ha.small
  have hc := ha.cap
  refine Spec.enter (args := [_]) (n := 12) Tryz.func71 rfl (by kernel_rfl) rfl (by simp) [.tmp 2] rfl (fun C _ => ?_)
  by_cases h1 : (W 4294967296 n).length = 1
  · obtain ⟨ad, rfl, hat1⟩ := ha.rd0 h (by omega)
    repeat (first | (refine wo rfl (fun k hk => ?_); simp (disch := omega) only [go_sem, Nat.reduceBEq, Nat.reduceAdd, hat1]; refine hk _ _ ?_; clear hk k) | refine wkt rfl ?_ | refine wk0 ?_ | refine rg rfl rfl (fun K hK => ?_) | ((first | refine AWP_exit ?_ | refine AWP_skip ?_); simp (disch := decide) only [qs, qb, if_true, if_false, reduceIte]) | refine AWP_sq rfl (fun K hK => ?_) | refine ct rfl ?_ | ((try simp (disch := omega) only [go_sem, Nat.reduceBEq, Nat.reduceAdd]); (first | apply hK | (clear hK; apply hK) | (clear hK; clear hK; apply hK)); clear hK; (try clear K); (try dsimp only [behind, qs, qb])))
    refine AWP_ret ?_; simp (disch := omega) only [go_sem, Nat.reduceBEq, Nat.reduceAdd]
    rw [(W_len1 B32 h1).2]
    refine bv ?_
    simp only [beq_iff_eq, decide_eq_true_eq]; omega
  · repeat (first | (refine wo rfl (fun k hk => ?_); simp (disch := omega) only [go_sem, Nat.reduceBEq, Nat.reduceAdd]; refine hk _ _ ?_; clear hk k) | refine wkt rfl ?_ | refine wk0 ?_ | refine rg rfl rfl (fun K hK => ?_) | ((first | refine AWP_exit ?_ | refine AWP_skip ?_); simp (disch := decide) only [qs, qb, if_true, if_false, reduceIte]) | refine AWP_sq rfl (fun K hK => ?_) | refine ct rfl ?_ | ((try simp (disch := omega) only [go_sem, Nat.reduceBEq, Nat.reduceAdd]); (first | apply hK | (clear hK; apply hK) | (clear hK; clear hK; apply hK)); clear hK; (try clear K); (try dsimp only [behind, qs, qb])))
    refine AWP_ret ?_; simp (disch := omega) only [go_sem, Nat.reduceBEq, Nat.reduceAdd]
    have : n ≠ 1 := by rintro rfl; rw [W_one B32] at h1; exact h1 rfl
    simp [this]
/-- The order of two numbers as an integer. -/
def cmp3 (m n : Nat) : Int := if m < n then -1 else if n < m then 1 else 0
theorem W_len_lt {B : Nat} (hB : 2 ≤ B) {m n : Nat} (h : (W B m).length < (W B n).length) : m < n := by
  rcases Nat.lt_or_ge m n with h' | h'
  · exact h'
  · exfalso
    have h1 := lt_W_length hB m
    have : n < B ^ (W B m).length := by omega
    have := W_length_le hB this
    omega
theorem val_split {B : Nat} (xs : List Nat) {k : Nat} (hk : k < xs.length) : val B xs = val B (xs.take k) + B ^ k * (xs.getD k 0 + B * val B (xs.drop (k + 1))) := by
  have h1 : xs = xs.take k ++ xs.drop k := (List.take_append_drop k xs).symm
  have h2 : xs.drop k = xs.getD k 0 :: xs.drop (k + 1) := by rw [List.drop_eq_getElem_cons hk]; simp [hk]
  calc val B xs = val B (xs.take k ++ xs.drop k) := by rw [← h1]
    _ = _ := by rw [val_append, h2, val]; simp [Nat.min_eq_left (Nat.le_of_lt hk)]
theorem val_lt_of {B : Nat} (hB : 2 ≤ B) {xs ys : List Nat} (hx : ∀ x ∈ xs, x < B) {k : Nat} (hl : xs.length = ys.length) (hk : k < xs.length) (hd : xs.drop (k + 1) = ys.drop (k + 1)) (h : xs.getD k 0 < ys.getD k 0) : val B xs < val B ys := by
  rw [val_split xs hk, val_split ys (k := k) (by omega), hd]
  have h1 := val_lt (show 1 ≤ B by omega) (xs.take k) (fun x hx' => hx x (List.mem_of_mem_take hx'))
  have h2 : (xs.take k).length = k := by simp; omega
  rw [h2] at h1
  have h3 : B ^ k * (xs.getD k 0 + B * val B (ys.drop (k + 1)) + 1) ≤ B ^ k * (ys.getD k 0 + B * val B (ys.drop (k + 1))) := Nat.mul_le_mul_left _ (by omega)
  rw [Nat.mul_add, Nat.mul_one] at h3
  omega
theorem Cmp_spec {h0 h : PH} [Le h0 h] {v w : Value} {m n : Nat} (hv : N32 h0 v m) (hw : N32 h0 w n) : Spec mach 148 #[v, w] h (fun v _ => v = .int .i64 (cmp3 m n)) NP := by
  obtain ⟨a, c, xs, rfl, ha, hxs, hm⟩ := hv.out
  obtain ⟨a', c', ys, rfl, ha', hys, hn⟩ := hw.out
  have hs := ha.small
  have hc := ha.cap
  have hs' := ha'.small
  have hc' := ha'.cap
  refine Spec.enter (args := [_, _]) (n := 41) Tryz.func148 rfl (by kernel_rfl) rfl (by simp) [.tmp 4] rfl (fun C _ => ?_)
  by_cases hl : xs.length = ys.length
  · repeat (first | (refine wo rfl (fun k hk => ?_); simp (disch := omega) only [go_sem, Nat.reduceBEq, Nat.reduceAdd]; refine hk _ _ ?_; clear hk k) | refine wkt rfl ?_ | refine wk0 ?_ | refine rg rfl rfl (fun K hK => ?_) | refine rd [.o 0, .o 1, .o 2, .o 3, .o 4, .o 5, .o 6, .o 7, .o 8] rfl (by decide +kernel) rfl (fun K hK => ?_) | ((first | refine AWP_exit ?_ | refine AWP_skip ?_); simp (disch := decide) only [qs, qb, if_true, if_false, reduceIte]) | refine AWP_sq rfl (fun K hK => ?_) | refine ct rfl ?_ | ((try simp (disch := omega) only [go_sem, Nat.reduceBEq, Nat.reduceAdd]); (first | apply hK | (clear hK; apply hK) | (clear hK; clear hK; apply hK)); clear hK; (try clear K); (try dsimp only [behind, qs, qb])))
    refine AWP_loop (fun k : Nat => ⟨[(0, .v (.slice a xs.length c)), (1, .v (.slice a' ys.length c')), (5, .v (.int .i64 ((k : Int) - 1)))], []⟩) (fun k h' => Le h0 h' ∧ k ≤ xs.length ∧ xs.drop k = ys.drop k) id xs.length ?_ ⟨inferInstance, Nat.le_refl _, by simp [hl]⟩ ?_
    · simp (disch := omega) only [go_sem, Nat.reduceBEq, Nat.reduceAdd]
    · rintro k h1 ⟨hle, hk, hd⟩
      by_cases hk0 : k = 0
      · subst hk0
        repeat (first | (refine wo rfl (fun k hk => ?_); simp (disch := omega) only [go_sem, Nat.reduceBEq, Nat.reduceAdd]; refine hk _ _ ?_; clear hk k) | refine wkt rfl ?_ | refine wk0 ?_ | refine rg rfl rfl (fun K hK => ?_) | refine rd [.o 0, .o 1, .o 2, .o 3, .o 4, .o 5, .o 6, .o 7, .o 8] rfl (by decide +kernel) rfl (fun K hK => ?_) | ((first | refine AWP_exit ?_ | refine AWP_skip ?_); simp (disch := decide) only [qs, qb, if_true, if_false, reduceIte]) | refine AWP_sq rfl (fun K hK => ?_) | refine ct rfl ?_ | ((try simp (disch := omega) only [go_sem, Nat.reduceBEq, Nat.reduceAdd]); (first | apply hK | (clear hK; apply hK) | (clear hK; clear hK; apply hK)); clear hK; (try clear K); (try dsimp only [behind, qs, qb])))
        refine AWP_ret ?_; simp (disch := omega) only [go_sem, Nat.reduceBEq, Nat.reduceAdd]
        have : m = n := by rw [← hm, ← hn, show xs = ys by simpa using hd]
        simp [cmp3, this]
      · obtain ⟨k, rfl⟩ : ∃ j, k = j + 1 := ⟨k - 1, by omega⟩
        obtain ⟨ad, rfl, hat⟩ := ha.rd h1 (i := k) (by omega)
        obtain ⟨ad', rfl, hat'⟩ := ha'.rd h1 (i := k) (by omega)
        by_cases hx : xs.getD k 0 < ys.getD k 0
        · repeat (first | (refine wo rfl (fun k hk => ?_); simp (disch := omega) only [go_sem, Nat.reduceBEq, Nat.reduceAdd, hat, hat']; refine hk _ _ ?_; clear hk k) | refine wkt rfl ?_ | refine wk0 ?_ | refine rg rfl rfl (fun K hK => ?_) | refine rd [.o 0, .o 1, .o 2, .o 3, .o 4, .o 5, .o 6, .o 7, .o 8] rfl (by decide +kernel) rfl (fun K hK => ?_) | ((first | refine AWP_exit ?_ | refine AWP_skip ?_); simp (disch := decide) only [qs, qb, if_true, if_false, reduceIte]) | refine AWP_sq rfl (fun K hK => ?_) | refine ct rfl ?_ | ((try simp (disch := omega) only [go_sem, Nat.reduceBEq, Nat.reduceAdd]); (first | apply hK | (clear hK; apply hK) | (clear hK; clear hK; apply hK)); clear hK; (try clear K); (try dsimp only [behind, qs, qb])))
          refine AWP_ret ?_; simp (disch := omega) only [go_sem, Nat.reduceBEq, Nat.reduceAdd]
          have : m < n := by rw [← hm, ← hn]; exact val_lt_of B32 ha.lt hl (by omega) hd hx
          simp [cmp3, this]
        · by_cases hy : ys.getD k 0 < xs.getD k 0
          · repeat (first | (refine wo rfl (fun k hk => ?_); simp (disch := omega) only [go_sem, Nat.reduceBEq, Nat.reduceAdd, hat, hat']; refine hk _ _ ?_; clear hk k) | refine wkt rfl ?_ | refine wk0 ?_ | refine rg rfl rfl (fun K hK => ?_) | refine rd [.o 0, .o 1, .o 2, .o 3, .o 4, .o 5, .o 6, .o 7, .o 8] rfl (by decide +kernel) rfl (fun K hK => ?_) | ((first | refine AWP_exit ?_ | refine AWP_skip ?_); simp (disch := decide) only [qs, qb, if_true, if_false, reduceIte]) | refine AWP_sq rfl (fun K hK => ?_) | refine ct rfl ?_ | ((try simp (disch := omega) only [go_sem, Nat.reduceBEq, Nat.reduceAdd]); (first | apply hK | (clear hK; apply hK) | (clear hK; clear hK; apply hK)); clear hK; (try clear K); (try dsimp only [behind, qs, qb])))
            refine AWP_ret ?_; simp (disch := omega) only [go_sem, Nat.reduceBEq, Nat.reduceAdd]
            have : n < m := by rw [← hm, ← hn]; exact val_lt_of B32 ha'.lt hl.symm (by omega) hd.symm hy
            simp [cmp3, this, Nat.not_lt.2 (Nat.le_of_lt this)]
          · repeat (first | (refine wo rfl (fun k hk => ?_); simp (disch := omega) only [go_sem, Nat.reduceBEq, Nat.reduceAdd, hat, hat']; refine hk _ _ ?_; clear hk k) | refine wkt rfl ?_ | refine wk0 ?_ | refine rg rfl rfl (fun K hK => ?_) | refine rd [.o 0, .o 1, .o 2, .o 3, .o 4, .o 5, .o 6, .o 7, .o 8] rfl (by decide +kernel) rfl (fun K hK => ?_) | ((first | refine AWP_exit ?_ | refine AWP_skip ?_); simp (disch := decide) only [qs, qb, if_true, if_false, reduceIte]) | refine AWP_sq rfl (fun K hK => ?_) | refine ct rfl ?_ | ((try simp (disch := omega) only [go_sem, Nat.reduceBEq, Nat.reduceAdd]); (first | apply hK | (clear hK; apply hK) | (clear hK; clear hK; apply hK)); clear hK; (try clear K); (try dsimp only [behind, qs, qb])))
            refine ⟨k, ?_, ⟨hle, by omega, ?_⟩, by simp⟩
            · simp (disch := omega) only [go_sem, Nat.reduceBEq, Nat.reduceAdd]
            · rw [List.drop_eq_getElem_cons (by omega), List.drop_eq_getElem_cons (i := k) (by omega : k < ys.length), hd]
              congr 1
              have h1 : k < xs.length := by omega
              have h2 : k < ys.length := by omega
              simp only [List.getD_eq_getElem?_getD, List.getElem?_eq_getElem h1, List.getElem?_eq_getElem h2, Option.getD_some] at hx hy
              omega
  · by_cases hl' : xs.length < ys.length
    · repeat (first | (refine wo rfl (fun k hk => ?_); simp (disch := omega) only [go_sem, Nat.reduceBEq, Nat.reduceAdd]; refine hk _ _ ?_; clear hk k) | refine wkt rfl ?_ | refine wk0 ?_ | refine rg rfl rfl (fun K hK => ?_) | refine rd [.o 0, .o 1, .o 2, .o 3, .o 4, .o 5, .o 6, .o 7, .o 8] rfl (by decide +kernel) rfl (fun K hK => ?_) | ((first | refine AWP_exit ?_ | refine AWP_skip ?_); simp (disch := decide) only [qs, qb, if_true, if_false, reduceIte]) | refine AWP_sq rfl (fun K hK => ?_) | refine ct rfl ?_ | ((try simp (disch := omega) only [go_sem, Nat.reduceBEq, Nat.reduceAdd]); (first | apply hK | (clear hK; apply hK) | (clear hK; clear hK; apply hK)); clear hK; (try clear K); (try dsimp only [behind, qs, qb])))
      refine AWP_ret ?_; simp (disch := omega) only [go_sem, Nat.reduceBEq, Nat.reduceAdd]
      have : m < n := W_len_lt B32 (by rw [hxs, hys]; exact hl')
      simp [cmp3, this]
    · repeat (first | (refine wo rfl (fun k hk => ?_); simp (disch := omega) only [go_sem, Nat.reduceBEq, Nat.reduceAdd]; refine hk _ _ ?_; clear hk k) | refine wkt rfl ?_ | refine wk0 ?_ | refine rg rfl rfl (fun K hK => ?_) | refine rd [.o 0, .o 1, .o 2, .o 3, .o 4, .o 5, .o 6, .o 7, .o 8] rfl (by decide +kernel) rfl (fun K hK => ?_) | ((first | refine AWP_exit ?_ | refine AWP_skip ?_); simp (disch := decide) only [qs, qb, if_true, if_false, reduceIte]) | refine AWP_sq rfl (fun K hK => ?_) | refine ct rfl ?_ | ((try simp (disch := omega) only [go_sem, Nat.reduceBEq, Nat.reduceAdd]); (first | apply hK | (clear hK; apply hK) | (clear hK; clear hK; apply hK)); clear hK; (try clear K); (try dsimp only [behind, qs, qb])))
      refine AWP_ret ?_; simp (disch := omega) only [go_sem, Nat.reduceBEq, Nat.reduceAdd]
      have : n < m := W_len_lt B32 (by rw [hxs, hys]; omega)
      simp [cmp3, this, Nat.not_lt.2 (Nat.le_of_lt this)]
/-- The number of binary digits. -/
def bl (n : Nat) : Nat := if n = 0 then 0 else n.log2 + 1
theorem bl_le {n k : Nat} : bl n ≤ k ↔ n < 2 ^ k := by
  unfold bl
  split
  · rename_i h; subst h; simp [Nat.pow_pos]
  · rename_i h; rw [← Nat.log2_lt h]; omega
theorem bl_div {n k : Nat} (h : 2 ^ k ≤ n) : bl n = bl (n / 2 ^ k) + k := by
  have hp : 0 < 2 ^ k := Nat.pow_pos (by omega)
  apply Nat.le_antisymm
  · rw [bl_le, Nat.pow_add]
    have := bl_le.1 (Nat.le_refl (bl (n / 2 ^ k)))
    rwa [Nat.div_lt_iff_lt_mul hp] at this
  · have h1 := bl_le.1 (Nat.le_refl (bl n))
    have h2 : k < bl n := by
      rcases Nat.lt_or_ge k (bl n) with h' | h'
      · exact h'
      · have := bl_le.1 h'; omega
    have : bl (n / 2 ^ k) ≤ bl n - k := by
      rw [bl_le, Nat.div_lt_iff_lt_mul hp, ← Nat.pow_add, show bl n - k + k = bl n by omega]
      exact h1
    omega
def blTab (s : ByteArray) : Bool := (List.range 256).all fun i => match s[i]? with
  | some b => b.toNat == bl i
  | none => false
theorem iv {k : IntKind} {a b : Int} (h : a = b) : Value.int k a = Value.int k b := by rw [h]
theorem blTab_get {s : ByteArray} (ht : blTab s = true) {j : Nat} (hj : j < 256) {k : UInt8 → Prop} (hk : ∀ b : UInt8, b.toNat = bl j → k b) : ∃ b, s[j]? = some b ∧ k b := by
  have := List.all_eq_true.1 ht j (List.mem_range.2 hj)
  cases hs : s[j]? with
  | none => rw [hs] at this; cases this
  | some b => rw [hs] at this; exact ⟨b, rfl, hk b (by simpa using this)⟩
theorem Len32_spec {h : PH} {n : Nat} (hn : n < 4294967296) : Spec mach 161 #[.int .u32 n] h (fun v _ => v = .int .i64 (bl n)) NP := by
  refine Spec.enter (args := [_]) (n := 19) Tryz.func161 rfl (by kernel_rfl) rfl (by simp) [.tmp 2] rfl (fun C _ => ?_)
  by_cases h1 : n < 65536
  · by_cases h2 : n < 256
    · repeat (first | (refine wo rfl (fun k hk => ?_); simp (disch := omega) only [go_sem, Nat.reduceBEq, Nat.reduceAdd]; refine hk _ _ ?_; clear hk k) | refine wkt rfl ?_ | refine wk0 ?_ | refine rg rfl rfl (fun K hK => ?_) | ((first | refine AWP_exit ?_ | refine AWP_skip ?_); simp (disch := decide) only [qs, qb, if_true, if_false, reduceIte]) | refine AWP_sq rfl (fun K hK => ?_) | refine ct rfl ?_ | ((try simp (disch := omega) only [go_sem, Nat.reduceBEq, Nat.reduceAdd]); (first | apply hK | (clear hK; apply hK) | (clear hK; clear hK; apply hK)); clear hK; (try clear K); (try dsimp only [behind, qs, qb])))
      refine wo rfl (fun k hk => ?_); simp (disch := omega) only [go_sem, Nat.reduceBEq, Nat.reduceAdd]
      refine blTab_get (by kernel_rfl) h2 (fun b hb => ?_)
      rw [hb]
      have := bl_le.2 (show n < 2 ^ 8 by omega)
      refine hk _ _ ?_; clear hk k
      (repeat (first | (refine wo rfl (fun k hk => ?_); simp (disch := omega) only [go_sem, Nat.reduceBEq, Nat.reduceAdd]; refine hk _ _ ?_; clear hk k) | refine wkt rfl ?_)); (try refine wk0 ?_)
      (try (simp (disch := omega) only [go_sem, Nat.reduceBEq, Nat.reduceAdd])); refine hK _ _ ?_; clear hK; (try clear K); (try dsimp only [behind, qs])
      refine AWP_ret ?_; simp (disch := omega) only [go_sem, Nat.reduceBEq, Nat.reduceAdd]
      try (refine iv ?_; omega)
    · repeat (first | (refine wo rfl (fun k hk => ?_); simp (disch := omega) only [go_sem, Nat.reduceBEq, Nat.reduceAdd]; refine hk _ _ ?_; clear hk k) | refine wkt rfl ?_ | refine wk0 ?_ | refine rg rfl rfl (fun K hK => ?_) | ((first | refine AWP_exit ?_ | refine AWP_skip ?_); simp (disch := decide) only [qs, qb, if_true, if_false, reduceIte]) | refine AWP_sq rfl (fun K hK => ?_) | refine ct rfl ?_ | ((try simp (disch := omega) only [go_sem, Nat.reduceBEq, Nat.reduceAdd]); (first | apply hK | (clear hK; apply hK) | (clear hK; clear hK; apply hK)); clear hK; (try clear K); (try dsimp only [behind, qs, qb])))
      refine wo rfl (fun k hk => ?_); simp (disch := omega) only [go_sem, Nat.reduceBEq, Nat.reduceAdd]
      refine blTab_get (by kernel_rfl) (show n / 256 < 256 by omega) (fun b hb => ?_)
      rw [hb]
      have := bl_le.2 (show n / 256 < 2 ^ 8 by omega)
      refine hk _ _ ?_; clear hk k
      (repeat (first | (refine wo rfl (fun k hk => ?_); simp (disch := omega) only [go_sem, Nat.reduceBEq, Nat.reduceAdd]; refine hk _ _ ?_; clear hk k) | refine wkt rfl ?_)); (try refine wk0 ?_)
      (try (simp (disch := omega) only [go_sem, Nat.reduceBEq, Nat.reduceAdd])); refine hK _ _ ?_; clear hK; (try clear K); (try dsimp only [behind, qs])
      refine AWP_ret ?_; simp (disch := omega) only [go_sem, Nat.reduceBEq, Nat.reduceAdd]
      have := bl_div (show 2 ^ 8 ≤ n by omega)
      simp only [Nat.reducePow] at this
      try (refine iv ?_; omega)
  · by_cases h2 : n / 65536 < 256
    · repeat (first | (refine wo rfl (fun k hk => ?_); simp (disch := omega) only [go_sem, Nat.reduceBEq, Nat.reduceAdd]; refine hk _ _ ?_; clear hk k) | refine wkt rfl ?_ | refine wk0 ?_ | refine rg rfl rfl (fun K hK => ?_) | ((first | refine AWP_exit ?_ | refine AWP_skip ?_); simp (disch := decide) only [qs, qb, if_true, if_false, reduceIte]) | refine AWP_sq rfl (fun K hK => ?_) | refine ct rfl ?_ | ((try simp (disch := omega) only [go_sem, Nat.reduceBEq, Nat.reduceAdd]); (first | apply hK | (clear hK; apply hK) | (clear hK; clear hK; apply hK)); clear hK; (try clear K); (try dsimp only [behind, qs, qb])))
      refine wo rfl (fun k hk => ?_); simp (disch := omega) only [go_sem, Nat.reduceBEq, Nat.reduceAdd]
      refine blTab_get (by kernel_rfl) h2 (fun b hb => ?_)
      rw [hb]
      have := bl_le.2 (show n / 65536 < 2 ^ 8 by omega)
      refine hk _ _ ?_; clear hk k
      (repeat (first | (refine wo rfl (fun k hk => ?_); simp (disch := omega) only [go_sem, Nat.reduceBEq, Nat.reduceAdd]; refine hk _ _ ?_; clear hk k) | refine wkt rfl ?_)); (try refine wk0 ?_)
      (try (simp (disch := omega) only [go_sem, Nat.reduceBEq, Nat.reduceAdd])); refine hK _ _ ?_; clear hK; (try clear K); (try dsimp only [behind, qs])
      refine AWP_ret ?_; simp (disch := omega) only [go_sem, Nat.reduceBEq, Nat.reduceAdd]
      have := bl_div (show 2 ^ 16 ≤ n by omega)
      simp only [Nat.reducePow] at this
      try (refine iv ?_; omega)
    · repeat (first | (refine wo rfl (fun k hk => ?_); simp (disch := omega) only [go_sem, Nat.reduceBEq, Nat.reduceAdd]; refine hk _ _ ?_; clear hk k) | refine wkt rfl ?_ | refine wk0 ?_ | refine rg rfl rfl (fun K hK => ?_) | ((first | refine AWP_exit ?_ | refine AWP_skip ?_); simp (disch := decide) only [qs, qb, if_true, if_false, reduceIte]) | refine AWP_sq rfl (fun K hK => ?_) | refine ct rfl ?_ | ((try simp (disch := omega) only [go_sem, Nat.reduceBEq, Nat.reduceAdd]); (first | apply hK | (clear hK; apply hK) | (clear hK; clear hK; apply hK)); clear hK; (try clear K); (try dsimp only [behind, qs, qb])))
      refine wo rfl (fun k hk => ?_); simp (disch := omega) only [go_sem, Nat.reduceBEq, Nat.reduceAdd]
      refine blTab_get (by kernel_rfl) (show n / 65536 / 256 < 256 by omega) (fun b hb => ?_)
      rw [hb]
      have := bl_le.2 (show n / 65536 / 256 < 2 ^ 8 by omega)
      refine hk _ _ ?_; clear hk k
      (repeat (first | (refine wo rfl (fun k hk => ?_); simp (disch := omega) only [go_sem, Nat.reduceBEq, Nat.reduceAdd]; refine hk _ _ ?_; clear hk k) | refine wkt rfl ?_)); (try refine wk0 ?_)
      (try (simp (disch := omega) only [go_sem, Nat.reduceBEq, Nat.reduceAdd])); refine hK _ _ ?_; clear hK; (try clear K); (try dsimp only [behind, qs])
      refine AWP_ret ?_; simp (disch := omega) only [go_sem, Nat.reduceBEq, Nat.reduceAdd]
      have h3 := bl_div (show 2 ^ 16 ≤ n by omega)
      have h4 := bl_div (show 2 ^ 8 ≤ n / 2 ^ 16 by omega)
      simp only [Nat.reducePow] at h3 h4
      try (refine iv ?_; omega)
theorem W_getD {B : Nat} (hB : 2 ≤ B) (n i : Nat) : (W B n).getD i 0 = n / B ^ i % B := by
  induction i generalizing n with
  | zero =>
    by_cases hn : n = 0
    · subst hn; rw [W_zero]; simp
    · rw [W_pos hB hn]; simp
  | succ i ih =>
    by_cases hn : n = 0
    · subst hn; rw [W_zero]; simp
    · rw [W_pos hB hn, List.getD_cons_succ, ih, Nat.div_div_eq_div_mul, Nat.pow_succ, Nat.mul_comm B]
theorem W_len_pos {B : Nat} (hB : 2 ≤ B) {n : Nat} (hn : n ≠ 0) : 0 < (W B n).length := by
  have := W_len0 hB (n := n); omega
/-- The greatest digit. -/
theorem W_top {B : Nat} (hB : 2 ≤ B) {n : Nat} (hn : n ≠ 0) : (W B n).getD ((W B n).length - 1) 0 = n / B ^ ((W B n).length - 1) ∧ B ^ ((W B n).length - 1) ≤ n ∧ n / B ^ ((W B n).length - 1) < B := by
  have hp := W_len_pos hB hn
  have h1 : B ^ ((W B n).length - 1) ≤ n := by
    rcases Nat.lt_or_ge n (B ^ ((W B n).length - 1)) with h | h
    · have := W_length_le hB h; omega
    · exact h
  have h2 : n / B ^ ((W B n).length - 1) < B := by
    rw [Nat.div_lt_iff_lt_mul (Nat.pow_pos (by omega)), Nat.mul_comm, ← Nat.pow_succ, Nat.succ_eq_add_one, show (W B n).length - 1 + 1 = (W B n).length by omega]
    exact lt_W_length hB n
  exact ⟨by rw [W_getD hB, Nat.mod_eq_of_lt h2], h1, h2⟩
theorem B_pow (k : Nat) : 2 ^ (32 * k) = 4294967296 ^ k := by
  rw [Nat.pow_mul, show (2 : Nat) ^ 32 = 4294967296 from by decide]
theorem Bits_spec {h0 h : PH} [Le h0 h] {v : Value} {n : Nat} (hv : N32 h0 v n) : Spec mach 152 #[v] h (fun v _ => v = .int .i64 (bl n)) NP := by
  obtain ⟨a, c, rfl, ha⟩ := hv
  have hs := ha.small
  have hc := ha.cap
  refine Spec.enter (args := [_]) (n := 18) Tryz.func152 rfl (by kernel_rfl) rfl (by simp) [.tmp 2] rfl (fun C _ => ?_)
  have hl := W_len0 B32 (n := n)
  by_cases hn : n = 0
  · repeat (first | (refine wo rfl (fun k hk => ?_); simp (disch := omega) only [go_sem, Nat.reduceBEq, Nat.reduceAdd]; refine hk _ _ ?_; clear hk k) | refine wkt rfl ?_ | refine wk0 ?_ | refine rg rfl rfl (fun K hK => ?_) | ((first | refine AWP_exit ?_ | refine AWP_skip ?_); simp (disch := decide) only [qs, qb, if_true, if_false, reduceIte]) | refine AWP_sq rfl (fun K hK => ?_) | refine ct rfl ?_ | ((try simp (disch := omega) only [go_sem, Nat.reduceBEq, Nat.reduceAdd]); (first | apply hK | (clear hK; apply hK) | (clear hK; clear hK; apply hK)); clear hK; (try clear K); (try dsimp only [behind, qs, qb])))
    refine AWP_ret ?_; simp (disch := omega) only [go_sem, Nat.reduceBEq, Nat.reduceAdd]
    subst hn; rfl
  · have hp := W_len_pos B32 hn
    obtain ⟨h1, h2, h3⟩ := W_top B32 hn
    obtain ⟨ad, rfl, hat⟩ := ha.rd h (i := (W 4294967296 n).length - 1) (by omega)
    rw [h1] at hat
    repeat (first | (refine rg rfl rfl (fun K hK => ?_); (repeat (first | (refine wo rfl (fun k hk => ?_); simp (disch := omega) only [go_sem, Nat.reduceBEq, Nat.reduceAdd]; refine hk _ _ ?_; clear hk k) | refine wkt rfl ?_)); (try refine wk0 ?_); refine hK _ _ ?_; clear hK K; (try dsimp only [behind, qs, qb])) | ((first | refine AWP_exit ?_ | refine AWP_skip ?_); simp (disch := decide) only [qs, qb, if_true, if_false, reduceIte]) | refine AWP_sq rfl (fun K hK => ?_) | refine ct rfl ?_ | ((first | refine hK _ _ ?_ | (clear hK; refine hK _ _ ?_) | (clear hK; clear hK; refine hK _ _ ?_)); clear hK; (try clear K)))
    refine rg rfl rfl (fun K hK => ?_); (repeat (first | (refine wo rfl (fun k hk => ?_); simp (disch := omega) only [go_sem, Nat.reduceBEq, Nat.reduceAdd, hat]; refine hk _ _ ?_; clear hk k) | refine wkt rfl ?_)); (try refine wk0 ?_)
    refine cN rfl rfl rfl rfl (by exact Len32_spec h3) ?_; rintro v h4 s4 rfl; (repeat (first | (refine wo rfl (fun k hk => ?_); simp (disch := omega) only [go_sem, Nat.reduceBEq, Nat.reduceAdd]; refine hk _ _ ?_; clear hk k) | refine wkt rfl ?_)); (try refine wk0 ?_)
    have h5 := (bl_le (k := 32)).2 h3
    (repeat (first | (refine wo rfl (fun k hk => ?_); simp (disch := omega) only [go_sem, Nat.reduceBEq, Nat.reduceAdd]; refine hk _ _ ?_; clear hk k) | refine wkt rfl ?_)); (try refine wk0 ?_)
    (try (simp (disch := omega) only [go_sem, Nat.reduceBEq, Nat.reduceAdd])); refine hK _ _ ?_; clear hK; (try clear K); (try dsimp only [behind, qs])
    refine AWP_ret ?_; simp (disch := omega) only [go_sem, Nat.reduceBEq, Nat.reduceAdd]
    refine iv ?_
    have h6 := bl_div (n := n) (k := 32 * ((W 4294967296 n).length - 1)) (by rw [B_pow]; exact h2)
    rw [h6, B_pow]
    omega
theorem LeadingZeros32_spec {h : PH} {n : Nat} (hn : n < 4294967296) : Spec mach 155 #[.int .u32 n] h (fun v _ => v = .int .i64 (32 - bl n : Nat)) NP := by
  refine Spec.enter (args := [_]) (n := 6) Tryz.func155 rfl (by kernel_rfl) rfl (by simp) [.tmp 2] rfl (fun C _ => ?_)
  have h5 := (bl_le (k := 32)).2 hn
  refine AWP_rs rfl (fun K hK => ?_); (repeat (first | (refine wo rfl (fun k hk => ?_); simp (disch := omega) only [go_sem, Nat.reduceBEq, Nat.reduceAdd]; refine hk _ _ ?_; clear hk k) | refine wkt rfl ?_)); (try refine wk0 ?_); (first | refine hK _ _ ?_ | (clear hK; refine hK _ _ ?_) | (clear hK; clear hK; refine hK _ _ ?_)); clear hK; (try clear K)
  refine rg rfl rfl (fun K hK => ?_); (repeat (first | (refine wo rfl (fun k hk => ?_); simp (disch := omega) only [go_sem, Nat.reduceBEq, Nat.reduceAdd]; refine hk _ _ ?_; clear hk k) | refine wkt rfl ?_)); (try refine wk0 ?_)
  refine cN rfl rfl rfl rfl (by exact Len32_spec hn) ?_; rintro v h4 s4 rfl; (repeat (first | (refine wo rfl (fun k hk => ?_); simp (disch := omega) only [go_sem, Nat.reduceBEq, Nat.reduceAdd]; refine hk _ _ ?_; clear hk k) | refine wkt rfl ?_)); (try refine wk0 ?_)
  (repeat (first | (refine wo rfl (fun k hk => ?_); simp (disch := omega) only [go_sem, Nat.reduceBEq, Nat.reduceAdd]; refine hk _ _ ?_; clear hk k) | refine wkt rfl ?_)); (try refine wk0 ?_)
  (try (simp (disch := omega) only [go_sem, Nat.reduceBEq, Nat.reduceAdd])); refine hK _ _ ?_; clear hK; (try clear K); (try dsimp only [behind, qs])
  refine AWP_ret ?_; simp (disch := omega) only [go_sem, Nat.reduceBEq, Nat.reduceAdd]
  try (try (refine iv ?_; omega))
end Go.Q
namespace Go.Q
open Go.Proofs
set_option maxRecDepth 100000
/-- The exponent of 2 in a number. -/
def tw (n : Nat) : Nat := if h : n = 0 ∨ n % 2 = 1 then 0 else tw (n / 2) + 1
termination_by n
decreasing_by omega
theorem tw_spec (n : Nat) (h : n ≠ 0) : ∃ m, n = 2 ^ tw n * (2 * m + 1) := by
  induction n using Nat.strongRecOn with
  | _ n ih =>
    by_cases h1 : n % 2 = 1
    · refine ⟨n / 2, ?_⟩
      rw [tw, dif_pos (.inr h1)]; simp; omega
    · obtain ⟨m, hm⟩ := ih (n / 2) (by omega) (by omega)
      refine ⟨m, ?_⟩
      rw [tw, dif_neg (by omega), Nat.pow_succ, Nat.mul_right_comm, ← hm]; omega
theorem tw_of (t m : Nat) : tw (2 ^ t * (2 * m + 1)) = t := by
  induction t with
  | zero => rw [tw, dif_pos (.inr (by omega))]
  | succ t ih =>
    have hp : 0 < 2 ^ t * (2 * m + 1) := Nat.mul_pos (Nat.pow_pos (by omega)) (by omega)
    have h1 : 2 ^ (t + 1) * (2 * m + 1) = 2 * (2 ^ t * (2 * m + 1)) := by rw [Nat.pow_succ, Nat.mul_comm (2 ^ t) 2, Nat.mul_assoc]
    rw [h1, tw, dif_neg (by omega), show 2 * (2 ^ t * (2 * m + 1)) / 2 = 2 ^ t * (2 * m + 1) by omega, ih]
theorem and_tw {n : Nat} (h : n ≠ 0) (hn : n < 2 ^ 32) : n &&& (2 ^ 32 - n) = 2 ^ tw n := by
  obtain ⟨m, hm⟩ := tw_spec n h
  generalize tw n = t at hm
  have hp : 0 < 2 ^ t := Nat.pow_pos (by omega)
  apply Nat.eq_of_testBit_eq
  intro i
  have e1 : 2 ^ 32 - n = 2 ^ 32 - ((n - 1) + 1) := by omega
  have h1 : n = 2 ^ t * (2 * m + 1) + 0 := hm
  have h2 : n - 1 = 2 ^ t * (2 * m) + (2 ^ t - 1) := by rw [hm, Nat.mul_add, Nat.mul_one]; omega
  have ht : t < 32 := by
    rcases Nat.lt_or_ge t 32 with h | h
    · exact h
    · have := Nat.pow_le_pow_right (show 0 < 2 by omega) h
      have : 2 ^ t * 1 ≤ 2 ^ t * (2 * m + 1) := Nat.mul_le_mul_left _ (by omega)
      omega
  rw [Nat.testBit_and, e1, Nat.testBit_two_pow_sub_succ (by omega), Nat.testBit_two_pow, h2]
  conv => lhs; rw [h1]
  rw [Nat.testBit_two_pow_mul_add _ hp, Nat.testBit_two_pow_mul_add _ (by omega)]
  by_cases hi : i < t
  · simp [hi]; omega
  · rw [if_neg hi, if_neg hi]
    by_cases hit : i = t
    · subst hit; simp [ht]
    · obtain ⟨k, hk⟩ : ∃ k, i - t = k + 1 := ⟨i - t - 1, by omega⟩
      rw [hk, Nat.testBit_succ, Nat.testBit_succ, show (2 * m + 1) / 2 = m by omega, show 2 * m / 2 = m by omega]
      have : ¬ t = i := fun e => hit e.symm
      simp [this]
      intro a b; simp [a]
theorem tw_tab : ∀ t : Nat, t < 32 → 2 ^ t * 125613361 % 4294967296 / 134217728 < 32 ∧ debruijn[2 ^ t * 125613361 % 4294967296 / 134217728]? = some (t : Int) := by decide +kernel
def hide (a b : Nat) : Nat := a * b
theorem tw_tab' {t : Nat} (ht : t < 32) : hide (2 ^ t) 125613361 % 4294967296 / 134217728 < 32 ∧ tabCells[hide (2 ^ t) 125613361 % 4294967296 / 134217728]? = some (.int .u8 t) := by
  unfold hide
  refine ⟨(tw_tab t ht).1, ?_⟩
  simp [tabCells, (tw_tab t ht).2]
theorem hide_eq (a : Nat) : ((a : Nat) : Int) * 125613361 = ((hide a 125613361 : Nat) : Int) := by unfold hide; omega
theorem mach_gl : mach.gl = fun b => if b = 0 then some tabCells else none := rfl
theorem tab_at {i : Nat} {v : Value} (h : tabCells[i]? = some v) : mach.gl.at ⟨0, i, none⟩ = some v := by
  unfold PH.at
  rw [mach_gl]
  simp [h]
theorem tw_lt {n : Nat} (h0 : n ≠ 0) (hn : n < 4294967296) : tw n < 32 := by
  obtain ⟨m, hm⟩ := tw_spec n h0
  rcases Nat.lt_or_ge (tw n) 32 with h | h
  · exact h
  · have := Nat.pow_le_pow_right (show 0 < 2 by omega) h
    have : 2 ^ tw n * 1 ≤ 2 ^ tw n * (2 * m + 1) := Nat.mul_le_mul_left _ (by omega)
    omega
theorem neg_u32 {n : Nat} (h0 : n ≠ 0) (hn : n < 4294967296) : IntKind.u32.wrap (0 - (n : Int)) = ((4294967296 - n : Nat) : Int) := by rw [IntKind.wrap_u32]; omega
theorem and_tw' {n : Nat} (h0 : n ≠ 0) (hn : n < 4294967296) : n &&& (4294967296 - n) = 2 ^ tw n := and_tw h0 hn
theorem TrailingZeros32_spec {h : PH} {n : Nat} (h0 : n ≠ 0) (hn : n < 4294967296) : Spec mach 160 #[.int .u32 n] h (fun v _ => v = .int .i64 (tw n)) NP := by
  obtain ⟨d, hd1, hd2, hd3⟩ : ∃ d : Nat, ((2 ^ tw n : Nat) : Int) * 125613361 = (d : Int) ∧ d % 4294967296 / 134217728 < 32 ∧ tabCells[d % 4294967296 / 134217728]? = some (.int .u8 (tw n)) := ⟨_, hide_eq _, tw_tab' (tw_lt h0 hn)⟩
  refine Spec.enter (args := [_]) (n := 14) Tryz.func160 rfl (by kernel_rfl) rfl (by simp) [.tmp 2] rfl (fun C _ => ?_)
  repeat (first | (refine rg rfl rfl (fun K hK => ?_); (repeat (first | (refine wo rfl (fun k hk => ?_); simp (disch := omega) only [go_sem, Nat.reduceBEq, Nat.reduceAdd]; refine hk _ _ ?_; clear hk k) | refine wkt rfl ?_)); (try refine wk0 ?_); refine hK _ _ ?_; clear hK K; (try dsimp only [behind, qs, qb])) | ((first | refine AWP_exit ?_ | refine AWP_skip ?_); simp (disch := decide) only [qs, qb, if_true, if_false, reduceIte]) | refine AWP_sq rfl (fun K hK => ?_) | refine ct rfl ?_ | ((first | refine hK _ _ ?_ | (clear hK; refine hK _ _ ?_) | (clear hK; clear hK; refine hK _ _ ?_)); clear hK; (try clear K)))
  refine AWP_gl fun hgl => ?_
  have e6 := hgl.at (tab_at hd3)
  have ht := tw_lt h0 hn
  refine rg rfl rfl (fun K hK => ?_); (repeat (first | (refine wo rfl (fun k hk => ?_); simp (disch := omega) only [go_sem, Nat.reduceBEq, Nat.reduceAdd, neg_u32, and_tw', hd1, e6]; refine hk _ _ ?_; clear hk k) | refine wkt rfl ?_)); (try refine wk0 ?_)
  (try (simp (disch := omega) only [go_sem, Nat.reduceBEq, Nat.reduceAdd])); refine hK _ _ ?_; clear hK; (try clear K); (try dsimp only [behind, qs])
  refine AWP_ret ?_; simp (disch := omega) only [go_sem, Nat.reduceBEq, Nat.reduceAdd]
theorem val_zero_take {B : Nat} {xs : List Nat} : ∀ {k : Nat}, (∀ i, i < k → xs.getD i 0 = 0) → val B (xs.take k) = 0 := by
  intro k
  induction k with
  | zero => intro _; simp [val]
  | succ k ih => intro hz; rw [val_take_succ', ih (fun i hi => hz i (by omega)), hz k (by omega)]; simp
theorem tw_digit {xs : List Nat} {k x : Nat} (hk : k < xs.length) (hz : ∀ i, i < k → xs.getD i 0 = 0) (hx : xs.getD k 0 = x) (h0 : x ≠ 0) (hlt : x < 4294967296) : tw (val 4294967296 xs) = 32 * k + tw x := by
  obtain ⟨m, hm⟩ := tw_spec x h0
  have ht := tw_lt h0 hlt
  rw [val_split xs hk, val_zero_take hz, hx, ← B_pow, Nat.zero_add]
  have h32 : 4294967296 = 2 ^ tw x * (2 * 2 ^ (31 - tw x)) := by
    rw [show 4294967296 = 2 ^ 32 from rfl]
    rw [← Nat.mul_assoc, Nat.mul_comm _ 2, ← Nat.pow_add_one', ← Nat.pow_add]; congr 1; omega
  generalize val 4294967296 (xs.drop (k + 1)) = r
  have : x + 4294967296 * r = 2 ^ tw x * (2 * (m + 2 ^ (31 - tw x) * r) + 1) := by
    conv => lhs; rw [hm, h32]
    rw [Nat.mul_assoc, ← Nat.mul_add]
    congr 1
    rw [Nat.mul_add, Nat.mul_assoc]; omega
  rw [this, ← Nat.mul_assoc, ← Nat.pow_add, tw_of]
theorem Twos_spec {h0 h : PH} [Le h0 h] {v : Value} {n : Nat} (hv : N32 h0 v n) : Spec mach 150 #[v] h (fun v _ => v = .int .i64 (tw n)) NP := by
  obtain ⟨a, c, xs, rfl, ha, hxs, hm⟩ := hv.out
  have hs := ha.small
  have hc := ha.cap
  refine Spec.enter (args := [_]) (n := 20) Tryz.func150 rfl (by kernel_rfl) rfl (by simp) [.tmp 2] rfl (fun C _ => ?_)
  repeat (first | (refine wo rfl (fun k hk => ?_); simp (disch := omega) only [go_sem, Nat.reduceBEq, Nat.reduceAdd]; refine hk _ _ ?_; clear hk k) | refine wkt rfl ?_ | refine wk0 ?_ | refine rg rfl rfl (fun K hK => ?_) | ((first | refine AWP_exit ?_ | refine AWP_skip ?_); simp (disch := decide) only [qs, qb, if_true, if_false, reduceIte]) | refine AWP_sq rfl (fun K hK => ?_) | refine ct rfl ?_ | ((try simp (disch := omega) only [go_sem, Nat.reduceBEq, Nat.reduceAdd]); (first | apply hK | (clear hK; apply hK) | (clear hK; clear hK; apply hK)); clear hK; (try clear K); (try dsimp only [behind, qs, qb])))
  refine AWP_loop (fun k : Nat => ⟨[(2, .v (.int .i64 0)), (5, .v (.slice a xs.length c)), (6, .v (.int .i64 xs.length)), (7, .v (.int .i64 k))], []⟩) (fun k h' => Le h0 h' ∧ k ≤ xs.length ∧ ∀ i, i < k → xs.getD i 0 = 0) (fun k => xs.length - k) 0 ?_ ⟨inferInstance, by omega, by omega⟩ ?_
  · simp (disch := omega) only [go_sem, Nat.reduceBEq, Nat.reduceAdd]
  · rintro k h1 ⟨hle, hk, hz⟩
    by_cases hkl : k < xs.length
    · obtain ⟨ad, rfl, hat⟩ := ha.rd h1 (i := k) (by omega)
      have hlt := getD_lt (by decide) ha.lt k
      by_cases hx : xs.getD k 0 = 0
      · repeat (first | (refine wo rfl (fun k hk => ?_); simp (disch := omega) only [go_sem, Nat.reduceBEq, Nat.reduceAdd, hat]; refine hk _ _ ?_; clear hk k) | refine wkt rfl ?_ | refine wk0 ?_ | refine rg rfl rfl (fun K hK => ?_) | ((first | refine AWP_exit ?_ | refine AWP_skip ?_); simp (disch := decide) only [qs, qb, if_true, if_false, reduceIte]) | refine AWP_sq rfl (fun K hK => ?_) | refine ct rfl ?_ | ((try simp (disch := omega) only [go_sem, Nat.reduceBEq, Nat.reduceAdd]); (first | apply hK | (clear hK; apply hK) | (clear hK; clear hK; apply hK)); clear hK; (try clear K); (try dsimp only [behind, qs, qb])))
        refine ⟨k + 1, ?_, ⟨hle, by omega, fun i hi => ?_⟩, by omega⟩
        · simp (disch := omega) only [go_sem, Nat.reduceBEq, Nat.reduceAdd]
        · rcases Nat.lt_or_ge i k with h | h
          · exact hz i h
          · rw [show i = k by omega]; exact hx
      · have ht := tw_lt hx hlt
        repeat (first | (refine wo rfl (fun k hk => ?_); simp (disch := omega) only [go_sem, Nat.reduceBEq, Nat.reduceAdd, hat]; refine hk _ _ ?_; clear hk k) | refine wkt rfl ?_ | refine wk0 ?_ | refine rg rfl rfl (fun K hK => ?_) | ((first | refine AWP_exit ?_ | refine AWP_skip ?_); simp (disch := decide) only [qs, qb, if_true, if_false, reduceIte]) | refine AWP_sq rfl (fun K hK => ?_) | refine ct rfl ?_ | ((try simp (disch := omega) only [go_sem, Nat.reduceBEq, Nat.reduceAdd]); (first | apply hK | (clear hK; apply hK) | (clear hK; clear hK; apply hK)); clear hK; (try clear K); (try dsimp only [behind, qs, qb])))
        refine cN rfl rfl rfl rfl (by exact TrailingZeros32_spec hx hlt) ?_; rintro v h4 s4 rfl; (repeat (first | (refine wo rfl (fun k hk => ?_); simp (disch := omega) only [go_sem, Nat.reduceBEq, Nat.reduceAdd]; refine hk _ _ ?_; clear hk k) | refine wkt rfl ?_)); (try refine wk0 ?_)
        (repeat (first | (refine wo rfl (fun k hk => ?_); simp (disch := omega) only [go_sem, Nat.reduceBEq, Nat.reduceAdd]; refine hk _ _ ?_; clear hk k) | refine wkt rfl ?_)); (try refine wk0 ?_)
        (try (simp (disch := omega) only [go_sem, Nat.reduceBEq, Nat.reduceAdd])); refine hK _ _ ?_; clear hK; (try clear K); (try dsimp only [behind, qs])
        refine AWP_ret ?_; simp (disch := omega) only [go_sem, Nat.reduceBEq, Nat.reduceAdd]
        refine iv ?_
        rw [← hm, tw_digit hkl hz rfl hx hlt]
    · repeat (first | (refine wo rfl (fun k hk => ?_); simp (disch := omega) only [go_sem, Nat.reduceBEq, Nat.reduceAdd]; refine hk _ _ ?_; clear hk k) | refine wkt rfl ?_ | refine wk0 ?_ | refine rg rfl rfl (fun K hK => ?_) | ((first | refine AWP_exit ?_ | refine AWP_skip ?_); simp (disch := decide) only [qs, qb, if_true, if_false, reduceIte]) | refine AWP_sq rfl (fun K hK => ?_) | refine ct rfl ?_ | ((try simp (disch := omega) only [go_sem, Nat.reduceBEq, Nat.reduceAdd]); (first | apply hK | (clear hK; apply hK) | (clear hK; clear hK; apply hK)); clear hK; (try clear K); (try dsimp only [behind, qs, qb])))
      refine AWP_ret ?_; simp (disch := omega) only [go_sem, Nat.reduceBEq, Nat.reduceAdd]
      have : n = 0 := by rw [← hm, ← List.take_of_length_le (i := k) (l := xs) (by omega)]; exact val_zero_take hz
      subst this
      rw [tw, dif_pos (.inl rfl)]; rfl
end Go.Q
namespace Go.Q
open Go.Proofs
set_option maxRecDepth 100000
/-! ### Rows that are written word by word -/
@[go_sem] theorem spl_uw (rs : List Nat) (k d : Nat) : spl (uw rs) k [.int .u32 (d : Nat)] = uw (rs.set k d) := by simp [spl, uw_set]
@[go_sem] theorem ldb_uw {rs : List Nat} {k : Nat} (hk : k < rs.length) : ldb none (uw rs) k = some (.int .u32 (rs.getD k 0 : Nat)) := by simp only [ldb, uw_get hk]
@[go_sem] theorem uw_all (rs : List Nat) : (uw rs).all Value.oneCell' = true := uw_one rs
@[go_sem] theorem uw_ne (rs : List Nat) : uw rs ≠ [] ↔ rs ≠ [] := by simp [uw]
attribute [go_sem] uw_zeros uw_set List.length_set List.length_replicate
theorem val_set_take {B : Nat} {rs : List Nat} {k d : Nat} (hk : k < rs.length) : val B ((rs.set k d).take (k + 1)) = val B (rs.take k) + B ^ k * d := by
  rw [val_take_succ']
  congr 2
  · rw [List.take_set_of_le (Nat.le_refl k)]
  · simp [hk]
theorem lt_set {B : Nat} {rs : List Nat} {k d : Nat} (h : ∀ x ∈ rs, x < B) (hd : d < B) : ∀ x ∈ rs.set k d, x < B := fun x hx => by
  rcases List.mem_or_eq_of_mem_set hx with h1 | rfl
  · exact h x h1
  · exact hd
theorem lt_zeros {B k : Nat} (hB : 0 < B) : ∀ x ∈ List.replicate k 0, x < B := fun x hx => by rw [(List.mem_replicate.1 hx).2]; exact hB
/-- A digit and what is carried. -/
theorem dm (P B s : Nat) : P * (s % B) + P * B * (s / B) = P * s := by
  rw [Nat.mul_assoc, ← Nat.mul_add, Nat.mod_add_div]
@[go_sem] theorem bltT {a b : Nat} (h : a < b) : Nat.blt a b = true := by rw [Nat.blt_eq]; exact h
attribute [go_sem] or_true
theorem add_step {P B V c X Y x y s : Nat} (hs : s = x + c + y) (hi : V + P * c = X + Y) : V + P * (s % B) + P * B * (s / B) = X + P * x + (Y + P * y) := by
  have h1 := dm P B s
  have e : P * s = P * x + P * c + P * y := by rw [hs, Nat.mul_add, Nat.mul_add]
  omega
theorem len_le_bl (n : Nat) : (W 4294967296 n).length ≤ bl n :=
  W_length_le (by decide) (Nat.lt_of_lt_of_le (bl_le.1 (Nat.le_refl _)) (Nat.pow_le_pow_left (by decide) _))
theorem Of_L {h0 h : PH} [Le h0 h] {a : Option Addr} {c L : Nat} {xs : List Nat} (ha : Arr h0 a c xs) (hl : xs.length = L) :
    Spec mach 116 #[.slice a L c] h (fun v h' => N32 h' v (val 4294967296 xs)) NP := by subst hl; exact Of_N ha
theorem Add_spec {h0 h : PH} [Le h0 h] {v w : Value} {m n : Nat} (hv : N32 h0 v m) (hw : N32 h0 w n) (bm : bl m ≤ 2 ^ 40) (bn : bl n ≤ 2 ^ 40) : Spec mach 121 #[v, w] h (fun v h' => N32 h' v (m + n)) NP := by
  obtain ⟨a, c, xs, rfl, ha, hxs, hm⟩ := hv.out
  obtain ⟨a', c', ys, rfl, ha', hys, hn⟩ := hw.out
  have hs : xs.length ≤ 2 ^ 40 := by have := len_le_bl m; rw [hxs] at this; omega
  have hs' : ys.length ≤ 2 ^ 40 := by have := len_le_bl n; rw [hys] at this; omega
  refine Spec.enter (args := [_, _]) (n := 59) Tryz.func121 rfl (by kernel_rfl) rfl (by simp) [.tmp 4] rfl (fun C _ => ?_)
  repeat (first | (refine rg rfl rfl (fun K hK => ?_); (repeat (first | (refine wo rfl (fun k hk => ?_); simp (disch := omega) only [go_sem, Nat.reduceBEq, Nat.reduceAdd]; refine hk _ _ ?_; clear hk k) | refine wkt rfl ?_)); (try refine wk0 ?_); refine hK _ _ ?_; clear hK K; (try dsimp only [behind, qs, qb])) | ((first | refine AWP_exit ?_ | refine AWP_skip ?_); simp (disch := decide) only [qs, qb, if_true, if_false, reduceIte]) | refine AWP_sq rfl (fun K hK => ?_) | refine ct rfl ?_ | ((first | refine hK _ _ ?_ | (clear hK; refine hK _ _ ?_) | (clear hK; clear hK; refine hK _ _ ?_)); clear hK; (try clear K)))
  have rest : ∀ (a a' : Option Addr) (c c' : Nat) (xs ys : List Nat) (S : AS), Arr h0 a c xs → Arr h0 a' c' ys → ys.length ≤ xs.length → xs.length ≤ 2 ^ 40 → val 4294967296 xs + val 4294967296 ys = m + n →
      S.le ⟨[(0, .v (.slice a xs.length c)), (1, .v (.slice a' ys.length c'))], []⟩ → K S h := by
    intro a a' c c' xs ys S ha ha' hl hs hv hS
    refine hK _ _ (AWP_le _ hS ?_); clear hK K
    repeat (first | (refine wo rfl (fun k hk => ?_); simp (disch := omega) only [go_sem, Nat.reduceBEq, Nat.reduceAdd]; refine hk _ _ ?_; clear hk k) | refine wkt rfl ?_ | refine wk0 ?_ | refine rg rfl rfl (fun K hK => ?_) | ((first | refine AWP_exit ?_ | refine AWP_skip ?_); simp (disch := decide) only [qs, qb, if_true, if_false, reduceIte]) | refine AWP_sq rfl (fun K hK => ?_) | refine ct rfl ?_ | ((try simp (disch := omega) only [go_sem, Nat.reduceBEq, Nat.reduceAdd]); (first | apply hK | (clear hK; apply hK) | (clear hK; clear hK; apply hK)); clear hK; (try clear K); (try dsimp only [behind, qs, qb])))
    refine AWP_loop (fun x : Nat × List Nat × Nat => ⟨[(0, .v (.slice a xs.length c)), (1, .v (.slice a' ys.length c')), (5, .s 0 0 (xs.length + 1) (xs.length + 1)), (6, .v (.int .u64 x.2.2)), (21, .v (.slice a xs.length c)), (22, .v (.int .i64 xs.length)), (23, .v (.int .i64 x.1))], [uw x.2.1]⟩)
      (fun x h' => Le h0 h' ∧ x.1 ≤ xs.length ∧ x.2.1.length = xs.length + 1 ∧ (∀ d ∈ x.2.1, d < 4294967296) ∧ x.2.2 ≤ 1 ∧ val 4294967296 (x.2.1.take x.1) + 4294967296 ^ x.1 * x.2.2 = val 4294967296 (xs.take x.1) + val 4294967296 (ys.take x.1)) (fun x => xs.length - x.1) (0, List.replicate (xs.length + 1) 0, 0) ?_ ⟨inferInstance, by simp, by simp, lt_zeros (by decide), by simp, by simp [val]⟩ ?_
    · simp (disch := omega) only [go_sem, Nat.reduceBEq, Nat.reduceAdd]
    · rintro ⟨k, rs, cy⟩ h1 ⟨hle, hk, hr, hlt, hcy, hi⟩
      dsimp only at hk hr hlt hcy hi ⊢
      by_cases hkl : k < xs.length
      · obtain ⟨ad, rfl, hat⟩ := ha.rd h1 (i := k) (by omega)
        have hx := getD_lt (by decide) ha.lt k
        by_cases hky : k < ys.length
        · obtain ⟨ad', rfl, hat'⟩ := ha'.rd h1 (i := k) (by omega)
          have hy := getD_lt (by decide) ha'.lt k
          repeat (first | (refine wo rfl (fun k hk => ?_); simp (disch := omega) only [go_sem, Nat.reduceBEq, Nat.reduceAdd, hat, hat']; refine hk _ _ ?_; clear hk k) | refine wkt rfl ?_ | refine wk0 ?_ | refine rg rfl rfl (fun K hK => ?_) | ((first | refine AWP_exit ?_ | refine AWP_skip ?_); simp (disch := decide) only [qs, qb, if_true, if_false, reduceIte]) | refine AWP_sq rfl (fun K hK => ?_) | refine ct rfl ?_ | ((try simp (disch := omega) only [go_sem, Nat.reduceBEq, Nat.reduceAdd]); (first | apply hK | (clear hK; apply hK) | (clear hK; clear hK; apply hK)); clear hK; (try clear K); (try dsimp only [behind, qs, qb])))
          refine ⟨(k + 1, rs.set k ((xs.getD k 0 + cy + ys.getD k 0) % 4294967296), (xs.getD k 0 + cy + ys.getD k 0) / 4294967296), ?_, ⟨hle, by dsimp only; omega, by simp [hr], lt_set hlt (Nat.mod_lt _ (by decide)), by dsimp only; omega, ?_⟩, by simp only; omega⟩
          · simp (disch := omega) only [go_sem, Nat.reduceBEq, Nat.reduceAdd]
          · rw [val_set_take (by omega), val_take_succ' _ xs, val_take_succ' _ ys, Nat.pow_succ]
            exact add_step rfl hi
        · repeat (first | (refine wo rfl (fun k hk => ?_); simp (disch := omega) only [go_sem, Nat.reduceBEq, Nat.reduceAdd, hat]; refine hk _ _ ?_; clear hk k) | refine wkt rfl ?_ | refine wk0 ?_ | refine rg rfl rfl (fun K hK => ?_) | ((first | refine AWP_exit ?_ | refine AWP_skip ?_); simp (disch := decide) only [qs, qb, if_true, if_false, reduceIte]) | refine AWP_sq rfl (fun K hK => ?_) | refine ct rfl ?_ | ((try simp (disch := omega) only [go_sem, Nat.reduceBEq, Nat.reduceAdd]); (first | apply hK | (clear hK; apply hK) | (clear hK; clear hK; apply hK)); clear hK; (try clear K); (try dsimp only [behind, qs, qb])))
          refine ⟨(k + 1, rs.set k ((xs.getD k 0 + cy) % 4294967296), (xs.getD k 0 + cy) / 4294967296), ?_, ⟨hle, by dsimp only; omega, by simp [hr], lt_set hlt (Nat.mod_lt _ (by decide)), by dsimp only; omega, ?_⟩, by simp only; omega⟩
          · simp (disch := omega) only [go_sem, Nat.reduceBEq, Nat.reduceAdd]
          · have hy : ys.getD k 0 = 0 := by simp [List.getD_eq_getElem?_getD, List.getElem?_eq_none (by omega : ys.length ≤ k)]
            rw [val_set_take (by omega), val_take_succ' _ xs, val_take_succ' _ ys, Nat.pow_succ, hy]
            exact add_step (by omega) hi
      · repeat (first | (refine rg rfl rfl (fun K hK => ?_); (repeat (first | (refine wo rfl (fun k hk => ?_); simp (disch := omega) only [go_sem, Nat.reduceBEq, Nat.reduceAdd]; refine hk _ _ ?_; clear hk k) | refine wkt rfl ?_)); (try refine wk0 ?_); refine hK _ _ ?_; clear hK K; (try dsimp only [behind, qs, qb])) | ((first | refine AWP_exit ?_ | refine AWP_skip ?_); simp (disch := decide) only [qs, qb, if_true, if_false, reduceIte]) | refine AWP_sq rfl (fun K hK => ?_) | refine ct rfl ?_ | ((first | refine hK _ _ ?_ | (clear hK; refine hK _ _ ?_) | (clear hK; clear hK; refine hK _ _ ?_)); clear hK; (try clear K)))
        refine AWP_rsp [.o 0, .p 0, .o 1, .o 2] rfl rfl (fun K hK => ?_); (repeat (first | (refine wo rfl (fun k hk => ?_); simp (disch := omega) only [go_sem, Nat.reduceBEq, Nat.reduceAdd]; refine hk _ _ ?_; clear hk k) | refine wkt rfl ?_)); (try refine wk0 ?_)
        refine wkp ?_; simp (disch := omega) only [go_sem, Nat.reduceBEq, Nat.reduceAdd]; intro b h2 hs2 hb; (repeat (first | (refine wo rfl (fun k hk => ?_); simp (disch := omega) only [go_sem, Nat.reduceBEq, Nat.reduceAdd]; refine hk _ _ ?_; clear hk k) | refine wkt rfl ?_)); (try refine wk0 ?_)
        obtain rfl : k = xs.length := by omega
        have hA : Arr h2 (some ⟨b, 0, none⟩) (xs.length + 1) (rs.set xs.length cy) := .of_row (fun hne => hb ((uw_ne _).1 hne)) (lt_set hlt (by omega)) (by simp [hr]; omega) (by simp [hr])
        have hval : val 4294967296 (rs.set xs.length cy) = m + n := by
          have h1 := val_set_take (B := 4294967296) (rs := rs) (k := xs.length) (d := cy) (by omega)
          rw [List.take_of_length_le (by simp [hr])] at h1
          rw [h1, hi, List.take_of_length_le (Nat.le_refl _), List.take_of_length_le hl, hv]
        refine cN rfl rfl rfl rfl (by exact Of_L hA (by simp [hr])) ?_; rintro v h3 hs3 hv'; (repeat (first | (refine wo rfl (fun k hk => ?_); simp (disch := omega) only [go_sem, Nat.reduceBEq, Nat.reduceAdd]; refine hk _ _ ?_; clear hk k) | refine wkt rfl ?_)); (try refine wk0 ?_)
        (repeat (first | (refine wo rfl (fun k hk => ?_); simp (disch := omega) only [go_sem, Nat.reduceBEq, Nat.reduceAdd]; refine hk _ _ ?_; clear hk k) | refine wkt rfl ?_)); (try refine wk0 ?_)
        (try (simp (disch := omega) only [go_sem, Nat.reduceBEq, Nat.reduceAdd])); refine hK _ _ ?_; clear hK; (try clear K); (try dsimp only [behind, qs])
        refine AWP_ret ?_; simp (disch := omega) only [go_sem, Nat.reduceBEq, Nat.reduceAdd]
        rwa [hval] at hv'
  refine AWP_cond rfl (fun ht => ?_) (fun ht => ?_)
  · have := of_decide_eq_true ht
    refine AWP_sk rfl ?_; (repeat (first | (refine wo rfl (fun k hk => ?_); simp (disch := omega) only [go_sem, Nat.reduceBEq, Nat.reduceAdd]; refine hk _ _ ?_; clear hk k) | refine wkt rfl ?_)); (try refine wk0 ?_); simp only [qs, qb, if_true, if_false, reduceIte]
    refine rest _ _ _ _ ys xs _ ha' ha (by omega) hs' (by omega) ?_
    simp (disch := omega) only [go_sem, Nat.reduceBEq, Nat.reduceAdd]
  · have := of_decide_eq_false ht
    refine AWP_skip ?_; simp only [qs, qb, if_true, if_false, reduceIte]
    refine rest _ _ _ _ xs ys _ ha ha' (by omega) hs (by omega) ?_
    simp (disch := omega) only [go_sem, Nat.reduceBEq, Nat.reduceAdd]
@[go_sem low] theorem wu64s {a b : Nat} (h : b ≤ 18446744073709551616) : IntKind.u64.wrap ((a : Int) - (b : Int)) = ((((a + 18446744073709551616 - b) % 18446744073709551616) : Nat) : Int) := by
  rw [IntKind.wrap_u64]; omega
theorem sub_step {P B V b X Y x y r q : Nat} (hs : x + B * q = r + y + b) (hi : X + P * b = V + Y) : X + P * x + P * B * q = V + P * r + (Y + P * y) := by
  have e : P * (x + B * q) = P * (r + y + b) := by rw [hs]
  rw [Nat.mul_add, Nat.mul_add, Nat.mul_add, ← Nat.mul_assoc] at e
  omega
theorem getD_none {xs : List Nat} {k : Nat} (h : xs.length ≤ k) : xs.getD k 0 = 0 := by simp [List.getD_eq_getElem?_getD, List.getElem?_eq_none h]
theorem W_len_mono {m n : Nat} (h : n ≤ m) : (W 4294967296 n).length ≤ (W 4294967296 m).length := by
  rcases Nat.lt_or_ge (W 4294967296 m).length (W 4294967296 n).length with h' | h'
  · have := W_len_lt B32 h'; omega
  · exact h'
theorem Sub_spec {h0 h : PH} [Le h0 h] {v w : Value} {m n : Nat} (hv : N32 h0 v m) (hw : N32 h0 w n) (hnm : n ≤ m) (bm : bl m ≤ 2 ^ 40) : Spec mach 159 #[v, w] h (fun v h' => N32 h' v (m - n)) NP := by
  obtain ⟨a, c, xs, rfl, ha, hxs, hm⟩ := hv.out
  obtain ⟨a', c', ys, rfl, ha', hys, hn⟩ := hw.out
  have hs : xs.length ≤ 2 ^ 40 := by have := len_le_bl m; rw [hxs] at this; omega
  have hl : ys.length ≤ xs.length := by have := W_len_mono hnm; rwa [hxs, hys] at this
  refine Spec.enter (args := [_, _]) (n := 45) Tryz.func159 rfl (by kernel_rfl) rfl (by simp) [.tmp 4] rfl (fun C _ => ?_)
  repeat (first | (refine wo rfl (fun k hk => ?_); simp (disch := omega) only [go_sem, Nat.reduceBEq, Nat.reduceAdd]; refine hk _ _ ?_; clear hk k) | refine wkt rfl ?_ | refine wk0 ?_ | refine rg rfl rfl (fun K hK => ?_) | ((first | refine AWP_exit ?_ | refine AWP_skip ?_); simp (disch := decide) only [qs, qb, if_true, if_false, reduceIte]) | refine AWP_sq rfl (fun K hK => ?_) | refine ct rfl ?_ | ((try simp (disch := omega) only [go_sem, Nat.reduceBEq, Nat.reduceAdd]); (first | apply hK | (clear hK; apply hK) | (clear hK; clear hK; apply hK)); clear hK; (try clear K); (try dsimp only [behind, qs, qb])))
  refine AWP_loop (fun x : Nat × List Nat × Nat => ⟨[(0, .v (.slice a xs.length c)), (1, .v (.slice a' ys.length c')), (5, .s 0 0 xs.length xs.length), (6, .v (.int .u64 x.2.2)), (13, .v (.slice a xs.length c)), (14, .v (.int .i64 xs.length)), (15, .v (.int .i64 x.1))], [uw x.2.1]⟩)
      (fun x h' => Le h0 h' ∧ x.1 ≤ xs.length ∧ x.2.1.length = xs.length ∧ (∀ d ∈ x.2.1, d < 4294967296) ∧ x.2.2 ≤ 1 ∧ val 4294967296 (xs.take x.1) + 4294967296 ^ x.1 * x.2.2 = val 4294967296 (x.2.1.take x.1) + val 4294967296 (ys.take x.1)) (fun x => xs.length - x.1) (0, List.replicate xs.length 0, 0) ?_ ⟨inferInstance, by simp, by simp, lt_zeros (by decide), by simp, by simp [val]⟩ ?_
  · simp (disch := omega) only [go_sem, Nat.reduceBEq, Nat.reduceAdd]
  · rintro ⟨k, rs, cy⟩ h1 ⟨hle, hk, hr, hlt, hcy, hi⟩
    dsimp only at hk hr hlt hcy hi ⊢
    by_cases hkl : k < xs.length
    · obtain ⟨ad, rfl, hat⟩ := ha.rd h1 (i := k) (by omega)
      have hx := getD_lt (by decide) ha.lt k
      by_cases hky : k < ys.length
      · obtain ⟨ad', rfl, hat'⟩ := ha'.rd h1 (i := k) (by omega)
        have hy := getD_lt (by decide) ha'.lt k
        repeat (first | (refine wo rfl (fun k hk => ?_); simp (disch := omega) only [go_sem, Nat.reduceBEq, Nat.reduceAdd, hat, hat']; refine hk _ _ ?_; clear hk k) | refine wkt rfl ?_ | refine wk0 ?_ | refine rg rfl rfl (fun K hK => ?_) | ((first | refine AWP_exit ?_ | refine AWP_skip ?_); simp (disch := decide) only [qs, qb, if_true, if_false, reduceIte]) | refine AWP_sq rfl (fun K hK => ?_) | refine ct rfl ?_ | ((try simp (disch := omega) only [go_sem, Nat.reduceBEq, Nat.reduceAdd]); (first | apply hK | (clear hK; apply hK) | (clear hK; clear hK; apply hK)); clear hK; (try clear K); (try dsimp only [behind, qs, qb])))
        refine ⟨(k + 1, rs.set k (((xs.getD k 0 + 18446744073709551616 - cy) % 18446744073709551616 + 18446744073709551616 - ys.getD k 0) % 18446744073709551616 % 4294967296), ((xs.getD k 0 + 18446744073709551616 - cy) % 18446744073709551616 + 18446744073709551616 - ys.getD k 0) % 18446744073709551616 / 9223372036854775808), ?_, ⟨hle, by dsimp only; omega, by simp only [List.length_set]; exact hr, lt_set hlt (Nat.mod_lt _ (by decide)), by dsimp only; omega, ?_⟩, by simp only; omega⟩
        · simp (disch := omega) only [go_sem, Nat.reduceBEq, Nat.reduceAdd]
        · dsimp only
          rw [val_set_take (by omega), val_take_succ' _ xs, val_take_succ' _ ys, Nat.pow_succ]
          refine sub_step ?_ hi
          omega
      · repeat (first | (refine wo rfl (fun k hk => ?_); simp (disch := omega) only [go_sem, Nat.reduceBEq, Nat.reduceAdd, hat]; refine hk _ _ ?_; clear hk k) | refine wkt rfl ?_ | refine wk0 ?_ | refine rg rfl rfl (fun K hK => ?_) | ((first | refine AWP_exit ?_ | refine AWP_skip ?_); simp (disch := decide) only [qs, qb, if_true, if_false, reduceIte]) | refine AWP_sq rfl (fun K hK => ?_) | refine ct rfl ?_ | ((try simp (disch := omega) only [go_sem, Nat.reduceBEq, Nat.reduceAdd]); (first | apply hK | (clear hK; apply hK) | (clear hK; clear hK; apply hK)); clear hK; (try clear K); (try dsimp only [behind, qs, qb])))
        refine ⟨(k + 1, rs.set k ((xs.getD k 0 + 18446744073709551616 - cy) % 18446744073709551616 % 4294967296), (xs.getD k 0 + 18446744073709551616 - cy) % 18446744073709551616 / 9223372036854775808), ?_, ⟨hle, by dsimp only; omega, by simp only [List.length_set]; exact hr, lt_set hlt (Nat.mod_lt _ (by decide)), by dsimp only; omega, ?_⟩, by simp only; omega⟩
        · simp (disch := omega) only [go_sem, Nat.reduceBEq, Nat.reduceAdd]
        · have hy : ys.getD k 0 = 0 := getD_none (by omega)
          dsimp only
          rw [val_set_take (by omega), val_take_succ' _ xs, val_take_succ' _ ys, Nat.pow_succ]
          refine sub_step ?_ hi
          omega
    · repeat (first | (refine rg rfl rfl (fun K hK => ?_); (repeat (first | (refine wo rfl (fun k hk => ?_); simp (disch := omega) only [go_sem, Nat.reduceBEq, Nat.reduceAdd]; refine hk _ _ ?_; clear hk k) | refine wkt rfl ?_)); (try refine wk0 ?_); refine hK _ _ ?_; clear hK K; (try dsimp only [behind, qs, qb])) | ((first | refine AWP_exit ?_ | refine AWP_skip ?_); simp (disch := decide) only [qs, qb, if_true, if_false, reduceIte]) | refine AWP_sq rfl (fun K hK => ?_) | refine ct rfl ?_ | ((first | refine hK _ _ ?_ | (clear hK; refine hK _ _ ?_) | (clear hK; clear hK; refine hK _ _ ?_)); clear hK; (try clear K)))
      obtain rfl : k = xs.length := by omega
      refine AWP_rsp [.p 0, .o 0, .o 1, .o 2] rfl rfl (fun K hK => ?_); (repeat (first | (refine wo rfl (fun k hk => ?_); simp (disch := omega) only [go_sem, Nat.reduceBEq, Nat.reduceAdd]; refine hk _ _ ?_; clear hk k) | refine wkt rfl ?_)); (try refine wk0 ?_)
      refine wkp ?_; simp (disch := omega) only [go_sem, Nat.reduceBEq, Nat.reduceAdd]; intro b h2 hs2 hb; (repeat (first | (refine wo rfl (fun k hk => ?_); simp (disch := omega) only [go_sem, Nat.reduceBEq, Nat.reduceAdd]; refine hk _ _ ?_; clear hk k) | refine wkt rfl ?_)); (try refine wk0 ?_)
      have hA : Arr h2 (some ⟨b, 0, none⟩) xs.length rs := .of_row (fun hne => hb ((uw_ne _).1 hne)) hlt (by omega) (by omega)
      have hval : val 4294967296 rs = m - n := by
        rw [List.take_of_length_le (Nat.le_refl _), List.take_of_length_le (by omega), List.take_of_length_le hl, hm, hn] at hi
        have h3 := val_lt (by decide) rs hlt
        rw [hr] at h3
        obtain rfl : cy = 0 := by
          rcases Nat.lt_or_ge cy 1 with h | h
          · omega
          · obtain rfl : cy = 1 := by omega
            omega
        omega
      refine cN rfl rfl rfl rfl (by exact Of_L hA hr) ?_; rintro v h3 hs3 hv'; (repeat (first | (refine wo rfl (fun k hk => ?_); simp (disch := omega) only [go_sem, Nat.reduceBEq, Nat.reduceAdd]; refine hk _ _ ?_; clear hk k) | refine wkt rfl ?_)); (try refine wk0 ?_)
      (repeat (first | (refine wo rfl (fun k hk => ?_); simp (disch := omega) only [go_sem, Nat.reduceBEq, Nat.reduceAdd]; refine hk _ _ ?_; clear hk k) | refine wkt rfl ?_)); (try refine wk0 ?_)
      (try (simp (disch := omega) only [go_sem, Nat.reduceBEq, Nat.reduceAdd])); refine hK _ _ ?_; clear hK; (try clear K); (try dsimp only [behind, qs])
      refine AWP_ret ?_; simp (disch := omega) only [go_sem, Nat.reduceBEq, Nat.reduceAdd]
      rwa [hval] at hv'
end Go.Q
namespace Go.Q
open Go.Proofs
set_option maxRecDepth 100000
attribute [go_sem] uw_get
theorem val_set {B : Nat} {rs : List Nat} {i d : Nat} (hi : i < rs.length) : val B (rs.set i d) + B ^ i * rs.getD i 0 = val B rs + B ^ i * d := by
  induction rs generalizing i with
  | nil => simp at hi
  | cons r rs ih =>
    cases i with
    | zero => simp only [List.set_cons_zero, val, List.getD_cons_zero, Nat.pow_zero, Nat.one_mul]; omega
    | succ i =>
      have := ih (i := i) (by simpa using hi)
      simp only [List.set_cons_succ, val, List.getD_cons_succ, Nat.pow_succ, Nat.mul_comm (B ^ i) B, Nat.mul_assoc]
      have e := congrArg (B * ·) this
      simp only [Nat.mul_add] at e
      omega
theorem val_take_set {B : Nat} {rs : List Nat} {i d n : Nat} (hi : i < n) (hn : n ≤ rs.length) : val B ((rs.set i d).take n) + B ^ i * rs.getD i 0 = val B (rs.take n) + B ^ i * d := by
  have := val_set (B := B) (rs := rs.take n) (i := i) (d := d) (by simp; omega)
  rw [List.take_set]
  have e : (rs.take n).getD i 0 = rs.getD i 0 := by simp [List.getD_eq_getElem?_getD, List.getElem?_take, hi]
  rw [e] at this
  exact this
theorem mul_step {P B V V' c d A x y r q : Nat} {X : Nat} (hs : x * y + d + c = r + B * q) (hi : V + P * c = A + X) (hV : V' + P * d = V + P * r) : V' + P * B * q = A + (X + P * (x * y)) := by
  have e := congrArg (P * ·) hs
  simp only [Nat.mul_add, ← Nat.mul_assoc] at e
  rw [← Nat.mul_assoc]
  omega
theorem Mul_spec {h0 h : PH} [Le h0 h] {v w : Value} {m n : Nat} (hv : N32 h0 v m) (hw : N32 h0 w n) (bm : bl m ≤ 2 ^ 40) (bn : bl n ≤ 2 ^ 40) : Spec mach 147 #[v, w] h (fun v h' => N32 h' v (m * n)) NP := by
  obtain ⟨a, c, xs, rfl, ha, hxs, hm⟩ := hv.out
  obtain ⟨a', c', ys, rfl, ha', hys, hn⟩ := hw.out
  have hs : xs.length ≤ 2 ^ 40 := by have := len_le_bl m; rw [hxs] at this; omega
  have hs' : ys.length ≤ 2 ^ 40 := by have := len_le_bl n; rw [hys] at this; omega
  refine Spec.enter (args := [_, _]) (n := 76) Tryz.func147 rfl (by kernel_rfl) rfl (by simp) [.tmp 4] rfl (fun C _ => ?_)
  have z1 : xs.length = 0 → m * n = 0 := fun h => by rw [← hm, List.eq_nil_of_length_eq_zero h]; simp [val]
  have z2 : ys.length = 0 → m * n = 0 := fun h => by rw [← hn, List.eq_nil_of_length_eq_zero h]; simp [val]
  by_cases hx0 : xs.length = 0
  · repeat (first | (refine wo rfl (fun k hk => ?_); simp (disch := omega) only [go_sem, Nat.reduceBEq, Nat.reduceAdd]; refine hk _ _ ?_; clear hk k) | refine wkt rfl ?_ | refine wk0 ?_ | refine rg rfl rfl (fun K hK => ?_) | ((first | refine AWP_exit ?_ | refine AWP_skip ?_); simp (disch := decide) only [qs, qb, if_true, if_false, reduceIte]) | refine AWP_sq rfl (fun K hK => ?_) | refine ct rfl ?_ | ((try simp (disch := omega) only [go_sem, Nat.reduceBEq, Nat.reduceAdd]); (first | apply hK | (clear hK; apply hK) | (clear hK; clear hK; apply hK)); clear hK; (try clear K); (try dsimp only [behind, qs, qb])))
    refine AWP_ret ?_; simp (disch := omega) only [go_sem, Nat.reduceBEq, Nat.reduceAdd]
    rw [z1 hx0]; exact N32.zero _
  by_cases hy0 : ys.length = 0
  · repeat (first | (refine wo rfl (fun k hk => ?_); simp (disch := omega) only [go_sem, Nat.reduceBEq, Nat.reduceAdd]; refine hk _ _ ?_; clear hk k) | refine wkt rfl ?_ | refine wk0 ?_ | refine rg rfl rfl (fun K hK => ?_) | ((first | refine AWP_exit ?_ | refine AWP_skip ?_); simp (disch := decide) only [qs, qb, if_true, if_false, reduceIte]) | refine AWP_sq rfl (fun K hK => ?_) | refine ct rfl ?_ | ((try simp (disch := omega) only [go_sem, Nat.reduceBEq, Nat.reduceAdd]); (first | apply hK | (clear hK; apply hK) | (clear hK; clear hK; apply hK)); clear hK; (try clear K); (try dsimp only [behind, qs, qb])))
    refine AWP_ret ?_; simp (disch := omega) only [go_sem, Nat.reduceBEq, Nat.reduceAdd]
    rw [z2 hy0]; exact N32.zero _
  clear z1 z2
  repeat (first | (refine wo rfl (fun k hk => ?_); simp (disch := omega) only [go_sem, Nat.reduceBEq, Nat.reduceAdd]; refine hk _ _ ?_; clear hk k) | refine wkt rfl ?_ | refine wk0 ?_ | refine rg rfl rfl (fun K hK => ?_) | ((first | refine AWP_exit ?_ | refine AWP_skip ?_); simp (disch := decide) only [qs, qb, if_true, if_false, reduceIte]) | refine AWP_sq rfl (fun K hK => ?_) | refine ct rfl ?_ | ((try simp (disch := omega) only [go_sem, Nat.reduceBEq, Nat.reduceAdd]); (first | apply hK | (clear hK; apply hK) | (clear hK; clear hK; apply hK)); clear hK; (try clear K); (try dsimp only [behind, qs, qb])))
  refine AWP_loop (fun x : Nat × List Nat => ⟨[(0, .v (.slice a xs.length c)), (1, .v (.slice a' ys.length c')), (5, .s 0 0 (xs.length + ys.length) (xs.length + ys.length)), (26, .v (.slice a xs.length c)), (27, .v (.int .i64 xs.length)), (28, .v (.int .i64 x.1))], [uw x.2]⟩)
      (fun x h' => Le h0 h' ∧ x.1 ≤ xs.length ∧ x.2.length = xs.length + ys.length ∧ (∀ d ∈ x.2, d < 4294967296) ∧ val 4294967296 (x.2.take (x.1 + ys.length)) = val 4294967296 (xs.take x.1) * val 4294967296 ys) (fun x => xs.length - x.1) (0, List.replicate (xs.length + ys.length) 0) ?_ ⟨inferInstance, by simp, by simp, lt_zeros (by decide), by simp [val, val_zeros]⟩ ?_
  · simp (disch := omega) only [go_sem, Nat.reduceBEq, Nat.reduceAdd]
  · rintro ⟨k, rs⟩ h1 ⟨hle, hk, hr, hlt, hi⟩
    dsimp only at hk hr hlt hi ⊢
    by_cases hkl : k < xs.length
    · obtain ⟨ad, rfl, hat⟩ := ha.rd h1 (i := k) (by omega)
      have hx := getD_lt (by decide) ha.lt k
      repeat (first | (refine wo rfl (fun k hk => ?_); simp (disch := omega) only [go_sem, Nat.reduceBEq, Nat.reduceAdd, hat]; refine hk _ _ ?_; clear hk k) | refine wkt rfl ?_ | refine wk0 ?_ | refine rg rfl rfl (fun K hK => ?_) | ((first | refine AWP_exit ?_ | refine AWP_skip ?_); simp (disch := decide) only [qs, qb, if_true, if_false, reduceIte]) | refine AWP_sq rfl (fun K hK => ?_) | refine ct rfl ?_ | ((try simp (disch := omega) only [go_sem, Nat.reduceBEq, Nat.reduceAdd]); (first | apply hK | (clear hK; apply hK) | (clear hK; clear hK; apply hK)); clear hK; (try clear K); (try dsimp only [behind, qs, qb])))
      refine AWP_loop (fun x : Nat × List Nat × Nat => ⟨[(0, .v (.slice (some ad) xs.length c)), (1, .v (.slice a' ys.length c')), (5, .s 0 0 (xs.length + ys.length) (xs.length + ys.length)), (26, .v (.slice (some ad) xs.length c)), (27, .v (.int .i64 xs.length)), (28, .v (.int .i64 k)), (6, .v (.int .i64 k)), (7, .v (.int .u32 (xs.getD k 0 : Nat))), (8, .v (.int .u64 x.2.2)), (33, .v (.slice a' ys.length c')), (34, .v (.int .i64 ys.length)), (35, .v (.int .i64 x.1))], [uw x.2.1]⟩)
        (fun x h' => Le h0 h' ∧ x.1 ≤ ys.length ∧ x.2.1.length = xs.length + ys.length ∧ (∀ d ∈ x.2.1, d < 4294967296) ∧ x.2.2 < 4294967296 ∧ val 4294967296 (x.2.1.take (k + ys.length)) + 4294967296 ^ (k + x.1) * x.2.2 = val 4294967296 (rs.take (k + ys.length)) + 4294967296 ^ k * (xs.getD k 0 * val 4294967296 (ys.take x.1))) (fun x => ys.length - x.1) (0, rs, 0) ?_ ⟨hle, by simp, hr, hlt, by simp, by simp [val]⟩ ?_
      · simp (disch := omega) only [go_sem, Nat.reduceBEq, Nat.reduceAdd]
      · rintro ⟨j, rs', cy⟩ h2 ⟨hle', hj, hr', hlt', hcy, hi'⟩
        dsimp only at hj hr' hlt' hcy hi' ⊢
        by_cases hjl : j < ys.length
        · obtain ⟨ad', rfl, hat'⟩ := ha'.rd h2 (i := j) (by omega)
          have hy := getD_lt (by decide) ha'.lt j
          have hd := getD_lt (by decide) hlt' (k + j)
          have hxy : xs.getD k 0 * ys.getD j 0 ≤ 4294967295 * 4294967295 := Nat.mul_le_mul (by omega) (by omega)
          repeat (first | (refine wo rfl (fun k hk => ?_); simp (disch := omega) only [go_sem, Nat.reduceBEq, Nat.reduceAdd, hat']; refine hk _ _ ?_; clear hk k) | refine wkt rfl ?_ | refine wk0 ?_ | refine rg rfl rfl (fun K hK => ?_) | ((first | refine AWP_exit ?_ | refine AWP_skip ?_); simp (disch := decide) only [qs, qb, if_true, if_false, reduceIte]) | refine AWP_sq rfl (fun K hK => ?_) | refine ct rfl ?_ | ((try simp (disch := omega) only [go_sem, Nat.reduceBEq, Nat.reduceAdd]); (first | apply hK | (clear hK; apply hK) | (clear hK; clear hK; apply hK)); clear hK; (try clear K); (try dsimp only [behind, qs, qb])))
          refine ⟨(j + 1, rs'.set (k + j) ((xs.getD k 0 * ys.getD j 0 + rs'.getD (k + j) 0 + cy) % 4294967296), (xs.getD k 0 * ys.getD j 0 + rs'.getD (k + j) 0 + cy) / 4294967296), ?_, ⟨hle', by dsimp only; omega, by simp [hr'], lt_set hlt' (Nat.mod_lt _ (by decide)), by dsimp only; omega, ?_⟩, by simp only; omega⟩
          · simp (disch := omega) only [go_sem, Nat.reduceBEq, Nat.reduceAdd]
          · dsimp only
            rw [val_take_succ' _ ys, ← Nat.add_assoc, Nat.pow_succ, Nat.mul_add, Nat.mul_add, ← Nat.mul_assoc _ (4294967296 ^ j), Nat.mul_comm (xs.getD k 0) (4294967296 ^ j), Nat.mul_assoc (4294967296 ^ j), ← Nat.mul_assoc _ (4294967296 ^ j), ← Nat.pow_add]
            exact mul_step (Nat.mod_add_div _ _).symm hi' (val_take_set (by omega) (by omega))
        · repeat (first | (refine rg rfl rfl (fun K hK => ?_); (repeat (first | (refine wo rfl (fun k hk => ?_); simp (disch := omega) only [go_sem, Nat.reduceBEq, Nat.reduceAdd]; refine hk _ _ ?_; clear hk k) | refine wkt rfl ?_)); (try refine wk0 ?_); refine hK _ _ ?_; clear hK K; (try dsimp only [behind, qs, qb])) | ((first | refine AWP_exit ?_ | refine AWP_skip ?_); simp (disch := decide) only [qs, qb, if_true, if_false, reduceIte]) | refine AWP_sq rfl (fun K hK => ?_) | refine ct rfl ?_ | ((first | refine hK _ _ ?_ | (clear hK; refine hK _ _ ?_) | (clear hK; clear hK; refine hK _ _ ?_)); clear hK; (try clear K)))
          obtain rfl : j = ys.length := by omega
          refine ⟨(k + 1, rs'.set (k + ys.length) cy), ?_, ⟨hle', by dsimp only; omega, by simp [hr'], lt_set hlt' hcy, ?_⟩, by simp only; omega⟩
          · simp (disch := omega) only [go_sem, Nat.reduceBEq, Nat.reduceAdd]
          · dsimp only
            rw [show k + 1 + ys.length = k + ys.length + 1 by omega, val_set_take (by omega), hi', hi, val_take_succ' _ xs, List.take_of_length_le (Nat.le_refl _), Nat.add_mul, Nat.mul_assoc]
    · repeat (first | (refine rg rfl rfl (fun K hK => ?_); (repeat (first | (refine wo rfl (fun k hk => ?_); simp (disch := omega) only [go_sem, Nat.reduceBEq, Nat.reduceAdd]; refine hk _ _ ?_; clear hk k) | refine wkt rfl ?_)); (try refine wk0 ?_); refine hK _ _ ?_; clear hK K; (try dsimp only [behind, qs, qb])) | ((first | refine AWP_exit ?_ | refine AWP_skip ?_); simp (disch := decide) only [qs, qb, if_true, if_false, reduceIte]) | refine AWP_sq rfl (fun K hK => ?_) | refine ct rfl ?_ | ((first | refine hK _ _ ?_ | (clear hK; refine hK _ _ ?_) | (clear hK; clear hK; refine hK _ _ ?_)); clear hK; (try clear K)))
      obtain rfl : k = xs.length := by omega
      refine AWP_rsp [.o 0, .p 0, .o 1, .o 2] rfl rfl (fun K hK => ?_); (repeat (first | (refine wo rfl (fun k hk => ?_); simp (disch := omega) only [go_sem, Nat.reduceBEq, Nat.reduceAdd]; refine hk _ _ ?_; clear hk k) | refine wkt rfl ?_)); (try refine wk0 ?_)
      refine wkp ?_; simp (disch := omega) only [go_sem, Nat.reduceBEq, Nat.reduceAdd]; intro b h2 hs2 hb; (repeat (first | (refine wo rfl (fun k hk => ?_); simp (disch := omega) only [go_sem, Nat.reduceBEq, Nat.reduceAdd]; refine hk _ _ ?_; clear hk k) | refine wkt rfl ?_)); (try refine wk0 ?_)
      have hA : Arr h2 (some ⟨b, 0, none⟩) (xs.length + ys.length) rs := .of_row (fun hne => hb ((uw_ne _).1 hne)) hlt (by omega) (by omega)
      have hval : val 4294967296 rs = m * n := by
        rw [List.take_of_length_le (by omega), List.take_of_length_le (Nat.le_refl _), hm, hn] at hi
        exact hi
      refine cN rfl rfl rfl rfl (by exact Of_L hA hr) ?_; rintro v h3 hs3 hv'; (repeat (first | (refine wo rfl (fun k hk => ?_); simp (disch := omega) only [go_sem, Nat.reduceBEq, Nat.reduceAdd]; refine hk _ _ ?_; clear hk k) | refine wkt rfl ?_)); (try refine wk0 ?_)
      (try (simp (disch := omega) only [go_sem, Nat.reduceBEq, Nat.reduceAdd])); refine hK _ _ ?_; clear hK; (try clear K); (try dsimp only [behind, qs])
      refine AWP_ret ?_; simp (disch := omega) only [go_sem, Nat.reduceBEq, Nat.reduceAdd]
      rwa [hval] at hv'
end Go.Q
