/-
  Contracts of the reference's rational numbers: reading, giving, sizes, signs. Conditions: the values are rational numbers (Rw, Qr), of at most 2^36 binary digits.
  Contracts of the reference's rational numbers: sizes, signs, sums, order. Conditions: the values are rational numbers (Rw, Qr), of at most 2^34 binary digits.
  Contracts of the reference's rational numbers: grids, quotients. Conditions: the values are rational numbers (Qr), of at most 2^30 binary digits.
  Contracts of the reference's rational numbers: rounding to grids, quotients, results. Conditions: the values are rational numbers (Qr), of at most 2^30 binary digits.
  From a law's contract to its statement: the arguments read as intervals and numbers; what was there stays as it was. Conditions: what is read is of bulk at most 1048576.
  Numbers as they come in (Rv) and as an operation of package number returns them (Nq). Conditions: none.
  Contracts of package number: canonical values, small integers; of package word: lowest digits. Conditions: the values are numbers.
-/
import Derived.Test.YtmibfkpalmmheaaGreatDoorKb442ccPkI
import Derived.Test.YtmibfkpalmmheaaGreatDoorKbdb429PkD
import Derived.Test.YtmibfkpalmmheaaGreatDoorK7addb1PkG
import Derived.Test.YtmibfkpalmmheaaGreatDoorCards
import Derived.Test.YtmibfkpalmmheaaGreatDoorTie
import Derived.WalkKit
import Derived.ProofKit
import Derived.OpenShut
import Derived.Deep.DeepHandedRow
import Derived.Lib.LaidTab
set_option linter.unusedVariables false
set_option linter.unusedSimpArgs false
namespace Go.Q
open Go.Proofs
set_option maxRecDepth 100000
set_option maxHeartbeats 4000000
theorem bl_dz (d : Nat) : bl (dz d) ≤ bl d + 1 := by
  unfold dz; split
  · subst d; decide
  · omega
theorem words_N {h0 h : PH} [Le h0 h] {a : Option Addr} {c n L : Nat} {xs : List Nat} (ha : Arr h0 a c xs) (hl : xs.length = L) (hs : xs.length ≤ 2 ^ 40) (hn : val 4294967296 xs = n) :
    Spec mach 36 #[.slice a L c] h (fun v h' => N16 h' v n) NP := by subst hl hn; exact words_spec ha hs
theorem val_bl {xs : List Nat} (hlt : ∀ x ∈ xs, x < 4294967296) : bl (val 4294967296 xs) ≤ 32 * xs.length := by
  rw [bl_le, B_pow]; exact val_lt (by decide) xs hlt
theorem QOf_spec {h0 h : PH} [Le h0 h] {v : Value} {neg : Bool} {n d : Nat} (hv : Rw h0 v neg n d) :
    Spec mach 13 #[v] h (fun v h' => Qr h' v (qof neg n d)) NP := by
  obtain ⟨a, c, xs, a', c', ys, rfl, ha, ha', hn, hd, hsx, hsy⟩ := hv
  have bn : bl n ≤ 2 ^ 37 := by have := val_bl ha.lt; rw [hn] at this; omega
  have bd : bl d ≤ 2 ^ 37 := by have := val_bl ha'.lt; rw [hd] at this; omega
  have bz := bl_dz d
  refine Spec.enter (args := [_]) (n := 18) Tryz.func13 rfl (by kernel_rfl) rfl (by simp) [.cell 2 33] rfl (fun C _ => ?_)
  repeat (first | (refine wo rfl (fun k hk => ?_); simp (disch := omega) only [go_sem, Nat.reduceBEq, Nat.reduceAdd]; refine hk _ _ ?_; clear hk k) | refine wkt rfl ?_ | refine wk0 ?_ | refine rg rfl rfl (fun K hK => ?_) | refine rd [.o 0, .o 1, .o 2, .o 3, .o 5, .o 4, .o 6, .o 7] rfl (by decide +kernel) rfl (fun K hK => ?_) | ((first | refine AWP_exit ?_ | refine AWP_skip ?_); simp (disch := decide) only [qs, qb, if_true, if_false, reduceIte]) | refine AWP_sq rfl (fun K hK => ?_) | refine ct rfl ?_ | ((try simp (disch := omega) only [go_sem, Nat.reduceBEq, Nat.reduceAdd]); (first | apply hK | (clear hK; apply hK) | (clear hK; clear hK; apply hK)); clear hK; (try clear K); (try dsimp only [behind, qs, qb])))
  refine cN rfl rfl rfl rfl (by exact words_N ha' rfl (by omega) hd) ?_; rintro v1 h1 _ hv1; obtain ⟨v1, v1_l, v1_c, rfl, hv1⟩ := hv1.sl; (repeat (first | (refine wo rfl (fun k hk => ?_); simp (disch := omega) only [go_sem, Nat.reduceBEq, Nat.reduceAdd]; refine hk _ _ ?_; clear hk k) | refine wkt rfl ?_)); (try refine wk0 ?_)
  (try (simp (disch := omega) only [go_sem, Nat.reduceBEq, Nat.reduceAdd])); refine hK _ _ ?_; clear hK; (try clear K); (try dsimp only [behind, qs])
  have l1 := hv1.len0
  refine AWP_sqs (fun K hK => ?_)
  have rest : ∀ (va : Option Addr) (vl vc : Nat) (h' : PH) (S : AS), Le h0 h' → N16 h' (.slice va vl vc) (dz d) → S.le ⟨[(1, .p 0 0), (2, .p 1 0), (3, .v (.slice va vl vc))], [[.bool neg, .slice a xs.length c, .slice a' ys.length c'], [.bool false, .slice none 0 0, .slice none 0 0]]⟩ → K S h' := by
    intro va vl vc h' S _ hz hS
    refine hK _ _ (AWP_le _ hS ?_); clear hK K
    (first | refine rg rfl rfl (fun K hK => ?_) | refine rd [.o 0, .o 1, .o 2, .o 3, .o 5, .o 4, .o 6, .o 7] rfl (by decide +kernel) rfl (fun K hK => ?_)); (repeat (first | (refine wo rfl (fun k hk => ?_); simp (disch := omega) only [go_sem, Nat.reduceBEq, Nat.reduceAdd]; refine hk _ _ ?_; clear hk k) | refine wkt rfl ?_)); (try refine wk0 ?_)
    refine cN rfl rfl rfl rfl (by exact words_N ha rfl (by omega) hn) ?_; rintro v2 h2 _ hv2; obtain ⟨v2, v2_l, v2_c, rfl, hv2⟩ := hv2.sl; (repeat (first | (refine wo rfl (fun k hk => ?_); simp (disch := omega) only [go_sem, Nat.reduceBEq, Nat.reduceAdd]; refine hk _ _ ?_; clear hk k) | refine wkt rfl ?_)); (try refine wk0 ?_)
    refine cN rfl rfl rfl rfl (by exact Make_spec (neg := neg) hv2 (hz.to (h' := h2)) (by omega) (by omega)) ?_; rintro v3 h3 _ hv3; obtain ⟨v3_0, v3_1, v3_2, v3_3, v3_4, v3_5, v3_6, rfl, hv3⟩ := hv3.sa; (repeat (first | (refine wo rfl (fun k hk => ?_); simp (disch := omega) only [go_sem, Nat.reduceBEq, Nat.reduceAdd]; refine hk _ _ ?_; clear hk k) | refine wkt rfl ?_)); (try refine wk0 ?_)
    (try (simp (disch := omega) only [go_sem, Nat.reduceBEq, Nat.reduceAdd])); refine hK _ _ ?_; clear hK; (try clear K); (try dsimp only [behind, qs])
    refine AWP_ret ?_; simp (disch := omega) only [go_sem, Nat.reduceBEq, Nat.reduceAdd]
    exact hv3
  by_cases hd0 : d = 0
  · refine AWP_rs rfl (fun K hK => ?_); (repeat (first | (refine wo rfl (fun k hk => ?_); simp (disch := omega) only [go_sem, Nat.reduceBEq, Nat.reduceAdd]; refine hk _ _ ?_; clear hk k) | refine wkt rfl ?_)); (try refine wk0 ?_); (first | refine hK _ _ ?_ | (clear hK; refine hK _ _ ?_) | (clear hK; clear hK; refine hK _ _ ?_)); clear hK; (try clear K)
    refine AWP_condT rfl ?_
    (first | refine rg rfl rfl (fun K hK => ?_) | refine rd [.o 0, .o 1, .o 2, .o 3, .o 5, .o 4, .o 6, .o 7] rfl (by decide +kernel) rfl (fun K hK => ?_)); (repeat (first | (refine wo rfl (fun k hk => ?_); simp (disch := omega) only [go_sem, Nat.reduceBEq, Nat.reduceAdd]; refine hk _ _ ?_; clear hk k) | refine wkt rfl ?_)); (try refine wk0 ?_)
    refine cN rfl rfl rfl rfl (by exact NatOf_spec (n := 1) (by decide)) ?_; rintro w1 h2 _ hw1; obtain ⟨w1, w1_l, w1_c, rfl, hw1⟩ := hw1.sl; (repeat (first | (refine wo rfl (fun k hk => ?_); simp (disch := omega) only [go_sem, Nat.reduceBEq, Nat.reduceAdd]; refine hk _ _ ?_; clear hk k) | refine wkt rfl ?_)); (try refine wk0 ?_)
    (try (simp (disch := omega) only [go_sem, Nat.reduceBEq, Nat.reduceAdd])); refine hK _ _ ?_; clear hK; (try clear K); (try dsimp only [behind, qs])
    refine rest _ _ _ _ _ inferInstance (by rw [hd0]; exact hw1) ?_
    simp (disch := omega) only [go_sem, Nat.reduceBEq, Nat.reduceAdd]
  · refine AWP_rs rfl (fun K hK => ?_); (repeat (first | (refine wo rfl (fun k hk => ?_); simp (disch := omega) only [go_sem, Nat.reduceBEq, Nat.reduceAdd]; refine hk _ _ ?_; clear hk k) | refine wkt rfl ?_)); (try refine wk0 ?_); (first | refine hK _ _ ?_ | (clear hK; refine hK _ _ ?_) | (clear hK; clear hK; refine hK _ _ ?_)); clear hK; (try clear K)
    refine AWP_condF rfl ?_
    refine AWP_skip ?_; simp only [qs, qb, if_true, if_false, reduceIte]
    refine rest _ _ _ _ _ inferInstance (by rw [dz_self hd0]; exact hv1) ?_
    simp (disch := omega) only [go_sem, Nat.reduceBEq, Nat.reduceAdd]
theorem QRat_spec {h0 h : PH} [Le h0 h] {v : Value} {x : Rat} (hx : Qr h0 v x) (bx : sz x ≤ 2 ^ 36) : Spec mach 73 #[v] h (fun v h' => Cn h' v x) NP := by
  obtain ⟨na, nl, nc, da, dl, dc, e, rfl, hn, hd, he⟩ := hx.sl
  have b1 := sz_num x; have b2 := sz_den x
  have b3 : bl e ≤ sz x := by
    rcases Nat.eq_zero_or_pos e with h | h
    · subst h; have : bl 0 = 0 := by decide
      omega
    · rw [dz_self (by omega)] at he; rw [he]; exact b2
  have ln := hn.len0
  obtain ⟨neg, en⟩ : ∃ b, decide (x.num < 0) = b := ⟨_, rfl⟩
  rw [en] at hx ⊢
  have hnn : neg = true → 0 < nl := by
    intro e1
    rw [e1, decide_eq_true_eq] at en
    rcases Nat.eq_zero_or_pos nl with h | h
    · have := ln.1 h; omega
    · exact h
  refine Spec.enter (args := [_]) (n := 24) Tryz.func73 rfl (by kernel_rfl) rfl (by simp) [.cell 2 24] rfl (fun C _ => ?_)
  repeat (first | (refine rg rfl rfl (fun K hK => ?_); (repeat (first | (refine wo rfl (fun k hk => ?_); simp (disch := omega) only [go_sem, Nat.reduceBEq, Nat.reduceAdd]; refine hk _ _ ?_; clear hk k) | refine wkt rfl ?_)); (try refine wk0 ?_); refine hK _ _ ?_; clear hK K; (try dsimp only [behind, qs, qb])) | ((first | refine AWP_exit ?_ | refine AWP_skip ?_); simp (disch := decide) only [qs, qb, if_true, if_false, reduceIte]) | refine AWP_sq rfl (fun K hK => ?_) | refine ct rfl ?_ | ((first | refine hK _ _ ?_ | (clear hK; refine hK _ _ ?_) | (clear hK; clear hK; refine hK _ _ ?_)); clear hK; (try clear K)))
  (first | refine AWP_t (.seg [.o 0, .o 1, .o 2, .o 3, .o 4, .o 5, .o 6, .o 7, .o 8, .o 9] (.alt 10 (.seg [.o 11] (.alt 12 (.alt 13 .done .no) .no)) (.alt 12 (.alt 10 (.seg [.o 11] (.alt 13 .done .no)) .no) .no))) (by decide +kernel) rfl (fun K hK => ?_) | refine AWP_tk (.seg [.o 0, .o 1, .o 2, .o 3, .o 4, .o 5, .o 6, .o 7, .o 8, .o 9] (.alt 10 (.seg [.o 11] (.alt 12 (.alt 13 .done .no) .no)) (.alt 12 (.alt 10 (.seg [.o 11] (.alt 13 .done .no)) .no) .no))) (by decide +kernel) rfl (fun K hK => ?_))
  have rest : ∀ (va : Option Addr) (vl vc : Nat) (h' : PH) (S : AS), Le h0 h' → N32 h' (.slice va vl vc) x.num.natAbs → S.le ⟨[(1, .p 0 0), (2, .p 1 0), (3, .p 2 0)], [[.bool neg, .slice na nl nc, .slice da dl dc], [.bool false, .slice none 0 0, .slice none 0 0], [.bool neg, .slice va vl vc, .slice none 0 0]]⟩ → K S h' := by
    intro va vl vc h' S _ hz hS
    refine hK _ _ (AWP_le _ hS ?_); clear hK K
    refine AWP_sqs (fun K hK => ?_)
    refine rg rfl rfl (fun K hK => ?_); (repeat (first | (refine wo rfl (fun k hk => ?_); simp (disch := omega) only [go_sem, Nat.reduceBEq, Nat.reduceAdd]; refine hk _ _ ?_; clear hk k) | refine wkt rfl ?_ | with_reducible refine wk0 ?_ | with_reducible refine wt_seg ?_ | with_reducible refine wt_alt ?_ wt_no | with_reducible refine wt_done ?_))
    refine cN rfl rfl rfl rfl (by exact whole_spec hx) ?_; rintro v3 h3 s3 rfl; (repeat (first | (refine wo rfl (fun k hk => ?_); simp (disch := omega) only [go_sem, Nat.reduceBEq, Nat.reduceAdd]; refine hk _ _ ?_; clear hk k) | refine wkt rfl ?_ | with_reducible refine wk0 ?_ | with_reducible refine wt_seg ?_ | with_reducible refine wt_alt ?_ wt_no | with_reducible refine wt_done ?_))
    by_cases h1 : x.den = 1
    · ((try (simp (disch := omega) only [go_sem, Nat.reduceBEq, Nat.reduceAdd])); refine hK _ _ ?_; clear hK; (try clear K); (try dsimp only [behind, qs])); (repeat (first | (refine rg rfl rfl (fun K hK => ?_); (repeat (first | (refine wo rfl (fun k hk => ?_); simp (disch := omega) only [go_sem, Nat.reduceBEq, Nat.reduceAdd]; refine hk _ _ ?_; clear hk k) | refine wkt rfl ?_)); (try refine wk0 ?_); refine hK _ _ ?_; clear hK K; (try dsimp only [behind, qs, qb])) | ((first | refine AWP_exit ?_ | refine AWP_skip ?_); simp (disch := decide) only [qs, qb, if_true, if_false, reduceIte]) | refine AWP_sq rfl (fun K hK => ?_) | refine ct rfl ?_ | ((first | refine hK _ _ ?_ | (clear hK; refine hK _ _ ?_) | (clear hK; clear hK; refine hK _ _ ?_)); clear hK; (try clear K))))
      refine AWP_ret ?_; simp (disch := omega) only [go_sem, Nat.reduceBEq, Nat.reduceAdd]
      exact ⟨_, _, by rw [en], hz.to, by rw [if_pos h1]; exact N32.zero _⟩
    · have e1 : e = x.den := by
        rw [← he] at h1 ⊢
        unfold dz at h1 ⊢
        split at h1
        · exact (h1 rfl).elim
        · rename_i h2; rw [if_neg h2]
      rw [e1] at hd b3
      ((try (simp (disch := omega) only [go_sem, Nat.reduceBEq, Nat.reduceAdd])); refine hK _ _ ?_; clear hK; (try clear K); (try dsimp only [behind, qs])); (repeat (first | (refine rg rfl rfl (fun K hK => ?_); (repeat (first | (refine wo rfl (fun k hk => ?_); simp (disch := omega) only [go_sem, Nat.reduceBEq, Nat.reduceAdd]; refine hk _ _ ?_; clear hk k) | refine wkt rfl ?_)); (try refine wk0 ?_); refine hK _ _ ?_; clear hK K; (try dsimp only [behind, qs, qb])) | ((first | refine AWP_exit ?_ | refine AWP_skip ?_); simp (disch := decide) only [qs, qb, if_true, if_false, reduceIte]) | refine AWP_sq rfl (fun K hK => ?_) | refine ct rfl ?_ | ((first | refine hK _ _ ?_ | (clear hK; refine hK _ _ ?_) | (clear hK; clear hK; refine hK _ _ ?_)); clear hK; (try clear K)))); (refine rg rfl rfl (fun K hK => ?_); (repeat (first | (refine wo rfl (fun k hk => ?_); simp (disch := omega) only [go_sem, Nat.reduceBEq, Nat.reduceAdd]; refine hk _ _ ?_; clear hk k) | refine wkt rfl ?_ | with_reducible refine wk0 ?_ | with_reducible refine wt_seg ?_ | with_reducible refine wt_alt ?_ wt_no | with_reducible refine wt_done ?_)))
      refine cN rfl rfl rfl rfl (by exact list_spec hd (by omega)) ?_; rintro v4 h4 _ hv4; obtain ⟨v4, v4_l, v4_c, rfl, hv4⟩ := hv4.sl; (repeat (first | (refine wo rfl (fun k hk => ?_); simp (disch := omega) only [go_sem, Nat.reduceBEq, Nat.reduceAdd]; refine hk _ _ ?_; clear hk k) | refine wkt rfl ?_ | with_reducible refine wk0 ?_ | with_reducible refine wt_seg ?_ | with_reducible refine wt_alt ?_ wt_no | with_reducible refine wt_done ?_))
      ((try (simp (disch := omega) only [go_sem, Nat.reduceBEq, Nat.reduceAdd])); refine hK _ _ ?_; clear hK; (try clear K); (try dsimp only [behind, qs])); (repeat (first | (refine rg rfl rfl (fun K hK => ?_); (repeat (first | (refine wo rfl (fun k hk => ?_); simp (disch := omega) only [go_sem, Nat.reduceBEq, Nat.reduceAdd]; refine hk _ _ ?_; clear hk k) | refine wkt rfl ?_)); (try refine wk0 ?_); refine hK _ _ ?_; clear hK K; (try dsimp only [behind, qs, qb])) | ((first | refine AWP_exit ?_ | refine AWP_skip ?_); simp (disch := decide) only [qs, qb, if_true, if_false, reduceIte]) | refine AWP_sq rfl (fun K hK => ?_) | refine ct rfl ?_ | ((first | refine hK _ _ ?_ | (clear hK; refine hK _ _ ?_) | (clear hK; clear hK; refine hK _ _ ?_)); clear hK; (try clear K))))
      refine AWP_ret ?_; simp (disch := omega) only [go_sem, Nat.reduceBEq, Nat.reduceAdd]
      exact ⟨_, _, by rw [en], hz.to, by rw [if_neg h1]; exact hv4⟩
  cases neg with
  | true =>
    have hnn' := hnn rfl
    (repeat (first | (refine wo rfl (fun k hk => ?_); simp (disch := omega) only [go_sem, Nat.reduceBEq, Nat.reduceAdd]; refine hk _ _ ?_; clear hk k) | refine wkt rfl ?_ | with_reducible refine wk0 ?_ | with_reducible refine wt_seg ?_ | with_reducible refine wt_alt ?_ wt_no | with_reducible refine wt_done ?_))
    refine wt_alt ?_ (wt_alt ?_ wt_no)
    · refine cN rfl rfl rfl rfl (by exact list_spec hn (by omega)) ?_; rintro v2 h2 _ hv2; obtain ⟨v2, v2_l, v2_c, rfl, hv2⟩ := hv2.sl; (repeat (first | (refine wo rfl (fun k hk => ?_); simp (disch := omega) only [go_sem, Nat.reduceBEq, Nat.reduceAdd]; refine hk _ _ ?_; clear hk k) | refine wkt rfl ?_ | with_reducible refine wk0 ?_ | with_reducible refine wt_seg ?_ | with_reducible refine wt_alt ?_ wt_no | with_reducible refine wt_done ?_))
      refine rest _ _ _ _ _ inferInstance hv2 ?_
      simp (disch := omega) only [go_sem, Nat.reduceBEq, Nat.reduceAdd]
    · (repeat (first | (refine wo rfl (fun k hk => ?_); simp (disch := omega) only [go_sem, Nat.reduceBEq, Nat.reduceAdd]; refine hk _ _ ?_; clear hk k) | refine wkt rfl ?_ | with_reducible refine wk0 ?_ | with_reducible refine wt_seg ?_ | with_reducible refine wt_alt ?_ wt_no | with_reducible refine wt_done ?_))
      refine cN rfl rfl rfl rfl (by exact list_spec hn (by omega)) ?_; rintro v2 h2 _ hv2; obtain ⟨v2, v2_l, v2_c, rfl, hv2⟩ := hv2.sl; (repeat (first | (refine wo rfl (fun k hk => ?_); simp (disch := omega) only [go_sem, Nat.reduceBEq, Nat.reduceAdd]; refine hk _ _ ?_; clear hk k) | refine wkt rfl ?_ | with_reducible refine wk0 ?_ | with_reducible refine wt_seg ?_ | with_reducible refine wt_alt ?_ wt_no | with_reducible refine wt_done ?_))
      refine rest _ _ _ _ _ inferInstance hv2 ?_
      simp (disch := omega) only [go_sem, Nat.reduceBEq, Nat.reduceAdd]
  | false =>
    (repeat (first | (refine wo rfl (fun k hk => ?_); simp (disch := omega) only [go_sem, Nat.reduceBEq, Nat.reduceAdd]; refine hk _ _ ?_; clear hk k) | refine wkt rfl ?_ | with_reducible refine wk0 ?_ | with_reducible refine wt_seg ?_ | with_reducible refine wt_alt ?_ wt_no | with_reducible refine wt_done ?_))
    refine wt_alt ?_ (wt_alt ?_ wt_no)
    · refine cN rfl rfl rfl rfl (by exact list_spec hn (by omega)) ?_; rintro v2 h2 _ hv2; obtain ⟨v2, v2_l, v2_c, rfl, hv2⟩ := hv2.sl; (repeat (first | (refine wo rfl (fun k hk => ?_); simp (disch := omega) only [go_sem, Nat.reduceBEq, Nat.reduceAdd]; refine hk _ _ ?_; clear hk k) | refine wkt rfl ?_ | with_reducible refine wk0 ?_ | with_reducible refine wt_seg ?_ | with_reducible refine wt_alt ?_ wt_no | with_reducible refine wt_done ?_))
      refine rest _ _ _ _ _ inferInstance hv2 ?_
      simp (disch := omega) only [go_sem, Nat.reduceBEq, Nat.reduceAdd]
    · (repeat (first | (refine wo rfl (fun k hk => ?_); simp (disch := omega) only [go_sem, Nat.reduceBEq, Nat.reduceAdd]; refine hk _ _ ?_; clear hk k) | refine wkt rfl ?_ | with_reducible refine wk0 ?_ | with_reducible refine wt_seg ?_ | with_reducible refine wt_alt ?_ wt_no | with_reducible refine wt_done ?_))
      refine cN rfl rfl rfl rfl (by exact list_spec hn (by omega)) ?_; rintro v2 h2 _ hv2; obtain ⟨v2, v2_l, v2_c, rfl, hv2⟩ := hv2.sl; (repeat (first | (refine wo rfl (fun k hk => ?_); simp (disch := omega) only [go_sem, Nat.reduceBEq, Nat.reduceAdd]; refine hk _ _ ?_; clear hk k) | refine wkt rfl ?_ | with_reducible refine wk0 ?_ | with_reducible refine wt_seg ?_ | with_reducible refine wt_alt ?_ wt_no | with_reducible refine wt_done ?_))
      refine rest _ _ _ _ _ inferInstance hv2 ?_
      simp (disch := omega) only [go_sem, Nat.reduceBEq, Nat.reduceAdd]
end Go.Q
namespace Go.Q
open Go.Proofs
set_option maxRecDepth 100000
set_option maxHeartbeats 4000000
theorem W16_len_bl {n k : Nat} : (W 65536 n).length ≤ k ↔ bl n ≤ 16 * k := by
  rw [bl_le, B16_pow]
  refine ⟨fun h => ?_, fun h => W_length_le (by decide) h⟩
  exact Nat.lt_of_lt_of_le (lt_W_length (by decide) n) (Nat.pow_le_pow_right (by decide) h)
theorem N16.len {h : PH} {a : Option Addr} {l c n k : Nat} (r : N16 h (.slice a l c) n) : l ≤ k ↔ bl n ≤ 16 * k := by
  obtain ⟨a', c', h1, _⟩ := r
  cases h1
  exact W16_len_bl
theorem Sgn_spec {h0 h : PH} [Le h0 h] {v : Value} {x : Rat} (hx : Qr h0 v x) : Spec mach 74 #[v] h (fun v _ => v = .int .i64 (sgn3 x)) NP := by
  obtain ⟨na, nl, nc, da, dl, dc, e, rfl, hn, hd, he⟩ := hx.sl
  have ln := hn.len0
  refine Spec.go [] Tryz.func74 rfl rfl (by kernel_rfl) fun C _ => ?_
  try simp (maxSteps := 999999) (disch := omega) only [go_sem, Nat.reduceBEq, Nat.reduceAdd]
  by_cases h0 : x.num = 0
  · have e1 : x = 0 := Rat.num_eq_zero.1 h0
    try simp (maxSteps := 999999) (disch := omega) only [go_sem, Nat.reduceBEq, Nat.reduceAdd]
    subst e1; simp [sgn3]
  · by_cases h1 : x.num < 0
    · have e1 : decide (x.num < 0) = true := decide_eq_true h1
      try simp (maxSteps := 999999) (disch := omega) only [go_sem, Nat.reduceBEq, Nat.reduceAdd, e1]
      rw [sgn3, if_pos (num_neg.1 h1)]
    · have e1 : decide (x.num < 0) = false := decide_eq_false h1
      have e2 : 0 < x.num := by omega
      try simp (maxSteps := 999999) (disch := omega) only [go_sem, Nat.reduceBEq, Nat.reduceAdd, e1]
      rw [sgn3, if_neg (fun h => h1 (num_neg.2 h)), if_pos (num_pos.1 e2)]
theorem Opp_spec {h0 h : PH} [Le h0 h] {v : Value} {x : Rat} (hx : Qr h0 v x) : Spec mach 128 #[v] h (fun v h' => Qr h' v (-x)) NP := by
  obtain ⟨na, nl, nc, da, dl, dc, e, rfl, hn, hd, he⟩ := hx.sl
  have ln := hn.len0
  have hn2 : N16 h0 (.slice na nl nc) (-x).num.natAbs := by simpa using hn
  refine Spec.go [] Tryz.func128 rfl rfl (by kernel_rfl) fun C _ => ?_
  try simp (maxSteps := 999999) (disch := omega) only [go_sem, Nat.reduceBEq, Nat.reduceAdd]
  by_cases h1 : x.num < 0
  · have e1 : decide (x.num < 0) = true := decide_eq_true h1
    have e2 : decide ((-x).num < 0) = false := by rw [Rat.neg_num, decide_eq_false_iff_not]; omega
    try simp (maxSteps := 999999) (disch := omega) only [go_sem, Nat.reduceBEq, Nat.reduceAdd, e1]
    exact ⟨_, _, e, by rw [e2], hn2.to, hd.to, he⟩
  · have e1 : decide (x.num < 0) = false := decide_eq_false h1
    by_cases h0 : x.num = 0
    · have e2 : decide ((-x).num < 0) = false := by rw [Rat.neg_num, decide_eq_false_iff_not]; omega
      try simp (maxSteps := 999999) (disch := omega) only [go_sem, Nat.reduceBEq, Nat.reduceAdd, e1]
      exact ⟨_, _, e, by rw [e2], hn2.to, hd.to, he⟩
    · have e2 : decide ((-x).num < 0) = true := by rw [Rat.neg_num, decide_eq_true_eq]; omega
      have e3 : 0 < nl := by omega
      try simp (maxSteps := 999999) (disch := omega) only [go_sem, Nat.reduceBEq, Nat.reduceAdd, e1]
      exact ⟨_, _, e, by rw [e2], hn2.to, hd.to, he⟩
theorem Sum_spec {h0 h : PH} [Le h0 h] {v w : Value} {x y : Rat} (hx : Qr h0 v x) (hy : Qr h0 w y) (bx : sz x ≤ 2 ^ 35) (by_ : sz y ≤ 2 ^ 35) :
    Spec mach 127 #[v, w] h (fun v h' => Qr h' v (x + y)) NP := by
  have hx0 := hx
  have hy0 := hy
  obtain ⟨na, nl, nc, da, dl, dc, e, rfl, hn, hd, he⟩ := hx.sl
  obtain ⟨na', nl', nc', da', dl', dc', e', rfl, hn', hd', he'⟩ := hy.sl
  have b1 := sz_num x; have b2 := sz_den x; have b3 := sz_num y; have b4 := sz_den y
  have b5 := bl_mul x.num.natAbs y.den
  have b6 := bl_mul y.num.natAbs x.den
  have b7 := bl_mul x.den y.den
  have b8 := bl_add (x.num.natAbs * y.den) (y.num.natAbs * x.den)
  have b9 := bl_mono (Nat.sub_le (x.num.natAbs * y.den) (y.num.natAbs * x.den))
  have b10 := bl_mono (Nat.sub_le (y.num.natAbs * x.den) (x.num.natAbs * y.den))
  obtain ⟨n1, en1⟩ : ∃ b, decide (x.num < 0) = b := ⟨_, rfl⟩
  obtain ⟨n2, en2⟩ : ∃ b, decide (y.num < 0) = b := ⟨_, rfl⟩
  rw [en1] at hx0 ⊢
  rw [en2] at hy0 ⊢
  refine Spec.go [(1, .o [0, 1, 2, 5, 6, 7, 3, 4, 8, 9, 10, 11]), (2, .o [0, 2, 1, 3, 4, 5]), (4, .o [0, 1, 2, 3, 5, 4, 6, 7]), (6, .o [0, 1, 2, 3, 5, 4, 6, 7]), (7, .o [0, 1, 2, 3, 5, 4, 6, 7])] Tryz.func127 rfl rfl (by kernel_rfl) fun C _ => ?_
  try simp (maxSteps := 999999) (disch := omega) only [go_sem, Nat.reduceBEq, Nat.reduceAdd]
  refine caN (by exact den_spec hy0) ?_; rintro _ g1 _ hd1; obtain ⟨_, _, _, rfl, hd1⟩ := hd1.sl
  try simp (maxSteps := 999999) (disch := omega) only [go_sem, Nat.reduceBEq, Nat.reduceAdd]
  refine caN (by exact NatMul_spec (hn.to (h' := g1)) hd1 (by omega) (by omega)) ?_; rintro _ h1 _ hv1; obtain ⟨v1, _, _, rfl, hv1⟩ := hv1.sl
  try simp (maxSteps := 999999) (disch := omega) only [go_sem, Nat.reduceBEq, Nat.reduceAdd]
  refine caN (by exact den_spec hx0) ?_; rintro _ g2 _ hd2; obtain ⟨_, _, _, rfl, hd2⟩ := hd2.sl
  try simp (maxSteps := 999999) (disch := omega) only [go_sem, Nat.reduceBEq, Nat.reduceAdd]
  refine caN (by exact NatMul_spec (hn'.to (h' := g2)) hd2 (by omega) (by omega)) ?_; rintro _ h2 _ hv2; obtain ⟨v2, _, _, rfl, hv2⟩ := hv2.sl
  try simp (maxSteps := 999999) (disch := omega) only [go_sem, Nat.reduceBEq, Nat.reduceAdd]
  refine caN (by exact den_spec hx0) ?_; rintro _ g3 _ hd3; obtain ⟨_, _, _, rfl, hd3⟩ := hd3.sl
  try simp (maxSteps := 999999) (disch := omega) only [go_sem, Nat.reduceBEq, Nat.reduceAdd]
  refine caN (by exact den_spec hy0) ?_; rintro _ g4 _ hd4; obtain ⟨_, _, _, rfl, hd4⟩ := hd4.sl
  try simp (maxSteps := 999999) (disch := omega) only [go_sem, Nat.reduceBEq, Nat.reduceAdd]
  refine caN (by exact NatMul_spec (hd3.to (h' := g4)) hd4 (by omega) (by omega)) ?_; rintro _ h3 _ hv3; obtain ⟨v3, _, _, rfl, hv3⟩ := hv3.sl
  try simp (maxSteps := 999999) (disch := omega) only [go_sem, Nat.reduceBEq, Nat.reduceAdd]
  by_cases hee : n1 = n2
  · subst hee
    try simp (maxSteps := 999999) (disch := omega) only [go_sem, Nat.reduceBEq, Nat.reduceAdd]
    refine caN (by exact NatAdd_spec (hv1.to (h' := h2)) hv2 (by omega) (by omega)) ?_; rintro _ h4 _ hv4; obtain ⟨v4, _, _, rfl, hv4⟩ := hv4.sl
    try simp (maxSteps := 999999) (disch := omega) only [go_sem, Nat.reduceBEq, Nat.reduceAdd]
    refine caN (by exact Make_spec (hv4.to (h' := h4)) hv3.to (by omega) (by omega)) ?_; rintro _ h5 _ hv5; obtain ⟨_, _, _, _, _, _, _, rfl, hv5⟩ := hv5.sa
    try simp (maxSteps := 999999) (disch := omega) only [go_sem, Nat.reduceBEq, Nat.reduceAdd]
    rw [sgn_same en1 en2] at hv5
    exact hv5
  · have hb : (n1 == n2) = false := by cases n1 <;> cases n2 <;> simp_all
    have hb' : n2 = !n1 := by cases n1 <;> cases n2 <;> simp_all
    try simp (maxSteps := 999999) (disch := omega) only [go_sem, Nat.reduceBEq, Nat.reduceAdd, hb]
    refine caN (by exact NatCmp_spec (hv1.to (h' := h2)) hv2) ?_; rintro v4 h4 s4 rfl
    try simp (maxSteps := 999999) (disch := omega) only [go_sem, Nat.reduceBEq, Nat.reduceAdd]
    by_cases hle : y.num.natAbs * x.den ≤ x.num.natAbs * y.den
    · have hc : 0 ≤ cmp3 (x.num.natAbs * y.den) (y.num.natAbs * x.den) := by simp only [cmp3, if_neg (Nat.not_lt.2 hle)]; split <;> decide
      try simp (maxSteps := 999999) (disch := omega) only [go_sem, Nat.reduceBEq, Nat.reduceAdd]
      refine caN (by exact NatSub_spec (hv1.to (h' := h2)) hv2 hle (by omega)) ?_; rintro _ h5 _ hv5; obtain ⟨v5, _, _, rfl, hv5⟩ := hv5.sl
      try simp (maxSteps := 999999) (disch := omega) only [go_sem, Nat.reduceBEq, Nat.reduceAdd]
      refine caN (by exact Make_spec (hv5.to (h' := h5)) hv3.to (by omega) (by omega)) ?_; rintro _ h6 _ hv6; obtain ⟨_, _, _, _, _, _, _, rfl, hv6⟩ := hv6.sa
      try simp (maxSteps := 999999) (disch := omega) only [go_sem, Nat.reduceBEq, Nat.reduceAdd]
      rw [sgn_diff en1 (by rw [en2, hb']) hle] at hv6
      exact hv6
    · have hc : ¬ 0 ≤ cmp3 (x.num.natAbs * y.den) (y.num.natAbs * x.den) := by simp only [cmp3, if_pos (Nat.not_le.1 hle)]; decide
      try simp (maxSteps := 999999) (disch := omega) only [go_sem, Nat.reduceBEq, Nat.reduceAdd]
      refine caN (by exact NatSub_spec (hv2.to (h' := h2)) (hv1.to (h' := h2)) (Nat.le_of_lt (Nat.not_le.1 hle)) (by omega)) ?_; rintro _ h5 _ hv5; obtain ⟨v5, _, _, rfl, hv5⟩ := hv5.sl
      try simp (maxSteps := 999999) (disch := omega) only [go_sem, Nat.reduceBEq, Nat.reduceAdd]
      refine caN (by exact Make_spec (hv5.to (h' := h5)) hv3.to (by omega) (by omega)) ?_; rintro _ h6 _ hv6; obtain ⟨_, _, _, _, _, _, _, rfl, hv6⟩ := hv6.sa
      try simp (maxSteps := 999999) (disch := omega) only [go_sem, Nat.reduceBEq, Nat.reduceAdd]
      rw [Nat.mul_comm x.den, sgn_diff en2 (by rw [en1, hb', Bool.not_not]) (Nat.le_of_lt (Nat.not_le.1 hle)), Rat.add_comm] at hv6
      exact hv6
theorem Diff_spec {h0 h : PH} [Le h0 h] {v w : Value} {x y : Rat} (hx : Qr h0 v x) (hy : Qr h0 w y) (bx : sz x ≤ 2 ^ 35) (by_ : sz y ≤ 2 ^ 35) :
    Spec mach 75 #[v, w] h (fun v h' => Qr h' v (x - y)) NP := by
  obtain ⟨_, _, _, _, _, _, _, rfl, hx⟩ := hx.sa
  obtain ⟨_, _, _, _, _, _, _, rfl, hy⟩ := hy.sa
  refine Spec.go [] Tryz.func75 rfl rfl (by kernel_rfl) fun C _ => ?_
  try simp (maxSteps := 999999) (disch := omega) only [go_sem, Nat.reduceBEq, Nat.reduceAdd]
  refine caN (by exact Opp_spec hy) ?_; rintro _ h1 _ hv1; obtain ⟨_, _, _, _, _, _, _, rfl, hv1⟩ := hv1.sa
  try simp (maxSteps := 999999) (disch := omega) only [go_sem, Nat.reduceBEq, Nat.reduceAdd]
  refine caN (by exact Sum_spec (hx.to (h' := h1)) hv1 bx (by rw [sz_neg]; exact by_)) ?_; rintro _ h2 _ hv2; obtain ⟨_, _, _, _, _, _, _, rfl, hv2⟩ := hv2.sa
  try simp (maxSteps := 999999) (disch := omega) only [go_sem, Nat.reduceBEq, Nat.reduceAdd]
  rw [Rat.sub_eq_add_neg]; exact hv2
theorem sgn3_sub (x y : Rat) : sgn3 (x - y) = cmpQ x y := by
  unfold sgn3 cmpQ; grind
theorem QCmp_spec {h0 h : PH} [Le h0 h] {v w : Value} {x y : Rat} (hx : Qr h0 v x) (hy : Qr h0 w y) (bx : sz x ≤ 2 ^ 34) (by_ : sz y ≤ 2 ^ 34) :
    Spec mach 22 #[v, w] h (fun v _ => v = .int .i64 (cmpQ x y)) NP := by
  obtain ⟨_, _, _, _, _, _, _, rfl, hx⟩ := hx.sa
  obtain ⟨_, _, _, _, _, _, _, rfl, hy⟩ := hy.sa
  refine Spec.go [] Tryz.func22 rfl rfl (by kernel_rfl) fun C _ => ?_
  try simp (maxSteps := 999999) (disch := omega) only [go_sem, Nat.reduceBEq, Nat.reduceAdd]
  refine caN (by exact Diff_spec hx hy (by omega) (by omega)) ?_; rintro _ h1 _ hv1; obtain ⟨_, _, _, _, _, _, _, rfl, hv1⟩ := hv1.sa
  try simp (maxSteps := 999999) (disch := omega) only [go_sem, Nat.reduceBEq, Nat.reduceAdd]
  refine caN (by exact Sgn_spec hv1) ?_; rintro v2 h2 s2 rfl
  try simp (maxSteps := 999999) (disch := omega) only [go_sem, Nat.reduceBEq, Nat.reduceAdd]
  rw [sgn3_sub]
end Go.Q
namespace Go.Q
open Go.Proofs
set_option maxRecDepth 100000
set_option maxHeartbeats 4000000
theorem signed_mul (x : Rat) (k : Nat) : (if decide (x.num < 0) = true then -((x.num.natAbs * k : Nat) : Int) else ((x.num.natAbs * k : Nat) : Int)) = x.num * k := by
  generalize x.num = a
  by_cases h : a < 0
  · obtain ⟨m, rfl⟩ : ∃ m : Nat, a = -(m : Int) := ⟨a.natAbs, by omega⟩
    rw [decide_eq_true h, if_pos rfl]; simp [Int.neg_mul]
  · obtain ⟨m, rfl⟩ : ∃ m : Nat, a = (m : Int) := ⟨a.natAbs, by omega⟩
    rw [decide_eq_false h, if_neg (by simp)]; simp
theorem sgn_scale (x : Rat) (p : Nat) : sgn (decide (x.num < 0)) (x.num.natAbs * 2 ^ p) x.den = x * 2 ^ p := by
  rw [scaled]
  unfold sgn
  rw [signed_mul]
  congr 1
theorem two_pow_pos (p : Nat) : (0 : Rat) < 2 ^ p := Rat.pow_pos (by decide)
theorem sgn_unscale (x : Rat) (p : Nat) : sgn (decide (x.num < 0)) x.num.natAbs (x.den * 2 ^ p) = x / 2 ^ p := by
  have h2 : (2 ^ p : Nat) ≠ 0 := Nat.ne_of_gt (Nat.pow_pos (by decide))
  have e : sgn (decide (x.num < 0)) x.num.natAbs (x.den * 2 ^ p) * 2 ^ p = x := by
    unfold sgn
    have h1 := signed_mul x 1
    simp only [Nat.mul_one] at h1
    rw [h1, show (2 : Rat) ^ p = mkRat (2 ^ p : Nat) 1 from by rw [Rat.mkRat_eq_div, Rat.div_def]; simp [inv_one], Rat.mkRat_mul_mkRat]
    have : mkRat (x.num * ((1 : Nat) : Int) * ((2 ^ p : Nat) : Int)) (x.den * 2 ^ p * 1) = mkRat x.num x.den := by
      rw [Nat.mul_one]
      simp only [Int.natCast_one, Int.mul_one]
      exact Rat.mkRat_mul_right h2
    rw [this, Rat.mkRat_self]
  have hp := two_pow_pos p
  have h3 := Rat.mul_div_cancel (a := sgn (decide (x.num < 0)) x.num.natAbs (x.den * 2 ^ p)) (Rat.ne_of_gt hp)
  rw [e] at h3
  exact h3.symm
theorem sz_two (p : Nat) : sz ((2 : Rat) ^ p) ≤ p + 1 := by
  unfold sz
  have h1 : ((2 : Rat) ^ p).num.natAbs = 2 ^ p := by simp [Int.natAbs_pow]
  have h2 : ((2 : Rat) ^ p).den = 1 := by simp
  rw [h1, h2]
  have := bl_pow2 p
  have h3 : bl 1 = 1 := by decide
  omega
theorem sz_scale (x : Rat) (p : Nat) : sz (x * 2 ^ p) ≤ sz x + p + 1 := by
  have := sz_mul x (2 ^ p); have := sz_two p; omega
theorem sz_pos (x : Rat) : 1 ≤ sz x := by
  have h1 : bl 1 ≤ bl x.den := bl_mono (Nat.pos_of_ne_zero x.den_nz)
  have h2 : bl 1 = 1 := by decide
  have := sz_den x; omega
theorem sz_int (n : Int) : sz (n : Rat) ≤ max (bl n.natAbs) 1 := by
  unfold sz
  rw [Rat.num_intCast, Rat.den_intCast, show bl 1 = 1 from by decide]
  exact Nat.le_refl _
theorem sz_floor (x : Rat) : sz (x.floor : Rat) ≤ sz x := by
  have h1 := sz_int x.floor
  have h2 : x.floor.natAbs ≤ x.num.natAbs := by rw [Rat.floor_def]; exact Int.natAbs_ediv_le_natAbs _ _
  have h3 := bl_mono h2
  have := sz_num x; have := sz_pos x; omega
theorem Scaled_spec {h0 h : PH} [Le h0 h] {v : Value} {x : Rat} {p : Nat} (hx : Qr h0 v x) (bx : sz x ≤ 2 ^ 34) (hp : p ≤ 2 ^ 34) :
    Spec mach 82 #[v, .int .i64 p] h (fun v h' => Qr h' v (x * 2 ^ p)) NP := by
  have hx0 := hx
  obtain ⟨na, nl, nc, da, dl, dc, e, rfl, hn, hd, he⟩ := hx.sl
  have b1 := sz_num x; have b2 := sz_den x; have b3 := bl_shl x.num.natAbs p
  have hs := sgn_scale x p
  obtain ⟨n1, en1⟩ : ∃ b, decide (x.num < 0) = b := ⟨_, rfl⟩
  rw [en1] at hx0 hs ⊢
  refine Spec.enter (args := [_, _]) (n := 26) Tryz.func82 rfl (by kernel_rfl) rfl (by simp) [.cell 4 33] rfl (fun C _ => ?_)
  repeat (first | (refine wo rfl (fun k hk => ?_); simp (disch := omega) only [go_sem, Nat.reduceBEq, Nat.reduceAdd]; refine hk _ _ ?_; clear hk k) | refine wkt rfl ?_ | refine wk0 ?_ | refine rg rfl rfl (fun K hK => ?_) | refine rd [.o 0, .o 1, .o 2, .o 3, .o 4, .o 6, .o 7, .o 5, .o 8, .o 9, .o 10] rfl (by decide +kernel) rfl (fun K hK => ?_) | refine rd [.o 0, .o 1, .o 2, .o 3, .o 4, .o 6, .o 5, .o 7, .o 8, .o 9] rfl (by decide +kernel) rfl (fun K hK => ?_) | ((first | refine AWP_exit ?_ | refine AWP_skip ?_); simp (disch := decide) only [qs, qb, if_true, if_false, reduceIte]) | refine AWP_sq rfl (fun K hK => ?_) | refine ct rfl ?_ | ((try simp (disch := omega) only [go_sem, Nat.reduceBEq, Nat.reduceAdd]); (first | apply hK | (clear hK; apply hK) | (clear hK; clear hK; apply hK)); clear hK; (try clear K); (try dsimp only [behind, qs, qb])))
  refine cN rfl rfl rfl rfl (by exact NatShl_spec (n := p) hn (by omega)) ?_; rintro v1 h1 _ hv1; obtain ⟨v1, v1_l, v1_c, rfl, hv1⟩ := hv1.sl; (repeat (first | (refine wo rfl (fun k hk => ?_); simp (disch := omega) only [go_sem, Nat.reduceBEq, Nat.reduceAdd]; refine hk _ _ ?_; clear hk k) | refine wkt rfl ?_)); (try refine wk0 ?_)
  refine cN rfl rfl rfl rfl (by exact den_spec hx0) ?_; rintro v2 h2 _ hv2; obtain ⟨v2, v2_l, v2_c, rfl, hv2⟩ := hv2.sl; (repeat (first | (refine wo rfl (fun k hk => ?_); simp (disch := omega) only [go_sem, Nat.reduceBEq, Nat.reduceAdd]; refine hk _ _ ?_; clear hk k) | refine wkt rfl ?_)); (try refine wk0 ?_)
  refine cN rfl rfl rfl rfl (by exact Make_spec (neg := n1) (hv1.to (h' := h2)) hv2 (by omega) (by omega)) ?_; rintro v3 h3 _ hv3; obtain ⟨v3_0, v3_1, v3_2, v3_3, v3_4, v3_5, v3_6, rfl, hv3⟩ := hv3.sa; (repeat (first | (refine wo rfl (fun k hk => ?_); simp (disch := omega) only [go_sem, Nat.reduceBEq, Nat.reduceAdd]; refine hk _ _ ?_; clear hk k) | refine wkt rfl ?_)); (try refine wk0 ?_)
  (try (simp (disch := omega) only [go_sem, Nat.reduceBEq, Nat.reduceAdd])); refine hK _ _ ?_; clear hK; (try clear K); (try dsimp only [behind, qs])
  refine AWP_ret ?_; simp (disch := omega) only [go_sem, Nat.reduceBEq, Nat.reduceAdd]
  rw [hs] at hv3; exact hv3
theorem Unscaled_spec {h0 h : PH} [Le h0 h] {v : Value} {x : Rat} {p : Nat} {i : Int} (hx : Qr h0 v x) (hi : i = -(p : Int)) (bx : sz x ≤ 2 ^ 34) (hp : p ≤ 2 ^ 34) :
    Spec mach 82 #[v, .int .i64 i] h (fun v h' => Qr h' v (x / 2 ^ p)) NP := by
  by_cases h0' : p = 0
  · subst h0'
    have : i = ((0 : Nat) : Int) := by omega
    subst this
    have e : x / 2 ^ 0 = x * 2 ^ 0 := by simp [Rat.div_def, inv_one]
    rw [e]; exact Scaled_spec hx bx (by decide)
  subst hi
  have hx0 := hx
  obtain ⟨na, nl, nc, da, dl, dc, e, rfl, hn, hd, he⟩ := hx.sl
  have b1 := sz_num x; have b2 := sz_den x; have b3 := bl_shl x.den p
  have hs := sgn_unscale x p
  obtain ⟨n1, en1⟩ : ∃ b, decide (x.num < 0) = b := ⟨_, rfl⟩
  rw [en1] at hx0 hs ⊢
  have e1 : IntKind.i64.wrap (0 - -(p : Int)) = (p : Int) := by rw [wi64 (by omega) (by omega)]; omega
  refine Spec.enter (args := [_, _]) (n := 26) Tryz.func82 rfl (by kernel_rfl) rfl (by simp) [.cell 4 33] rfl (fun C _ => ?_)
  repeat (first | ((first | refine rg rfl rfl (fun K hK => ?_) | refine rd [.o 0, .o 1, .o 2, .o 3, .o 4, .o 6, .o 7, .o 5, .o 8, .o 9, .o 10] rfl (by decide +kernel) rfl (fun K hK => ?_) | refine rd [.o 0, .o 1, .o 2, .o 3, .o 4, .o 6, .o 5, .o 7, .o 8, .o 9] rfl (by decide +kernel) rfl (fun K hK => ?_)); (repeat (first | (refine wo rfl (fun k hk => ?_); simp (disch := omega) only [go_sem, Nat.reduceBEq, Nat.reduceAdd, e1]; refine hk _ _ ?_; clear hk k) | refine wkt rfl ?_)); (try refine wk0 ?_); refine hK _ _ ?_; clear hK K; (try dsimp only [behind, qs, qb])) | ((first | refine AWP_exit ?_ | refine AWP_skip ?_); simp (disch := decide) only [qs, qb, if_true, if_false, reduceIte]) | refine AWP_sq rfl (fun K hK => ?_) | refine ct rfl ?_ | ((first | refine hK _ _ ?_ | (clear hK; refine hK _ _ ?_) | (clear hK; clear hK; refine hK _ _ ?_)); clear hK; (try clear K)))
  (first | refine rg rfl rfl (fun K hK => ?_) | refine rd [.o 0, .o 1, .o 2, .o 3, .o 4, .o 6, .o 7, .o 5, .o 8, .o 9, .o 10] rfl (by decide +kernel) rfl (fun K hK => ?_) | refine rd [.o 0, .o 1, .o 2, .o 3, .o 4, .o 6, .o 5, .o 7, .o 8, .o 9] rfl (by decide +kernel) rfl (fun K hK => ?_)); (repeat (first | (refine wo rfl (fun k hk => ?_); simp (disch := omega) only [go_sem, Nat.reduceBEq, Nat.reduceAdd, e1]; refine hk _ _ ?_; clear hk k) | refine wkt rfl ?_)); (try refine wk0 ?_)
  refine cN rfl rfl rfl rfl (by exact den_spec hx0) ?_; rintro v2 h2 s2 hv2; obtain ⟨va2, vl2, vc2, rfl, hv2⟩ := hv2.sl; (repeat (first | (refine wo rfl (fun k hk => ?_); simp (disch := omega) only [go_sem, Nat.reduceBEq, Nat.reduceAdd]; refine hk _ _ ?_; clear hk k) | refine wkt rfl ?_)); (try refine wk0 ?_)
  (repeat (first | (refine wo rfl (fun k hk => ?_); simp (disch := omega) only [go_sem, Nat.reduceBEq, Nat.reduceAdd, e1]; refine hk _ _ ?_; clear hk k) | refine wkt rfl ?_)); (try refine wk0 ?_)
  refine cN rfl rfl rfl rfl (by exact NatShl_spec (n := p) hv2 (by omega)) ?_; rintro v1 h1 _ hv1; obtain ⟨v1, v1_l, v1_c, rfl, hv1⟩ := hv1.sl; (repeat (first | (refine wo rfl (fun k hk => ?_); simp (disch := omega) only [go_sem, Nat.reduceBEq, Nat.reduceAdd]; refine hk _ _ ?_; clear hk k) | refine wkt rfl ?_)); (try refine wk0 ?_)
  refine cN rfl rfl rfl rfl (by exact Make_spec (neg := n1) (hn.to (h' := h1)) hv1 (by omega) (by omega)) ?_; rintro v3 h3 _ hv3; obtain ⟨v3_0, v3_1, v3_2, v3_3, v3_4, v3_5, v3_6, rfl, hv3⟩ := hv3.sa; (repeat (first | (refine wo rfl (fun k hk => ?_); simp (disch := omega) only [go_sem, Nat.reduceBEq, Nat.reduceAdd]; refine hk _ _ ?_; clear hk k) | refine wkt rfl ?_)); (try refine wk0 ?_)
  (try (simp (disch := omega) only [go_sem, Nat.reduceBEq, Nat.reduceAdd])); refine hK _ _ ?_; clear hK; (try clear K); (try dsimp only [behind, qs])
  refine AWP_ret ?_; simp (disch := omega) only [go_sem, Nat.reduceBEq, Nat.reduceAdd]
  rw [hs] at hv3; exact hv3
theorem floor_val (x : Rat) : sgn (decide (x.num < 0)) (x.num.natAbs / x.den + (if decide (x.num < 0) = true ∧ x.num.natAbs % x.den ≠ 0 then 1 else 0)) 1 = (x.floor : Rat) := by
  rw [sgn_nat, Rat.floor_def]
  have hd := x.den_nz
  congr 1
  generalize x.num = a at *
  generalize x.den = d at *
  by_cases h : a < 0
  · obtain ⟨m, rfl⟩ : ∃ m : Nat, a = -(m : Int) := ⟨a.natAbs, by omega⟩
    rw [decide_eq_true h, neg_ediv m hd]
    simp only [Int.natAbs_neg, Int.natAbs_natCast, if_true]
    by_cases hr : m % d = 0 <;> simp [hr]
  · obtain ⟨m, rfl⟩ : ∃ m : Nat, a = (m : Int) := ⟨a.natAbs, by omega⟩
    rw [decide_eq_false h]
    simp
theorem Bottom_spec {h0 h : PH} [Le h0 h] {v : Value} {x : Rat} (hx : Qr h0 v x) (bx : sz x ≤ 2 ^ 35) :
    Spec mach 41 #[v] h (fun v h' => Qr h' v (x.floor : Rat)) NP := by
  have hx0 := hx
  obtain ⟨na, nl, nc, da, dl, dc, e, rfl, hn, hd, he⟩ := hx.sl
  have b1 := sz_num x; have b2 := sz_den x
  have b3 := bl_div_le x.num.natAbs x.den
  have b4 := bl_add (x.num.natAbs / x.den) 1
  have b5 := bl_one
  have hs := floor_val x
  obtain ⟨neg, en⟩ : ∃ b, decide (x.num < 0) = b := ⟨_, rfl⟩
  rw [en] at hx0 hs ⊢
  refine Spec.enter (args := [_]) (n := 28) Tryz.func41 rfl (by kernel_rfl) rfl (by simp) [.cell 2 33] rfl (fun C _ => ?_)
  repeat (first | (refine wo rfl (fun k hk => ?_); simp (disch := omega) only [go_sem, Nat.reduceBEq, Nat.reduceAdd]; refine hk _ _ ?_; clear hk k) | refine wkt rfl ?_ | refine wk0 ?_ | refine rg rfl rfl (fun K hK => ?_) | refine rd [.o 0, .o 1, .o 2, .o 3, .o 4, .o 5, .o 6, .o 7, .o 8, .o 9] rfl (by decide +kernel) rfl (fun K hK => ?_) | refine rd [.o 0, .o 1, .o 2, .o 3, .o 4, .o 5] rfl (by decide +kernel) rfl (fun K hK => ?_) | ((first | refine AWP_exit ?_ | refine AWP_skip ?_); simp (disch := decide) only [qs, qb, if_true, if_false, reduceIte]) | refine AWP_sq rfl (fun K hK => ?_) | refine ct rfl ?_ | ((try simp (disch := omega) only [go_sem, Nat.reduceBEq, Nat.reduceAdd]); (first | apply hK | (clear hK; apply hK) | (clear hK; clear hK; apply hK)); clear hK; (try clear K); (try dsimp only [behind, qs, qb])))
  refine cN rfl rfl rfl rfl (by exact den_spec hx0) ?_; rintro d1 g1 _ hd1; obtain ⟨d1, d1_l, d1_c, rfl, hd1⟩ := hd1.sl; (repeat (first | (refine wo rfl (fun k hk => ?_); simp (disch := omega) only [go_sem, Nat.reduceBEq, Nat.reduceAdd]; refine hk _ _ ?_; clear hk k) | refine wkt rfl ?_)); (try refine wk0 ?_)
  refine cN rfl rfl rfl rfl (by exact NatDiv_spec (hn.to (h' := g1)) hd1 x.den_nz (by omega) (by omega)) ?_; rintro v2 h2 s2 ⟨q, r, rfl, hq, hr⟩; (repeat (first | (refine wo rfl (fun k hk => ?_); simp (disch := omega) only [go_sem, Nat.reduceBEq, Nat.reduceAdd]; refine hk _ _ ?_; clear hk k) | refine wkt rfl ?_)); (try refine wk0 ?_)
  obtain ⟨qa, ql, qc, rfl, hq⟩ := hq.sl
  obtain ⟨ra, rl, rc, rfl, hr⟩ := hr.sl
  have lr := hr.len0
  (try (simp (disch := omega) only [go_sem, Nat.reduceBEq, Nat.reduceAdd])); refine hK _ _ ?_; clear hK; (try clear K); (try dsimp only [behind, qs])
  refine AWP_sqs (fun K hK => ?_)
  have rest : ∀ (v : Value) (q' : Nat) (S : AS) (h : PH), Le h0 h → N16 h v q' → bl q' ≤ 2 ^ 37 → sgn neg q' 1 = (x.floor : Rat) → S.le ⟨[(1, .p 0 0), (2, .p 1 0), (3, .v v)], [[.bool neg, .slice na nl nc, .slice da dl dc], [.bool false, .slice none 0 0, .slice none 0 0]]⟩ → K S h := by
    intro v q' S h _ hv bq hs hS
    refine hK _ _ (AWP_le _ hS ?_); clear hK K
    obtain ⟨va, vl, vc, rfl, hv⟩ := hv.sl
    (first | refine rg rfl rfl (fun K hK => ?_) | refine rd [.o 0, .o 1, .o 2, .o 3, .o 4, .o 5, .o 6, .o 7, .o 8, .o 9] rfl (by decide +kernel) rfl (fun K hK => ?_) | refine rd [.o 0, .o 1, .o 2, .o 3, .o 4, .o 5] rfl (by decide +kernel) rfl (fun K hK => ?_)); (repeat (first | (refine wo rfl (fun k hk => ?_); simp (disch := omega) only [go_sem, Nat.reduceBEq, Nat.reduceAdd]; refine hk _ _ ?_; clear hk k) | refine wkt rfl ?_)); (try refine wk0 ?_)
    refine cN rfl rfl rfl rfl (by exact NatOf_spec (n := 1) (by decide)) ?_; rintro w1 h3 _ hw1; obtain ⟨w1, w1_l, w1_c, rfl, hw1⟩ := hw1.sl; (repeat (first | (refine wo rfl (fun k hk => ?_); simp (disch := omega) only [go_sem, Nat.reduceBEq, Nat.reduceAdd]; refine hk _ _ ?_; clear hk k) | refine wkt rfl ?_)); (try refine wk0 ?_)
    refine cN rfl rfl rfl rfl (by exact Make_spec (neg := neg) (hv.to (h' := h3)) hw1 (by omega) (by decide)) ?_; rintro w3 h5 _ hw3; obtain ⟨w3_0, w3_1, w3_2, w3_3, w3_4, w3_5, w3_6, rfl, hw3⟩ := hw3.sa; (repeat (first | (refine wo rfl (fun k hk => ?_); simp (disch := omega) only [go_sem, Nat.reduceBEq, Nat.reduceAdd]; refine hk _ _ ?_; clear hk k) | refine wkt rfl ?_)); (try refine wk0 ?_)
    (try (simp (disch := omega) only [go_sem, Nat.reduceBEq, Nat.reduceAdd])); refine hK _ _ ?_; clear hK; (try clear K); (try dsimp only [behind, qs])
    refine AWP_ret ?_; simp (disch := omega) only [go_sem, Nat.reduceBEq, Nat.reduceAdd]
    rw [hs] at hw3
    exact hw3
  cases neg with
  | false =>
    rw [if_neg (by simp), Nat.add_zero] at hs
    refine AWP_rs rfl (fun K hK => ?_); (repeat (first | (refine wo rfl (fun k hk => ?_); simp (disch := omega) only [go_sem, Nat.reduceBEq, Nat.reduceAdd]; refine hk _ _ ?_; clear hk k) | refine wkt rfl ?_)); (try refine wk0 ?_); (first | refine hK _ _ ?_ | (clear hK; refine hK _ _ ?_) | (clear hK; clear hK; refine hK _ _ ?_)); clear hK; (try clear K)
    refine AWP_condF rfl ?_
    refine AWP_skip ?_; simp only [qs, qb, if_true, if_false, reduceIte]
    refine rest _ _ _ _ inferInstance hq (by omega) hs ?_
    simp (disch := omega) only [go_sem, Nat.reduceBEq, Nat.reduceAdd]
  | true =>
    by_cases hr0 : x.num.natAbs % x.den = 0
    · rw [if_neg (by simp [hr0]), Nat.add_zero] at hs
      refine AWP_rs rfl (fun K hK => ?_); (repeat (first | (refine wo rfl (fun k hk => ?_); simp (disch := omega) only [go_sem, Nat.reduceBEq, Nat.reduceAdd]; refine hk _ _ ?_; clear hk k) | refine wkt rfl ?_)); (try refine wk0 ?_); (first | refine hK _ _ ?_ | (clear hK; refine hK _ _ ?_) | (clear hK; clear hK; refine hK _ _ ?_)); clear hK; (try clear K)
      refine AWP_condF rfl ?_
      refine AWP_skip ?_; simp only [qs, qb, if_true, if_false, reduceIte]
      refine rest _ _ _ _ inferInstance hq (by omega) hs ?_
      simp (disch := omega) only [go_sem, Nat.reduceBEq, Nat.reduceAdd]
    · rw [if_pos ⟨rfl, hr0⟩] at hs
      have e3 : 0 < rl := by omega
      refine AWP_rs rfl (fun K hK => ?_); (repeat (first | (refine wo rfl (fun k hk => ?_); simp (disch := omega) only [go_sem, Nat.reduceBEq, Nat.reduceAdd]; refine hk _ _ ?_; clear hk k) | refine wkt rfl ?_)); (try refine wk0 ?_); (first | refine hK _ _ ?_ | (clear hK; refine hK _ _ ?_) | (clear hK; clear hK; refine hK _ _ ?_)); clear hK; (try clear K)
      refine AWP_condT rfl ?_
      (first | refine rg rfl rfl (fun K hK => ?_) | refine rd [.o 0, .o 1, .o 2, .o 3, .o 4, .o 5, .o 6, .o 7, .o 8, .o 9] rfl (by decide +kernel) rfl (fun K hK => ?_) | refine rd [.o 0, .o 1, .o 2, .o 3, .o 4, .o 5] rfl (by decide +kernel) rfl (fun K hK => ?_)); (repeat (first | (refine wo rfl (fun k hk => ?_); simp (disch := omega) only [go_sem, Nat.reduceBEq, Nat.reduceAdd]; refine hk _ _ ?_; clear hk k) | refine wkt rfl ?_)); (try refine wk0 ?_)
      refine cN rfl rfl rfl rfl (by exact NatOf_spec (n := 1) (by decide)) ?_; rintro w1 h4 _ hw1; obtain ⟨w1, w1_l, w1_c, rfl, hw1⟩ := hw1.sl; (repeat (first | (refine wo rfl (fun k hk => ?_); simp (disch := omega) only [go_sem, Nat.reduceBEq, Nat.reduceAdd]; refine hk _ _ ?_; clear hk k) | refine wkt rfl ?_)); (try refine wk0 ?_)
      refine cN rfl rfl rfl rfl (by exact NatAdd_spec (hq.to (h' := h4)) hw1 (by omega) (by decide)) ?_; rintro w2 h5 _ hw2; obtain ⟨w2, w2_l, w2_c, rfl, hw2⟩ := hw2.sl; (repeat (first | (refine wo rfl (fun k hk => ?_); simp (disch := omega) only [go_sem, Nat.reduceBEq, Nat.reduceAdd]; refine hk _ _ ?_; clear hk k) | refine wkt rfl ?_)); (try refine wk0 ?_)
      (try (simp (disch := omega) only [go_sem, Nat.reduceBEq, Nat.reduceAdd])); refine hK _ _ ?_; clear hK; (try clear K); (try dsimp only [behind, qs])
      refine rest _ _ _ _ inferInstance hw2 (by omega) hs ?_
      simp (disch := omega) only [go_sem, Nat.reduceBEq, Nat.reduceAdd]
end Go.Q
namespace Go.Q
open Go.Proofs
set_option maxRecDepth 100000
set_option maxHeartbeats 4000000
theorem Top_spec {h0 h : PH} [Le h0 h] {v : Value} {x : Rat} (hx : Qr h0 v x) (bx : sz x ≤ 2 ^ 34) :
    Spec mach 83 #[v] h (fun v h' => Qr h' v (x.ceil : Rat)) NP := by
  obtain ⟨_, _, _, _, _, _, _, rfl, hx⟩ := hx.sa
  refine Spec.enter (args := [_]) (n := 7) Tryz.func83 rfl (by kernel_rfl) rfl (by simp) [.cell 2 33] rfl (fun C _ => ?_)
  repeat (first | (refine wo rfl (fun k hk => ?_); simp (disch := omega) only [go_sem, Nat.reduceBEq, Nat.reduceAdd]; refine hk _ _ ?_; clear hk k) | refine wkt rfl ?_ | refine wk0 ?_ | refine rg rfl rfl (fun K hK => ?_) | ((first | refine AWP_exit ?_ | refine AWP_skip ?_); simp (disch := decide) only [qs, qb, if_true, if_false, reduceIte]) | refine AWP_sq rfl (fun K hK => ?_) | refine ct rfl ?_ | ((try simp (disch := omega) only [go_sem, Nat.reduceBEq, Nat.reduceAdd]); (first | apply hK | (clear hK; apply hK) | (clear hK; clear hK; apply hK)); clear hK; (try clear K); (try dsimp only [behind, qs, qb])))
  refine cN rfl rfl rfl rfl (by exact Opp_spec hx) ?_; rintro v1 h1 _ hv1; obtain ⟨v1_0, v1_1, v1_2, v1_3, v1_4, v1_5, v1_6, rfl, hv1⟩ := hv1.sa; (repeat (first | (refine wo rfl (fun k hk => ?_); simp (disch := omega) only [go_sem, Nat.reduceBEq, Nat.reduceAdd]; refine hk _ _ ?_; clear hk k) | refine wkt rfl ?_)); (try refine wk0 ?_)
  refine cN rfl rfl rfl rfl (by exact Bottom_spec hv1 (by rw [sz_neg]; omega)) ?_; rintro v2 h2 _ hv2; obtain ⟨v2_0, v2_1, v2_2, v2_3, v2_4, v2_5, v2_6, rfl, hv2⟩ := hv2.sa; (repeat (first | (refine wo rfl (fun k hk => ?_); simp (disch := omega) only [go_sem, Nat.reduceBEq, Nat.reduceAdd]; refine hk _ _ ?_; clear hk k) | refine wkt rfl ?_)); (try refine wk0 ?_)
  refine cN rfl rfl rfl rfl (by exact Opp_spec hv2) ?_; rintro v3 h3 _ hv3; obtain ⟨v3_0, v3_1, v3_2, v3_3, v3_4, v3_5, v3_6, rfl, hv3⟩ := hv3.sa; (repeat (first | (refine wo rfl (fun k hk => ?_); simp (disch := omega) only [go_sem, Nat.reduceBEq, Nat.reduceAdd]; refine hk _ _ ?_; clear hk k) | refine wkt rfl ?_)); (try refine wk0 ?_)
  (try (simp (disch := omega) only [go_sem, Nat.reduceBEq, Nat.reduceAdd])); refine hK _ _ ?_; clear hK; (try clear K); (try dsimp only [behind, qs])
  refine AWP_ret ?_; simp (disch := omega) only [go_sem, Nat.reduceBEq, Nat.reduceAdd]
  have : -(((-x).floor : Int) : Rat) = ((x.ceil : Int) : Rat) := by rw [Rat.ceil_eq_neg_floor_neg]; simp
  rw [this] at hv3; exact hv3
theorem sz_ceil (x : Rat) : sz (x.ceil : Rat) ≤ sz x := by
  rw [Rat.ceil_eq_neg_floor_neg, Rat.intCast_neg, sz_neg]
  have := sz_floor (-x)
  rw [sz_neg] at this; exact this
theorem neg_i {p : Nat} (hp : p ≤ 2 ^ 30) : IntKind.i64.wrap (0 - (p : Int)) = -(p : Int) := by rw [wi64 (by omega) (by omega)]; omega
theorem GridDown_spec {h0 h : PH} [Le h0 h] {v : Value} {x : Rat} {p : Nat} (hx : Qr h0 v x) (bx : sz x ≤ 2 ^ 30) (hp : p ≤ 2 ^ 30) :
    Spec mach 26 #[v, .int .i64 p] h (fun v h' => Qr h' v (gdown x p)) NP := by
  obtain ⟨_, _, _, _, _, _, _, rfl, hx⟩ := hx.sa
  have b1 := sz_scale x p
  have b2 := sz_floor (x * 2 ^ p)
  have e1 := neg_i hp
  refine Spec.enter (args := [_, _]) (n := 12) Tryz.func26 rfl (by kernel_rfl) rfl (by simp) [.cell 4 33] rfl (fun C _ => ?_)
  repeat (first | (refine wo rfl (fun k hk => ?_); simp (disch := omega) only [go_sem, Nat.reduceBEq, Nat.reduceAdd]; refine hk _ _ ?_; clear hk k) | refine wkt rfl ?_ | refine wk0 ?_ | refine rg rfl rfl (fun K hK => ?_) | ((first | refine AWP_exit ?_ | refine AWP_skip ?_); simp (disch := decide) only [qs, qb, if_true, if_false, reduceIte]) | refine AWP_sq rfl (fun K hK => ?_) | refine ct rfl ?_ | ((try simp (disch := omega) only [go_sem, Nat.reduceBEq, Nat.reduceAdd]); (first | apply hK | (clear hK; apply hK) | (clear hK; clear hK; apply hK)); clear hK; (try clear K); (try dsimp only [behind, qs, qb])))
  refine cN rfl rfl rfl rfl (by exact Scaled_spec (p := p) hx (by omega) (by omega)) ?_; rintro v1 h1 _ hv1; obtain ⟨v1_0, v1_1, v1_2, v1_3, v1_4, v1_5, v1_6, rfl, hv1⟩ := hv1.sa; (repeat (first | (refine wo rfl (fun k hk => ?_); simp (disch := omega) only [go_sem, Nat.reduceBEq, Nat.reduceAdd]; refine hk _ _ ?_; clear hk k) | refine wkt rfl ?_)); (try refine wk0 ?_)
  refine cN rfl rfl rfl rfl (by exact Bottom_spec hv1 (by omega)) ?_; rintro v2 h2 s2 hv2; obtain ⟨_, _, _, _, _, _, _, rfl, hv2⟩ := hv2.sa; (repeat (first | (refine wo rfl (fun k hk => ?_); simp (disch := omega) only [go_sem, Nat.reduceBEq, Nat.reduceAdd]; refine hk _ _ ?_; clear hk k) | refine wkt rfl ?_)); (try refine wk0 ?_)
  (repeat (first | (refine wo rfl (fun k hk => ?_); simp (disch := omega) only [go_sem, Nat.reduceBEq, Nat.reduceAdd, e1]; refine hk _ _ ?_; clear hk k) | refine wkt rfl ?_)); (try refine wk0 ?_)
  refine cN rfl rfl rfl rfl (by exact Unscaled_spec (p := p) hv2 (by omega) (by omega) (by omega)) ?_; rintro v3 h3 _ hv3; obtain ⟨v3_0, v3_1, v3_2, v3_3, v3_4, v3_5, v3_6, rfl, hv3⟩ := hv3.sa; (repeat (first | (refine wo rfl (fun k hk => ?_); simp (disch := omega) only [go_sem, Nat.reduceBEq, Nat.reduceAdd]; refine hk _ _ ?_; clear hk k) | refine wkt rfl ?_)); (try refine wk0 ?_)
  (try (simp (disch := omega) only [go_sem, Nat.reduceBEq, Nat.reduceAdd])); refine hK _ _ ?_; clear hK; (try clear K); (try dsimp only [behind, qs])
  refine AWP_ret ?_; simp (disch := omega) only [go_sem, Nat.reduceBEq, Nat.reduceAdd]
  exact hv3
theorem GridUp_spec {h0 h : PH} [Le h0 h] {v : Value} {x : Rat} {p : Nat} (hx : Qr h0 v x) (bx : sz x ≤ 2 ^ 30) (hp : p ≤ 2 ^ 30) :
    Spec mach 28 #[v, .int .i64 p] h (fun v h' => Qr h' v (gup x p)) NP := by
  obtain ⟨_, _, _, _, _, _, _, rfl, hx⟩ := hx.sa
  have b1 := sz_scale x p
  have b2 := sz_ceil (x * 2 ^ p)
  have e1 := neg_i hp
  refine Spec.enter (args := [_, _]) (n := 12) Tryz.func28 rfl (by kernel_rfl) rfl (by simp) [.cell 4 33] rfl (fun C _ => ?_)
  repeat (first | (refine wo rfl (fun k hk => ?_); simp (disch := omega) only [go_sem, Nat.reduceBEq, Nat.reduceAdd]; refine hk _ _ ?_; clear hk k) | refine wkt rfl ?_ | refine wk0 ?_ | refine rg rfl rfl (fun K hK => ?_) | ((first | refine AWP_exit ?_ | refine AWP_skip ?_); simp (disch := decide) only [qs, qb, if_true, if_false, reduceIte]) | refine AWP_sq rfl (fun K hK => ?_) | refine ct rfl ?_ | ((try simp (disch := omega) only [go_sem, Nat.reduceBEq, Nat.reduceAdd]); (first | apply hK | (clear hK; apply hK) | (clear hK; clear hK; apply hK)); clear hK; (try clear K); (try dsimp only [behind, qs, qb])))
  refine cN rfl rfl rfl rfl (by exact Scaled_spec (p := p) hx (by omega) (by omega)) ?_; rintro v1 h1 _ hv1; obtain ⟨v1_0, v1_1, v1_2, v1_3, v1_4, v1_5, v1_6, rfl, hv1⟩ := hv1.sa; (repeat (first | (refine wo rfl (fun k hk => ?_); simp (disch := omega) only [go_sem, Nat.reduceBEq, Nat.reduceAdd]; refine hk _ _ ?_; clear hk k) | refine wkt rfl ?_)); (try refine wk0 ?_)
  refine cN rfl rfl rfl rfl (by exact Top_spec hv1 (by omega)) ?_; rintro v2 h2 s2 hv2; obtain ⟨_, _, _, _, _, _, _, rfl, hv2⟩ := hv2.sa; (repeat (first | (refine wo rfl (fun k hk => ?_); simp (disch := omega) only [go_sem, Nat.reduceBEq, Nat.reduceAdd]; refine hk _ _ ?_; clear hk k) | refine wkt rfl ?_)); (try refine wk0 ?_)
  (repeat (first | (refine wo rfl (fun k hk => ?_); simp (disch := omega) only [go_sem, Nat.reduceBEq, Nat.reduceAdd, e1]; refine hk _ _ ?_; clear hk k) | refine wkt rfl ?_)); (try refine wk0 ?_)
  refine cN rfl rfl rfl rfl (by exact Unscaled_spec (p := p) hv2 (by omega) (by omega) (by omega)) ?_; rintro v3 h3 _ hv3; obtain ⟨v3_0, v3_1, v3_2, v3_3, v3_4, v3_5, v3_6, rfl, hv3⟩ := hv3.sa; (repeat (first | (refine wo rfl (fun k hk => ?_); simp (disch := omega) only [go_sem, Nat.reduceBEq, Nat.reduceAdd]; refine hk _ _ ?_; clear hk k) | refine wkt rfl ?_)); (try refine wk0 ?_)
  (try (simp (disch := omega) only [go_sem, Nat.reduceBEq, Nat.reduceAdd])); refine hK _ _ ?_; clear hK; (try clear K); (try dsimp only [behind, qs])
  refine AWP_ret ?_; simp (disch := omega) only [go_sem, Nat.reduceBEq, Nat.reduceAdd]
  exact hv3
theorem sgn_quo (x y : Rat) : sgn (!(decide (x.num < 0) == decide (y.num < 0))) (x.num.natAbs * y.den) (x.den * y.num.natAbs) = x / y := by
  by_cases hy : y = 0
  · subst hy
    simp [sgn, Rat.div_def]
  · have hn0 : y.num ≠ 0 := fun e => hy (Rat.num_eq_zero.1 e)
    have hp := y.den_nz
    have e1 : decide ((y⁻¹).num < 0) = decide (y.num < 0) := by
      rw [Rat.num_inv]
      rcases Int.lt_trichotomy y.num 0 with h | h | h
      · rw [Int.sign_eq_neg_one_of_neg h, decide_eq_decide]; omega
      · exact (hn0 h).elim
      · rw [Int.sign_eq_one_of_pos h, decide_eq_decide]; omega
    have e2 : (y⁻¹).num.natAbs = y.den := by rw [Rat.num_inv, Int.natAbs_mul, Int.natAbs_sign_of_ne_zero hn0, Nat.one_mul, Int.natAbs_natCast]
    have e3 : (y⁻¹).den = y.num.natAbs := by rw [Rat.den_inv, if_neg hn0]
    have := sgn_mul x y⁻¹
    rw [e1, e2, e3] at this
    rw [this, Rat.div_def]
theorem QDiv_spec {h0 h : PH} [Le h0 h] {v w : Value} {x y : Rat} (hx : Qr h0 v x) (hy : Qr h0 w y) (bx : sz x ≤ 2 ^ 35) (by_ : sz y ≤ 2 ^ 35) :
    Spec mach 42 #[v, w] h (fun v h' => Qr h' v (x / y)) NP := by
  have hx0 := hx
  have hy0 := hy
  obtain ⟨na, nl, nc, da, dl, dc, e, rfl, hn, hd, he⟩ := hx.sl
  obtain ⟨na', nl', nc', da', dl', dc', e', rfl, hn', hd', he'⟩ := hy.sl
  have b1 := sz_num x; have b2 := sz_den x; have b3 := sz_num y; have b4 := sz_den y
  have b5 := bl_mul x.num.natAbs y.den
  have b6 := bl_mul x.den y.num.natAbs
  refine Spec.enter (args := [_, _]) (n := 21) Tryz.func42 rfl (by kernel_rfl) rfl (by simp) [.cell 4 33] rfl (fun C _ => ?_)
  repeat (first | (refine wo rfl (fun k hk => ?_); simp (disch := omega) only [go_sem, Nat.reduceBEq, Nat.reduceAdd]; refine hk _ _ ?_; clear hk k) | refine wkt rfl ?_ | refine wk0 ?_ | refine rg rfl rfl (fun K hK => ?_) | refine rd [.o 0, .o 1, .o 2, .o 3, .o 4, .o 5, .o 6, .o 7, .o 10, .o 12, .o 13, .o 8, .o 9, .o 11, .o 14, .o 15, .o 16] rfl (by decide +kernel) rfl (fun K hK => ?_) | ((first | refine AWP_exit ?_ | refine AWP_skip ?_); simp (disch := decide) only [qs, qb, if_true, if_false, reduceIte]) | refine AWP_sq rfl (fun K hK => ?_) | refine ct rfl ?_ | ((try simp (disch := omega) only [go_sem, Nat.reduceBEq, Nat.reduceAdd]); (first | apply hK | (clear hK; apply hK) | (clear hK; clear hK; apply hK)); clear hK; (try clear K); (try dsimp only [behind, qs, qb])))
  refine cN rfl rfl rfl rfl (by exact den_spec hy0) ?_; rintro d1 g1 _ hd1; obtain ⟨d1, d1_l, d1_c, rfl, hd1⟩ := hd1.sl; (repeat (first | (refine wo rfl (fun k hk => ?_); simp (disch := omega) only [go_sem, Nat.reduceBEq, Nat.reduceAdd]; refine hk _ _ ?_; clear hk k) | refine wkt rfl ?_)); (try refine wk0 ?_)
  refine cN rfl rfl rfl rfl (by exact NatMul_spec (hn.to (h' := g1)) hd1 (by omega) (by omega)) ?_; rintro v1 h1 _ hv1; obtain ⟨v1, v1_l, v1_c, rfl, hv1⟩ := hv1.sl; (repeat (first | (refine wo rfl (fun k hk => ?_); simp (disch := omega) only [go_sem, Nat.reduceBEq, Nat.reduceAdd]; refine hk _ _ ?_; clear hk k) | refine wkt rfl ?_)); (try refine wk0 ?_)
  refine cN rfl rfl rfl rfl (by exact den_spec hx0) ?_; rintro d2 g2 _ hd2; obtain ⟨d2, d2_l, d2_c, rfl, hd2⟩ := hd2.sl; (repeat (first | (refine wo rfl (fun k hk => ?_); simp (disch := omega) only [go_sem, Nat.reduceBEq, Nat.reduceAdd]; refine hk _ _ ?_; clear hk k) | refine wkt rfl ?_)); (try refine wk0 ?_)
  refine cN rfl rfl rfl rfl (by exact NatMul_spec hd2 (hn'.to (h' := g2)) (by omega) (by omega)) ?_; rintro v2 h2 _ hv2; obtain ⟨v2, v2_l, v2_c, rfl, hv2⟩ := hv2.sl; (repeat (first | (refine wo rfl (fun k hk => ?_); simp (disch := omega) only [go_sem, Nat.reduceBEq, Nat.reduceAdd]; refine hk _ _ ?_; clear hk k) | refine wkt rfl ?_)); (try refine wk0 ?_)
  refine cN rfl rfl rfl rfl (by exact Make_spec (hv1.to (h' := h2)) hv2 (by omega) (by omega)) ?_; rintro v3 h3 _ hv3; obtain ⟨v3_0, v3_1, v3_2, v3_3, v3_4, v3_5, v3_6, rfl, hv3⟩ := hv3.sa; (repeat (first | (refine wo rfl (fun k hk => ?_); simp (disch := omega) only [go_sem, Nat.reduceBEq, Nat.reduceAdd]; refine hk _ _ ?_; clear hk k) | refine wkt rfl ?_)); (try refine wk0 ?_)
  (try (simp (disch := omega) only [go_sem, Nat.reduceBEq, Nat.reduceAdd])); refine hK _ _ ?_; clear hK; (try clear K); (try dsimp only [behind, qs])
  refine AWP_ret ?_; simp (disch := omega) only [go_sem, Nat.reduceBEq, Nat.reduceAdd]
  rw [sgn_quo] at hv3
  exact hv3
theorem Canonical_cn {h0 h : PH} [Le h0 h] {v : Value} {x : Rat} (hx : Cn h0 v x) (bx : sz x ≤ 2 ^ 30) : Spec mach 21 #[v] h (fun v _ => v = .bool true) NP := by
  have hrw := hx.rw bx
  have hq := qof_cn x
  obtain ⟨sn, sd, rfl, h2, h3⟩ := hx
  obtain ⟨a, c, xs, rfl, ha, hxs, hxm⟩ := h2.out
  obtain ⟨a', c', ys, rfl, ha', hys, hym⟩ := h3.out
  have sx := ha.small
  have sy := ha'.small
  obtain ⟨neg, en⟩ : ∃ b, decide (x.num < 0) = b := ⟨_, rfl⟩
  rw [en] at hrw hq ⊢
  refine Spec.enter (args := [_]) (n := 68) Tryz.func21 rfl (by kernel_rfl) rfl (by simp) [.tmp 2] rfl (fun C _ => ?_)
  repeat (first | (refine wo rfl (fun k hk => ?_); simp (disch := omega) only [go_sem, Nat.reduceBEq, Nat.reduceAdd]; refine hk _ _ ?_; clear hk k) | refine wkt rfl ?_ | refine wk0 ?_ | refine rg rfl rfl (fun K hK => ?_) | refine rd [.o 0, .o 1, .o 2, .o 3, .o 4, .o 5, .o 6, .o 7, .o 8, .o 9, .o 10] rfl (by decide +kernel) rfl (fun K hK => ?_) | ((first | refine AWP_exit ?_ | refine AWP_skip ?_); simp (disch := decide) only [qs, qb, if_true, if_false, reduceIte]) | refine AWP_sq rfl (fun K hK => ?_) | refine ct rfl ?_ | ((try simp (disch := omega) only [go_sem, Nat.reduceBEq, Nat.reduceAdd]); (first | apply hK | (clear hK; apply hK) | (clear hK; clear hK; apply hK)); clear hK; (try clear K); (try dsimp only [behind, qs, qb])))
  refine cN rfl rfl rfl rfl (by exact QOf_spec hrw) ?_; rintro v1 h1 _ hv1; obtain ⟨v1_0, v1_1, v1_2, v1_3, v1_4, v1_5, v1_6, rfl, hv1⟩ := hv1.sa; (repeat (first | (refine wo rfl (fun k hk => ?_); simp (disch := omega) only [go_sem, Nat.reduceBEq, Nat.reduceAdd]; refine hk _ _ ?_; clear hk k) | refine wkt rfl ?_)); (try refine wk0 ?_)
  rw [hq] at hv1
  refine cN rfl rfl rfl rfl (by exact QRat_spec hv1 (by omega)) ?_; rintro v2 h2' s2 hv2; (repeat (first | (refine wo rfl (fun k hk => ?_); simp (disch := omega) only [go_sem, Nat.reduceBEq, Nat.reduceAdd]; refine hk _ _ ?_; clear hk k) | refine wkt rfl ?_)); (try refine wk0 ?_)
  obtain ⟨tn, td, rfl, t2, t3⟩ := hv2
  rw [en]
  obtain ⟨ta, tc, ts, rfl, hta, hts, _⟩ := t2.out
  obtain rfl : xs = ts := hxs.symm.trans hts
  obtain ⟨ta', tc', ts', rfl, hta', hts', _⟩ := t3.out
  obtain rfl : ys = ts' := hys.symm.trans hts'
  (repeat (first | (refine wo rfl (fun k hk => ?_); simp (disch := omega) only [go_sem, Nat.reduceBEq, Nat.reduceAdd]; refine hk _ _ ?_; clear hk k) | refine wkt rfl ?_)); (try refine wk0 ?_)
  have e0 : (neg == neg) = true := by simp
  repeat (first | (refine wo rfl (fun k hk => ?_); simp (disch := omega) only [go_sem, Nat.reduceBEq, Nat.reduceAdd, e0]; refine hk _ _ ?_; clear hk k) | refine wkt rfl ?_ | refine wk0 ?_ | refine rg rfl rfl (fun K hK => ?_) | refine rd [.o 0, .o 1, .o 2, .o 3, .o 4, .o 5, .o 6, .o 7, .o 8, .o 9, .o 10] rfl (by decide +kernel) rfl (fun K hK => ?_) | ((first | refine AWP_exit ?_ | refine AWP_skip ?_); simp (disch := decide) only [qs, qb, if_true, if_false, reduceIte]) | refine AWP_sq rfl (fun K hK => ?_) | refine ct rfl ?_ | ((try simp (disch := omega) only [go_sem, Nat.reduceBEq, Nat.reduceAdd]); (first | apply hK | (clear hK; apply hK) | (clear hK; clear hK; apply hK)); clear hK; (try clear K); (try dsimp only [behind, qs, qb])))
  refine AWP_loop (fun i : Nat => ⟨[(1, .p 0 0), (3, .p 1 0), (34, .v (.int .i64 xs.length)), (35, .v (.int .i64 i))], [[.bool neg, .slice a xs.length c, .slice a' ys.length c'], [.bool neg, .slice ta xs.length tc, .slice ta' ys.length tc']]⟩)
    (fun i h' => Le h2' h' ∧ Le h0 h' ∧ i ≤ xs.length) (fun i => xs.length - i) 0 ?_ ⟨inferInstance, inferInstance, by omega⟩ ?_
  · simp (disch := omega) only [go_sem, Nat.reduceBEq, Nat.reduceAdd]
  rintro i g1 ⟨hle, hle0, hi⟩
  by_cases hil : i < xs.length
  · obtain ⟨ad, rfl, hat⟩ := ha.rd g1 (i := i) (by omega)
    obtain ⟨ad', rfl, hat'⟩ := hta.rd g1 (i := i) (by omega)
    repeat (first | (refine wo rfl (fun k hk => ?_); simp (disch := omega) only [go_sem, Nat.reduceBEq, Nat.reduceAdd, hat, hat']; refine hk _ _ ?_; clear hk k) | refine wkt rfl ?_ | refine wk0 ?_ | refine rg rfl rfl (fun K hK => ?_) | refine rd [.o 0, .o 1, .o 2, .o 3, .o 4, .o 5, .o 6, .o 7, .o 8, .o 9, .o 10] rfl (by decide +kernel) rfl (fun K hK => ?_) | ((first | refine AWP_exit ?_ | refine AWP_skip ?_); simp (disch := decide) only [qs, qb, if_true, if_false, reduceIte]) | refine AWP_sq rfl (fun K hK => ?_) | refine ct rfl ?_ | ((try simp (disch := omega) only [go_sem, Nat.reduceBEq, Nat.reduceAdd]); (first | apply hK | (clear hK; apply hK) | (clear hK; clear hK; apply hK)); clear hK; (try clear K); (try dsimp only [behind, qs, qb])))
    refine ⟨i + 1, ?_, ⟨hle, hle0, by omega⟩, by omega⟩
    simp (disch := omega) only [go_sem, Nat.reduceBEq, Nat.reduceAdd]
  · repeat (first | (refine wo rfl (fun k hk => ?_); simp (disch := omega) only [go_sem, Nat.reduceBEq, Nat.reduceAdd]; refine hk _ _ ?_; clear hk k) | refine wkt rfl ?_ | refine wk0 ?_ | refine rg rfl rfl (fun K hK => ?_) | refine rd [.o 0, .o 1, .o 2, .o 3, .o 4, .o 5, .o 6, .o 7, .o 8, .o 9, .o 10] rfl (by decide +kernel) rfl (fun K hK => ?_) | ((first | refine AWP_exit ?_ | refine AWP_skip ?_); simp (disch := decide) only [qs, qb, if_true, if_false, reduceIte]) | refine AWP_sq rfl (fun K hK => ?_) | refine ct rfl ?_ | ((try simp (disch := omega) only [go_sem, Nat.reduceBEq, Nat.reduceAdd]); (first | apply hK | (clear hK; apply hK) | (clear hK; clear hK; apply hK)); clear hK; (try clear K); (try dsimp only [behind, qs, qb])))
    refine AWP_loop (fun i : Nat => ⟨[(1, .p 0 0), (3, .p 1 0), (52, .v (.int .i64 ys.length)), (53, .v (.int .i64 i))], [[.bool neg, .slice a xs.length c, .slice a' ys.length c'], [.bool neg, .slice ta xs.length tc, .slice ta' ys.length tc']]⟩)
      (fun i h' => Le h2' h' ∧ Le h0 h' ∧ i ≤ ys.length) (fun i => ys.length - i) 0 ?_ ⟨hle, hle0, by omega⟩ ?_
    · simp (disch := omega) only [go_sem, Nat.reduceBEq, Nat.reduceAdd]
    rintro i g2 ⟨hle, hle0, hi⟩
    by_cases hil : i < ys.length
    · obtain ⟨ad, rfl, hat⟩ := ha'.rd g2 (i := i) (by omega)
      obtain ⟨ad', rfl, hat'⟩ := hta'.rd g2 (i := i) (by omega)
      repeat (first | (refine wo rfl (fun k hk => ?_); simp (disch := omega) only [go_sem, Nat.reduceBEq, Nat.reduceAdd, hat, hat']; refine hk _ _ ?_; clear hk k) | refine wkt rfl ?_ | refine wk0 ?_ | refine rg rfl rfl (fun K hK => ?_) | refine rd [.o 0, .o 1, .o 2, .o 3, .o 4, .o 5, .o 6, .o 7, .o 8, .o 9, .o 10] rfl (by decide +kernel) rfl (fun K hK => ?_) | ((first | refine AWP_exit ?_ | refine AWP_skip ?_); simp (disch := decide) only [qs, qb, if_true, if_false, reduceIte]) | refine AWP_sq rfl (fun K hK => ?_) | refine ct rfl ?_ | ((try simp (disch := omega) only [go_sem, Nat.reduceBEq, Nat.reduceAdd]); (first | apply hK | (clear hK; apply hK) | (clear hK; clear hK; apply hK)); clear hK; (try clear K); (try dsimp only [behind, qs, qb])))
      refine ⟨i + 1, ?_, ⟨hle, hle0, by omega⟩, by omega⟩
      simp (disch := omega) only [go_sem, Nat.reduceBEq, Nat.reduceAdd]
    · repeat (first | (refine wo rfl (fun k hk => ?_); simp (disch := omega) only [go_sem, Nat.reduceBEq, Nat.reduceAdd]; refine hk _ _ ?_; clear hk k) | refine wkt rfl ?_ | refine wk0 ?_ | refine rg rfl rfl (fun K hK => ?_) | refine rd [.o 0, .o 1, .o 2, .o 3, .o 4, .o 5, .o 6, .o 7, .o 8, .o 9, .o 10] rfl (by decide +kernel) rfl (fun K hK => ?_) | ((first | refine AWP_exit ?_ | refine AWP_skip ?_); simp (disch := decide) only [qs, qb, if_true, if_false, reduceIte]) | refine AWP_sq rfl (fun K hK => ?_) | refine ct rfl ?_ | ((try simp (disch := omega) only [go_sem, Nat.reduceBEq, Nat.reduceAdd]); (first | apply hK | (clear hK; apply hK) | (clear hK; clear hK; apply hK)); clear hK; (try clear K); (try dsimp only [behind, qs, qb])))
      refine AWP_ret ?_; simp (disch := omega) only [go_sem, Nat.reduceBEq, Nat.reduceAdd]
end Go.Q
namespace Go.Q
open Go.Proofs Go.Proofs.YtmibfkpalmmheaaGreatDoor
set_option maxRecDepth 100000
open Go.ChangeShapes Go.WideShapes Go.ChangeAt Go.RowKit
def pub (W : World) : PH := fun b => match W.heap[b]? with
  | some (.cells cs _ _) => some cs
  | _ => none
theorem pub_has (W : World) : Has W (pub W) := fun b cs hb => by
  unfold pub at hb
  split at hb
  · rename_i hx; cases hb; exact ⟨_, _, hx⟩
  · cases hb
theorem un4 : Tryz.prog.underlying 4 = some .bool := by kernel_rfl
theorem un3 : Tryz.prog.underlying 3 = some (.int .i64) := by kernel_rfl
section
variable {H : Type} {enc : TypeId × Value → H} {W : World} {sp : Nat → Bool} {held : Bool}
theorem stays {P : Program} {W' : World} {sp : Nat → Bool} (hl : laidOutB P = true) (hb : Below W.heap.size W W') (ts : List TypeId) : ∀ (vs : List Value) (ds : List (DataW H)) (p : List MemPlace), (∀ t ∈ ts, P.readableRec t = true ∧ t < P.types.size) → (∀ x ∈ p, x.block < W.heap.size) → (∀ x ∈ p, sp x.block = true) →
    DataW.TrodAll enc P W 0 (fun _ => true) true ts vs ds p → DataW.TrodAll enc P W' 0 sp true ts vs ds p := by
  induction ts with
  | nil =>
    intro vs ds p _ _ _ h
    cases vs with
    | nil => cases ds with
      | nil => exact h
      | cons d ds => exact h.elim
    | cons v vs => exact h.elim
  | cons t ts ih =>
    intro vs ds p hr hlt hsp h
    cases vs with
    | nil => exact h.elim
    | cons v vs =>
      cases ds with
      | nil => exact h.elim
      | cons d ds =>
        obtain ⟨p, q, h1, h2, rfl⟩ := h
        have ht := hr t (by simp)
        exact ⟨p, q, WideElems.Trod_stays hl ht.1 ht.2 h1 (fun x hx => hb.same (hlt x (by simp [hx]))) (fun x hx => hsp x (by simp [hx])), ih vs ds q (fun u hu => hr u (by simp [hu])) (fun x hx => hlt x (by simp [hx])) (fun x hx => hsp x (by simp [hx])) h2, rfl⟩
theorem post_true {f : Func} {s : ChangeSpec} {W' : World} {args : Array Value} {ds : List (DataW H)} {before : List MemPlace} (hl : laidOutB Tryz.prog = true) (hv : s.vars = []) (hr : f.resultTypes = #[4]) (hs : s.fn H ds = { results := [.lit (.bool true)], args := ds })
    (hrd : ∀ t ∈ f.params.toList, Tryz.prog.readableRec t = true ∧ t < Tryz.prog.types.size)
    (hW : DataW.Whole enc Tryz.prog f.params.toList s.vars false W args.toList ds [] before) (hb : Below W.heap.size W W') : s.post enc Tryz.prog f false true false false W args (.bool true) W' := by
  have hlt : ∀ p ∈ before, p.block < W.heap.size := hW.lt
  have hW0 := hW
  rw [hv] at hW0
  obtain ⟨p, q, hA, hV, rfl, hz, hn⟩ := hW0
  obtain rfl : q = [] := hV
  rw [List.append_nil] at hlt hz
  have hold : ∀ x ∈ p, (fun b => decide (b < W.heap.size)) x.block = true := fun x hx => by simpa using hlt x hx
  have hres : ∀ (b : Nat) (sp : Nat → Bool) (hd : Bool), DataW.TrodAll enc Tryz.prog W' b sp hd f.resultTypes.toList ((Value.bool true).resultList f.resultTypes.size) (s.fn H (ds ++ [])).results [] := by
    intro b sp hd
    rw [List.append_nil, hs, hr]
    exact trodAll_cons_mk (shut_bool un4 _) trodAll_mk0
  have hargs : ∀ sp : Nat → Bool, (∀ x ∈ p, sp x.block = true) → DataW.TrodAll enc Tryz.prog W' 0 sp true f.params.toList args.toList (s.fn H (ds ++ [])).args p := by
    intro sp hsp
    rw [List.append_nil, hs]
    exact stays hl hb _ _ _ _ hrd hlt hsp hA
  have hvars : ∀ sp : Nat → Bool, DataW.TrodVars enc Tryz.prog W' sp s.vars (s.fn H (ds ++ [])).vars [] := by
    intro sp
    rw [List.append_nil, hs, hv]
    rfl
  refine ⟨ds, [], p ++ [], [], p, [], hW, hres _ _ _, hargs _ hold, hvars _, World.keptBut_mono (fun x hx => ⟨hx, ?_⟩) (hb.frame (· ∈ p ++ [])), fun h => by cases h⟩
  simpa using hx
theorem laid_gl {W : World} (h : laidMetH Tryz.prog [("math/bits.deBruijn32tab", Rows.laid_math_bits_deBruijn32tab)] W) : Sub mach.gl (pub W) := by
  have ht : Lib.TabIs Tryz.prog W "math/bits.deBruijn32tab" .u8 debruijn :=
    Lib.tabIs_of_head (rest := []) (g := 0) (t := 185) (e := 5) (n := 32) (by kernel_rfl) (by kernel_rfl) (by kernel_rfl) (by kernel_rfl) (by kernel_rfl) (by kernel_rfl) h
  have hg : Tryz.prog.globalNamed "math/bits.deBruijn32tab" = some 0 := by kernel_rfl
  unfold Lib.TabIs World.var? at ht
  rw [hg] at ht
  intro b cs hb
  have hb' : (if b = 0 then some tabCells else none) = some cs := hb
  split at hb'
  · rename_i e
    subst e
    cases hb'
    unfold pub
    simp only [Option.bind_some] at ht
    split at ht
    · rename_i hx
      rw [hx]
      simpa [tabCells] using ht
    · cases ht
  · cases hb'
end
end Go.Q
namespace Go.Q
open Go.Proofs
set_option maxRecDepth 100000
set_option maxHeartbeats 8000000
def Rv (h : PH) (v : Value) (q : Rat) : Prop := ∃ neg n d, Rw h v neg n d ∧ ¬ lg neg n d ∧ qof neg n d = q
theorem Rv.to {h h' : PH} {v : Value} {q : Rat} (r : Rv h v q) [Le h h'] : Rv h' v q := let ⟨a, b, c, h1, h2⟩ := r; ⟨a, b, c, h1.to, h2⟩
theorem Rv.of {h : PH} {v : Value} {q : Rat} (c : Cn h v q) (hs : sz q ≤ 2048) : Rv h v q := ⟨_, _, _, c.rw (Nat.le_trans hs (by decide)), by rw [lg_cn]; omega, qof_cn q⟩
theorem Rv.sz {h : PH} {v : Value} {q : Rat} (r : Rv h v q) : sz q ≤ 2048 := by
  obtain ⟨_, _, _, _, h2, rfl⟩ := r
  unfold lg at h2
  omega
theorem Rv.sa {h : PH} {v : Value} {q : Rat} (r : Rv h v q) : ∃ b na nl nc da dl dc, v = .agg #[.bool b, .slice na nl nc, .slice da dl dc] ∧ Rv h (.agg #[.bool b, .slice na nl nc, .slice da dl dc]) q := by
  have r0 := r
  obtain ⟨_, _, _, h1, _, _⟩ := r
  obtain ⟨_, _, _, _, _, _, _, rfl, _⟩ := h1.sa
  exact ⟨_, _, _, _, _, _, _, rfl, r0⟩
theorem Read_rv {h0 h : PH} [Le h0 h] {v : Value} {q : Rat} (hv : Rv h0 v q) : Spec mach 91 #[v] h (fun r h' => ∃ f, r = .tuple #[f, .bool true] ∧ Fr h' f q) NP := by
  obtain ⟨_, _, _, h1, h2, rfl⟩ := hv
  exact Read_ok h1 h2
end Go.Q
namespace Go.Q
open Go.Proofs
set_option maxRecDepth 100000
set_option maxHeartbeats 8000000
theorem Cn.nul (h : PH) : Cn h (.agg #[.bool false, .slice none 0 0, .slice none 0 0]) 0 := ⟨.slice none 0 0, .slice none 0 0, by simp, by simpa using N32.zero h, by simpa using N32.zero h⟩
theorem Canon1_spec {h0 h : PH} [Le h0 h] {v : Value} {x : Rat} (hx : Fr h0 v x) : Spec mach 85 #[v] h (fun v h' => Fr h' v x) NP := by
  have hx0 := hx
  obtain ⟨_, _, _, _, _, _, _, rfl, hx1⟩ := hx.sa
  refine Spec.go [] Tryz.func85 rfl rfl (by kernel_rfl) fun C _ => ?_
  simp (disch := omega) only [go_sem, Nat.reduceBEq, Nat.reduceAdd]
  exact hx1.to
theorem NumCanon {h0 h : PH} [Le h0 h] {v : Value} {q : Rat} (hx : Rv h0 v q) : Spec mach 29 #[v] h (fun r h' => ∃ b na nl nc da dl dc, r = .tuple #[.agg #[.bool b, .slice na nl nc, .slice da dl dc], .int .i64 0] ∧ Cn h' (.agg #[.bool b, .slice na nl nc, .slice da dl dc]) q) NP := by
  have kX := fun {h} [Le h0 h] => Read_rv (h := h) hx
  have hs := hx.sz
  have kO : ∀ {h : PH} [Le h0 h], Spec mach 84 #[v, .func (.func 85) #[] #[]] h (fun r h' => ∃ b na nl nc da dl dc, r = .tuple #[.agg #[.bool b, .slice na nl nc, .slice da dl dc], .int .i64 0] ∧ Cn h' (.agg #[.bool b, .slice na nl nc, .slice da dl dc]) q) NP := by
    intro h _
    obtain ⟨_, _, _, _, _, _, _, rfl, _⟩ := hx.sa
    refine Spec.go [] Tryz.func84 rfl rfl (by kernel_rfl) fun C _ => ?_
    simp (disch := omega) only [go_sem, Nat.reduceBEq, Nat.reduceAdd]
    refine caN (by exact kX) ?_; rintro v1 h1 s1 ⟨f, rfl, hf⟩; obtain ⟨_, _, _, _, _, _, _, rfl, hf⟩ := hf.sa
    simp (disch := omega) only [go_sem, Nat.reduceBEq, Nat.reduceAdd]
    refine caN (by exact Canon1_spec hf) ?_; rintro v3 h3 s3 hz; obtain ⟨_, _, _, _, _, _, _, rfl, hz⟩ := hz.sa
    simp (disch := omega) only [go_sem, Nat.reduceBEq, Nat.reduceAdd]
    refine caN (by exact Give_ok hz hs) ?_; rintro v4 h4 s4 ⟨u, rfl, c⟩; obtain ⟨_, _, _, _, _, _, _, rfl, c⟩ := c.sa
    simp (disch := omega) only [go_sem, Nat.reduceBEq, Nat.reduceAdd]
    exact ⟨_, _, _, _, _, _, _, rfl, c⟩
  obtain ⟨_, _, _, _, _, _, _, rfl, _⟩ := hx.sa
  refine Spec.go [] Tryz.func29 rfl rfl (by kernel_rfl) fun C _ => ?_
  simp (disch := omega) only [go_sem, Nat.reduceBEq, Nat.reduceAdd]
  refine caN (by exact kO) ?_; rintro v1 h1 s1 ⟨_, _, _, _, _, _, _, rfl, c⟩
  simp (disch := omega) only [go_sem, Nat.reduceBEq, Nat.reduceAdd]
  exact ⟨_, _, _, _, _, _, _, rfl, c⟩
theorem FromInt_spec {h : PH} {n : Int} (h1 : -4611686018427387904 ≤ n) (h2 : n ≤ 4611686018427387904) : Spec mach 166 #[.int .i64 n] h (fun v h' => Cn h' v (n : Rat)) NP := by
  have hs : sz (n : Rat) ≤ 2048 := by
    unfold sz
    have e1 : bl ((n : Rat).num.natAbs) ≤ 64 := bl_le.2 (by simp; omega)
    have e2 : bl ((n : Rat).den) ≤ 64 := bl_le.2 (by simp)
    omega
  refine Spec.go [] Tryz.func166 rfl rfl (by kernel_rfl) fun C _ => ?_
  simp (disch := omega) only [go_sem, Nat.reduceBEq, Nat.reduceAdd]
  refine caN (by exact Int_spec (by omega) (by omega)) ?_; rintro v1 h1 s1 q1; obtain ⟨_, _, _, _, _, _, _, rfl, q1⟩ := q1.sa
  simp (disch := omega) only [go_sem, Nat.reduceBEq, Nat.reduceAdd]
  refine caN (by exact Give_ok q1 hs) ?_; rintro v4 h4 s4 ⟨u, rfl, c⟩; obtain ⟨_, _, _, _, _, _, _, rfl, c⟩ := c.sa
  simp (disch := omega) only [go_sem, Nat.reduceBEq, Nat.reduceAdd]
  exact c
theorem Low_spec {h0 h : PH} [Le h0 h] {v : Value} {m n : Nat} (hv : N32 h0 v m) (hn : n ≤ 2 ^ 40) : Spec mach 125 #[v, .int .i64 n] h (fun r _ => r = .bool (decide (m % 2 ^ n ≠ 0))) NP := by
  have kT := fun {h} [Le h0 h] => Twos_spec (h := h) hv
  have e1 : decide (m % 2 ^ n ≠ 0) = (decide (m ≠ 0) && decide (tw m < n)) := by
    by_cases hm : m = 0
    · subst hm; simp
    · obtain ⟨t, ht⟩ := tw_spec m hm
      by_cases hl : tw m < n
      · have : m % 2 ^ n ≠ 0 := by
          intro e
          have hd := Nat.dvd_of_mod_eq_zero e
          have h2 : 2 ^ (tw m + 1) ∣ m := Nat.dvd_trans (Nat.pow_dvd_pow 2 hl) hd
          have h3 := tw_odd hm rfl
          obtain ⟨c, hc⟩ := h2
          have e2 : m / 2 ^ tw m = 2 * c := Nat.div_eq_of_eq_mul_right (Nat.pow_pos (by decide)) (by rw [← Nat.mul_assoc, ← Nat.pow_succ]; exact hc)
          rw [e2] at h3
          omega
        simp [this, hm, hl]
      · have : m % 2 ^ n = 0 := Nat.mod_eq_zero_of_dvd (Nat.dvd_trans (Nat.pow_dvd_pow 2 (by omega)) (tw_dvd m))
        simp [this, hl]
  rw [e1]
  obtain ⟨a, c, xs, rfl, ha, hx, rfl⟩ := hv.out
  have hl0 := W_len0 (B := 4294967296) (by decide) (n := val 4294967296 xs)
  rw [hx] at hl0
  by_cases hm : val 4294967296 xs = 0
  · have e2 : decide ((xs.length : Int) > 0) = false := decide_eq_false (by omega)
    rw [show (decide (val 4294967296 xs ≠ 0) && decide (tw (val 4294967296 xs) < n)) = false by simp [hm]]
    refine Spec.go [] Tryz.func125 rfl rfl (by kernel_rfl) fun C _ => ?_
    simp (disch := omega) only [go_sem, Nat.reduceBEq, Nat.reduceAdd, e2]
  · have e2 : decide ((xs.length : Int) > 0) = true := decide_eq_true (by omega)
    rw [show (decide (val 4294967296 xs ≠ 0) && decide (tw (val 4294967296 xs) < n)) = decide ((tw (val 4294967296 xs) : Int) < (n : Int)) by simp [hm]]
    refine Spec.go [] Tryz.func125 rfl rfl (by kernel_rfl) fun C _ => ?_
    simp (disch := omega) only [go_sem, Nat.reduceBEq, Nat.reduceAdd, e2]
    refine caN (by exact kT) ?_; rintro v1 h1 s1 rfl
    simp (disch := omega) only [go_sem, Nat.reduceBEq, Nat.reduceAdd]
end Go.Q
