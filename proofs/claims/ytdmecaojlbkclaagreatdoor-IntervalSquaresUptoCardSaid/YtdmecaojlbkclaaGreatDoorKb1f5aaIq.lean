/-
  Contracts of package interval: absolute values; whether a set is empty, bounded. Conditions: the values are intervals.
-/
import Derived.Test.YtdmecaojlbkclaaGreatDoorK59ccf2In
set_option linter.unusedVariables false
set_option linter.unusedSimpArgs false
namespace Go.Q
open Go.Proofs
set_option maxRecDepth 100000
set_option maxHeartbeats 4000000
def NS.size : NS → NS
  | .e => .e
  | .i a b => if 0 ≤ (NS.i a b).slo then .i a b else if (NS.i a b).shi ≤ 0 then (NS.i a b).minus else .i (some ((0 : Int) : Rat)) (jmax (a.map (-·)) b)
theorem NS.size_i {a b : Option Rat} : (NS.i a b).size = if 0 ≤ (NS.i a b).slo then .i a b else if (NS.i a b).shi ≤ 0 then (NS.i a b).minus else .i (some ((0 : Int) : Rat)) (jmax (a.map (-·)) b) := rfl
theorem NS.le.size {x : NS} {k : Nat} (hk : 1 ≤ k) (h : x.le k) : x.size.le k := by
  cases x with
  | e => exact h
  | i a b =>
    rw [NS.size_i]
    split
    · exact h
    · split
      · exact h.minus
      · rw [NS.le_i] at h ⊢
        refine ⟨fun q e => ?_, fun q e => ?_⟩
        · cases e; exact Nat.le_trans (by decide) hk
        · cases a with
          | none => cases e
          | some a =>
            cases b with
            | none => cases e
            | some b => cases e; exact sz_max (by rw [sz_neg]; exact h.1 _ rfl) (h.2 _ rfl)
theorem NS.ok_size {x : NS} (hx : x.ok) : x.size.ok := by
  cases x with
  | e => exact hx
  | i a b =>
    rw [NS.size_i]
    split
    · exact hx
    · split
      · exact NS.ok_minus hx
      · rename_i h1 h2
        cases a with
        | none => rfl
        | some a =>
          cases b with
          | none => rfl
          | some b =>
            have h3 : 0 < b := by
              have h2 : ¬ sgn3 b ≤ 0 := h2
              unfold sgn3 at h2; grind
            have h4 : ¬ max (-a) b < ((0 : Int) : Rat) := by
              have : ((0 : Int) : Rat) = 0 := rfl
              rw [this]; grind
            show (!decide (max (-a) b < ((0 : Int) : Rat))) = true
            rw [decide_eq_false h4]; rfl
theorem Abs1 {h0 h : PH} [Le h0 h] {s : Value} {x : NS} (hs : Sn h0 s x) (lx : x.le (2 ^ 30)) : Spec mach 56 #[s] h (fun v h' => Sn h' v x.size) NP := by
  cases x with
  | e =>
    have kS := fun {h} [Le h0 h] => signs_void (h := h) hs
    obtain ⟨_, _, _, _, _, _, _, _, _, _, _, _, _, _, _, _, rfl, hs⟩ := hs.sa
    dsimp only [NS.void] at *
    refine Spec.enter (args := [_]) (n := 43) Tryz.func56 rfl (by kernel_rfl) rfl (by simp) [.cell 2 43] rfl (fun C _ => ?_)
    (repeat (first | ((first | refine rg rfl rfl (fun K hK => ?_) | refine rd [.o 0, .o 1, .o 3, .o 4, .o 2, .o 5, .o 6, .o 7] rfl (by decide +kernel) rfl (fun K hK => ?_)); (repeat (first | (refine wo rfl (fun k hk => ?_); simp (disch := omega) only [go_sem, Nat.reduceBEq, Nat.reduceAdd]; apply hk; clear hk k) | refine wkt rfl ?_)); (try refine wk0 ?_); apply hK; clear hK K; (try dsimp only [behind, qs, qb])) | ((first | refine AWP_exit ?_ | refine AWP_skip ?_); simp (disch := decide) only [qs, qb, if_true, if_false, reduceIte]) | refine AWP_sq rfl (fun K hK => ?_) | refine ct rfl ?_ | ((first | apply hK | (clear hK; apply hK) | (clear hK; clear hK; apply hK)); clear hK; (try clear K)))); ((first | refine rg rfl rfl (fun K hK => ?_) | refine rd [.o 0, .o 1, .o 3, .o 4, .o 2, .o 5, .o 6, .o 7] rfl (by decide +kernel) rfl (fun K hK => ?_)); (repeat (first | (refine wo rfl (fun k hk => ?_); simp (disch := omega) only [go_sem, Nat.reduceBEq, Nat.reduceAdd]; apply hk; clear hk k) | refine wkt rfl ?_ | with_reducible refine wk0 ?_ | with_reducible refine wt_seg ?_ | with_reducible refine wt_alt ?_ wt_no | with_reducible refine wt_done ?_)))
    refine cN rfl rfl rfl rfl (by exact kS) ?_; rintro v2 h2 st2 ⟨m1, m2, rfl⟩; (repeat (first | (refine wo rfl (fun k hk => ?_); simp (disch := omega) only [go_sem, Nat.reduceBEq, Nat.reduceAdd]; apply hk; clear hk k) | refine wkt rfl ?_ | with_reducible refine wk0 ?_ | with_reducible refine wt_seg ?_ | with_reducible refine wt_alt ?_ wt_no | with_reducible refine wt_done ?_))
    ((try (simp (disch := omega) only [go_sem, Nat.reduceBEq, Nat.reduceAdd])); apply hK; clear hK; (try clear K); (try dsimp only [behind, qs])); (repeat (first | ((first | refine rg rfl rfl (fun K hK => ?_) | refine rd [.o 0, .o 1, .o 3, .o 4, .o 2, .o 5, .o 6, .o 7] rfl (by decide +kernel) rfl (fun K hK => ?_)); (repeat (first | (refine wo rfl (fun k hk => ?_); simp (disch := omega) only [go_sem, Nat.reduceBEq, Nat.reduceAdd]; apply hk; clear hk k) | refine wkt rfl ?_)); (try refine wk0 ?_); apply hK; clear hK K; (try dsimp only [behind, qs, qb])) | ((first | refine AWP_exit ?_ | refine AWP_skip ?_); simp (disch := decide) only [qs, qb, if_true, if_false, reduceIte]) | refine AWP_sq rfl (fun K hK => ?_) | refine ct rfl ?_ | ((first | apply hK | (clear hK; apply hK) | (clear hK; clear hK; apply hK)); clear hK; (try clear K))))
    refine AWP_ret ?_; simp (disch := omega) only [go_sem, Nat.reduceBEq, Nat.reduceAdd]
    exact hs.to
  | i a b =>
    have kS := fun {h} [Le h0 h] => signs_set (h := h) hs
    have kM := fun {h} [Le h0 h] => Minus_set (h := h) hs
    rw [NS.le_i] at lx
    rw [NS.size_i]
    have hs0 := hs
    by_cases p1 : 0 ≤ (NS.i a b).slo
    · rw [if_pos p1]
      generalize (NS.i a b).slo = m1 at *
      generalize (NS.i a b).shi = m2 at *
      obtain ⟨_, _, _, _, _, _, _, _, _, _, _, _, _, _, rfl, e1, e2⟩ := hs.ie
      refine Spec.enter (args := [_]) (n := 43) Tryz.func56 rfl (by kernel_rfl) rfl (by simp) [.cell 2 43] rfl (fun C _ => ?_)
      (repeat (first | ((first | refine rg rfl rfl (fun K hK => ?_) | refine rd [.o 0, .o 1, .o 3, .o 4, .o 2, .o 5, .o 6, .o 7] rfl (by decide +kernel) rfl (fun K hK => ?_)); (repeat (first | (refine wo rfl (fun k hk => ?_); simp (disch := omega) only [go_sem, Nat.reduceBEq, Nat.reduceAdd]; apply hk; clear hk k) | refine wkt rfl ?_)); (try refine wk0 ?_); apply hK; clear hK K; (try dsimp only [behind, qs, qb])) | ((first | refine AWP_exit ?_ | refine AWP_skip ?_); simp (disch := decide) only [qs, qb, if_true, if_false, reduceIte]) | refine AWP_sq rfl (fun K hK => ?_) | refine ct rfl ?_ | ((first | apply hK | (clear hK; apply hK) | (clear hK; clear hK; apply hK)); clear hK; (try clear K)))); ((first | refine rg rfl rfl (fun K hK => ?_) | refine rd [.o 0, .o 1, .o 3, .o 4, .o 2, .o 5, .o 6, .o 7] rfl (by decide +kernel) rfl (fun K hK => ?_)); (repeat (first | (refine wo rfl (fun k hk => ?_); simp (disch := omega) only [go_sem, Nat.reduceBEq, Nat.reduceAdd]; apply hk; clear hk k) | refine wkt rfl ?_ | with_reducible refine wk0 ?_ | with_reducible refine wt_seg ?_ | with_reducible refine wt_alt ?_ wt_no | with_reducible refine wt_done ?_)))
      refine cN rfl rfl rfl rfl (by exact kS) ?_; rintro v2 h2 st2 rfl; (repeat (first | (refine wo rfl (fun k hk => ?_); simp (disch := omega) only [go_sem, Nat.reduceBEq, Nat.reduceAdd]; apply hk; clear hk k) | refine wkt rfl ?_ | with_reducible refine wk0 ?_ | with_reducible refine wt_seg ?_ | with_reducible refine wt_alt ?_ wt_no | with_reducible refine wt_done ?_))
      ((try (simp (disch := omega) only [go_sem, Nat.reduceBEq, Nat.reduceAdd])); apply hK; clear hK; (try clear K); (try dsimp only [behind, qs])); (repeat (first | ((first | refine rg rfl rfl (fun K hK => ?_) | refine rd [.o 0, .o 1, .o 3, .o 4, .o 2, .o 5, .o 6, .o 7] rfl (by decide +kernel) rfl (fun K hK => ?_)); (repeat (first | (refine wo rfl (fun k hk => ?_); simp (disch := omega) only [go_sem, Nat.reduceBEq, Nat.reduceAdd]; apply hk; clear hk k) | refine wkt rfl ?_)); (try refine wk0 ?_); apply hK; clear hK K; (try dsimp only [behind, qs, qb])) | ((first | refine AWP_exit ?_ | refine AWP_skip ?_); simp (disch := decide) only [qs, qb, if_true, if_false, reduceIte]) | refine AWP_sq rfl (fun K hK => ?_) | refine ct rfl ?_ | ((first | apply hK | (clear hK; apply hK) | (clear hK; clear hK; apply hK)); clear hK; (try clear K))))
      refine AWP_ret ?_; simp (disch := omega) only [go_sem, Nat.reduceBEq, Nat.reduceAdd]
      exact hs0.to
    · rw [if_neg p1]
      by_cases p2 : (NS.i a b).shi ≤ 0
      · rw [if_pos p2]
        generalize (NS.i a b).slo = m1 at *
        generalize (NS.i a b).shi = m2 at *
        obtain ⟨_, _, _, _, _, _, _, _, _, _, _, _, _, _, rfl, e1, e2⟩ := hs.ie
        refine Spec.enter (args := [_]) (n := 43) Tryz.func56 rfl (by kernel_rfl) rfl (by simp) [.cell 2 43] rfl (fun C _ => ?_)
        (repeat (first | ((first | refine rg rfl rfl (fun K hK => ?_) | refine rd [.o 0, .o 1, .o 3, .o 4, .o 2, .o 5, .o 6, .o 7] rfl (by decide +kernel) rfl (fun K hK => ?_)); (repeat (first | (refine wo rfl (fun k hk => ?_); simp (disch := omega) only [go_sem, Nat.reduceBEq, Nat.reduceAdd]; apply hk; clear hk k) | refine wkt rfl ?_)); (try refine wk0 ?_); apply hK; clear hK K; (try dsimp only [behind, qs, qb])) | ((first | refine AWP_exit ?_ | refine AWP_skip ?_); simp (disch := decide) only [qs, qb, if_true, if_false, reduceIte]) | refine AWP_sq rfl (fun K hK => ?_) | refine ct rfl ?_ | ((first | apply hK | (clear hK; apply hK) | (clear hK; clear hK; apply hK)); clear hK; (try clear K)))); ((first | refine rg rfl rfl (fun K hK => ?_) | refine rd [.o 0, .o 1, .o 3, .o 4, .o 2, .o 5, .o 6, .o 7] rfl (by decide +kernel) rfl (fun K hK => ?_)); (repeat (first | (refine wo rfl (fun k hk => ?_); simp (disch := omega) only [go_sem, Nat.reduceBEq, Nat.reduceAdd]; apply hk; clear hk k) | refine wkt rfl ?_ | with_reducible refine wk0 ?_ | with_reducible refine wt_seg ?_ | with_reducible refine wt_alt ?_ wt_no | with_reducible refine wt_done ?_)))
        refine cN rfl rfl rfl rfl (by exact kS) ?_; rintro v2 h2 st2 rfl; (repeat (first | (refine wo rfl (fun k hk => ?_); simp (disch := omega) only [go_sem, Nat.reduceBEq, Nat.reduceAdd]; apply hk; clear hk k) | refine wkt rfl ?_ | with_reducible refine wk0 ?_ | with_reducible refine wt_seg ?_ | with_reducible refine wt_alt ?_ wt_no | with_reducible refine wt_done ?_))
        ((try (simp (disch := omega) only [go_sem, Nat.reduceBEq, Nat.reduceAdd])); apply hK; clear hK; (try clear K); (try dsimp only [behind, qs])); (repeat (first | ((first | refine rg rfl rfl (fun K hK => ?_) | refine rd [.o 0, .o 1, .o 3, .o 4, .o 2, .o 5, .o 6, .o 7] rfl (by decide +kernel) rfl (fun K hK => ?_)); (repeat (first | (refine wo rfl (fun k hk => ?_); simp (disch := omega) only [go_sem, Nat.reduceBEq, Nat.reduceAdd]; apply hk; clear hk k) | refine wkt rfl ?_)); (try refine wk0 ?_); apply hK; clear hK K; (try dsimp only [behind, qs, qb])) | ((first | refine AWP_exit ?_ | refine AWP_skip ?_); simp (disch := decide) only [qs, qb, if_true, if_false, reduceIte]) | refine AWP_sq rfl (fun K hK => ?_) | refine ct rfl ?_ | ((first | apply hK | (clear hK; apply hK) | (clear hK; clear hK; apply hK)); clear hK; (try clear K)))); ((first | refine rg rfl rfl (fun K hK => ?_) | refine rd [.o 0, .o 1, .o 3, .o 4, .o 2, .o 5, .o 6, .o 7] rfl (by decide +kernel) rfl (fun K hK => ?_)); (repeat (first | (refine wo rfl (fun k hk => ?_); simp (disch := omega) only [go_sem, Nat.reduceBEq, Nat.reduceAdd]; apply hk; clear hk k) | refine wkt rfl ?_ | with_reducible refine wk0 ?_ | with_reducible refine wt_seg ?_ | with_reducible refine wt_alt ?_ wt_no | with_reducible refine wt_done ?_)))
        refine cN rfl rfl rfl rfl (by exact kM) ?_; rintro v3 h3 st_h3 f3; obtain ⟨v3_0, v3_1, v3_2, v3_3, v3_4, v3_5, v3_6, v3_7, v3_8, v3_9, v3_10, v3_11, v3_12, v3_13, v3_14, v3_15, rfl, f3⟩ := f3.sa; (repeat (first | (refine wo rfl (fun k hk => ?_); simp (disch := omega) only [go_sem, Nat.reduceBEq, Nat.reduceAdd]; apply hk; clear hk k) | refine wkt rfl ?_ | with_reducible refine wk0 ?_ | with_reducible refine wt_seg ?_ | with_reducible refine wt_alt ?_ wt_no | with_reducible refine wt_done ?_))
        ((try (simp (disch := omega) only [go_sem, Nat.reduceBEq, Nat.reduceAdd])); apply hK; clear hK; (try clear K); (try dsimp only [behind, qs])); (repeat (first | ((first | refine rg rfl rfl (fun K hK => ?_) | refine rd [.o 0, .o 1, .o 3, .o 4, .o 2, .o 5, .o 6, .o 7] rfl (by decide +kernel) rfl (fun K hK => ?_)); (repeat (first | (refine wo rfl (fun k hk => ?_); simp (disch := omega) only [go_sem, Nat.reduceBEq, Nat.reduceAdd]; apply hk; clear hk k) | refine wkt rfl ?_)); (try refine wk0 ?_); apply hK; clear hK K; (try dsimp only [behind, qs, qb])) | ((first | refine AWP_exit ?_ | refine AWP_skip ?_); simp (disch := decide) only [qs, qb, if_true, if_false, reduceIte]) | refine AWP_sq rfl (fun K hK => ?_) | refine ct rfl ?_ | ((first | apply hK | (clear hK; apply hK) | (clear hK; clear hK; apply hK)); clear hK; (try clear K))))
        refine AWP_ret ?_; simp (disch := omega) only [go_sem, Nat.reduceBEq, Nat.reduceAdd]
        exact f3
      · rw [if_neg p2]
        generalize (NS.i a b).slo = m1 at *
        generalize (NS.i a b).shi = m2 at *
        obtain ⟨b1, a1, m1, c1, a2, m2, c2, b2, a3, m3, c3, a4, m4, c4, rfl, e1, e2⟩ := hs.ie
        cases a with
        | none =>
          generalize b.isNone = ub at *
          dsimp only [Option.isNone]
          refine Spec.enter (args := [_]) (n := 43) Tryz.func56 rfl (by kernel_rfl) rfl (by simp) [.cell 2 43] rfl (fun C _ => ?_)
          (repeat (first | ((first | refine rg rfl rfl (fun K hK => ?_) | refine rd [.o 0, .o 1, .o 3, .o 4, .o 2, .o 5, .o 6, .o 7] rfl (by decide +kernel) rfl (fun K hK => ?_)); (repeat (first | (refine wo rfl (fun k hk => ?_); simp (disch := omega) only [go_sem, Nat.reduceBEq, Nat.reduceAdd]; apply hk; clear hk k) | refine wkt rfl ?_)); (try refine wk0 ?_); apply hK; clear hK K; (try dsimp only [behind, qs, qb])) | ((first | refine AWP_exit ?_ | refine AWP_skip ?_); simp (disch := decide) only [qs, qb, if_true, if_false, reduceIte]) | refine AWP_sq rfl (fun K hK => ?_) | refine ct rfl ?_ | ((first | apply hK | (clear hK; apply hK) | (clear hK; clear hK; apply hK)); clear hK; (try clear K)))); ((first | refine rg rfl rfl (fun K hK => ?_) | refine rd [.o 0, .o 1, .o 3, .o 4, .o 2, .o 5, .o 6, .o 7] rfl (by decide +kernel) rfl (fun K hK => ?_)); (repeat (first | (refine wo rfl (fun k hk => ?_); simp (disch := omega) only [go_sem, Nat.reduceBEq, Nat.reduceAdd]; apply hk; clear hk k) | refine wkt rfl ?_ | with_reducible refine wk0 ?_ | with_reducible refine wt_seg ?_ | with_reducible refine wt_alt ?_ wt_no | with_reducible refine wt_done ?_)))
          refine cN rfl rfl rfl rfl (by exact kS) ?_; rintro v2 h2 st2 rfl; (repeat (first | (refine wo rfl (fun k hk => ?_); simp (disch := omega) only [go_sem, Nat.reduceBEq, Nat.reduceAdd]; apply hk; clear hk k) | refine wkt rfl ?_ | with_reducible refine wk0 ?_ | with_reducible refine wt_seg ?_ | with_reducible refine wt_alt ?_ wt_no | with_reducible refine wt_done ?_))
          ((try (simp (disch := omega) only [go_sem, Nat.reduceBEq, Nat.reduceAdd])); apply hK; clear hK; (try clear K); (try dsimp only [behind, qs])); (repeat (first | ((first | refine rg rfl rfl (fun K hK => ?_) | refine rd [.o 0, .o 1, .o 3, .o 4, .o 2, .o 5, .o 6, .o 7] rfl (by decide +kernel) rfl (fun K hK => ?_)); (repeat (first | (refine wo rfl (fun k hk => ?_); simp (disch := omega) only [go_sem, Nat.reduceBEq, Nat.reduceAdd]; apply hk; clear hk k) | refine wkt rfl ?_)); (try refine wk0 ?_); apply hK; clear hK K; (try dsimp only [behind, qs, qb])) | ((first | refine AWP_exit ?_ | refine AWP_skip ?_); simp (disch := decide) only [qs, qb, if_true, if_false, reduceIte]) | refine AWP_sq rfl (fun K hK => ?_) | refine ct rfl ?_ | ((first | apply hK | (clear hK; apply hK) | (clear hK; clear hK; apply hK)); clear hK; (try clear K))))
          (first | refine AWP_t (.seg [.o 1, .o 2] (.alt 0 (.seg [.o 3, .o 4, .o 5, .o 6, .o 7] (.alt 8 (.alt 9 .done .no) .no)) (.alt 8 (.alt 0 (.seg [.o 3, .o 4, .o 5, .o 6, .o 7] (.alt 9 .done .no)) .no) .no))) (by decide +kernel) rfl (fun K hK => ?_) | refine AWP_tk (.seg [.o 1, .o 2] (.alt 0 (.seg [.o 3, .o 4, .o 5, .o 6, .o 7] (.alt 8 (.alt 9 .done .no) .no)) (.alt 8 (.alt 0 (.seg [.o 3, .o 4, .o 5, .o 6, .o 7] (.alt 9 .done .no)) .no) .no))) (by decide +kernel) rfl (fun K hK => ?_))
          have rest : ∀ (b3 : Bool) (xa : Option Addr) (xl xc : Nat) (ya : Option Addr) (yl yc : Nat) (h' : PH) (S : AS) [Le h0 h'], Fr h' (.agg #[.bool b3, .slice xa xl xc, .slice ya yl yc]) ((0 : Int) : Rat) →
              S.le ⟨[(1, .p 0 0), (2, .p 1 0), (5, .p 2 0)], [[.bool b1, .slice a1 m1 c1, .slice a2 m2 c2, .bool b2, .slice a3 m3 c3, .slice a4 m4 c4, .bool true, .bool ub, .bool false], [.bool false, .slice none 0 0, .slice none 0 0, .bool false, .slice none 0 0, .slice none 0 0, .bool false, .bool false, .bool false], [.bool b3, .slice xa xl xc, .slice ya yl yc, .bool false, .slice none 0 0, .slice none 0 0, .bool false, .bool true, .bool false]]⟩ → K S h' := by
            intro b3 xa xl xc ya yl yc h' S _ f3 hS
            refine hK _ _ (AWP_le _ hS ?_); clear hK K
            (repeat (first | ((first | refine rg rfl rfl (fun K hK => ?_) | refine rd [.o 0, .o 1, .o 3, .o 4, .o 2, .o 5, .o 6, .o 7] rfl (by decide +kernel) rfl (fun K hK => ?_)); (repeat (first | (refine wo rfl (fun k hk => ?_); simp (disch := omega) only [go_sem, Nat.reduceBEq, Nat.reduceAdd]; apply hk; clear hk k) | refine wkt rfl ?_)); (try refine wk0 ?_); apply hK; clear hK K; (try dsimp only [behind, qs, qb])) | ((first | refine AWP_exit ?_ | refine AWP_skip ?_); simp (disch := decide) only [qs, qb, if_true, if_false, reduceIte]) | refine AWP_sq rfl (fun K hK => ?_) | refine ct rfl ?_ | ((first | apply hK | (clear hK; apply hK) | (clear hK; clear hK; apply hK)); clear hK; (try clear K))))
            refine AWP_ret ?_; simp (disch := omega) only [go_sem, Nat.reduceBEq, Nat.reduceAdd]
            exact ⟨_, _, _, _, _, _, rfl, En.of f3.to, En.nil _⟩
          clear hK
          (repeat (first | (refine wo rfl (fun k hk => ?_); simp (disch := omega) only [go_sem, Nat.reduceBEq, Nat.reduceAdd]; apply hk; clear hk k) | refine wkt rfl ?_ | with_reducible refine wk0 ?_ | with_reducible refine wt_seg ?_ | with_reducible refine wt_alt ?_ wt_no | with_reducible refine wt_done ?_))
          refine wt_alt ?_ (wt_alt ?_ wt_no)
          · refine cN rfl rfl rfl rfl (by exact Int_spec (n := 0) (by decide) (by decide)) ?_; rintro v3 h3 _ f3; obtain ⟨v3_0, v3_1, v3_2, v3_3, v3_4, v3_5, v3_6, rfl, f3⟩ := f3.sa; (repeat (first | (refine wo rfl (fun k hk => ?_); simp (disch := omega) only [go_sem, Nat.reduceBEq, Nat.reduceAdd]; apply hk; clear hk k) | refine wkt rfl ?_ | with_reducible refine wk0 ?_ | with_reducible refine wt_seg ?_ | with_reducible refine wt_alt ?_ wt_no | with_reducible refine wt_done ?_))
            refine rest _ _ _ _ _ _ _ _ _ f3 ?_
            simp (disch := omega) only [go_sem, Nat.reduceBEq, Nat.reduceAdd, true_or]
          · (repeat (first | (refine wo rfl (fun k hk => ?_); simp (disch := omega) only [go_sem, Nat.reduceBEq, Nat.reduceAdd]; apply hk; clear hk k) | refine wkt rfl ?_ | with_reducible refine wk0 ?_ | with_reducible refine wt_seg ?_ | with_reducible refine wt_alt ?_ wt_no | with_reducible refine wt_done ?_))
            refine cN rfl rfl rfl rfl (by exact Int_spec (n := 0) (by decide) (by decide)) ?_; rintro v3 h3 _ f3; obtain ⟨v3_0, v3_1, v3_2, v3_3, v3_4, v3_5, v3_6, rfl, f3⟩ := f3.sa; (repeat (first | (refine wo rfl (fun k hk => ?_); simp (disch := omega) only [go_sem, Nat.reduceBEq, Nat.reduceAdd]; apply hk; clear hk k) | refine wkt rfl ?_ | with_reducible refine wk0 ?_ | with_reducible refine wt_seg ?_ | with_reducible refine wt_alt ?_ wt_no | with_reducible refine wt_done ?_))
            refine rest _ _ _ _ _ _ _ _ _ f3 ?_
            simp (disch := omega) only [go_sem, Nat.reduceBEq, Nat.reduceAdd, true_or]
        | some a =>
          cases b with
          | none =>
            dsimp only [Option.isNone]
            refine Spec.enter (args := [_]) (n := 43) Tryz.func56 rfl (by kernel_rfl) rfl (by simp) [.cell 2 43] rfl (fun C _ => ?_)
            (repeat (first | ((first | refine rg rfl rfl (fun K hK => ?_) | refine rd [.o 0, .o 1, .o 3, .o 4, .o 2, .o 5, .o 6, .o 7] rfl (by decide +kernel) rfl (fun K hK => ?_)); (repeat (first | (refine wo rfl (fun k hk => ?_); simp (disch := omega) only [go_sem, Nat.reduceBEq, Nat.reduceAdd]; apply hk; clear hk k) | refine wkt rfl ?_)); (try refine wk0 ?_); apply hK; clear hK K; (try dsimp only [behind, qs, qb])) | ((first | refine AWP_exit ?_ | refine AWP_skip ?_); simp (disch := decide) only [qs, qb, if_true, if_false, reduceIte]) | refine AWP_sq rfl (fun K hK => ?_) | refine ct rfl ?_ | ((first | apply hK | (clear hK; apply hK) | (clear hK; clear hK; apply hK)); clear hK; (try clear K)))); ((first | refine rg rfl rfl (fun K hK => ?_) | refine rd [.o 0, .o 1, .o 3, .o 4, .o 2, .o 5, .o 6, .o 7] rfl (by decide +kernel) rfl (fun K hK => ?_)); (repeat (first | (refine wo rfl (fun k hk => ?_); simp (disch := omega) only [go_sem, Nat.reduceBEq, Nat.reduceAdd]; apply hk; clear hk k) | refine wkt rfl ?_ | with_reducible refine wk0 ?_ | with_reducible refine wt_seg ?_ | with_reducible refine wt_alt ?_ wt_no | with_reducible refine wt_done ?_)))
            refine cN rfl rfl rfl rfl (by exact kS) ?_; rintro v2 h2 st2 rfl; (repeat (first | (refine wo rfl (fun k hk => ?_); simp (disch := omega) only [go_sem, Nat.reduceBEq, Nat.reduceAdd]; apply hk; clear hk k) | refine wkt rfl ?_ | with_reducible refine wk0 ?_ | with_reducible refine wt_seg ?_ | with_reducible refine wt_alt ?_ wt_no | with_reducible refine wt_done ?_))
            ((try (simp (disch := omega) only [go_sem, Nat.reduceBEq, Nat.reduceAdd])); apply hK; clear hK; (try clear K); (try dsimp only [behind, qs])); (repeat (first | ((first | refine rg rfl rfl (fun K hK => ?_) | refine rd [.o 0, .o 1, .o 3, .o 4, .o 2, .o 5, .o 6, .o 7] rfl (by decide +kernel) rfl (fun K hK => ?_)); (repeat (first | (refine wo rfl (fun k hk => ?_); simp (disch := omega) only [go_sem, Nat.reduceBEq, Nat.reduceAdd]; apply hk; clear hk k) | refine wkt rfl ?_)); (try refine wk0 ?_); apply hK; clear hK K; (try dsimp only [behind, qs, qb])) | ((first | refine AWP_exit ?_ | refine AWP_skip ?_); simp (disch := decide) only [qs, qb, if_true, if_false, reduceIte]) | refine AWP_sq rfl (fun K hK => ?_) | refine ct rfl ?_ | ((first | apply hK | (clear hK; apply hK) | (clear hK; clear hK; apply hK)); clear hK; (try clear K))))
            (first | refine AWP_t (.seg [.o 1, .o 2] (.alt 0 (.seg [.o 3, .o 4, .o 5, .o 6, .o 7] (.alt 8 (.alt 9 .done .no) .no)) (.alt 8 (.alt 0 (.seg [.o 3, .o 4, .o 5, .o 6, .o 7] (.alt 9 .done .no)) .no) .no))) (by decide +kernel) rfl (fun K hK => ?_) | refine AWP_tk (.seg [.o 1, .o 2] (.alt 0 (.seg [.o 3, .o 4, .o 5, .o 6, .o 7] (.alt 8 (.alt 9 .done .no) .no)) (.alt 8 (.alt 0 (.seg [.o 3, .o 4, .o 5, .o 6, .o 7] (.alt 9 .done .no)) .no) .no))) (by decide +kernel) rfl (fun K hK => ?_))
            have rest : ∀ (b3 : Bool) (xa : Option Addr) (xl xc : Nat) (ya : Option Addr) (yl yc : Nat) (h' : PH) (S : AS) [Le h0 h'], Fr h' (.agg #[.bool b3, .slice xa xl xc, .slice ya yl yc]) ((0 : Int) : Rat) →
                S.le ⟨[(1, .p 0 0), (2, .p 1 0), (5, .p 2 0)], [[.bool b1, .slice a1 m1 c1, .slice a2 m2 c2, .bool b2, .slice a3 m3 c3, .slice a4 m4 c4, .bool false, .bool true, .bool false], [.bool false, .slice none 0 0, .slice none 0 0, .bool false, .slice none 0 0, .slice none 0 0, .bool false, .bool false, .bool false], [.bool b3, .slice xa xl xc, .slice ya yl yc, .bool false, .slice none 0 0, .slice none 0 0, .bool false, .bool true, .bool false]]⟩ → K S h' := by
              intro b3 xa xl xc ya yl yc h' S _ f3 hS
              refine hK _ _ (AWP_le _ hS ?_); clear hK K
              (repeat (first | ((first | refine rg rfl rfl (fun K hK => ?_) | refine rd [.o 0, .o 1, .o 3, .o 4, .o 2, .o 5, .o 6, .o 7] rfl (by decide +kernel) rfl (fun K hK => ?_)); (repeat (first | (refine wo rfl (fun k hk => ?_); simp (disch := omega) only [go_sem, Nat.reduceBEq, Nat.reduceAdd]; apply hk; clear hk k) | refine wkt rfl ?_)); (try refine wk0 ?_); apply hK; clear hK K; (try dsimp only [behind, qs, qb])) | ((first | refine AWP_exit ?_ | refine AWP_skip ?_); simp (disch := decide) only [qs, qb, if_true, if_false, reduceIte]) | refine AWP_sq rfl (fun K hK => ?_) | refine ct rfl ?_ | ((first | apply hK | (clear hK; apply hK) | (clear hK; clear hK; apply hK)); clear hK; (try clear K))))
              refine AWP_ret ?_; simp (disch := omega) only [go_sem, Nat.reduceBEq, Nat.reduceAdd]
              exact ⟨_, _, _, _, _, _, rfl, En.of f3.to, En.nil _⟩
            clear hK
            (repeat (first | (refine wo rfl (fun k hk => ?_); simp (disch := omega) only [go_sem, Nat.reduceBEq, Nat.reduceAdd]; apply hk; clear hk k) | refine wkt rfl ?_ | with_reducible refine wk0 ?_ | with_reducible refine wt_seg ?_ | with_reducible refine wt_alt ?_ wt_no | with_reducible refine wt_done ?_))
            refine wt_alt ?_ (wt_alt ?_ wt_no)
            · refine cN rfl rfl rfl rfl (by exact Int_spec (n := 0) (by decide) (by decide)) ?_; rintro v3 h3 _ f3; obtain ⟨v3_0, v3_1, v3_2, v3_3, v3_4, v3_5, v3_6, rfl, f3⟩ := f3.sa; (repeat (first | (refine wo rfl (fun k hk => ?_); simp (disch := omega) only [go_sem, Nat.reduceBEq, Nat.reduceAdd]; apply hk; clear hk k) | refine wkt rfl ?_ | with_reducible refine wk0 ?_ | with_reducible refine wt_seg ?_ | with_reducible refine wt_alt ?_ wt_no | with_reducible refine wt_done ?_))
              refine rest _ _ _ _ _ _ _ _ _ f3 ?_
              simp (disch := omega) only [go_sem, Nat.reduceBEq, Nat.reduceAdd, true_or]
            · (repeat (first | (refine wo rfl (fun k hk => ?_); simp (disch := omega) only [go_sem, Nat.reduceBEq, Nat.reduceAdd]; apply hk; clear hk k) | refine wkt rfl ?_ | with_reducible refine wk0 ?_ | with_reducible refine wt_seg ?_ | with_reducible refine wt_alt ?_ wt_no | with_reducible refine wt_done ?_))
              refine cN rfl rfl rfl rfl (by exact Int_spec (n := 0) (by decide) (by decide)) ?_; rintro v3 h3 _ f3; obtain ⟨v3_0, v3_1, v3_2, v3_3, v3_4, v3_5, v3_6, rfl, f3⟩ := f3.sa; (repeat (first | (refine wo rfl (fun k hk => ?_); simp (disch := omega) only [go_sem, Nat.reduceBEq, Nat.reduceAdd]; apply hk; clear hk k) | refine wkt rfl ?_ | with_reducible refine wk0 ?_ | with_reducible refine wt_seg ?_ | with_reducible refine wt_alt ?_ wt_no | with_reducible refine wt_done ?_))
              refine rest _ _ _ _ _ _ _ _ _ f3 ?_
              simp (disch := omega) only [go_sem, Nat.reduceBEq, Nat.reduceAdd, true_or]
          | some b =>
            dsimp only [Option.isNone]
            refine Spec.enter (args := [_]) (n := 43) Tryz.func56 rfl (by kernel_rfl) rfl (by simp) [.cell 2 43] rfl (fun C _ => ?_)
            (repeat (first | ((first | refine rg rfl rfl (fun K hK => ?_) | refine rd [.o 0, .o 1, .o 3, .o 4, .o 2, .o 5, .o 6, .o 7] rfl (by decide +kernel) rfl (fun K hK => ?_)); (repeat (first | (refine wo rfl (fun k hk => ?_); simp (disch := omega) only [go_sem, Nat.reduceBEq, Nat.reduceAdd]; apply hk; clear hk k) | refine wkt rfl ?_)); (try refine wk0 ?_); apply hK; clear hK K; (try dsimp only [behind, qs, qb])) | ((first | refine AWP_exit ?_ | refine AWP_skip ?_); simp (disch := decide) only [qs, qb, if_true, if_false, reduceIte]) | refine AWP_sq rfl (fun K hK => ?_) | refine ct rfl ?_ | ((first | apply hK | (clear hK; apply hK) | (clear hK; clear hK; apply hK)); clear hK; (try clear K)))); ((first | refine rg rfl rfl (fun K hK => ?_) | refine rd [.o 0, .o 1, .o 3, .o 4, .o 2, .o 5, .o 6, .o 7] rfl (by decide +kernel) rfl (fun K hK => ?_)); (repeat (first | (refine wo rfl (fun k hk => ?_); simp (disch := omega) only [go_sem, Nat.reduceBEq, Nat.reduceAdd]; apply hk; clear hk k) | refine wkt rfl ?_ | with_reducible refine wk0 ?_ | with_reducible refine wt_seg ?_ | with_reducible refine wt_alt ?_ wt_no | with_reducible refine wt_done ?_)))
            refine cN rfl rfl rfl rfl (by exact kS) ?_; rintro v2 h2 st2 rfl; (repeat (first | (refine wo rfl (fun k hk => ?_); simp (disch := omega) only [go_sem, Nat.reduceBEq, Nat.reduceAdd]; apply hk; clear hk k) | refine wkt rfl ?_ | with_reducible refine wk0 ?_ | with_reducible refine wt_seg ?_ | with_reducible refine wt_alt ?_ wt_no | with_reducible refine wt_done ?_))
            ((try (simp (disch := omega) only [go_sem, Nat.reduceBEq, Nat.reduceAdd])); apply hK; clear hK; (try clear K); (try dsimp only [behind, qs])); (repeat (first | ((first | refine rg rfl rfl (fun K hK => ?_) | refine rd [.o 0, .o 1, .o 3, .o 4, .o 2, .o 5, .o 6, .o 7] rfl (by decide +kernel) rfl (fun K hK => ?_)); (repeat (first | (refine wo rfl (fun k hk => ?_); simp (disch := omega) only [go_sem, Nat.reduceBEq, Nat.reduceAdd]; apply hk; clear hk k) | refine wkt rfl ?_)); (try refine wk0 ?_); apply hK; clear hK K; (try dsimp only [behind, qs, qb])) | ((first | refine AWP_exit ?_ | refine AWP_skip ?_); simp (disch := decide) only [qs, qb, if_true, if_false, reduceIte]) | refine AWP_sq rfl (fun K hK => ?_) | refine ct rfl ?_ | ((first | apply hK | (clear hK; apply hK) | (clear hK; clear hK; apply hK)); clear hK; (try clear K))))
            (first | refine AWP_t (.seg [.o 1, .o 2] (.alt 0 (.seg [.o 3, .o 4, .o 5, .o 6, .o 7] (.alt 8 (.alt 9 .done .no) .no)) (.alt 8 (.alt 0 (.seg [.o 3, .o 4, .o 5, .o 6, .o 7] (.alt 9 .done .no)) .no) .no))) (by decide +kernel) rfl (fun K hK => ?_) | refine AWP_tk (.seg [.o 1, .o 2] (.alt 0 (.seg [.o 3, .o 4, .o 5, .o 6, .o 7] (.alt 8 (.alt 9 .done .no) .no)) (.alt 8 (.alt 0 (.seg [.o 3, .o 4, .o 5, .o 6, .o 7] (.alt 9 .done .no)) .no) .no))) (by decide +kernel) rfl (fun K hK => ?_))
            have rest : ∀ (b3 : Bool) (xa : Option Addr) (xl xc : Nat) (ya : Option Addr) (yl yc : Nat) (h' : PH) (S : AS) [Le h0 h'], Fr h' (.agg #[.bool b3, .slice xa xl xc, .slice ya yl yc]) ((0 : Int) : Rat) →
                S.le ⟨[(1, .p 0 0), (2, .p 1 0), (5, .p 2 0)], [[.bool b1, .slice a1 m1 c1, .slice a2 m2 c2, .bool b2, .slice a3 m3 c3, .slice a4 m4 c4, .bool false, .bool false, .bool false], [.bool false, .slice none 0 0, .slice none 0 0, .bool false, .slice none 0 0, .slice none 0 0, .bool false, .bool false, .bool false], [.bool b3, .slice xa xl xc, .slice ya yl yc, .bool false, .slice none 0 0, .slice none 0 0, .bool false, .bool false, .bool false]]⟩ → K S h' := by
              intro b3 xa xl xc ya yl yc h' S _ f3 hS
              refine hK _ _ (AWP_le _ hS ?_); clear hK K
              (repeat (first | ((first | refine rg rfl rfl (fun K hK => ?_) | refine rd [.o 0, .o 1, .o 3, .o 4, .o 2, .o 5, .o 6, .o 7] rfl (by decide +kernel) rfl (fun K hK => ?_)); (repeat (first | (refine wo rfl (fun k hk => ?_); simp (disch := omega) only [go_sem, Nat.reduceBEq, Nat.reduceAdd]; apply hk; clear hk k) | refine wkt rfl ?_)); (try refine wk0 ?_); apply hK; clear hK K; (try dsimp only [behind, qs, qb])) | ((first | refine AWP_exit ?_ | refine AWP_skip ?_); simp (disch := decide) only [qs, qb, if_true, if_false, reduceIte]) | refine AWP_sq rfl (fun K hK => ?_) | refine ct rfl ?_ | ((first | apply hK | (clear hK; apply hK) | (clear hK; clear hK; apply hK)); clear hK; (try clear K)))); ((first | refine rg rfl rfl (fun K hK => ?_) | refine rd [.o 0, .o 1, .o 3, .o 4, .o 2, .o 5, .o 6, .o 7] rfl (by decide +kernel) rfl (fun K hK => ?_)); (repeat (first | (refine wo rfl (fun k hk => ?_); simp (disch := omega) only [go_sem, Nat.reduceBEq, Nat.reduceAdd]; apply hk; clear hk k) | refine wkt rfl ?_ | with_reducible refine wk0 ?_ | with_reducible refine wt_seg ?_ | with_reducible refine wt_alt ?_ wt_no | with_reducible refine wt_done ?_)))
              refine cN rfl rfl rfl rfl (by exact Opposite_spec (e1.num.to (h' := h'))) ?_; rintro v4 h4 _ f4; obtain ⟨v4_0, v4_1, v4_2, v4_3, v4_4, v4_5, v4_6, rfl, f4⟩ := f4.sa; (repeat (first | (refine wo rfl (fun k hk => ?_); simp (disch := omega) only [go_sem, Nat.reduceBEq, Nat.reduceAdd]; apply hk; clear hk k) | refine wkt rfl ?_ | with_reducible refine wk0 ?_ | with_reducible refine wt_seg ?_ | with_reducible refine wt_alt ?_ wt_no | with_reducible refine wt_done ?_))
              refine cN rfl rfl rfl rfl (by exact greatest_spec f4 (e2.num.to (h' := h4)) (by rw [sz_neg]; exact up36 (lx.1 _ rfl)) (up36 (lx.2 _ rfl))) ?_; rintro v5 h5 _ f5; obtain ⟨v5_0, v5_1, v5_2, v5_3, v5_4, v5_5, v5_6, rfl, f5⟩ := f5.sa; (repeat (first | (refine wo rfl (fun k hk => ?_); simp (disch := omega) only [go_sem, Nat.reduceBEq, Nat.reduceAdd]; apply hk; clear hk k) | refine wkt rfl ?_ | with_reducible refine wk0 ?_ | with_reducible refine wt_seg ?_ | with_reducible refine wt_alt ?_ wt_no | with_reducible refine wt_done ?_))
              ((try (simp (disch := omega) only [go_sem, Nat.reduceBEq, Nat.reduceAdd])); apply hK; clear hK; (try clear K); (try dsimp only [behind, qs])); (repeat (first | ((first | refine rg rfl rfl (fun K hK => ?_) | refine rd [.o 0, .o 1, .o 3, .o 4, .o 2, .o 5, .o 6, .o 7] rfl (by decide +kernel) rfl (fun K hK => ?_)); (repeat (first | (refine wo rfl (fun k hk => ?_); simp (disch := omega) only [go_sem, Nat.reduceBEq, Nat.reduceAdd]; apply hk; clear hk k) | refine wkt rfl ?_)); (try refine wk0 ?_); apply hK; clear hK K; (try dsimp only [behind, qs, qb])) | ((first | refine AWP_exit ?_ | refine AWP_skip ?_); simp (disch := decide) only [qs, qb, if_true, if_false, reduceIte]) | refine AWP_sq rfl (fun K hK => ?_) | refine ct rfl ?_ | ((first | apply hK | (clear hK; apply hK) | (clear hK; clear hK; apply hK)); clear hK; (try clear K))))
              refine AWP_ret ?_; simp (disch := omega) only [go_sem, Nat.reduceBEq, Nat.reduceAdd]
              exact ⟨_, _, _, _, _, _, rfl, En.of f3.to, (En.of f5).to⟩
            clear hK
            (repeat (first | (refine wo rfl (fun k hk => ?_); simp (disch := omega) only [go_sem, Nat.reduceBEq, Nat.reduceAdd]; apply hk; clear hk k) | refine wkt rfl ?_ | with_reducible refine wk0 ?_ | with_reducible refine wt_seg ?_ | with_reducible refine wt_alt ?_ wt_no | with_reducible refine wt_done ?_))
            refine wt_alt ?_ (wt_alt ?_ wt_no)
            · refine cN rfl rfl rfl rfl (by exact Int_spec (n := 0) (by decide) (by decide)) ?_; rintro v3 h3 _ f3; obtain ⟨v3_0, v3_1, v3_2, v3_3, v3_4, v3_5, v3_6, rfl, f3⟩ := f3.sa; (repeat (first | (refine wo rfl (fun k hk => ?_); simp (disch := omega) only [go_sem, Nat.reduceBEq, Nat.reduceAdd]; apply hk; clear hk k) | refine wkt rfl ?_ | with_reducible refine wk0 ?_ | with_reducible refine wt_seg ?_ | with_reducible refine wt_alt ?_ wt_no | with_reducible refine wt_done ?_))
              refine rest _ _ _ _ _ _ _ _ _ f3 ?_
              simp (disch := omega) only [go_sem, Nat.reduceBEq, Nat.reduceAdd, true_or]
            · (repeat (first | (refine wo rfl (fun k hk => ?_); simp (disch := omega) only [go_sem, Nat.reduceBEq, Nat.reduceAdd]; apply hk; clear hk k) | refine wkt rfl ?_ | with_reducible refine wk0 ?_ | with_reducible refine wt_seg ?_ | with_reducible refine wt_alt ?_ wt_no | with_reducible refine wt_done ?_))
              refine cN rfl rfl rfl rfl (by exact Int_spec (n := 0) (by decide) (by decide)) ?_; rintro v3 h3 _ f3; obtain ⟨v3_0, v3_1, v3_2, v3_3, v3_4, v3_5, v3_6, rfl, f3⟩ := f3.sa; (repeat (first | (refine wo rfl (fun k hk => ?_); simp (disch := omega) only [go_sem, Nat.reduceBEq, Nat.reduceAdd]; apply hk; clear hk k) | refine wkt rfl ?_ | with_reducible refine wk0 ?_ | with_reducible refine wt_seg ?_ | with_reducible refine wt_alt ?_ wt_no | with_reducible refine wt_done ?_))
              refine rest _ _ _ _ _ _ _ _ _ f3 ?_
              simp (disch := omega) only [go_sem, Nat.reduceBEq, Nat.reduceAdd, true_or]
theorem Abs_spec {h0 h : PH} [Le h0 h] {v : Value} {x : RI} (hv : Iv h0 v x) : Spec mach 17 #[v] h (fun r h' => Ir h' r (x.fin (.ok x.set.size))) NP := by
  have hv0 := hv
  obtain ⟨a1, m1, c1, a2, m2, c2, a3, m3, c3, a4, m4, c4, rfl, _, _⟩ := hv.sa
  refine Spec.enter (args := [_]) (n := 8) Tryz.func17 rfl (by kernel_rfl) rfl (by simp) [.cell 2 26, .tmp 3] rfl (fun C _ => ?_)
  repeat (first | (refine wo rfl (fun k hk => ?_); simp (disch := omega) only [go_sem, Nat.reduceBEq, Nat.reduceAdd]; apply hk; clear hk k) | refine wkt rfl ?_ | refine wk0 ?_ | refine rg rfl rfl (fun K hK => ?_) | ((first | refine AWP_exit ?_ | refine AWP_skip ?_); simp (disch := decide) only [qs, qb, if_true, if_false, reduceIte]) | refine AWP_sq rfl (fun K hK => ?_) | refine ct rfl ?_ | ((try simp (disch := omega) only [go_sem, Nat.reduceBEq, Nat.reduceAdd]); (first | apply hK | (clear hK; apply hK) | (clear hK; clear hK; apply hK)); clear hK; (try clear K); (try dsimp only [behind, qs, qb])))
  refine cN rfl rfl rfl rfl (by exact unary_spec hv0 (fun g h' _ s hs => Does.mk (Abs1 hs.sn (RI.le30 g)))) ?_; rintro r3 h3 st3 hr3; obtain ⟨_, _, _, _, _, _, _, _, _, _, _, _, _, _, _, _, _, rfl, hr3⟩ := hr3.sa; (repeat (first | (refine wo rfl (fun k hk => ?_); simp (disch := omega) only [go_sem, Nat.reduceBEq, Nat.reduceAdd]; apply hk; clear hk k) | refine wkt rfl ?_)); (try refine wk0 ?_)
  (try (simp (disch := omega) only [go_sem, Nat.reduceBEq, Nat.reduceAdd])); apply hK; clear hK; (try clear K); (try dsimp only [behind, qs])
  refine AWP_ret ?_; simp (disch := omega) only [go_sem, Nat.reduceBEq, Nat.reduceAdd]
  exact hr3
def NS.fin : NS → Bool
  | .e => true
  | .i a b => !a.isNone && !b.isNone
end Go.Q
