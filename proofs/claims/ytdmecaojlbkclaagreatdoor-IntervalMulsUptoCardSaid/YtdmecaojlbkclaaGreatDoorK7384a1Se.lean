/-
  Contracts of the reference's intervals: two arguments; opposite, lesser and greater intervals. Conditions: the values are intervals (Iv) and sets (Rr).
-/
import Derived.Test.YtdmecaojlbkclaaGreatDoorK071fd7Sd
set_option linter.unusedVariables false
set_option linter.unusedSimpArgs false
namespace Go.Q
open Go.Proofs
set_option maxRecDepth 100000
set_option maxHeartbeats 4000000
def zRI : Value := .agg #[.bool false, .slice none 0 0, .slice none 0 0, .bool false, .slice none 0 0, .slice none 0 0, .bool false, .bool false, .bool false]
theorem RefTwo_big {h0 h : PH} [Le h0 h] {v w : Value} {x y : RI} {p : Int} (hv : Iv h0 v x) (hw : Iv h0 w y) (g : (x.big || y.big) = true) : Spec mach 52 #[v, w, .int .i64 p] h (fun r _ => r = .tuple #[zRI, zRI, .int .i64 1]) NP := by
  have kl := fun {h} [Le h0 h] => RefLarge (h := h) hv
  have kl' := fun {h} [Le h0 h] => RefLarge (h := h) hw
  obtain ⟨a1, m1, c1, a2, m2, c2, a3, m3, c3, a4, m4, c4, rfl, _, _⟩ := hv.sa
  obtain ⟨a1', m1', c1', a2', m2', c2', a3', m3', c3', a4', m4', c4', rfl, _, _⟩ := hw.sa
  cases g1 : x.big with
  | true =>
    rw [g1] at kl
    refine Spec.enter (args := [_, _, _]) (n := 29) Tryz.func52 rfl (by kernel_rfl) rfl (by simp) [.cell 6 58, .cell 7 58, .tmp 8] rfl (fun C _ => ?_)
    repeat (first | (refine wo rfl (fun k hk => ?_); simp (disch := omega) only [go_sem, Nat.reduceBEq, Nat.reduceAdd]; refine hk _ _ ?_; clear hk k) | refine wkt rfl ?_ | refine wk0 ?_ | refine rg rfl rfl (fun K hK => ?_) | refine rd [.o 0, .o 2, .o 1, .o 3, .o 4, .o 5, .o 6] rfl (by decide +kernel) rfl (fun K hK => ?_) | ((first | refine AWP_exit ?_ | refine AWP_skip ?_); simp (disch := decide) only [qs, qb, if_true, if_false, reduceIte]) | refine AWP_sq rfl (fun K hK => ?_) | refine ct rfl ?_ | ((try simp (disch := omega) only [go_sem, Nat.reduceBEq, Nat.reduceAdd]); (first | apply hK | (clear hK; apply hK) | (clear hK; clear hK; apply hK)); clear hK; (try clear K); (try dsimp only [behind, qs, qb])))
    refine cN rfl rfl rfl rfl (by exact kl) ?_; rintro v1 h1 s1 rfl
    repeat (first | (refine wo rfl (fun k hk => ?_); simp (disch := omega) only [go_sem, Nat.reduceBEq, Nat.reduceAdd]; refine hk _ _ ?_; clear hk k) | refine wkt rfl ?_ | refine wk0 ?_ | refine rg rfl rfl (fun K hK => ?_) | refine rd [.o 0, .o 2, .o 1, .o 3, .o 4, .o 5, .o 6] rfl (by decide +kernel) rfl (fun K hK => ?_) | ((first | refine AWP_exit ?_ | refine AWP_skip ?_); simp (disch := decide) only [qs, qb, if_true, if_false, reduceIte]) | refine AWP_sq rfl (fun K hK => ?_) | refine ct rfl ?_ | ((try simp (disch := omega) only [go_sem, Nat.reduceBEq, Nat.reduceAdd]); (first | apply hK | (clear hK; apply hK) | (clear hK; clear hK; apply hK)); clear hK; (try clear K); (try dsimp only [behind, qs, qb])))
    refine AWP_ret ?_; simp (disch := omega) only [go_sem, Nat.reduceBEq, Nat.reduceAdd]
    rfl
  | false =>
    have g2 : y.big = true := by simpa [g1] using g
    rw [g1] at kl
    rw [g2] at kl'
    refine Spec.enter (args := [_, _, _]) (n := 29) Tryz.func52 rfl (by kernel_rfl) rfl (by simp) [.cell 6 58, .cell 7 58, .tmp 8] rfl (fun C _ => ?_)
    repeat (first | (refine wo rfl (fun k hk => ?_); simp (disch := omega) only [go_sem, Nat.reduceBEq, Nat.reduceAdd]; refine hk _ _ ?_; clear hk k) | refine wkt rfl ?_ | refine wk0 ?_ | refine rg rfl rfl (fun K hK => ?_) | refine rd [.o 0, .o 2, .o 1, .o 3, .o 4, .o 5, .o 6] rfl (by decide +kernel) rfl (fun K hK => ?_) | ((first | refine AWP_exit ?_ | refine AWP_skip ?_); simp (disch := decide) only [qs, qb, if_true, if_false, reduceIte]) | refine AWP_sq rfl (fun K hK => ?_) | refine ct rfl ?_ | ((try simp (disch := omega) only [go_sem, Nat.reduceBEq, Nat.reduceAdd]); (first | apply hK | (clear hK; apply hK) | (clear hK; clear hK; apply hK)); clear hK; (try clear K); (try dsimp only [behind, qs, qb])))
    refine cN rfl rfl rfl rfl (by exact kl) ?_; rintro v1 h1 s1 rfl; (repeat (first | (refine wo rfl (fun k hk => ?_); simp (disch := omega) only [go_sem, Nat.reduceBEq, Nat.reduceAdd]; refine hk _ _ ?_; clear hk k) | refine wkt rfl ?_)); (try refine wk0 ?_)
    refine cN rfl rfl rfl rfl (by exact kl') ?_; rintro v2 h2 s2 rfl
    repeat (first | (refine wo rfl (fun k hk => ?_); simp (disch := omega) only [go_sem, Nat.reduceBEq, Nat.reduceAdd]; refine hk _ _ ?_; clear hk k) | refine wkt rfl ?_ | refine wk0 ?_ | refine rg rfl rfl (fun K hK => ?_) | refine rd [.o 0, .o 2, .o 1, .o 3, .o 4, .o 5, .o 6] rfl (by decide +kernel) rfl (fun K hK => ?_) | ((first | refine AWP_exit ?_ | refine AWP_skip ?_); simp (disch := decide) only [qs, qb, if_true, if_false, reduceIte]) | refine AWP_sq rfl (fun K hK => ?_) | refine ct rfl ?_ | ((try simp (disch := omega) only [go_sem, Nat.reduceBEq, Nat.reduceAdd]); (first | apply hK | (clear hK; apply hK) | (clear hK; clear hK; apply hK)); clear hK; (try clear K); (try dsimp only [behind, qs, qb])))
    refine AWP_ret ?_; simp (disch := omega) only [go_sem, Nat.reduceBEq, Nat.reduceAdd]
    rfl
theorem RefTwo_bad {h0 h : PH} [Le h0 h] {v w : Value} {x y : RI} {p : Int} (hv : Iv h0 v x) (hw : Iv h0 w y) (g1 : x.big = false) (g2 : y.big = false) (gp : bad p = true) : Spec mach 52 #[v, w, .int .i64 p] h (fun r _ => r = .tuple #[zRI, zRI, .int .i64 2]) NP := by
  have kl := fun {h} [Le h0 h] => RefLarge (h := h) hv
  have kl' := fun {h} [Le h0 h] => RefLarge (h := h) hw
  rw [g1] at kl
  rw [g2] at kl'
  obtain ⟨a1, m1, c1, a2, m2, c2, a3, m3, c3, a4, m4, c4, rfl, _, _⟩ := hv.sa
  obtain ⟨a1', m1', c1', a2', m2', c2', a3', m3', c3', a4', m4', c4', rfl, _, _⟩ := hw.sa
  by_cases h2 : p < 0
  · refine Spec.enter (args := [_, _, _]) (n := 29) Tryz.func52 rfl (by kernel_rfl) rfl (by simp) [.cell 6 58, .cell 7 58, .tmp 8] rfl (fun C _ => ?_)
    repeat (first | (refine wo rfl (fun k hk => ?_); simp (disch := omega) only [go_sem, Nat.reduceBEq, Nat.reduceAdd]; refine hk _ _ ?_; clear hk k) | refine wkt rfl ?_ | refine wk0 ?_ | refine rg rfl rfl (fun K hK => ?_) | refine rd [.o 0, .o 2, .o 1, .o 3, .o 4, .o 5, .o 6] rfl (by decide +kernel) rfl (fun K hK => ?_) | ((first | refine AWP_exit ?_ | refine AWP_skip ?_); simp (disch := decide) only [qs, qb, if_true, if_false, reduceIte]) | refine AWP_sq rfl (fun K hK => ?_) | refine ct rfl ?_ | ((try simp (disch := omega) only [go_sem, Nat.reduceBEq, Nat.reduceAdd]); (first | apply hK | (clear hK; apply hK) | (clear hK; clear hK; apply hK)); clear hK; (try clear K); (try dsimp only [behind, qs, qb])))
    refine cN rfl rfl rfl rfl (by exact kl) ?_; rintro v1 h1 s1 rfl; (repeat (first | (refine wo rfl (fun k hk => ?_); simp (disch := omega) only [go_sem, Nat.reduceBEq, Nat.reduceAdd]; refine hk _ _ ?_; clear hk k) | refine wkt rfl ?_)); (try refine wk0 ?_)
    refine cN rfl rfl rfl rfl (by exact kl') ?_; rintro v2 h2' s2 rfl
    repeat (first | (refine wo rfl (fun k hk => ?_); simp (disch := omega) only [go_sem, Nat.reduceBEq, Nat.reduceAdd]; refine hk _ _ ?_; clear hk k) | refine wkt rfl ?_ | refine wk0 ?_ | refine rg rfl rfl (fun K hK => ?_) | refine rd [.o 0, .o 2, .o 1, .o 3, .o 4, .o 5, .o 6] rfl (by decide +kernel) rfl (fun K hK => ?_) | ((first | refine AWP_exit ?_ | refine AWP_skip ?_); simp (disch := decide) only [qs, qb, if_true, if_false, reduceIte]) | refine AWP_sq rfl (fun K hK => ?_) | refine ct rfl ?_ | ((try simp (disch := omega) only [go_sem, Nat.reduceBEq, Nat.reduceAdd]); (first | apply hK | (clear hK; apply hK) | (clear hK; clear hK; apply hK)); clear hK; (try clear K); (try dsimp only [behind, qs, qb])))
    refine AWP_ret ?_; simp (disch := omega) only [go_sem, Nat.reduceBEq, Nat.reduceAdd]
    rfl
  · have h3 : 128 < p := (bad_yes gp).resolve_left h2
    refine Spec.enter (args := [_, _, _]) (n := 29) Tryz.func52 rfl (by kernel_rfl) rfl (by simp) [.cell 6 58, .cell 7 58, .tmp 8] rfl (fun C _ => ?_)
    repeat (first | (refine wo rfl (fun k hk => ?_); simp (disch := omega) only [go_sem, Nat.reduceBEq, Nat.reduceAdd]; refine hk _ _ ?_; clear hk k) | refine wkt rfl ?_ | refine wk0 ?_ | refine rg rfl rfl (fun K hK => ?_) | refine rd [.o 0, .o 2, .o 1, .o 3, .o 4, .o 5, .o 6] rfl (by decide +kernel) rfl (fun K hK => ?_) | ((first | refine AWP_exit ?_ | refine AWP_skip ?_); simp (disch := decide) only [qs, qb, if_true, if_false, reduceIte]) | refine AWP_sq rfl (fun K hK => ?_) | refine ct rfl ?_ | ((try simp (disch := omega) only [go_sem, Nat.reduceBEq, Nat.reduceAdd]); (first | apply hK | (clear hK; apply hK) | (clear hK; clear hK; apply hK)); clear hK; (try clear K); (try dsimp only [behind, qs, qb])))
    refine cN rfl rfl rfl rfl (by exact kl) ?_; rintro v1 h1 s1 rfl; (repeat (first | (refine wo rfl (fun k hk => ?_); simp (disch := omega) only [go_sem, Nat.reduceBEq, Nat.reduceAdd]; refine hk _ _ ?_; clear hk k) | refine wkt rfl ?_)); (try refine wk0 ?_)
    refine cN rfl rfl rfl rfl (by exact kl') ?_; rintro v2 h2' s2 rfl
    repeat (first | (refine wo rfl (fun k hk => ?_); simp (disch := omega) only [go_sem, Nat.reduceBEq, Nat.reduceAdd]; refine hk _ _ ?_; clear hk k) | refine wkt rfl ?_ | refine wk0 ?_ | refine rg rfl rfl (fun K hK => ?_) | refine rd [.o 0, .o 2, .o 1, .o 3, .o 4, .o 5, .o 6] rfl (by decide +kernel) rfl (fun K hK => ?_) | ((first | refine AWP_exit ?_ | refine AWP_skip ?_); simp (disch := decide) only [qs, qb, if_true, if_false, reduceIte]) | refine AWP_sq rfl (fun K hK => ?_) | refine ct rfl ?_ | ((try simp (disch := omega) only [go_sem, Nat.reduceBEq, Nat.reduceAdd]); (first | apply hK | (clear hK; apply hK) | (clear hK; clear hK; apply hK)); clear hK; (try clear K); (try dsimp only [behind, qs, qb])))
    refine AWP_ret ?_; simp (disch := omega) only [go_sem, Nat.reduceBEq, Nat.reduceAdd]
    rfl
theorem RefTwo_ok {h0 h : PH} [Le h0 h] {v w : Value} {x y : RI} {p : Int} (hv : Iv h0 v x) (hw : Iv h0 w y) (g1 : x.big = false) (g2 : y.big = false) (gp : bad p = false) : Spec mach 52 #[v, w, .int .i64 p] h (fun r h' => ∃ s t, r = .tuple #[s, t, .int .i64 0] ∧ Rr h' s x.set ∧ Rr h' t y.set) NP := by
  have hv0 := hv
  have hw0 := hw
  have kl := fun {h} [Le h0 h] => RefLarge (h := h) hv
  have kl' := fun {h} [Le h0 h] => RefLarge (h := h) hw
  rw [g1] at kl
  rw [g2] at kl'
  obtain ⟨a1, m1, c1, a2, m2, c2, a3, m3, c3, a4, m4, c4, rfl, _, _⟩ := hv.sa
  obtain ⟨a1', m1', c1', a2', m2', c2', a3', m3', c3', a4', m4', c4', rfl, _, _⟩ := hw.sa
  have h2 := bad_no gp
  have h3 : ¬ p < 0 := by omega
  have h4 : ¬ 128 < p := by omega
  refine Spec.enter (args := [_, _, _]) (n := 29) Tryz.func52 rfl (by kernel_rfl) rfl (by simp) [.cell 6 58, .cell 7 58, .tmp 8] rfl (fun C _ => ?_)
  repeat (first | (refine wo rfl (fun k hk => ?_); simp (disch := omega) only [go_sem, Nat.reduceBEq, Nat.reduceAdd]; refine hk _ _ ?_; clear hk k) | refine wkt rfl ?_ | refine wk0 ?_ | refine rg rfl rfl (fun K hK => ?_) | refine rd [.o 0, .o 2, .o 1, .o 3, .o 4, .o 5, .o 6] rfl (by decide +kernel) rfl (fun K hK => ?_) | ((first | refine AWP_exit ?_ | refine AWP_skip ?_); simp (disch := decide) only [qs, qb, if_true, if_false, reduceIte]) | refine AWP_sq rfl (fun K hK => ?_) | refine ct rfl ?_ | ((try simp (disch := omega) only [go_sem, Nat.reduceBEq, Nat.reduceAdd]); (first | apply hK | (clear hK; apply hK) | (clear hK; clear hK; apply hK)); clear hK; (try clear K); (try dsimp only [behind, qs, qb])))
  refine cN rfl rfl rfl rfl (by exact kl) ?_; rintro v1 h1 s1 rfl; (repeat (first | (refine wo rfl (fun k hk => ?_); simp (disch := omega) only [go_sem, Nat.reduceBEq, Nat.reduceAdd]; refine hk _ _ ?_; clear hk k) | refine wkt rfl ?_)); (try refine wk0 ?_)
  refine cN rfl rfl rfl rfl (by exact kl') ?_; rintro v2 h2' s2 rfl
  repeat (first | (refine wo rfl (fun k hk => ?_); simp (disch := omega) only [go_sem, Nat.reduceBEq, Nat.reduceAdd]; refine hk _ _ ?_; clear hk k) | refine wkt rfl ?_ | refine wk0 ?_ | refine rg rfl rfl (fun K hK => ?_) | refine rd [.o 0, .o 2, .o 1, .o 3, .o 4, .o 5, .o 6] rfl (by decide +kernel) rfl (fun K hK => ?_) | ((first | refine AWP_exit ?_ | refine AWP_skip ?_); simp (disch := decide) only [qs, qb, if_true, if_false, reduceIte]) | refine AWP_sq rfl (fun K hK => ?_) | refine ct rfl ?_ | ((try simp (disch := omega) only [go_sem, Nat.reduceBEq, Nat.reduceAdd]); (first | apply hK | (clear hK; apply hK) | (clear hK; clear hK; apply hK)); clear hK; (try clear K); (try dsimp only [behind, qs, qb])))
  refine cN rfl rfl rfl rfl (by exact RefOf hv0 g1) ?_; rintro v3 h3' st_h3' f3; obtain ⟨v3_0, v3_1, v3_2, v3_3, v3_4, v3_5, v3_6, v3_7, v3_8, v3_9, v3_10, v3_11, v3_12, v3_13, rfl, f3⟩ := f3.sa; (repeat (first | (refine wo rfl (fun k hk => ?_); simp (disch := omega) only [go_sem, Nat.reduceBEq, Nat.reduceAdd]; refine hk _ _ ?_; clear hk k) | refine wkt rfl ?_)); (try refine wk0 ?_)
  refine cN rfl rfl rfl rfl (by exact RefOf hw0 g2) ?_; rintro v4 h4' st_h4' f4; obtain ⟨v4_0, v4_1, v4_2, v4_3, v4_4, v4_5, v4_6, v4_7, v4_8, v4_9, v4_10, v4_11, v4_12, v4_13, rfl, f4⟩ := f4.sa
  repeat (first | (refine wo rfl (fun k hk => ?_); simp (disch := omega) only [go_sem, Nat.reduceBEq, Nat.reduceAdd]; refine hk _ _ ?_; clear hk k) | refine wkt rfl ?_ | refine wk0 ?_ | refine rg rfl rfl (fun K hK => ?_) | refine rd [.o 0, .o 2, .o 1, .o 3, .o 4, .o 5, .o 6] rfl (by decide +kernel) rfl (fun K hK => ?_) | ((first | refine AWP_exit ?_ | refine AWP_skip ?_); simp (disch := decide) only [qs, qb, if_true, if_false, reduceIte]) | refine AWP_sq rfl (fun K hK => ?_) | refine ct rfl ?_ | ((try simp (disch := omega) only [go_sem, Nat.reduceBEq, Nat.reduceAdd]); (first | apply hK | (clear hK; apply hK) | (clear hK; clear hK; apply hK)); clear hK; (try clear K); (try dsimp only [behind, qs, qb])))
  refine AWP_ret ?_; simp (disch := omega) only [go_sem, Nat.reduceBEq, Nat.reduceAdd]
  exact ⟨_, _, rfl, f3.to, f4⟩
theorem RefMinus {h0 h : PH} [Le h0 h] {v : Value} {x : NS} (hv : Rr h0 v x) : Spec mach 96 #[v] h (fun r h' => Rr h' r x.minus) NP := by
  obtain ⟨_, _, _, _, _, _, _, _, _, _, _, _, _, _, rfl, t1, t2⟩ := hv.sa
  cases x with
  | e =>
    dsimp only [NS.void]
    refine Spec.enter (args := [_]) (n := 17) Tryz.func96 rfl (by kernel_rfl) rfl (by simp) [.cell 2 58] rfl (fun C _ => ?_)
    repeat (first | (refine wo rfl (fun k hk => ?_); simp (disch := omega) only [go_sem, Nat.reduceBEq, Nat.reduceAdd]; refine hk _ _ ?_; clear hk k) | refine wkt rfl ?_ | refine wk0 ?_ | refine rg rfl rfl (fun K hK => ?_) | refine rd [.o 0, .o 1, .o 3, .o 4, .o 6, .o 7, .o 8, .o 9, .o 2, .o 5, .o 10, .o 11] rfl (by decide +kernel) rfl (fun K hK => ?_) | ((first | refine AWP_exit ?_ | refine AWP_skip ?_); simp (disch := decide) only [qs, qb, if_true, if_false, reduceIte]) | refine AWP_sq rfl (fun K hK => ?_) | refine ct rfl ?_ | ((try simp (disch := omega) only [go_sem, Nat.reduceBEq, Nat.reduceAdd]); (first | apply hK | (clear hK; apply hK) | (clear hK; clear hK; apply hK)); clear hK; (try clear K); (try dsimp only [behind, qs, qb])))
    refine AWP_ret ?_; simp (disch := omega) only [go_sem, Nat.reduceBEq, Nat.reduceAdd]
    exact ⟨_, _, _, _, _, _, rfl, t1.to, t2.to⟩
  | i a b =>
    dsimp only [NS.void, NS.loN, NS.hiN, NS.lo0, NS.hi0] at *
    refine Spec.enter (args := [_]) (n := 17) Tryz.func96 rfl (by kernel_rfl) rfl (by simp) [.cell 2 58] rfl (fun C _ => ?_)
    repeat (first | (refine wo rfl (fun k hk => ?_); simp (disch := omega) only [go_sem, Nat.reduceBEq, Nat.reduceAdd]; refine hk _ _ ?_; clear hk k) | refine wkt rfl ?_ | refine wk0 ?_ | refine rg rfl rfl (fun K hK => ?_) | refine rd [.o 0, .o 1, .o 3, .o 4, .o 6, .o 7, .o 8, .o 9, .o 2, .o 5, .o 10, .o 11] rfl (by decide +kernel) rfl (fun K hK => ?_) | ((first | refine AWP_exit ?_ | refine AWP_skip ?_); simp (disch := decide) only [qs, qb, if_true, if_false, reduceIte]) | refine AWP_sq rfl (fun K hK => ?_) | refine ct rfl ?_ | ((try simp (disch := omega) only [go_sem, Nat.reduceBEq, Nat.reduceAdd]); (first | apply hK | (clear hK; apply hK) | (clear hK; clear hK; apply hK)); clear hK; (try clear K); (try dsimp only [behind, qs, qb])))
    refine cN rfl rfl rfl rfl (by exact Opp_spec t2) ?_; rintro v1 h1 _ f1; obtain ⟨v1_0, v1_1, v1_2, v1_3, v1_4, v1_5, v1_6, rfl, f1⟩ := f1.sa; (repeat (first | (refine wo rfl (fun k hk => ?_); simp (disch := omega) only [go_sem, Nat.reduceBEq, Nat.reduceAdd]; refine hk _ _ ?_; clear hk k) | refine wkt rfl ?_)); (try refine wk0 ?_)
    refine cN rfl rfl rfl rfl (by exact Opp_spec t1) ?_; rintro v2 h2 _ f2; obtain ⟨v2_0, v2_1, v2_2, v2_3, v2_4, v2_5, v2_6, rfl, f2⟩ := f2.sa
    repeat (first | (refine wo rfl (fun k hk => ?_); simp (disch := omega) only [go_sem, Nat.reduceBEq, Nat.reduceAdd]; refine hk _ _ ?_; clear hk k) | refine wkt rfl ?_ | refine wk0 ?_ | refine rg rfl rfl (fun K hK => ?_) | refine rd [.o 0, .o 1, .o 3, .o 4, .o 6, .o 7, .o 8, .o 9, .o 2, .o 5, .o 10, .o 11] rfl (by decide +kernel) rfl (fun K hK => ?_) | ((first | refine AWP_exit ?_ | refine AWP_skip ?_); simp (disch := decide) only [qs, qb, if_true, if_false, reduceIte]) | refine AWP_sq rfl (fun K hK => ?_) | refine ct rfl ?_ | ((try simp (disch := omega) only [go_sem, Nat.reduceBEq, Nat.reduceAdd]); (first | apply hK | (clear hK; apply hK) | (clear hK; clear hK; apply hK)); clear hK; (try clear K); (try dsimp only [behind, qs, qb])))
    refine AWP_ret ?_; simp (disch := omega) only [go_sem, Nat.reduceBEq, Nat.reduceAdd]
    have e3 : (NS.i a b).minus.loN = b.isNone := by cases b <;> rfl
    have e4 : (NS.i a b).minus.hiN = a.isNone := by cases a <;> rfl
    refine ⟨_, _, _, _, _, _, by rw [e3, e4]; rfl, ?_, ?_⟩
    · have e1 : (NS.i a b).minus.lo0 = -(b.getD 0) := by cases b <;> simp [NS.minus, NS.lo0]
      rw [e1]; exact f1.to
    · have e1 : (NS.i a b).minus.hi0 = -(a.getD 0) := by cases a <;> simp [NS.minus, NS.hi0]
      rw [e1]; exact f2
end Go.Q
