/-
  Contracts of the reference: the number that stands for a set; equal numbers; results as the statements compare them. Conditions: the values are intervals (Iv), sets (Rr) and numbers (Rw, Cn).
-/
import Derived.Test.YtdhnabpejckplaaDoorK8b916fSc
import Derived.Test.YtdhnabpejckplaaDoorK3ca8d4Ip
set_option linter.unusedVariables false
set_option linter.unusedSimpArgs false
namespace Go.Q
open Go.Proofs
set_option maxRecDepth 100000
set_option maxHeartbeats 4000000
theorem RefCenter {h0 h : PH} [Le h0 h] {v : Value} {x : NS} (hv : Rr h0 v x) (hf : x.le (2 ^ 30)) (hx : x.void = false) : Spec mach 91 #[v] h (fun r h' => Qr h' r (midQ x)) NP := by
  rw [NS.le_ends (by decide)] at hf
  obtain ⟨_, _, _, _, _, _, _, _, _, _, _, _, _, _, rfl, t1, t2⟩ := hv.sa
  cases x with
  | e => cases hx
  | i a b =>
    dsimp only [NS.void, NS.loN, NS.hiN, NS.lo0, NS.hi0] at *
    cases a with
    | none =>
      cases b with
      | none =>
        dsimp only [Option.isNone, Option.getD] at *
        refine Spec.enter (args := [_]) (n := 30) Tryd.func91 rfl (by kernel_rfl) rfl (by simp) [.cell 2 59] rfl (fun C _ => ?_)
        repeat (first | ((first | refine rg rfl rfl (fun K hK => ?_) | refine rd [.o 0, .o 1, .o 2, .o 3, .o 4] rfl (by decide +kernel) rfl (fun K hK => ?_)); (repeat (first | (refine wo rfl (fun k hk => ?_); simp (disch := omega) only [go_sem, Nat.reduceBEq, Nat.reduceAdd]; refine hk _ _ ?_; clear hk k) | refine wkt rfl ?_)); (try refine wk0 ?_); refine hK _ _ ?_; clear hK K; (try dsimp only [behind, qs, qb])) | ((first | refine AWP_exit ?_ | refine AWP_skip ?_); simp (disch := decide) only [qs, qb, if_true, if_false, reduceIte]) | refine AWP_sq rfl (fun K hK => ?_) | refine ct rfl ?_ | ((first | refine hK _ _ ?_ | (clear hK; refine hK _ _ ?_) | (clear hK; clear hK; refine hK _ _ ?_)); clear hK; (try clear K)))
        (first | refine rg rfl rfl (fun K hK => ?_) | refine rd [.o 0, .o 1, .o 2, .o 3, .o 4] rfl (by decide +kernel) rfl (fun K hK => ?_)); (repeat (first | (refine wo rfl (fun k hk => ?_); simp (disch := omega) only [go_sem, Nat.reduceBEq, Nat.reduceAdd]; refine hk _ _ ?_; clear hk k) | refine wkt rfl ?_)); (try refine wk0 ?_)
        refine cN rfl rfl rfl rfl (by exact QInt_spec (n := 0) (by decide) (by decide)) ?_; rintro v1 h1 _ f1; obtain ⟨v1_0, v1_1, v1_2, v1_3, v1_4, v1_5, v1_6, rfl, f1⟩ := f1.sa; (repeat (first | (refine wo rfl (fun k hk => ?_); simp (disch := omega) only [go_sem, Nat.reduceBEq, Nat.reduceAdd]; refine hk _ _ ?_; clear hk k) | refine wkt rfl ?_)); (try refine wk0 ?_)
        (try (simp (disch := omega) only [go_sem, Nat.reduceBEq, Nat.reduceAdd])); refine hK _ _ ?_; clear hK; (try clear K); (try dsimp only [behind, qs])
        repeat (first | ((first | refine rg rfl rfl (fun K hK => ?_) | refine rd [.o 0, .o 1, .o 2, .o 3, .o 4] rfl (by decide +kernel) rfl (fun K hK => ?_)); (repeat (first | (refine wo rfl (fun k hk => ?_); simp (disch := omega) only [go_sem, Nat.reduceBEq, Nat.reduceAdd]; refine hk _ _ ?_; clear hk k) | refine wkt rfl ?_)); (try refine wk0 ?_); refine hK _ _ ?_; clear hK K; (try dsimp only [behind, qs, qb])) | ((first | refine AWP_exit ?_ | refine AWP_skip ?_); simp (disch := decide) only [qs, qb, if_true, if_false, reduceIte]) | refine AWP_sq rfl (fun K hK => ?_) | refine ct rfl ?_ | ((first | refine hK _ _ ?_ | (clear hK; refine hK _ _ ?_) | (clear hK; clear hK; refine hK _ _ ?_)); clear hK; (try clear K)))
        refine AWP_ret ?_; simp (disch := omega) only [go_sem, Nat.reduceBEq, Nat.reduceAdd]
        exact f1
      | some b =>
        dsimp only [Option.isNone, Option.getD] at *
        refine Spec.enter (args := [_]) (n := 30) Tryd.func91 rfl (by kernel_rfl) rfl (by simp) [.cell 2 59] rfl (fun C _ => ?_)
        repeat (first | ((first | refine rg rfl rfl (fun K hK => ?_) | refine rd [.o 0, .o 1, .o 2, .o 3, .o 4] rfl (by decide +kernel) rfl (fun K hK => ?_)); (repeat (first | (refine wo rfl (fun k hk => ?_); simp (disch := omega) only [go_sem, Nat.reduceBEq, Nat.reduceAdd]; refine hk _ _ ?_; clear hk k) | refine wkt rfl ?_)); (try refine wk0 ?_); refine hK _ _ ?_; clear hK K; (try dsimp only [behind, qs, qb])) | ((first | refine AWP_exit ?_ | refine AWP_skip ?_); simp (disch := decide) only [qs, qb, if_true, if_false, reduceIte]) | refine AWP_sq rfl (fun K hK => ?_) | refine ct rfl ?_ | ((first | refine hK _ _ ?_ | (clear hK; refine hK _ _ ?_) | (clear hK; clear hK; refine hK _ _ ?_)); clear hK; (try clear K)))
        (first | refine rg rfl rfl (fun K hK => ?_) | refine rd [.o 0, .o 1, .o 2, .o 3, .o 4] rfl (by decide +kernel) rfl (fun K hK => ?_)); (repeat (first | (refine wo rfl (fun k hk => ?_); simp (disch := omega) only [go_sem, Nat.reduceBEq, Nat.reduceAdd]; refine hk _ _ ?_; clear hk k) | refine wkt rfl ?_)); (try refine wk0 ?_)
        refine cN rfl rfl rfl rfl (by exact QInt_spec (n := 1) (by decide) (by decide)) ?_; rintro v1 h1 _ f1; obtain ⟨v1_0, v1_1, v1_2, v1_3, v1_4, v1_5, v1_6, rfl, f1⟩ := f1.sa; (repeat (first | (refine wo rfl (fun k hk => ?_); simp (disch := omega) only [go_sem, Nat.reduceBEq, Nat.reduceAdd]; refine hk _ _ ?_; clear hk k) | refine wkt rfl ?_)); (try refine wk0 ?_)
        refine cN rfl rfl rfl rfl (by exact Diff_spec (t2.to (h' := h1)) f1 (by omega) (by decide)) ?_; rintro v2 h2 _ f2; obtain ⟨v2_0, v2_1, v2_2, v2_3, v2_4, v2_5, v2_6, rfl, f2⟩ := f2.sa; (repeat (first | (refine wo rfl (fun k hk => ?_); simp (disch := omega) only [go_sem, Nat.reduceBEq, Nat.reduceAdd]; refine hk _ _ ?_; clear hk k) | refine wkt rfl ?_)); (try refine wk0 ?_)
        (try (simp (disch := omega) only [go_sem, Nat.reduceBEq, Nat.reduceAdd])); refine hK _ _ ?_; clear hK; (try clear K); (try dsimp only [behind, qs])
        repeat (first | ((first | refine rg rfl rfl (fun K hK => ?_) | refine rd [.o 0, .o 1, .o 2, .o 3, .o 4] rfl (by decide +kernel) rfl (fun K hK => ?_)); (repeat (first | (refine wo rfl (fun k hk => ?_); simp (disch := omega) only [go_sem, Nat.reduceBEq, Nat.reduceAdd]; refine hk _ _ ?_; clear hk k) | refine wkt rfl ?_)); (try refine wk0 ?_); refine hK _ _ ?_; clear hK K; (try dsimp only [behind, qs, qb])) | ((first | refine AWP_exit ?_ | refine AWP_skip ?_); simp (disch := decide) only [qs, qb, if_true, if_false, reduceIte]) | refine AWP_sq rfl (fun K hK => ?_) | refine ct rfl ?_ | ((first | refine hK _ _ ?_ | (clear hK; refine hK _ _ ?_) | (clear hK; clear hK; refine hK _ _ ?_)); clear hK; (try clear K)))
        refine AWP_ret ?_; simp (disch := omega) only [go_sem, Nat.reduceBEq, Nat.reduceAdd]
        have e1 : midQ (.i none (some b)) = b - ((1 : Int) : Rat) := by show b + ((-1 : Int) : Rat) = _; grind
        rw [e1]; exact f2
    | some a =>
      cases b with
      | none =>
        dsimp only [Option.isNone, Option.getD] at *
        refine Spec.enter (args := [_]) (n := 30) Tryd.func91 rfl (by kernel_rfl) rfl (by simp) [.cell 2 59] rfl (fun C _ => ?_)
        repeat (first | ((first | refine rg rfl rfl (fun K hK => ?_) | refine rd [.o 0, .o 1, .o 2, .o 3, .o 4] rfl (by decide +kernel) rfl (fun K hK => ?_)); (repeat (first | (refine wo rfl (fun k hk => ?_); simp (disch := omega) only [go_sem, Nat.reduceBEq, Nat.reduceAdd]; refine hk _ _ ?_; clear hk k) | refine wkt rfl ?_)); (try refine wk0 ?_); refine hK _ _ ?_; clear hK K; (try dsimp only [behind, qs, qb])) | ((first | refine AWP_exit ?_ | refine AWP_skip ?_); simp (disch := decide) only [qs, qb, if_true, if_false, reduceIte]) | refine AWP_sq rfl (fun K hK => ?_) | refine ct rfl ?_ | ((first | refine hK _ _ ?_ | (clear hK; refine hK _ _ ?_) | (clear hK; clear hK; refine hK _ _ ?_)); clear hK; (try clear K)))
        (first | refine rg rfl rfl (fun K hK => ?_) | refine rd [.o 0, .o 1, .o 2, .o 3, .o 4] rfl (by decide +kernel) rfl (fun K hK => ?_)); (repeat (first | (refine wo rfl (fun k hk => ?_); simp (disch := omega) only [go_sem, Nat.reduceBEq, Nat.reduceAdd]; refine hk _ _ ?_; clear hk k) | refine wkt rfl ?_)); (try refine wk0 ?_)
        refine cN rfl rfl rfl rfl (by exact QInt_spec (n := 1) (by decide) (by decide)) ?_; rintro v1 h1 _ f1; obtain ⟨v1_0, v1_1, v1_2, v1_3, v1_4, v1_5, v1_6, rfl, f1⟩ := f1.sa; (repeat (first | (refine wo rfl (fun k hk => ?_); simp (disch := omega) only [go_sem, Nat.reduceBEq, Nat.reduceAdd]; refine hk _ _ ?_; clear hk k) | refine wkt rfl ?_)); (try refine wk0 ?_)
        refine cN rfl rfl rfl rfl (by exact Sum_spec (t1.to (h' := h1)) f1 (by omega) (by decide)) ?_; rintro v2 h2 _ f2; obtain ⟨v2_0, v2_1, v2_2, v2_3, v2_4, v2_5, v2_6, rfl, f2⟩ := f2.sa; (repeat (first | (refine wo rfl (fun k hk => ?_); simp (disch := omega) only [go_sem, Nat.reduceBEq, Nat.reduceAdd]; refine hk _ _ ?_; clear hk k) | refine wkt rfl ?_)); (try refine wk0 ?_)
        (try (simp (disch := omega) only [go_sem, Nat.reduceBEq, Nat.reduceAdd])); refine hK _ _ ?_; clear hK; (try clear K); (try dsimp only [behind, qs])
        repeat (first | ((first | refine rg rfl rfl (fun K hK => ?_) | refine rd [.o 0, .o 1, .o 2, .o 3, .o 4] rfl (by decide +kernel) rfl (fun K hK => ?_)); (repeat (first | (refine wo rfl (fun k hk => ?_); simp (disch := omega) only [go_sem, Nat.reduceBEq, Nat.reduceAdd]; refine hk _ _ ?_; clear hk k) | refine wkt rfl ?_)); (try refine wk0 ?_); refine hK _ _ ?_; clear hK K; (try dsimp only [behind, qs, qb])) | ((first | refine AWP_exit ?_ | refine AWP_skip ?_); simp (disch := decide) only [qs, qb, if_true, if_false, reduceIte]) | refine AWP_sq rfl (fun K hK => ?_) | refine ct rfl ?_ | ((first | refine hK _ _ ?_ | (clear hK; refine hK _ _ ?_) | (clear hK; clear hK; refine hK _ _ ?_)); clear hK; (try clear K)))
        refine AWP_ret ?_; simp (disch := omega) only [go_sem, Nat.reduceBEq, Nat.reduceAdd]
        exact f2
      | some b =>
        dsimp only [Option.isNone, Option.getD] at *
        refine Spec.enter (args := [_]) (n := 30) Tryd.func91 rfl (by kernel_rfl) rfl (by simp) [.cell 2 59] rfl (fun C _ => ?_)
        repeat (first | ((first | refine rg rfl rfl (fun K hK => ?_) | refine rd [.o 0, .o 1, .o 2, .o 3, .o 4] rfl (by decide +kernel) rfl (fun K hK => ?_)); (repeat (first | (refine wo rfl (fun k hk => ?_); simp (disch := omega) only [go_sem, Nat.reduceBEq, Nat.reduceAdd]; refine hk _ _ ?_; clear hk k) | refine wkt rfl ?_)); (try refine wk0 ?_); refine hK _ _ ?_; clear hK K; (try dsimp only [behind, qs, qb])) | ((first | refine AWP_exit ?_ | refine AWP_skip ?_); simp (disch := decide) only [qs, qb, if_true, if_false, reduceIte]) | refine AWP_sq rfl (fun K hK => ?_) | refine ct rfl ?_ | ((first | refine hK _ _ ?_ | (clear hK; refine hK _ _ ?_) | (clear hK; clear hK; refine hK _ _ ?_)); clear hK; (try clear K)))
        (first | refine rg rfl rfl (fun K hK => ?_) | refine rd [.o 0, .o 1, .o 2, .o 3, .o 4] rfl (by decide +kernel) rfl (fun K hK => ?_)); (repeat (first | (refine wo rfl (fun k hk => ?_); simp (disch := omega) only [go_sem, Nat.reduceBEq, Nat.reduceAdd]; refine hk _ _ ?_; clear hk k) | refine wkt rfl ?_)); (try refine wk0 ?_)
        refine cN rfl rfl rfl rfl (by exact Half_spec t1 t2 (by omega) (by omega)) ?_; rintro v2 h2 _ f2; obtain ⟨v2_0, v2_1, v2_2, v2_3, v2_4, v2_5, v2_6, rfl, f2⟩ := f2.sa; (repeat (first | (refine wo rfl (fun k hk => ?_); simp (disch := omega) only [go_sem, Nat.reduceBEq, Nat.reduceAdd]; refine hk _ _ ?_; clear hk k) | refine wkt rfl ?_)); (try refine wk0 ?_)
        (try (simp (disch := omega) only [go_sem, Nat.reduceBEq, Nat.reduceAdd])); refine hK _ _ ?_; clear hK; (try clear K); (try dsimp only [behind, qs])
        repeat (first | ((first | refine rg rfl rfl (fun K hK => ?_) | refine rd [.o 0, .o 1, .o 2, .o 3, .o 4] rfl (by decide +kernel) rfl (fun K hK => ?_)); (repeat (first | (refine wo rfl (fun k hk => ?_); simp (disch := omega) only [go_sem, Nat.reduceBEq, Nat.reduceAdd]; refine hk _ _ ?_; clear hk k) | refine wkt rfl ?_)); (try refine wk0 ?_); refine hK _ _ ?_; clear hK K; (try dsimp only [behind, qs, qb])) | ((first | refine AWP_exit ?_ | refine AWP_skip ?_); simp (disch := decide) only [qs, qb, if_true, if_false, reduceIte]) | refine AWP_sq rfl (fun K hK => ?_) | refine ct rfl ?_ | ((first | refine hK _ _ ?_ | (clear hK; refine hK _ _ ?_) | (clear hK; clear hK; refine hK _ _ ?_)); clear hK; (try clear K)))
        refine AWP_ret ?_; simp (disch := omega) only [go_sem, Nat.reduceBEq, Nat.reduceAdd]
        exact f2
theorem RefMiddle {h0 h : PH} [Le h0 h] {v : Value} {x : RI} (hv : Iv h0 v x) : Spec mach 33 #[v] h (fun r h' => Qo h' r (midO x)) NP := by
  have hv0 := hv
  obtain ⟨a1, m1, c1, a2, m2, c2, a3, m3, c3, a4, m4, c4, rfl, hx, hy⟩ := hv.sa
  unfold midO
  cases g : x.big with
  | true =>
    dsimp only [cond_true]
    refine Spec.enter (args := [_]) (n := 23) Tryd.func33 rfl (by kernel_rfl) rfl (by simp) [.cell 2 24, .tmp 3] rfl (fun C _ => ?_)
    repeat (first | (refine rg rfl rfl (fun K hK => ?_); (repeat (first | (refine wo rfl (fun k hk => ?_); simp (disch := omega) only [go_sem, Nat.reduceBEq, Nat.reduceAdd]; refine hk _ _ ?_; clear hk k) | refine wkt rfl ?_)); (try refine wk0 ?_); refine hK _ _ ?_; clear hK K; (try dsimp only [behind, qs, qb])) | ((first | refine AWP_exit ?_ | refine AWP_skip ?_); simp (disch := decide) only [qs, qb, if_true, if_false, reduceIte]) | refine AWP_sq rfl (fun K hK => ?_) | refine ct rfl ?_ | ((first | refine hK _ _ ?_ | (clear hK; refine hK _ _ ?_) | (clear hK; clear hK; refine hK _ _ ?_)); clear hK; (try clear K)))
    refine rg rfl rfl (fun K hK => ?_); (repeat (first | (refine wo rfl (fun k hk => ?_); simp (disch := omega) only [go_sem, Nat.reduceBEq, Nat.reduceAdd]; refine hk _ _ ?_; clear hk k) | refine wkt rfl ?_)); (try refine wk0 ?_)
    refine cN rfl rfl rfl rfl (by exact RefOne_big (p := 0) hv0 g) ?_; rintro v1 h1 s1 q1; obtain rfl := q1.err; (repeat (first | (refine wo rfl (fun k hk => ?_); simp (disch := omega) only [go_sem, Nat.reduceBEq, Nat.reduceAdd]; refine hk _ _ ?_; clear hk k) | refine wkt rfl ?_)); (try refine wk0 ?_)
    (try (simp (disch := omega) only [go_sem, Nat.reduceBEq, Nat.reduceAdd])); refine hK _ _ ?_; clear hK; (try clear K); (try dsimp only [behind, qs])
    repeat (first | (refine rg rfl rfl (fun K hK => ?_); (repeat (first | (refine wo rfl (fun k hk => ?_); simp (disch := omega) only [go_sem, Nat.reduceBEq, Nat.reduceAdd]; refine hk _ _ ?_; clear hk k) | refine wkt rfl ?_)); (try refine wk0 ?_); refine hK _ _ ?_; clear hK K; (try dsimp only [behind, qs, qb])) | ((first | refine AWP_exit ?_ | refine AWP_skip ?_); simp (disch := decide) only [qs, qb, if_true, if_false, reduceIte]) | refine AWP_sq rfl (fun K hK => ?_) | refine ct rfl ?_ | ((first | refine hK _ _ ?_ | (clear hK; refine hK _ _ ?_) | (clear hK; clear hK; refine hK _ _ ?_)); clear hK; (try clear K)))
    refine AWP_ret ?_; simp (disch := omega) only [go_sem, Nat.reduceBEq, Nat.reduceAdd]
    rfl
  | false =>
    dsimp only [cond_false]
    have kO := fun {h} [Le h0 h] => RefOne_ok (h := h) (p := 0) hv0 g rfl
    have hl := RI.le30 g
    generalize x.set = s at *
    cases s with
    | e =>
      dsimp only [NS.void, cond_true]
      refine Spec.enter (args := [_]) (n := 23) Tryd.func33 rfl (by kernel_rfl) rfl (by simp) [.cell 2 24, .tmp 3] rfl (fun C _ => ?_)
      repeat (first | (refine rg rfl rfl (fun K hK => ?_); (repeat (first | (refine wo rfl (fun k hk => ?_); simp (disch := omega) only [go_sem, Nat.reduceBEq, Nat.reduceAdd]; refine hk _ _ ?_; clear hk k) | refine wkt rfl ?_)); (try refine wk0 ?_); refine hK _ _ ?_; clear hK K; (try dsimp only [behind, qs, qb])) | ((first | refine AWP_exit ?_ | refine AWP_skip ?_); simp (disch := decide) only [qs, qb, if_true, if_false, reduceIte]) | refine AWP_sq rfl (fun K hK => ?_) | refine ct rfl ?_ | ((first | refine hK _ _ ?_ | (clear hK; refine hK _ _ ?_) | (clear hK; clear hK; refine hK _ _ ?_)); clear hK; (try clear K)))
      refine rg rfl rfl (fun K hK => ?_); (repeat (first | (refine wo rfl (fun k hk => ?_); simp (disch := omega) only [go_sem, Nat.reduceBEq, Nat.reduceAdd]; refine hk _ _ ?_; clear hk k) | refine wkt rfl ?_)); (try refine wk0 ?_)
      refine cN rfl rfl rfl rfl (by exact kO) ?_; rintro v1 h1 s1 q1; obtain ⟨_, _, _, _, _, _, _, _, _, _, _, _, _, _, rfl, q2⟩ := q1.ok; (repeat (first | (refine wo rfl (fun k hk => ?_); simp (disch := omega) only [go_sem, Nat.reduceBEq, Nat.reduceAdd]; refine hk _ _ ?_; clear hk k) | refine wkt rfl ?_)); (try refine wk0 ?_)
      dsimp only [NS.void] at *
      (try (simp (disch := omega) only [go_sem, Nat.reduceBEq, Nat.reduceAdd])); refine hK _ _ ?_; clear hK; (try clear K); (try dsimp only [behind, qs])
      repeat (first | (refine rg rfl rfl (fun K hK => ?_); (repeat (first | (refine wo rfl (fun k hk => ?_); simp (disch := omega) only [go_sem, Nat.reduceBEq, Nat.reduceAdd]; refine hk _ _ ?_; clear hk k) | refine wkt rfl ?_)); (try refine wk0 ?_); refine hK _ _ ?_; clear hK K; (try dsimp only [behind, qs, qb])) | ((first | refine AWP_exit ?_ | refine AWP_skip ?_); simp (disch := decide) only [qs, qb, if_true, if_false, reduceIte]) | refine AWP_sq rfl (fun K hK => ?_) | refine ct rfl ?_ | ((first | refine hK _ _ ?_ | (clear hK; refine hK _ _ ?_) | (clear hK; clear hK; refine hK _ _ ?_)); clear hK; (try clear K)))
      refine AWP_ret ?_; simp (disch := omega) only [go_sem, Nat.reduceBEq, Nat.reduceAdd]
      rfl
    | i a b =>
      dsimp only [NS.void, cond_false]
      by_cases hz : sz (midQ (.i a b)) ≤ 2048
      · rw [decide_eq_true hz, cond_true]
        refine Spec.enter (args := [_]) (n := 23) Tryd.func33 rfl (by kernel_rfl) rfl (by simp) [.cell 2 24, .tmp 3] rfl (fun C _ => ?_)
        repeat (first | (refine rg rfl rfl (fun K hK => ?_); (repeat (first | (refine wo rfl (fun k hk => ?_); simp (disch := omega) only [go_sem, Nat.reduceBEq, Nat.reduceAdd]; refine hk _ _ ?_; clear hk k) | refine wkt rfl ?_)); (try refine wk0 ?_); refine hK _ _ ?_; clear hK K; (try dsimp only [behind, qs, qb])) | ((first | refine AWP_exit ?_ | refine AWP_skip ?_); simp (disch := decide) only [qs, qb, if_true, if_false, reduceIte]) | refine AWP_sq rfl (fun K hK => ?_) | refine ct rfl ?_ | ((first | refine hK _ _ ?_ | (clear hK; refine hK _ _ ?_) | (clear hK; clear hK; refine hK _ _ ?_)); clear hK; (try clear K)))
        refine rg rfl rfl (fun K hK => ?_); (repeat (first | (refine wo rfl (fun k hk => ?_); simp (disch := omega) only [go_sem, Nat.reduceBEq, Nat.reduceAdd]; refine hk _ _ ?_; clear hk k) | refine wkt rfl ?_)); (try refine wk0 ?_)
        refine cN rfl rfl rfl rfl (by exact kO) ?_; rintro v1 h1 s1 q1; obtain ⟨_, _, _, _, _, _, _, _, _, _, _, _, _, _, rfl, q2⟩ := q1.ok; (repeat (first | (refine wo rfl (fun k hk => ?_); simp (disch := omega) only [go_sem, Nat.reduceBEq, Nat.reduceAdd]; refine hk _ _ ?_; clear hk k) | refine wkt rfl ?_)); (try refine wk0 ?_)
        dsimp only [NS.void] at *
        (try (simp (disch := omega) only [go_sem, Nat.reduceBEq, Nat.reduceAdd])); refine hK _ _ ?_; clear hK; (try clear K); (try dsimp only [behind, qs])
        repeat (first | (refine rg rfl rfl (fun K hK => ?_); (repeat (first | (refine wo rfl (fun k hk => ?_); simp (disch := omega) only [go_sem, Nat.reduceBEq, Nat.reduceAdd]; refine hk _ _ ?_; clear hk k) | refine wkt rfl ?_)); (try refine wk0 ?_); refine hK _ _ ?_; clear hK K; (try dsimp only [behind, qs, qb])) | ((first | refine AWP_exit ?_ | refine AWP_skip ?_); simp (disch := decide) only [qs, qb, if_true, if_false, reduceIte]) | refine AWP_sq rfl (fun K hK => ?_) | refine ct rfl ?_ | ((first | refine hK _ _ ?_ | (clear hK; refine hK _ _ ?_) | (clear hK; clear hK; refine hK _ _ ?_)); clear hK; (try clear K)))
        refine rg rfl rfl (fun K hK => ?_); (repeat (first | (refine wo rfl (fun k hk => ?_); simp (disch := omega) only [go_sem, Nat.reduceBEq, Nat.reduceAdd]; refine hk _ _ ?_; clear hk k) | refine wkt rfl ?_)); (try refine wk0 ?_)
        refine cN rfl rfl rfl rfl (by exact RefCenter q2 hl rfl) ?_; rintro v2 h2 _ f2; obtain ⟨v2_0, v2_1, v2_2, v2_3, v2_4, v2_5, v2_6, rfl, f2⟩ := f2.sa; (repeat (first | (refine wo rfl (fun k hk => ?_); simp (disch := omega) only [go_sem, Nat.reduceBEq, Nat.reduceAdd]; refine hk _ _ ?_; clear hk k) | refine wkt rfl ?_)); (try refine wk0 ?_)
        refine cN rfl rfl rfl rfl (by exact Done_ok f2 hz) ?_; rintro v3 h3 s3 ⟨u, rfl, q3⟩; obtain ⟨_, _, _, _, _, _, _, rfl, q3⟩ := q3.sa; (repeat (first | (refine wo rfl (fun k hk => ?_); simp (disch := omega) only [go_sem, Nat.reduceBEq, Nat.reduceAdd]; refine hk _ _ ?_; clear hk k) | refine wkt rfl ?_)); (try refine wk0 ?_)
        (try (simp (disch := omega) only [go_sem, Nat.reduceBEq, Nat.reduceAdd])); refine hK _ _ ?_; clear hK; (try clear K); (try dsimp only [behind, qs])
        repeat (first | (refine rg rfl rfl (fun K hK => ?_); (repeat (first | (refine wo rfl (fun k hk => ?_); simp (disch := omega) only [go_sem, Nat.reduceBEq, Nat.reduceAdd]; refine hk _ _ ?_; clear hk k) | refine wkt rfl ?_)); (try refine wk0 ?_); refine hK _ _ ?_; clear hK K; (try dsimp only [behind, qs, qb])) | ((first | refine AWP_exit ?_ | refine AWP_skip ?_); simp (disch := decide) only [qs, qb, if_true, if_false, reduceIte]) | refine AWP_sq rfl (fun K hK => ?_) | refine ct rfl ?_ | ((first | refine hK _ _ ?_ | (clear hK; refine hK _ _ ?_) | (clear hK; clear hK; refine hK _ _ ?_)); clear hK; (try clear K)))
        refine AWP_ret ?_; simp (disch := omega) only [go_sem, Nat.reduceBEq, Nat.reduceAdd]
        exact ⟨_, rfl, q3⟩
      · rw [decide_eq_false hz, cond_false]
        refine Spec.enter (args := [_]) (n := 23) Tryd.func33 rfl (by kernel_rfl) rfl (by simp) [.cell 2 24, .tmp 3] rfl (fun C _ => ?_)
        repeat (first | (refine rg rfl rfl (fun K hK => ?_); (repeat (first | (refine wo rfl (fun k hk => ?_); simp (disch := omega) only [go_sem, Nat.reduceBEq, Nat.reduceAdd]; refine hk _ _ ?_; clear hk k) | refine wkt rfl ?_)); (try refine wk0 ?_); refine hK _ _ ?_; clear hK K; (try dsimp only [behind, qs, qb])) | ((first | refine AWP_exit ?_ | refine AWP_skip ?_); simp (disch := decide) only [qs, qb, if_true, if_false, reduceIte]) | refine AWP_sq rfl (fun K hK => ?_) | refine ct rfl ?_ | ((first | refine hK _ _ ?_ | (clear hK; refine hK _ _ ?_) | (clear hK; clear hK; refine hK _ _ ?_)); clear hK; (try clear K)))
        refine rg rfl rfl (fun K hK => ?_); (repeat (first | (refine wo rfl (fun k hk => ?_); simp (disch := omega) only [go_sem, Nat.reduceBEq, Nat.reduceAdd]; refine hk _ _ ?_; clear hk k) | refine wkt rfl ?_)); (try refine wk0 ?_)
        refine cN rfl rfl rfl rfl (by exact kO) ?_; rintro v1 h1 s1 q1; obtain ⟨_, _, _, _, _, _, _, _, _, _, _, _, _, _, rfl, q2⟩ := q1.ok; (repeat (first | (refine wo rfl (fun k hk => ?_); simp (disch := omega) only [go_sem, Nat.reduceBEq, Nat.reduceAdd]; refine hk _ _ ?_; clear hk k) | refine wkt rfl ?_)); (try refine wk0 ?_)
        dsimp only [NS.void] at *
        (try (simp (disch := omega) only [go_sem, Nat.reduceBEq, Nat.reduceAdd])); refine hK _ _ ?_; clear hK; (try clear K); (try dsimp only [behind, qs])
        repeat (first | (refine rg rfl rfl (fun K hK => ?_); (repeat (first | (refine wo rfl (fun k hk => ?_); simp (disch := omega) only [go_sem, Nat.reduceBEq, Nat.reduceAdd]; refine hk _ _ ?_; clear hk k) | refine wkt rfl ?_)); (try refine wk0 ?_); refine hK _ _ ?_; clear hK K; (try dsimp only [behind, qs, qb])) | ((first | refine AWP_exit ?_ | refine AWP_skip ?_); simp (disch := decide) only [qs, qb, if_true, if_false, reduceIte]) | refine AWP_sq rfl (fun K hK => ?_) | refine ct rfl ?_ | ((first | refine hK _ _ ?_ | (clear hK; refine hK _ _ ?_) | (clear hK; clear hK; refine hK _ _ ?_)); clear hK; (try clear K)))
        refine rg rfl rfl (fun K hK => ?_); (repeat (first | (refine wo rfl (fun k hk => ?_); simp (disch := omega) only [go_sem, Nat.reduceBEq, Nat.reduceAdd]; refine hk _ _ ?_; clear hk k) | refine wkt rfl ?_)); (try refine wk0 ?_)
        refine cN rfl rfl rfl rfl (by exact RefCenter q2 hl rfl) ?_; rintro v2 h2 _ f2; obtain ⟨v2_0, v2_1, v2_2, v2_3, v2_4, v2_5, v2_6, rfl, f2⟩ := f2.sa; (repeat (first | (refine wo rfl (fun k hk => ?_); simp (disch := omega) only [go_sem, Nat.reduceBEq, Nat.reduceAdd]; refine hk _ _ ?_; clear hk k) | refine wkt rfl ?_)); (try refine wk0 ?_)
        refine cN rfl rfl rfl rfl (by exact Done_no f2 hz) ?_; rintro v3 h3 s3 q3; unfold zRat at q3; subst q3; (repeat (first | (refine wo rfl (fun k hk => ?_); simp (disch := omega) only [go_sem, Nat.reduceBEq, Nat.reduceAdd]; refine hk _ _ ?_; clear hk k) | refine wkt rfl ?_)); (try refine wk0 ?_)
        (try (simp (disch := omega) only [go_sem, Nat.reduceBEq, Nat.reduceAdd])); refine hK _ _ ?_; clear hK; (try clear K); (try dsimp only [behind, qs])
        repeat (first | (refine rg rfl rfl (fun K hK => ?_); (repeat (first | (refine wo rfl (fun k hk => ?_); simp (disch := omega) only [go_sem, Nat.reduceBEq, Nat.reduceAdd]; refine hk _ _ ?_; clear hk k) | refine wkt rfl ?_)); (try refine wk0 ?_); refine hK _ _ ?_; clear hK K; (try dsimp only [behind, qs, qb])) | ((first | refine AWP_exit ?_ | refine AWP_skip ?_); simp (disch := decide) only [qs, qb, if_true, if_false, reduceIte]) | refine AWP_sq rfl (fun K hK => ?_) | refine ct rfl ?_ | ((first | refine hK _ _ ?_ | (clear hK; refine hK _ _ ?_) | (clear hK; clear hK; refine hK _ _ ?_)); clear hK; (try clear K)))
        refine AWP_ret ?_; simp (disch := omega) only [go_sem, Nat.reduceBEq, Nat.reduceAdd]
        rfl
theorem den_raw {h0 h : PH} [Le h0 h] {a : Option Addr} {l c e : Nat} (hd : N16 h0 (.slice a l c) e) : Spec mach 152 #[.agg #[.bool false, .slice none 0 0, .slice a l c]] h (fun v h' => N16 h' v (dz e)) NP := by
  have ld := hd.len0
  refine Spec.enter (args := [_]) (n := 10) Tryd.func152 rfl (by kernel_rfl) rfl (by simp) [.tmp 2] rfl (fun C _ => ?_)
  by_cases h0 : e = 0
  · repeat (first | (refine rg rfl rfl (fun K hK => ?_); (repeat (first | (refine wo rfl (fun k hk => ?_); simp (disch := omega) only [go_sem, Nat.reduceBEq, Nat.reduceAdd]; refine hk _ _ ?_; clear hk k) | refine wkt rfl ?_)); (try refine wk0 ?_); refine hK _ _ ?_; clear hK K; (try dsimp only [behind, qs, qb])) | ((first | refine AWP_exit ?_ | refine AWP_skip ?_); simp (disch := decide) only [qs, qb, if_true, if_false, reduceIte]) | refine AWP_sq rfl (fun K hK => ?_) | refine ct rfl ?_ | ((first | refine hK _ _ ?_ | (clear hK; refine hK _ _ ?_) | (clear hK; clear hK; refine hK _ _ ?_)); clear hK; (try clear K)))
    refine rg rfl rfl (fun K hK => ?_); (repeat (first | (refine wo rfl (fun k hk => ?_); simp (disch := omega) only [go_sem, Nat.reduceBEq, Nat.reduceAdd]; refine hk _ _ ?_; clear hk k) | refine wkt rfl ?_)); (try refine wk0 ?_)
    refine cN rfl rfl rfl rfl (by exact NatOf_spec (n := 1) (by decide)) ?_; rintro v1 h1 s1 hv1; (repeat (first | (refine wo rfl (fun k hk => ?_); simp (disch := omega) only [go_sem, Nat.reduceBEq, Nat.reduceAdd]; refine hk _ _ ?_; clear hk k) | refine wkt rfl ?_)); (try refine wk0 ?_)
    (try (simp (disch := omega) only [go_sem, Nat.reduceBEq, Nat.reduceAdd])); refine hK _ _ ?_; clear hK; (try clear K); (try dsimp only [behind, qs])
    refine AWP_ret ?_; simp (disch := omega) only [go_sem, Nat.reduceBEq, Nat.reduceAdd]
    rw [h0]; exact hv1
  · repeat (first | (refine rg rfl rfl (fun K hK => ?_); (repeat (first | (refine wo rfl (fun k hk => ?_); simp (disch := omega) only [go_sem, Nat.reduceBEq, Nat.reduceAdd]; refine hk _ _ ?_; clear hk k) | refine wkt rfl ?_)); (try refine wk0 ?_); refine hK _ _ ?_; clear hK K; (try dsimp only [behind, qs, qb])) | ((first | refine AWP_exit ?_ | refine AWP_skip ?_); simp (disch := decide) only [qs, qb, if_true, if_false, reduceIte]) | refine AWP_sq rfl (fun K hK => ?_) | refine ct rfl ?_ | ((first | refine hK _ _ ?_ | (clear hK; refine hK _ _ ?_) | (clear hK; clear hK; refine hK _ _ ?_)); clear hK; (try clear K)))
    refine AWP_ret ?_; simp (disch := omega) only [go_sem, Nat.reduceBEq, Nat.reduceAdd]
    rw [dz_self h0]; exact hd.to
theorem cmp3_self (n : Nat) : cmp3 n n = 0 := by unfold cmp3; simp
theorem Equal_spec {h0 h : PH} [Le h0 h] {v w : Value} {neg : Bool} {n d : Nat} (hv : Rw h0 v neg n d) (hw : Rw h0 w neg n d) : Spec mach 94 #[v, w] h (fun r _ => r = .bool true) NP := by
  obtain ⟨a, c, xs, a', c', ys, rfl, ha, ha', hn, hd, hsx, hsy⟩ := hv
  obtain ⟨b, e, zs, b', e', ws, rfl, hb, hb', hm, hk, hsz, hsw⟩ := hw
  have bn : bl n ≤ 2 ^ 37 := by have := val_bl ha.lt; rw [hn] at this; omega
  have bd : bl d ≤ 2 ^ 37 := by have := val_bl ha'.lt; rw [hd] at this; omega
  have bz := bl_dz d
  refine Spec.enter (args := [_, _]) (n := 53) Tryd.func94 rfl (by kernel_rfl) rfl (by simp) [.tmp 4] rfl (fun C _ => ?_)
  repeat (first | ((first | refine rg rfl rfl (fun K hK => ?_) | refine rd [.o 0, .o 1, .o 3, .o 4, .o 2, .o 5, .o 6, .o 7] rfl (by decide +kernel) rfl (fun K hK => ?_) | refine rd [.o 0, .o 1, .o 5, .o 6, .o 2, .o 3, .o 4, .o 7, .o 8, .o 9, .o 10, .o 11] rfl (by decide +kernel) rfl (fun K hK => ?_)); (repeat (first | (refine wo rfl (fun k hk => ?_); simp (disch := omega) only [go_sem, Nat.reduceBEq, Nat.reduceAdd]; refine hk _ _ ?_; clear hk k) | refine wkt rfl ?_)); (try refine wk0 ?_); refine hK _ _ ?_; clear hK K; (try dsimp only [behind, qs, qb])) | ((first | refine AWP_exit ?_ | refine AWP_skip ?_); simp (disch := decide) only [qs, qb, if_true, if_false, reduceIte]) | refine AWP_sq rfl (fun K hK => ?_) | refine ct rfl ?_ | ((first | refine hK _ _ ?_ | (clear hK; refine hK _ _ ?_) | (clear hK; clear hK; refine hK _ _ ?_)); clear hK; (try clear K)))
  (first | refine rg rfl rfl (fun K hK => ?_) | refine rd [.o 0, .o 1, .o 3, .o 4, .o 2, .o 5, .o 6, .o 7] rfl (by decide +kernel) rfl (fun K hK => ?_) | refine rd [.o 0, .o 1, .o 5, .o 6, .o 2, .o 3, .o 4, .o 7, .o 8, .o 9, .o 10, .o 11] rfl (by decide +kernel) rfl (fun K hK => ?_)); (repeat (first | (refine wo rfl (fun k hk => ?_); simp (disch := omega) only [go_sem, Nat.reduceBEq, Nat.reduceAdd]; refine hk _ _ ?_; clear hk k) | refine wkt rfl ?_)); (try refine wk0 ?_)
  refine cN rfl rfl rfl rfl (by exact words_N ha rfl (by omega) hn) ?_; rintro v1 h1 _ hv1; obtain ⟨v1, v1_l, v1_c, rfl, hv1⟩ := hv1.sl; (repeat (first | (refine wo rfl (fun k hk => ?_); simp (disch := omega) only [go_sem, Nat.reduceBEq, Nat.reduceAdd]; refine hk _ _ ?_; clear hk k) | refine wkt rfl ?_)); (try refine wk0 ?_)
  refine cN rfl rfl rfl rfl (by exact words_N hb rfl (by omega) hm) ?_; rintro v2 h2 _ hv2; obtain ⟨v2, v2_l, v2_c, rfl, hv2⟩ := hv2.sl; (repeat (first | (refine wo rfl (fun k hk => ?_); simp (disch := omega) only [go_sem, Nat.reduceBEq, Nat.reduceAdd]; refine hk _ _ ?_; clear hk k) | refine wkt rfl ?_)); (try refine wk0 ?_)
  (try (simp (disch := omega) only [go_sem, Nat.reduceBEq, Nat.reduceAdd])); refine hK _ _ ?_; clear hK; (try clear K); (try dsimp only [behind, qs])
  have l1 := hv1.len0
  have l2 := hv2.len0
  by_cases hn0 : n = 0
  · obtain rfl := l1.2 hn0
    obtain rfl := l2.2 hn0
    repeat (first | ((first | refine rg rfl rfl (fun K hK => ?_) | refine rd [.o 0, .o 1, .o 3, .o 4, .o 2, .o 5, .o 6, .o 7] rfl (by decide +kernel) rfl (fun K hK => ?_) | refine rd [.o 0, .o 1, .o 5, .o 6, .o 2, .o 3, .o 4, .o 7, .o 8, .o 9, .o 10, .o 11] rfl (by decide +kernel) rfl (fun K hK => ?_)); (repeat (first | (refine wo rfl (fun k hk => ?_); simp (disch := omega) only [go_sem, Nat.reduceBEq, Nat.reduceAdd]; refine hk _ _ ?_; clear hk k) | refine wkt rfl ?_)); (try refine wk0 ?_); refine hK _ _ ?_; clear hK K; (try dsimp only [behind, qs, qb])) | ((first | refine AWP_exit ?_ | refine AWP_skip ?_); simp (disch := decide) only [qs, qb, if_true, if_false, reduceIte]) | refine AWP_sq rfl (fun K hK => ?_) | refine ct rfl ?_ | ((first | refine hK _ _ ?_ | (clear hK; refine hK _ _ ?_) | (clear hK; clear hK; refine hK _ _ ?_)); clear hK; (try clear K)))
    refine AWP_ret ?_; simp (disch := omega) only [go_sem, Nat.reduceBEq, Nat.reduceAdd]
  · have n1 : ¬ v1_l = 0 := fun k => hn0 (l1.1 k)
    have n2 : ¬ v2_l = 0 := fun k => hn0 (l2.1 k)
    cases neg <;>
    · repeat (first | ((first | refine rg rfl rfl (fun K hK => ?_) | refine rd [.o 0, .o 1, .o 3, .o 4, .o 2, .o 5, .o 6, .o 7] rfl (by decide +kernel) rfl (fun K hK => ?_) | refine rd [.o 0, .o 1, .o 5, .o 6, .o 2, .o 3, .o 4, .o 7, .o 8, .o 9, .o 10, .o 11] rfl (by decide +kernel) rfl (fun K hK => ?_)); (repeat (first | (refine wo rfl (fun k hk => ?_); simp (disch := omega) only [go_sem, Nat.reduceBEq, Nat.reduceAdd]; refine hk _ _ ?_; clear hk k) | refine wkt rfl ?_)); (try refine wk0 ?_); refine hK _ _ ?_; clear hK K; (try dsimp only [behind, qs, qb])) | ((first | refine AWP_exit ?_ | refine AWP_skip ?_); simp (disch := decide) only [qs, qb, if_true, if_false, reduceIte]) | refine AWP_sq rfl (fun K hK => ?_) | refine ct rfl ?_ | ((first | refine hK _ _ ?_ | (clear hK; refine hK _ _ ?_) | (clear hK; clear hK; refine hK _ _ ?_)); clear hK; (try clear K)))
      (first | refine rg rfl rfl (fun K hK => ?_) | refine rd [.o 0, .o 1, .o 3, .o 4, .o 2, .o 5, .o 6, .o 7] rfl (by decide +kernel) rfl (fun K hK => ?_) | refine rd [.o 0, .o 1, .o 5, .o 6, .o 2, .o 3, .o 4, .o 7, .o 8, .o 9, .o 10, .o 11] rfl (by decide +kernel) rfl (fun K hK => ?_)); (repeat (first | (refine wo rfl (fun k hk => ?_); simp (disch := omega) only [go_sem, Nat.reduceBEq, Nat.reduceAdd]; refine hk _ _ ?_; clear hk k) | refine wkt rfl ?_)); (try refine wk0 ?_)
      refine cN rfl rfl rfl rfl (by exact words_N (ha'.to (h' := h2)) rfl (by omega) hd) ?_; rintro v3 h3 _ hv3; obtain ⟨v3, v3_l, v3_c, rfl, hv3⟩ := hv3.sl; (repeat (first | (refine wo rfl (fun k hk => ?_); simp (disch := omega) only [go_sem, Nat.reduceBEq, Nat.reduceAdd]; refine hk _ _ ?_; clear hk k) | refine wkt rfl ?_)); (try refine wk0 ?_)
      refine cN rfl rfl rfl rfl (by exact den_raw hv3) ?_; rintro v4 h4 _ hv4; obtain ⟨v4, v4_l, v4_c, rfl, hv4⟩ := hv4.sl; (repeat (first | (refine wo rfl (fun k hk => ?_); simp (disch := omega) only [go_sem, Nat.reduceBEq, Nat.reduceAdd]; refine hk _ _ ?_; clear hk k) | refine wkt rfl ?_)); (try refine wk0 ?_)
      refine cN rfl rfl rfl rfl (by exact words_N (hb'.to (h' := h4)) rfl (by omega) hk) ?_; rintro v5 h5 _ hv5; obtain ⟨v5, v5_l, v5_c, rfl, hv5⟩ := hv5.sl; (repeat (first | (refine wo rfl (fun k hk => ?_); simp (disch := omega) only [go_sem, Nat.reduceBEq, Nat.reduceAdd]; refine hk _ _ ?_; clear hk k) | refine wkt rfl ?_)); (try refine wk0 ?_)
      refine cN rfl rfl rfl rfl (by exact den_raw hv5) ?_; rintro v6 h6 _ hv6; obtain ⟨v6, v6_l, v6_c, rfl, hv6⟩ := hv6.sl; (repeat (first | (refine wo rfl (fun k hk => ?_); simp (disch := omega) only [go_sem, Nat.reduceBEq, Nat.reduceAdd]; refine hk _ _ ?_; clear hk k) | refine wkt rfl ?_)); (try refine wk0 ?_)
      (try (simp (disch := omega) only [go_sem, Nat.reduceBEq, Nat.reduceAdd])); refine hK _ _ ?_; clear hK; (try clear K); (try dsimp only [behind, qs])
      (first | refine rg rfl rfl (fun K hK => ?_) | refine rd [.o 0, .o 1, .o 3, .o 4, .o 2, .o 5, .o 6, .o 7] rfl (by decide +kernel) rfl (fun K hK => ?_) | refine rd [.o 0, .o 1, .o 5, .o 6, .o 2, .o 3, .o 4, .o 7, .o 8, .o 9, .o 10, .o 11] rfl (by decide +kernel) rfl (fun K hK => ?_)); (repeat (first | (refine wo rfl (fun k hk => ?_); simp (disch := omega) only [go_sem, Nat.reduceBEq, Nat.reduceAdd]; refine hk _ _ ?_; clear hk k) | refine wkt rfl ?_)); (try refine wk0 ?_)
      refine cN rfl rfl rfl rfl (by exact NatMul_spec (hv1.to (h' := h6)) hv6 (by omega) (by omega)) ?_; rintro v7 h7 _ hv7; obtain ⟨v7, v7_l, v7_c, rfl, hv7⟩ := hv7.sl; (repeat (first | (refine wo rfl (fun k hk => ?_); simp (disch := omega) only [go_sem, Nat.reduceBEq, Nat.reduceAdd]; refine hk _ _ ?_; clear hk k) | refine wkt rfl ?_)); (try refine wk0 ?_)
      refine cN rfl rfl rfl rfl (by exact NatMul_spec (hv2.to (h' := h7)) (hv4.to (h' := h7)) (by omega) (by omega)) ?_; rintro v8 h8 _ hv8; obtain ⟨v8, v8_l, v8_c, rfl, hv8⟩ := hv8.sl; (repeat (first | (refine wo rfl (fun k hk => ?_); simp (disch := omega) only [go_sem, Nat.reduceBEq, Nat.reduceAdd]; refine hk _ _ ?_; clear hk k) | refine wkt rfl ?_)); (try refine wk0 ?_)
      refine cN rfl rfl rfl rfl (by exact NatCmp_spec (hv7.to (h' := h8)) hv8) ?_; rintro v9 h9 s9 q9; rw [cmp3_self] at q9; subst q9; (repeat (first | (refine wo rfl (fun k hk => ?_); simp (disch := omega) only [go_sem, Nat.reduceBEq, Nat.reduceAdd]; refine hk _ _ ?_; clear hk k) | refine wkt rfl ?_)); (try refine wk0 ?_)
      (try (simp (disch := omega) only [go_sem, Nat.reduceBEq, Nat.reduceAdd])); refine hK _ _ ?_; clear hK; (try clear K); (try dsimp only [behind, qs])
      refine AWP_ret ?_; simp (disch := omega) only [go_sem, Nat.reduceBEq, Nat.reduceAdd]
theorem Is01_spec {h0 h : PH} [Le h0 h] {r r' : Value} {b1 b2 : Value} {e1 e2 : Int} {o : Except Int Rat} (h1 : r = .tuple #[b1, .int .i64 e1]) (h2 : r' = .tuple #[b2, .int .i64 e2]) (hr : Qo h0 r o) (hr' : Qo h0 r' o) (hx : ∀ x, o = .ok x → sz x ≤ 2048) (he : ∀ e, o = .error e → e ≠ 0) :
    Spec mach 34 #[b1, .int .i64 e1, b2, .int .i64 e2] h (fun r _ => r = .bool true) NP := by
  subst h1
  subst h2
  cases o with
  | error e =>
    have ne := he e rfl
    cases (hr : _ = _)
    cases (hr' : _ = _)
    have k := fun {h} => None01 (h := h)
    unfold zRat at k ⊢
    refine Spec.enter (args := [_, _, _, _]) (n := 23) Tryd.func34 rfl (by kernel_rfl) rfl (by simp) [.tmp 8] rfl (fun C _ => ?_)
    repeat (first | (refine rg rfl rfl (fun K hK => ?_); (repeat (first | (refine wo rfl (fun k hk => ?_); simp (disch := omega) only [go_sem, Nat.reduceBEq, Nat.reduceAdd]; refine hk _ _ ?_; clear hk k) | refine wkt rfl ?_)); (try refine wk0 ?_); refine hK _ _ ?_; clear hK K; (try dsimp only [behind, qs, qb])) | ((first | refine AWP_exit ?_ | refine AWP_skip ?_); simp (disch := decide) only [qs, qb, if_true, if_false, reduceIte]) | refine AWP_sq rfl (fun K hK => ?_) | refine ct rfl ?_ | ((first | refine hK _ _ ?_ | (clear hK; refine hK _ _ ?_) | (clear hK; clear hK; refine hK _ _ ?_)); clear hK; (try clear K)))
    refine rg rfl rfl (fun K hK => ?_); (repeat (first | (refine wo rfl (fun k hk => ?_); simp (disch := omega) only [go_sem, Nat.reduceBEq, Nat.reduceAdd]; refine hk _ _ ?_; clear hk k) | refine wkt rfl ?_)); (try refine wk0 ?_)
    refine cN rfl rfl rfl rfl (by exact k) ?_; rintro v1 h1 s1 rfl; (repeat (first | (refine wo rfl (fun k hk => ?_); simp (disch := omega) only [go_sem, Nat.reduceBEq, Nat.reduceAdd]; refine hk _ _ ?_; clear hk k) | refine wkt rfl ?_)); (try refine wk0 ?_)
    (try (simp (disch := omega) only [go_sem, Nat.reduceBEq, Nat.reduceAdd])); refine hK _ _ ?_; clear hK; (try clear K); (try dsimp only [behind, qs])
    repeat (first | (refine rg rfl rfl (fun K hK => ?_); (repeat (first | (refine wo rfl (fun k hk => ?_); simp (disch := omega) only [go_sem, Nat.reduceBEq, Nat.reduceAdd]; refine hk _ _ ?_; clear hk k) | refine wkt rfl ?_)); (try refine wk0 ?_); refine hK _ _ ?_; clear hK K; (try dsimp only [behind, qs, qb])) | ((first | refine AWP_exit ?_ | refine AWP_skip ?_); simp (disch := decide) only [qs, qb, if_true, if_false, reduceIte]) | refine AWP_sq rfl (fun K hK => ?_) | refine ct rfl ?_ | ((first | refine hK _ _ ?_ | (clear hK; refine hK _ _ ?_) | (clear hK; clear hK; refine hK _ _ ?_)); clear hK; (try clear K)))
    refine AWP_ret ?_; simp (disch := omega) only [go_sem, Nat.reduceBEq, Nat.reduceAdd]
  | ok x =>
    have hl := hx x rfl
    obtain ⟨u, e, c⟩ := hr
    obtain ⟨u', e', c'⟩ := hr'
    cases e
    cases e'
    have c0 := c
    have w0 := c.rw (Nat.le_trans hl (by decide))
    have w1 := c'.rw (Nat.le_trans hl (by decide))
    obtain ⟨_, _, _, _, _, _, _, rfl, _⟩ := c.sa
    obtain ⟨_, _, _, _, _, _, _, rfl, _⟩ := c'.sa
    refine Spec.enter (args := [_, _, _, _]) (n := 23) Tryd.func34 rfl (by kernel_rfl) rfl (by simp) [.tmp 8] rfl (fun C _ => ?_)
    repeat (first | (refine rg rfl rfl (fun K hK => ?_); (repeat (first | (refine wo rfl (fun k hk => ?_); simp (disch := omega) only [go_sem, Nat.reduceBEq, Nat.reduceAdd]; refine hk _ _ ?_; clear hk k) | refine wkt rfl ?_)); (try refine wk0 ?_); refine hK _ _ ?_; clear hK K; (try dsimp only [behind, qs, qb])) | ((first | refine AWP_exit ?_ | refine AWP_skip ?_); simp (disch := decide) only [qs, qb, if_true, if_false, reduceIte]) | refine AWP_sq rfl (fun K hK => ?_) | refine ct rfl ?_ | ((first | refine hK _ _ ?_ | (clear hK; refine hK _ _ ?_) | (clear hK; clear hK; refine hK _ _ ?_)); clear hK; (try clear K)))
    refine rg rfl rfl (fun K hK => ?_); (repeat (first | (refine wo rfl (fun k hk => ?_); simp (disch := omega) only [go_sem, Nat.reduceBEq, Nat.reduceAdd]; refine hk _ _ ?_; clear hk k) | refine wkt rfl ?_)); (try refine wk0 ?_)
    refine cN rfl rfl rfl rfl (by exact Canonical_cn c0 (Nat.le_trans hl (by decide))) ?_; rintro v1 h1 s1 rfl; (repeat (first | (refine wo rfl (fun k hk => ?_); simp (disch := omega) only [go_sem, Nat.reduceBEq, Nat.reduceAdd]; refine hk _ _ ?_; clear hk k) | refine wkt rfl ?_)); (try refine wk0 ?_)
    refine cN rfl rfl rfl rfl (by exact Equal_spec w0 w1) ?_; rintro v2 h2 s2 rfl; (repeat (first | (refine wo rfl (fun k hk => ?_); simp (disch := omega) only [go_sem, Nat.reduceBEq, Nat.reduceAdd]; refine hk _ _ ?_; clear hk k) | refine wkt rfl ?_)); (try refine wk0 ?_)
    (try (simp (disch := omega) only [go_sem, Nat.reduceBEq, Nat.reduceAdd])); refine hK _ _ ?_; clear hK; (try clear K); (try dsimp only [behind, qs])
    refine AWP_ret ?_; simp (disch := omega) only [go_sem, Nat.reduceBEq, Nat.reduceAdd]
end Go.Q
