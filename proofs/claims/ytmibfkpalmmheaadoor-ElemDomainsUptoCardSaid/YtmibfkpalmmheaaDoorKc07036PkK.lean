/-
  Contracts of package elem: what is known of an argument; domains and exact values. Conditions: the values are numbers, raw (Rv) or canonical (Cn).
  The statements' helper right; the reference's domains and exact values. Conditions: the values are numbers (Cn, Qr).
  The bracket of exp at 1 with the precision 3, and the statements' check of it (sane). Conditions: none.
  The series of the arctangent on a grid; pi. Plain. Conditions: the numbers are at most 1 of the grid; the precisions are at most 200.
  The bounds of the exponential function on a grid. Plain. Conditions: the argument's absolute value is at most 64.
  What exp returns of a number other than 0. Conditions: the number has at most 1024 binary digits, its absolute value is at most 64; the precision is at most 128.
  Contracts of package elem: the argument of exp made ready; what Exp returns. Conditions: the argument is small enough, the value is not exact.
  What arctan, pi and Pi return. Conditions: the numbers are at most 1 of the grid; the precisions are those that the program uses.
  The reference's helpers of layer 2: natural numbers, quotients rounded, numbers of a grid; its domains and exact values. Conditions: the values are natural numbers (N16) and numbers (Qr).
  The reference of layer 2: its grid, the series of the arctangent, pi. Conditions: the values are natural numbers (N16) and numbers (Qr).
  The statements' check of one bracket (sane); the statement ElemPi. Conditions: none.
  What Defined and Exact return; the statement ElemDomains. Conditions: the argument is a number as it comes in (Rw).
-/
import Derived.Test.YtmibfkpalmmheaaDoorKc4e4a9PkD
import Derived.Test.YtmibfkpalmmheaaDoorK9e9882PkJ
set_option linter.unusedVariables false
set_option linter.unusedSimpArgs false
namespace Go.Q
open Go.Proofs
set_option maxRecDepth 100000
set_option maxHeartbeats 8000000
theorem N32.len0 {h : PH} {a : Option Addr} {l c n : Nat} (r : N32 h (.slice a l c) n) : l = 0 ↔ n = 0 := by
  obtain ⟨a', c', e, _⟩ := r
  cases e
  exact W_len0 (by decide)
theorem Cn.parts {h : PH} {v : Value} {x : Rat} (r : Cn h v x) : ∃ na nl nc da dl dc, v = .agg #[.bool (decide (x.num < 0)), .slice na nl nc, .slice da dl dc] ∧ N32 h (.slice na nl nc) x.num.natAbs ∧ N32 h (.slice da dl dc) (if x.den = 1 then 0 else x.den) ∧ (nl = 0 ↔ x = 0) ∧ (dl = 0 ↔ x.den = 1) := by
  obtain ⟨sn, sd, rfl, h1, h2⟩ := r
  obtain ⟨na, nl, nc, rfl, h1⟩ := h1.sl
  obtain ⟨da, dl, dc, rfl, h2⟩ := h2.sl
  refine ⟨_, _, _, _, _, _, rfl, h1, h2, ?_, ?_⟩
  · rw [h1.len0, Int.natAbs_eq_zero, Rat.num_eq_zero]
  · rw [h2.len0]
    have := x.den_nz
    split <;> omega
theorem EWhole_spec {h0 h : PH} [Le h0 h] {v : Value} {x : Rat} (hx : Cn h0 v x) : Spec mach 58 #[v] h (fun v h' => N32 h' v x.den) NP := by
  obtain ⟨na, nl, nc, da, dl, dc, rfl, hn, hd, e1, e2⟩ := hx.parts
  by_cases h1 : x.den = 1
  · have e3 : ((dl : Int) == 0) = true := by simp [e2.2 h1]
    rw [h1]
    refine Spec.go [] Tryd.func58 rfl rfl (by kernel_rfl) fun C _ => ?_
    simp (maxSteps := 999999) (disch := omega) only [go_sem, Nat.reduceBEq, Nat.reduceAdd, e3]
    refine caN (by exact Small_spec (n := 1) (by decide)) ?_; rintro _ g1 _ q1; obtain ⟨v1, _, _, rfl, q1⟩ := q1.sl
    simp (maxSteps := 999999) (disch := omega) only [go_sem, Nat.reduceBEq, Nat.reduceAdd]
    exact q1
  · have e3 : ((dl : Int) == 0) = false := by have := mt e2.1 h1; simp; omega
    rw [if_neg h1] at hd
    refine Spec.go [] Tryd.func58 rfl rfl (by kernel_rfl) fun C _ => ?_
    simp (maxSteps := 999999) (disch := omega) only [go_sem, Nat.reduceBEq, Nat.reduceAdd, e3]
    exact hd.to
theorem EIsOne_spec {h0 h : PH} [Le h0 h] {v : Value} {x : Rat} (hx : Cn h0 v x) : Spec mach 60 #[v] h (fun v _ => v = .bool (decide (x = 1))) NP := by
  obtain ⟨na, nl, nc, da, dl, dc, rfl, hn, hd, e1, e2⟩ := hx.parts
  have kO := fun {h} [Le h0 h] => Of_any (h := h) hn
  have e4 : x = 1 ↔ ¬ x.num < 0 ∧ x.den = 1 ∧ x.num.natAbs = 1 := by
    constructor
    · rintro rfl; decide
    · rintro ⟨k1, k2, k3⟩
      apply Rat.ext
      · show x.num = 1; omega
      · show x.den = 1; exact k2
  cases hs : decide (x.num < 0) with
  | true =>
    have hs' := of_decide_eq_true hs
    rw [decide_eq_false (fun k => (e4.1 k).1 hs')]
    refine Spec.go [] Tryd.func60 rfl rfl (by kernel_rfl) fun C _ => ?_
    simp (maxSteps := 999999) (disch := omega) only [go_sem, Nat.reduceBEq, Nat.reduceAdd]
  | false =>
    have hs' := of_decide_eq_false hs
    by_cases h1 : x.den = 1
    · have e3 : ((dl : Int) == 0) = true := by simp [e2.2 h1]
      rw [show decide (x = 1) = decide (x.num.natAbs = 1) by simp only [e4, h1, hs', true_and, not_false_eq_true]]
      refine Spec.go [] Tryd.func60 rfl rfl (by kernel_rfl) fun C _ => ?_
      simp (maxSteps := 999999) (disch := omega) only [go_sem, Nat.reduceBEq, Nat.reduceAdd, e3]
      refine caN (by exact kO) ?_; rintro _ g1 _ q1; obtain ⟨v1, _, _, rfl, q1⟩ := q1.sl
      simp (maxSteps := 999999) (disch := omega) only [go_sem, Nat.reduceBEq, Nat.reduceAdd]
      refine caN (by exact One_spec q1) ?_; rintro v2 h2 s2 rfl
      simp (maxSteps := 999999) (disch := omega) only [go_sem, Nat.reduceBEq, Nat.reduceAdd]
    · have e3 : ((dl : Int) == 0) = false := by have := mt e2.1 h1; simp; omega
      rw [decide_eq_false (fun k => h1 (e4.1 k).2.1)]
      refine Spec.go [] Tryd.func60 rfl rfl (by kernel_rfl) fun C _ => ?_
      simp (maxSteps := 999999) (disch := omega) only [go_sem, Nat.reduceBEq, Nat.reduceAdd, e3]
def defB (fn : Int) (x : Rat) : Bool := if fn = 2 then decide (0 < x) else if fn = 6 ∨ fn = 7 then decide (x.num.natAbs ≤ x.den) else true
theorem EDefined_spec {h0 h : PH} [Le h0 h] {v : Value} {x : Rat} {fn : Int} (hx : Cn h0 v x) : Spec mach 29 #[.int .i64 fn, v] h (fun v _ => v = .bool (defB fn x)) NP := by
  have kW := fun {h} [Le h0 h] => EWhole_spec (h := h) hx
  obtain ⟨na, nl, nc, da, dl, dc, rfl, hn, hd, e1, e2⟩ := hx.parts
  have kO := fun {h} [Le h0 h] => Of_any (h := h) hn
  unfold defB
  by_cases h2 : fn = 2
  · subst h2
    rw [if_pos rfl]
    cases hs : decide (x.num < 0) with
    | true =>
      have hs' := of_decide_eq_true hs
      rw [decide_eq_false (show ¬ 0 < x by rw [num_neg] at hs'; grind)]
      refine Spec.go [(6, .o [0, 1, 3, 2, 4, 5, 6, 7])] Tryd.func29 rfl rfl (by kernel_rfl) fun C _ => ?_
      simp (maxSteps := 999999) (disch := omega) only [go_sem, Nat.reduceBEq, Nat.reduceAdd]
    | false =>
      have hs' := of_decide_eq_false hs
      rw [num_neg] at hs'
      by_cases h0' : x = 0
      · have e3 : decide ((nl : Int) > 0) = false := decide_eq_false (by have := e1.2 h0'; omega)
        rw [decide_eq_false (show ¬ 0 < x by grind)]
        refine Spec.go [(6, .o [0, 1, 3, 2, 4, 5, 6, 7])] Tryd.func29 rfl rfl (by kernel_rfl) fun C _ => ?_
        simp (maxSteps := 999999) (disch := omega) only [go_sem, Nat.reduceBEq, Nat.reduceAdd, e3]
      · have e3 : decide ((nl : Int) > 0) = true := decide_eq_true (by have := mt e1.1 h0'; omega)
        rw [decide_eq_true (show 0 < x by grind)]
        refine Spec.go [(6, .o [0, 1, 3, 2, 4, 5, 6, 7])] Tryd.func29 rfl rfl (by kernel_rfl) fun C _ => ?_
        simp (maxSteps := 999999) (disch := omega) only [go_sem, Nat.reduceBEq, Nat.reduceAdd, e3]
  · have f2 : (fn == 2) = false := by simpa using h2
    rw [if_neg h2]
    by_cases h6 : fn = 6 ∨ fn = 7
    · rw [if_pos h6]
      have e5 : decide (cmp3 x.num.natAbs x.den ≤ 0) = decide (x.num.natAbs ≤ x.den) := by unfold cmp3; grind
      rcases h6 with rfl | rfl
      all_goals
        refine Spec.go [(6, .o [0, 1, 3, 2, 4, 5, 6, 7])] Tryd.func29 rfl rfl (by kernel_rfl) fun C _ => ?_
        simp (maxSteps := 999999) (disch := omega) only [go_sem, Nat.reduceBEq, Nat.reduceAdd]
        refine caN (by exact kO) ?_; rintro _ g1 _ q1; obtain ⟨v1, _, _, rfl, q1⟩ := q1.sl
        simp (maxSteps := 999999) (disch := omega) only [go_sem, Nat.reduceBEq, Nat.reduceAdd]
        refine caN (by exact kW) ?_; rintro _ g2 _ q2; obtain ⟨v2, _, _, rfl, q2⟩ := q2.sl
        simp (maxSteps := 999999) (disch := omega) only [go_sem, Nat.reduceBEq, Nat.reduceAdd]
        refine caN (by exact Cmp_spec (q1.to (h' := g2)) q2) ?_; rintro v3 h3 s3 rfl
        simp (maxSteps := 999999) (disch := omega) only [go_sem, Nat.reduceBEq, Nat.reduceAdd, e5]
    · have f6 : (fn == 6) = false := by simp; omega
      have f7 : (fn == 7) = false := by simp; omega
      rw [if_neg h6]
      refine Spec.go [(6, .o [0, 1, 3, 2, 4, 5, 6, 7])] Tryd.func29 rfl rfl (by kernel_rfl) fun C _ => ?_
      simp (maxSteps := 999999) (disch := omega) only [go_sem, Nat.reduceBEq, Nat.reduceAdd, f2, f6, f7]
def exB (fn : Int) (x : Rat) : Bool := if fn = 2 ∨ fn = 7 then decide (x = 1) else decide (x = 0)
def exV (fn : Int) (x : Rat) : Rat := if (fn = 1 ∨ fn = 4) ∧ x = 0 then 1 else 0
theorem EExact_spec {h0 h : PH} [Le h0 h] {v : Value} {x : Rat} {fn : Int} (hx : Cn h0 v x) : Spec mach 30 #[.int .i64 fn, v] h (fun r h' => ∃ b na nl nc da dl dc, r = .tuple #[.agg #[.bool b, .slice na nl nc, .slice da dl dc], .bool (exB fn x)] ∧ Cn h' (.agg #[.bool b, .slice na nl nc, .slice da dl dc]) (exV fn x)) NP := by
  have kI := fun {h} [Le h0 h] => EIsOne_spec (h := h) hx
  obtain ⟨na, nl, nc, da, dl, dc, rfl, hn, hd, e1, e2⟩ := hx.parts
  have e3 : ((nl : Int) == 0) = decide (x = 0) := by
    rw [Bool.eq_iff_iff]; simp only [beq_iff_eq, decide_eq_true_eq, ← e1]; omega
  unfold exB exV
  by_cases h14 : fn = 1 ∨ fn = 4
  · rw [if_neg (show ¬ (fn = 2 ∨ fn = 7) by omega)]
    by_cases hz : x = 0
    · rw [decide_eq_true hz] at e3
      rw [if_pos ⟨h14, hz⟩, decide_eq_true hz]
      rcases h14 with rfl | rfl
      all_goals
        refine Spec.go [(2, .y (.a 0 (.a 1 (.a 2 (.a 3 (.a 4 (.a 5 (.a 6 .d .n) .n) (.a 5 (.a 4 (.a 6 .d .n) .n) .n)) (.a 5 (.a 3 (.a 4 (.a 6 .d .n) .n) .n) .n)) (.a 5 (.a 2 (.a 3 (.a 4 (.a 6 .d .n) .n) .n) .n) .n)) (.a 5 (.a 1 (.a 2 (.a 3 (.a 4 (.a 6 .d .n) .n) .n) .n) .n) .n)) (.a 1 (.a 0 (.a 2 (.a 3 (.a 4 (.a 5 (.a 6 .d .n) .n) (.a 5 (.a 4 (.a 6 .d .n) .n) .n)) (.a 5 (.a 3 (.a 4 (.a 6 .d .n) .n) .n) .n)) (.a 5 (.a 2 (.a 3 (.a 4 (.a 6 .d .n) .n) .n) .n) .n)) (.a 2 (.a 0 (.a 3 (.a 4 (.a 5 (.a 6 .d .n) .n) (.a 5 (.a 4 (.a 6 .d .n) .n) .n)) (.a 5 (.a 3 (.a 4 (.a 6 .d .n) .n) .n) .n)) (.a 3 (.a 0 (.a 4 (.a 5 (.a 6 .d .n) .n) (.a 5 (.a 4 (.a 6 .d .n) .n) .n)) (.a 4 (.a 0 (.a 5 (.a 6 .d .n) .n) .n) .n)) .n)) .n)) .n)))] Tryd.func30 rfl rfl (by kernel_rfl) fun C _ => ?_
        simp (maxSteps := 999999) (disch := omega) only [go_sem, Nat.reduceBEq, Nat.reduceAdd, e3]
        refine caN (by exact FromInt_spec (n := 1) (by decide) (by decide)) ?_; rintro v1 h1 s1 c; obtain ⟨_, _, _, _, _, _, _, rfl, c⟩ := c.sa
        simp (maxSteps := 999999) (disch := omega) only [go_sem, Nat.reduceBEq, Nat.reduceAdd]
        exact ⟨_, _, _, _, _, _, _, rfl, c⟩
    · rw [decide_eq_false hz] at e3
      rw [if_neg (fun k => hz k.2), decide_eq_false hz]
      rcases h14 with rfl | rfl
      all_goals
        refine Spec.go [(2, .y (.a 0 (.a 1 (.a 2 (.a 3 (.a 4 (.a 5 (.a 6 .d .n) .n) (.a 5 (.a 4 (.a 6 .d .n) .n) .n)) (.a 5 (.a 3 (.a 4 (.a 6 .d .n) .n) .n) .n)) (.a 5 (.a 2 (.a 3 (.a 4 (.a 6 .d .n) .n) .n) .n) .n)) (.a 5 (.a 1 (.a 2 (.a 3 (.a 4 (.a 6 .d .n) .n) .n) .n) .n) .n)) (.a 1 (.a 0 (.a 2 (.a 3 (.a 4 (.a 5 (.a 6 .d .n) .n) (.a 5 (.a 4 (.a 6 .d .n) .n) .n)) (.a 5 (.a 3 (.a 4 (.a 6 .d .n) .n) .n) .n)) (.a 5 (.a 2 (.a 3 (.a 4 (.a 6 .d .n) .n) .n) .n) .n)) (.a 2 (.a 0 (.a 3 (.a 4 (.a 5 (.a 6 .d .n) .n) (.a 5 (.a 4 (.a 6 .d .n) .n) .n)) (.a 5 (.a 3 (.a 4 (.a 6 .d .n) .n) .n) .n)) (.a 3 (.a 0 (.a 4 (.a 5 (.a 6 .d .n) .n) (.a 5 (.a 4 (.a 6 .d .n) .n) .n)) (.a 4 (.a 0 (.a 5 (.a 6 .d .n) .n) .n) .n)) .n)) .n)) .n)))] Tryd.func30 rfl rfl (by kernel_rfl) fun C _ => ?_
        simp (maxSteps := 999999) (disch := omega) only [go_sem, Nat.reduceBEq, Nat.reduceAdd, e3]
        exact ⟨_, _, _, _, _, _, _, rfl, Cn.nul _⟩
  · rw [if_neg (show ¬ ((fn = 1 ∨ fn = 4) ∧ x = 0) from fun k => h14 k.1)]
    by_cases h27 : fn = 2 ∨ fn = 7
    · rw [if_pos h27]
      rcases h27 with rfl | rfl
      all_goals
        refine Spec.go [(2, .y (.a 0 (.a 1 (.a 2 (.a 3 (.a 4 (.a 5 (.a 6 .d .n) .n) (.a 5 (.a 4 (.a 6 .d .n) .n) .n)) (.a 5 (.a 3 (.a 4 (.a 6 .d .n) .n) .n) .n)) (.a 5 (.a 2 (.a 3 (.a 4 (.a 6 .d .n) .n) .n) .n) .n)) (.a 5 (.a 1 (.a 2 (.a 3 (.a 4 (.a 6 .d .n) .n) .n) .n) .n) .n)) (.a 1 (.a 0 (.a 2 (.a 3 (.a 4 (.a 5 (.a 6 .d .n) .n) (.a 5 (.a 4 (.a 6 .d .n) .n) .n)) (.a 5 (.a 3 (.a 4 (.a 6 .d .n) .n) .n) .n)) (.a 5 (.a 2 (.a 3 (.a 4 (.a 6 .d .n) .n) .n) .n) .n)) (.a 2 (.a 0 (.a 3 (.a 4 (.a 5 (.a 6 .d .n) .n) (.a 5 (.a 4 (.a 6 .d .n) .n) .n)) (.a 5 (.a 3 (.a 4 (.a 6 .d .n) .n) .n) .n)) (.a 3 (.a 0 (.a 4 (.a 5 (.a 6 .d .n) .n) (.a 5 (.a 4 (.a 6 .d .n) .n) .n)) (.a 4 (.a 0 (.a 5 (.a 6 .d .n) .n) .n) .n)) .n)) .n)) .n)))] Tryd.func30 rfl rfl (by kernel_rfl) fun C _ => ?_
        simp (maxSteps := 999999) (disch := omega) only [go_sem, Nat.reduceBEq, Nat.reduceAdd]
        refine caN (by exact kI) ?_; rintro v1 h1 s1 rfl
        simp (maxSteps := 999999) (disch := omega) only [go_sem, Nat.reduceBEq, Nat.reduceAdd]
        exact ⟨_, _, _, _, _, _, _, rfl, Cn.nul _⟩
    · rw [if_neg h27]
      have f1 : (fn == 1) = false := by simp; omega
      have f2 : (fn == 2) = false := by simp; omega
      have f4 : (fn == 4) = false := by simp; omega
      have f7 : (fn == 7) = false := by simp; omega
      refine Spec.go [(2, .y (.a 0 (.a 1 (.a 2 (.a 3 (.a 4 (.a 5 (.a 6 .d .n) .n) (.a 5 (.a 4 (.a 6 .d .n) .n) .n)) (.a 5 (.a 3 (.a 4 (.a 6 .d .n) .n) .n) .n)) (.a 5 (.a 2 (.a 3 (.a 4 (.a 6 .d .n) .n) .n) .n) .n)) (.a 5 (.a 1 (.a 2 (.a 3 (.a 4 (.a 6 .d .n) .n) .n) .n) .n) .n)) (.a 1 (.a 0 (.a 2 (.a 3 (.a 4 (.a 5 (.a 6 .d .n) .n) (.a 5 (.a 4 (.a 6 .d .n) .n) .n)) (.a 5 (.a 3 (.a 4 (.a 6 .d .n) .n) .n) .n)) (.a 5 (.a 2 (.a 3 (.a 4 (.a 6 .d .n) .n) .n) .n) .n)) (.a 2 (.a 0 (.a 3 (.a 4 (.a 5 (.a 6 .d .n) .n) (.a 5 (.a 4 (.a 6 .d .n) .n) .n)) (.a 5 (.a 3 (.a 4 (.a 6 .d .n) .n) .n) .n)) (.a 3 (.a 0 (.a 4 (.a 5 (.a 6 .d .n) .n) (.a 5 (.a 4 (.a 6 .d .n) .n) .n)) (.a 4 (.a 0 (.a 5 (.a 6 .d .n) .n) .n) .n)) .n)) .n)) .n)))] Tryd.func30 rfl rfl (by kernel_rfl) fun C _ => ?_
      simp (maxSteps := 999999) (disch := omega) only [go_sem, Nat.reduceBEq, Nat.reduceAdd, f1, f2, f4, f7, e3, and_self]
      exact ⟨_, _, _, _, _, _, _, rfl, Cn.nul _⟩
theorem EKnown_ok {h0 h : PH} [Le h0 h] {v : Value} {x : Rat} {fn : Int} (hx : Rv h0 v x) (hf : 1 ≤ fn ∧ fn ≤ 8) : Spec mach 28 #[.int .i64 fn, v] h (fun r h' => ∃ b na nl nc da dl dc, r = .tuple #[.agg #[.bool b, .slice na nl nc, .slice da dl dc], .int .i64 0] ∧ Cn h' (.agg #[.bool b, .slice na nl nc, .slice da dl dc]) x) NP := by
  have kC := fun {h} [Le h0 h] => NumCanon (h := h) hx
  obtain ⟨_, _, _, _, _, _, _, rfl, _⟩ := hx.sa
  refine Spec.go [] Tryd.func28 rfl rfl (by kernel_rfl) fun C _ => ?_
  simp (maxSteps := 999999) (disch := omega) only [go_sem, Nat.reduceBEq, Nat.reduceAdd]
  refine caN (by exact kC) ?_; rintro v1 h1 s1 ⟨_, _, _, _, _, _, _, rfl, c⟩
  simp (maxSteps := 999999) (disch := omega) only [go_sem, Nat.reduceBEq, Nat.reduceAdd]
  exact ⟨_, _, _, _, _, _, _, rfl, c⟩
theorem EKnown_arg {h0 h : PH} [Le h0 h] {v : Value} {x : Rat} {fn : Int} (hx : Rv h0 v x) (hf : ¬ (1 ≤ fn ∧ fn ≤ 8)) : Spec mach 28 #[.int .i64 fn, v] h (fun r _ => r = .tuple #[.agg #[.bool false, .slice none 0 0, .slice none 0 0], .int .i64 2]) NP := by
  have kC := fun {h} [Le h0 h] => NumCanon (h := h) hx
  obtain ⟨_, _, _, _, _, _, _, rfl, _⟩ := hx.sa
  rcases Int.lt_or_le fn 1 with h1 | h1
  all_goals
    refine Spec.go [] Tryd.func28 rfl rfl (by kernel_rfl) fun C _ => ?_
    simp (maxSteps := 999999) (disch := omega) only [go_sem, Nat.reduceBEq, Nat.reduceAdd]
    refine caN (by exact kC) ?_; rintro v1 h1 s1 ⟨_, _, _, _, _, _, _, rfl, c⟩
    simp (maxSteps := 999999) (disch := omega) only [go_sem, Nat.reduceBEq, Nat.reduceAdd]
    all_goals omega
theorem EKnown_no {h0 h : PH} [Le h0 h] {v : Value} {neg : Bool} {n d : Nat} {fn : Int} (hv : Rw h0 v neg n d) (hl : lg neg n d) : Spec mach 28 #[.int .i64 fn, v] h (fun r _ => r = .tuple #[.agg #[.bool false, .slice none 0 0, .slice none 0 0], .int .i64 1]) NP := by
  have kC := fun {h} [Le h0 h] => NumCanon_no (h := h) hv hl
  obtain ⟨_, _, _, _, _, _, _, rfl, _⟩ := hv.sa
  refine Spec.go [] Tryd.func28 rfl rfl (by kernel_rfl) fun C _ => ?_
  simp (maxSteps := 999999) (disch := omega) only [go_sem, Nat.reduceBEq, Nat.reduceAdd]
  refine caN (by exact kC) ?_; rintro v1 h1 s1 rfl
  simp (maxSteps := 999999) (disch := omega) only [go_sem, Nat.reduceBEq, Nat.reduceAdd]
  all_goals omega
end Go.Q
namespace Go.Q
open Go.Proofs
set_option maxRecDepth 100000
set_option maxHeartbeats 8000000
theorem Right_spec {h0 h : PH} [Le h0 h] {v w : Value} {x y : Rat} (hx : Cn h0 v x) (hy : Qr h0 w y) (bx : sz x ≤ 2 ^ 30) (by_ : sz y ≤ 2 ^ 30) : Spec mach 11 #[v, w] h (fun r _ => r = .bool (decide (x = y))) NP := by
  have kC := fun {h} [Le h0 h] => Canonical_cn (h := h) hx bx
  have hw := hx.rw bx
  have kO := fun {h} [Le h0 h] => QOf_spec (h := h) hw
  rw [qof_cn] at kO
  have e3 : (cmpQ x y == 0) = decide (x = y) := by unfold cmpQ; grind
  obtain ⟨_, _, _, _, _, _, _, rfl, _⟩ := hx.sa
  have hy0 := hy
  obtain ⟨_, _, _, _, _, _, _, rfl, _⟩ := hy.sl
  refine Spec.go [(1, .o [0, 1, 2, 3, 5, 4, 6, 7, 8, 9])] Tryd.func11 rfl rfl (by kernel_rfl) fun C _ => ?_
  try simp (disch := omega) only [go_sem, Nat.reduceBEq, Nat.reduceAdd]
  refine caN (by exact kC) ?_; rintro v1 h1 s1 rfl
  try simp (disch := omega) only [go_sem, Nat.reduceBEq, Nat.reduceAdd]
  refine caN (by exact kO) ?_; rintro v2 h2 s2 q2; have q2' := q2; obtain ⟨_, _, _, _, _, _, _, rfl, _⟩ := q2'.sl
  try simp (disch := omega) only [go_sem, Nat.reduceBEq, Nat.reduceAdd]
  refine caN (by exact QCmp_spec q2 (hy0.to (h' := h2)) (Nat.le_trans bx (by decide)) (Nat.le_trans by_ (by decide))) ?_; rintro v3 h3 s3 rfl
  try simp (disch := omega) only [go_sem, Nat.reduceBEq, Nat.reduceAdd, e3]
theorem Qr_nil (h : PH) : Qr h (.agg #[.bool false, .slice none 0 0, .slice none 0 0]) 0 := ⟨_, _, 0, rfl, N16.zero h, N16.zero h, rfl⟩
theorem Mag_spec {h0 h : PH} [Le h0 h] {v : Value} {x : Rat} (hx : Qr h0 v x) : Spec mach 35 #[v] h (fun v h' => Qr h' v (sgn false x.num.natAbs x.den)) NP := by
  obtain ⟨_, _, _, _, _, _, e, rfl, k1, k2, k3⟩ := hx.sl
  obtain ⟨e1, e2⟩ := sgn_num (neg := false) x.den_nz x.reduced
  refine Spec.go [] Tryd.func35 rfl rfl (by kernel_rfl) fun C _ => ?_
  try simp (disch := omega) only [go_sem, Nat.reduceBEq, Nat.reduceAdd]
  exact ⟨_, _, e, by rw [show decide ((sgn false x.num.natAbs x.den).num < 0) = false from decide_eq_false (by rw [e1]; exact Int.not_lt.2 (Int.natCast_nonneg _))], by rw [e1]; exact k1.to, k2.to, by rw [e2]; exact k3⟩
theorem sgn_mul_den (a : Nat) {d : Nat} (hd : d ≠ 0) : sgn false a d * (d : Rat) = (a : Rat) := by
  have h : (d : Rat) ≠ 0 := by exact_mod_cast hd
  unfold sgn
  rw [Rat.mkRat_eq_div]
  exact Rat.div_mul_cancel h
theorem RDefined_spec {h0 h : PH} [Le h0 h] {v : Value} {x : Rat} {fn : Int} (hx : Qr h0 v x) (bx : sz x ≤ 2048) : Spec mach 13 #[.int .i64 fn, v] h (fun r _ => r = .bool (defB fn x)) NP := by
  have kS := fun {h} [Le h0 h] => Sgn_spec (h := h) hx
  have kM := fun {h} [Le h0 h] => Mag_spec (h := h) hx
  have bm : sz (sgn false x.num.natAbs x.den) ≤ 2048 := by
    have := sz_sgn false x.num.natAbs x.den_nz
    have := sz_num x
    have := sz_den x
    omega
  obtain ⟨_, _, _, _, _, _, _, rfl, _⟩ := hx.sl
  unfold defB
  by_cases h2 : fn = 2
  · subst h2
    have e3 : decide (sgn3 x > 0) = decide (0 < x) := by unfold sgn3; grind
    rw [if_pos rfl]
    refine Spec.go [] Tryd.func13 rfl rfl (by kernel_rfl) fun C _ => ?_
    try simp (disch := omega) only [go_sem, Nat.reduceBEq, Nat.reduceAdd]
    refine caN (by exact kS) ?_; rintro v1 h1 s1 rfl
    try simp (disch := omega) only [go_sem, Nat.reduceBEq, Nat.reduceAdd, e3]
  · have f2 : (fn == 2) = false := by simpa using h2
    rw [if_neg h2]
    by_cases h6 : fn = 6 ∨ fn = 7
    · rw [if_pos h6]
      have e5 : decide (cmpQ (sgn false x.num.natAbs x.den) ((1 : Int) : Rat) ≤ 0) = decide (x.num.natAbs ≤ x.den) := by
        have k1 := sgn_mul_den x.num.natAbs x.den_nz
        have k2 : (0 : Rat) < (x.den : Rat) := by exact_mod_cast x.den_pos
        generalize sgn false x.num.natAbs x.den = t at *
        have k3 : t ≤ 1 ↔ x.num.natAbs ≤ x.den := by
          constructor
          · intro k
            have : t * (x.den : Rat) ≤ 1 * (x.den : Rat) := Rat.mul_le_mul_of_nonneg_right k (Rat.le_of_lt k2)
            rw [k1, Rat.one_mul] at this
            exact_mod_cast this
          · intro k
            have : (x.num.natAbs : Rat) ≤ (x.den : Rat) := by exact_mod_cast k
            rw [← k1] at this
            refine Decidable.byContradiction fun hc => ?_
            have h3 : 1 < t := by grind
            have h4 : 1 * (x.den : Rat) < t * (x.den : Rat) := Rat.mul_lt_mul_of_pos_right h3 k2
            grind
        have e1 : ((1 : Int) : Rat) = 1 := rfl
        rw [e1]
        unfold cmpQ
        grind
      rcases h6 with rfl | rfl
      all_goals
        refine Spec.go [] Tryd.func13 rfl rfl (by kernel_rfl) fun C _ => ?_
        try simp (disch := omega) only [go_sem, Nat.reduceBEq, Nat.reduceAdd]
        refine caN (by exact kM) ?_; rintro v1 h1 s1 q1; have q1' := q1; obtain ⟨_, _, _, _, _, _, _, rfl, _⟩ := q1'.sl
        try simp (disch := omega) only [go_sem, Nat.reduceBEq, Nat.reduceAdd]
        refine caN (by exact QInt_spec (n := 1) (by decide) (by decide)) ?_; rintro v2 h2 s2 q2; have q2' := q2; obtain ⟨_, _, _, _, _, _, _, rfl, _⟩ := q2'.sl
        try simp (disch := omega) only [go_sem, Nat.reduceBEq, Nat.reduceAdd]
        refine caN (by exact QCmp_spec (q1.to (h' := h2)) q2 (Nat.le_trans bm (by decide)) (by decide)) ?_; rintro v3 h3 s3 rfl
        try simp (disch := omega) only [go_sem, Nat.reduceBEq, Nat.reduceAdd, e5]
    · have f6 : (fn == 6) = false := by simp; omega
      have f7 : (fn == 7) = false := by simp; omega
      rw [if_neg h6]
      refine Spec.go [] Tryd.func13 rfl rfl (by kernel_rfl) fun C _ => ?_
      try simp (disch := omega) only [go_sem, Nat.reduceBEq, Nat.reduceAdd, f2, f6, f7]
theorem RExact_spec {h0 h : PH} [Le h0 h] {v : Value} {x : Rat} {fn : Int} (hx : Qr h0 v x) (bx : sz x ≤ 2048) : Spec mach 12 #[.int .i64 fn, v] h (fun r h' => ∃ b na nl nc da dl dc, r = .tuple #[.agg #[.bool b, .slice na nl nc, .slice da dl dc], .bool (exB fn x)] ∧ Qr h' (.agg #[.bool b, .slice na nl nc, .slice da dl dc]) (exV fn x)) NP := by
  have hx0 := hx
  have bx' : sz x ≤ 2 ^ 34 := Nat.le_trans bx (by decide)
  obtain ⟨_, _, _, _, _, _, _, rfl, _⟩ := hx.sl
  have c0 : (cmpQ x ((0 : Int) : Rat) != 0) = !decide (x = 0) := by
    have : ((0 : Int) : Rat) = 0 := rfl
    rw [this]; unfold cmpQ; grind
  have c1 : (cmpQ x ((1 : Int) : Rat) != 0) = !decide (x = 1) := by
    have : ((1 : Int) : Rat) = 1 := rfl
    rw [this]; unfold cmpQ; grind
  unfold exB exV
  by_cases h27 : fn = 2 ∨ fn = 7
  · rw [if_pos h27, if_neg (show ¬ ((fn = 1 ∨ fn = 4) ∧ x = 0) by omega)]
    cases e : decide (x = 1)
    all_goals
      rw [e] at c1
      rcases h27 with rfl | rfl
      all_goals
        refine Spec.go [] Tryd.func12 rfl rfl (by kernel_rfl) fun C _ => ?_
        try simp (disch := omega) only [go_sem, Nat.reduceBEq, Nat.reduceAdd]
        refine caN (by exact QInt_spec (n := 1) (by decide) (by decide)) ?_; rintro v2 h2 s2 q2; have q2' := q2; obtain ⟨_, _, _, _, _, _, _, rfl, _⟩ := q2'.sl
        try simp (disch := omega) only [go_sem, Nat.reduceBEq, Nat.reduceAdd]
        refine caN (by exact QCmp_spec (hx0.to (h' := h2)) q2 bx' (by decide)) ?_; rintro v3 h3 s3 rfl
        try simp (disch := omega) only [go_sem, Nat.reduceBEq, Nat.reduceAdd, c1]
        first
          | exact ⟨_, _, _, _, _, _, _, rfl, Qr_nil _⟩
          | (refine caN (by exact QInt_spec (n := 0) (by decide) (by decide)) ?_; rintro v4 h4 s4 q4
             have q4' := q4
             obtain ⟨_, _, _, _, _, _, _, rfl, _⟩ := q4'.sl
             try simp (disch := omega) only [go_sem, Nat.reduceBEq, Nat.reduceAdd]
             exact ⟨_, _, _, _, _, _, _, rfl, q4⟩)
  · rw [if_neg h27]
    have f2 : (fn == 2) = false := by simp; omega
    have f7 : (fn == 7) = false := by simp; omega
    by_cases h14 : fn = 1 ∨ fn = 4
    · cases e : decide (x = 0)
      all_goals
        rw [e] at c0
        simp only [decide_eq_true_eq, decide_eq_false_iff_not] at e
        rcases h14 with rfl | rfl
        all_goals
          refine Spec.go [] Tryd.func12 rfl rfl (by kernel_rfl) fun C _ => ?_
          try simp (disch := omega) only [go_sem, Nat.reduceBEq, Nat.reduceAdd]
          refine caN (by exact QInt_spec (n := 0) (by decide) (by decide)) ?_; rintro v2 h2 s2 q2; have q2' := q2; obtain ⟨_, _, _, _, _, _, _, rfl, _⟩ := q2'.sl
          try simp (disch := omega) only [go_sem, Nat.reduceBEq, Nat.reduceAdd]
          refine caN (by exact QCmp_spec (hx0.to (h' := h2)) q2 bx' (by decide)) ?_; rintro v3 h3 s3 rfl
          try simp (disch := omega) only [go_sem, Nat.reduceBEq, Nat.reduceAdd, c0]
          first
            | exact ⟨_, _, _, _, _, _, _, rfl, by (first | rw [if_neg e] | rw [if_neg (fun k => e k.2)]); exact Qr_nil _⟩
            | (refine caN (by exact QInt_spec (n := 1) (by decide) (by decide)) ?_; rintro v4 h4 s4 q4
               have q4' := q4
               obtain ⟨_, _, _, _, _, _, _, rfl, _⟩ := q4'.sl
               try simp (disch := omega) only [go_sem, Nat.reduceBEq, Nat.reduceAdd]
               exact ⟨_, _, _, _, _, _, _, rfl, by (first | rw [if_pos e] | rw [if_pos ⟨by decide, e⟩]); exact q4⟩)
    · have f1 : (fn == 1) = false := by simp; omega
      have f4 : (fn == 4) = false := by simp; omega
      rw [if_neg (fun k => h14 k.1)]
      cases e : decide (x = 0)
      all_goals
        rw [e] at c0
        refine Spec.go [] Tryd.func12 rfl rfl (by kernel_rfl) fun C _ => ?_
        try simp (disch := omega) only [go_sem, Nat.reduceBEq, Nat.reduceAdd, f1, f2, f4, f7]
        refine caN (by exact QInt_spec (n := 0) (by decide) (by decide)) ?_; rintro v2 h2 s2 q2; have q2' := q2; obtain ⟨_, _, _, _, _, _, _, rfl, _⟩ := q2'.sl
        try simp (disch := omega) only [go_sem, Nat.reduceBEq, Nat.reduceAdd]
        refine caN (by exact QCmp_spec (hx0.to (h' := h2)) q2 bx' (by decide)) ?_; rintro v3 h3 s3 rfl
        try simp (disch := omega) only [go_sem, Nat.reduceBEq, Nat.reduceAdd, c0]
        first
          | exact ⟨_, _, _, _, _, _, _, rfl, Qr_nil _⟩
          | (refine caN (by exact QInt_spec (n := 0) (by decide) (by decide)) ?_; rintro v4 h4 s4 q4
             have q4' := q4
             obtain ⟨_, _, _, _, _, _, _, rfl, _⟩ := q4'.sl
             try simp (disch := omega) only [go_sem, Nat.reduceBEq, Nat.reduceAdd]
             exact ⟨_, _, _, _, _, _, _, rfl, q4⟩)
end Go.Q
namespace Go.Q
open Go.Proofs
set_option maxRecDepth 100000
set_option maxHeartbeats 8000000
def eLo (w y : Nat) : Nat → Nat
  | 0 => 2 ^ w
  | k + 1 => 2 ^ w + y * eLo w y k / 2 ^ (w + 8) / (40 - k)
def eHi (w y : Nat) : Nat → Nat
  | 0 => 2 ^ w * 2 ^ 1
  | k + 1 => 2 ^ w + cdiv (cdiv (y * eHi w y k) (2 ^ (w + 8))) (40 - k)
def qLo (w a : Nat) : Nat → Nat
  | 0 => a
  | k + 1 => qLo w a k * qLo w a k / 2 ^ w
def qHi (w a : Nat) : Nat → Nat
  | 0 => a
  | k + 1 => cdiv (qHi w a k * qHi w a k) (2 ^ w)
theorem eLo_0 (w y : Nat) : eLo w y 0 = 2 ^ w := rfl
theorem eLo_s (w y k : Nat) : eLo w y (k + 1) = 2 ^ w + y * eLo w y k / 2 ^ (w + 8) / (40 - k) := rfl
theorem eHi_0 (w y : Nat) : eHi w y 0 = 2 ^ w * 2 ^ 1 := rfl
theorem eHi_s (w y k : Nat) : eHi w y (k + 1) = 2 ^ w + cdiv (cdiv (y * eHi w y k) (2 ^ (w + 8))) (40 - k) := rfl
theorem qLo_0 (w a : Nat) : qLo w a 0 = a := rfl
theorem qLo_s (w a k : Nat) : qLo w a (k + 1) = qLo w a k * qLo w a k / 2 ^ w := rfl
theorem qHi_0 (w a : Nat) : qHi w a 0 = a := rfl
theorem qHi_s (w a k : Nat) : qHi w a (k + 1) = cdiv (qHi w a k * qHi w a k) (2 ^ w) := rfl
theorem bl_qLo (w a k : Nat) : bl (qLo w a k) ≤ 2 ^ k * (bl a + 1) := by
  induction k with
  | zero => show bl a ≤ _; omega
  | succ k ih =>
    have h1 := bl_div_le (qLo w a k * qLo w a k) (2 ^ w)
    have h2 := bl_mul (qLo w a k) (qLo w a k)
    rw [Nat.pow_succ]
    show bl (qLo w a k * qLo w a k / 2 ^ w) ≤ _
    have : 2 ^ k * 2 * (bl a + 1) = 2 * (2 ^ k * (bl a + 1)) := by rw [Nat.mul_comm (2 ^ k) 2, Nat.mul_assoc]
    omega
theorem bl_qHi (w a k : Nat) : bl (qHi w a k) + 1 ≤ 2 ^ k * (bl a + 1) := by
  induction k with
  | zero => show bl a + 1 ≤ _; omega
  | succ k ih =>
    have h1 := bl_cdiv (qHi w a k * qHi w a k) (pow2_ne w)
    have h2 := bl_mul (qHi w a k) (qHi w a k)
    rw [Nat.pow_succ]
    show bl (cdiv (qHi w a k * qHi w a k) (2 ^ w)) + 1 ≤ _
    have : 2 ^ k * 2 * (bl a + 1) = 2 * (2 ^ k * (bl a + 1)) := by rw [Nat.mul_comm (2 ^ k) 2, Nat.mul_assoc]
    omega
theorem TooLong_spec {h0 h : PH} [Le h0 h] {v : Value} {x : Rat} (hx : Cn h0 v x) : Spec mach 38 #[v] h (fun v _ => v = .bool (decide (1024 < sz x))) NP := by
  have kW := fun {h} [Le h0 h] => EWhole_spec (h := h) hx
  obtain ⟨na, nl, nc, da, dl, dc, rfl, hn, hd, e1, e2⟩ := hx.parts
  have kO := fun {h} [Le h0 h] => Of_any (h := h) hn
  have e3 : decide ((if (bl x.den : Int) > (bl x.num.natAbs : Int) then (bl x.den : Int) else (bl x.num.natAbs : Int)) > 1024) = decide (1024 < sz x) := by
    unfold sz
    split <;> congr 1 <;> simp only [eq_iff_iff] <;> omega
  refine Spec.go [(1, .o [0, 1, 4, 2, 3, 5, 6, 7, 8, 9])] Tryd.func38 rfl rfl (by kernel_rfl) fun C _ => ?_
  try simp (disch := omega) only [go_sem, Nat.reduceBEq, Nat.reduceAdd]
  refine caN (by exact kO) ?_; rintro _ g1 _ q1; obtain ⟨_, _, _, rfl, q1⟩ := q1.sl
  try simp (disch := omega) only [go_sem, Nat.reduceBEq, Nat.reduceAdd]
  refine caN (by exact Bits_spec q1) ?_; rintro v2 h2 s2 rfl
  try simp (disch := omega) only [go_sem, Nat.reduceBEq, Nat.reduceAdd]
  refine caN (by exact kW) ?_; rintro _ g3 _ q3; obtain ⟨v3, _, _, rfl, q3⟩ := q3.sl
  try simp (disch := omega) only [go_sem, Nat.reduceBEq, Nat.reduceAdd]
  refine caN (by exact Bits_spec q3) ?_; rintro v4 h4 s4 rfl
  try simp (disch := omega) only [go_sem, Nat.reduceBEq, Nat.reduceAdd, e3]
theorem Beyond_spec {h0 h : PH} [Le h0 h] {v : Value} {x : Rat} {n : Nat} (hx : Cn h0 v x) (bx : sz x ≤ 2 ^ 20) (hn : n < 2 ^ 64) : Spec mach 39 #[v, .int .u64 n] h (fun v _ => v = .bool (decide (x.den * n < x.num.natAbs))) NP := by
  have b2 := sz_den x
  have b3 : bl n ≤ 64 := bl_le.2 hn
  have kW := fun {h} [Le h0 h] => EWhole_spec (h := h) hx
  obtain ⟨na, nl, nc, da, dl, dc, rfl, hn', hd, e1, e2⟩ := hx.parts
  have kO := fun {h} [Le h0 h] => Of_any (h := h) hn'
  have e3 : decide (cmp3 x.num.natAbs (x.den * n) > 0) = decide (x.den * n < x.num.natAbs) := by unfold cmp3; grind
  refine Spec.go [(1, .o [0, 1, 3, 5, 2, 4, 6, 7, 8, 9, 10])] Tryd.func39 rfl rfl (by kernel_rfl) fun C _ => ?_
  try simp (disch := omega) only [go_sem, Nat.reduceBEq, Nat.reduceAdd]
  refine caN (by exact kO) ?_; rintro _ g1 _ q1; obtain ⟨_, _, _, rfl, q1⟩ := q1.sl
  try simp (disch := omega) only [go_sem, Nat.reduceBEq, Nat.reduceAdd]
  refine caN (by exact kW) ?_; rintro _ g2 _ q2; obtain ⟨v2, _, _, rfl, q2⟩ := q2.sl
  try simp (disch := omega) only [go_sem, Nat.reduceBEq, Nat.reduceAdd]
  refine caN (by exact Small_spec (n := n) hn) ?_; rintro _ g3 _ q3; obtain ⟨v3, _, _, rfl, q3⟩ := q3.sl
  try simp (disch := omega) only [go_sem, Nat.reduceBEq, Nat.reduceAdd]
  refine caN (by exact Mul_spec (q2.to (h' := g3)) q3 (by omega) (by omega)) ?_; rintro _ g4 _ q4; obtain ⟨v4, _, _, rfl, q4⟩ := q4.sl
  try simp (disch := omega) only [go_sem, Nat.reduceBEq, Nat.reduceAdd]
  refine caN (by exact Cmp_spec (q1.to (h' := g4)) q4) ?_; rintro v5 h5 s5 rfl
  try simp (disch := omega) only [go_sem, Nat.reduceBEq, Nat.reduceAdd, e3]
end Go.Q
namespace Go.Q
open Go.Proofs
set_option maxRecDepth 100000
structure Hid (p : Prop) : Prop where
  out : p
theorem Le.trn {a b c : PH} (x : Le a b) (y : Le b c) : Le a c := ⟨x.sub.trans y.sub⟩
@[go_sem] theorem uw_get1 (d : Nat) : (uw [d])[0]? = some (.int .u32 (d : Nat)) := rfl
theorem cdiv_le_iff {a d c : Nat} (hd : d ≠ 0) : cdiv a d ≤ c ↔ a ≤ d * c := by
  unfold cdiv
  rw [Nat.div_le_iff_le_mul_add_pred (Nat.pos_of_ne_zero hd)]
  omega
end Go.Q
namespace Go.Q
open Go.Proofs
set_option maxRecDepth 100000
theorem two_pow_dbl (w : Nat) : 2 ^ (w + 1) = 2 * 2 ^ w := by rw [Nat.pow_succ]; omega
theorem eLo_step {w y k : Nat} (hy : y ≤ 64 * 2 ^ w) (_hk : k < 40) (h : eLo w y k ≤ 2 ^ (w + 1)) : eLo w y (k + 1) ≤ 2 ^ (w + 1) := by
  show 2 ^ w + y * eLo w y k / 2 ^ (w + 8) / (40 - k) ≤ 2 ^ (w + 1)
  have h1 : y * eLo w y k ≤ 64 * 2 ^ w * 2 ^ (w + 1) := Nat.mul_le_mul hy h
  have h2 : y * eLo w y k / 2 ^ (w + 8) ≤ 2 ^ w := by
    refine Nat.div_le_of_le_mul (Nat.le_trans h1 ?_)
    rw [show w + 8 = (w + 1) + 7 by omega, Nat.pow_add 2 (w + 1) 7, Nat.mul_comm (64 * 2 ^ w), Nat.mul_assoc (2 ^ (w + 1))]
    exact Nat.mul_le_mul_left _ (by have := Nat.pow_pos (n := w) (show 0 < 2 by decide); omega)
  have h3 := Nat.div_le_self (y * eLo w y k / 2 ^ (w + 8)) (40 - k)
  rw [two_pow_dbl w]
  omega
theorem eLo_le {w y : Nat} (hy : y ≤ 64 * 2 ^ w) : ∀ {k : Nat}, k < 40 → eLo w y k ≤ 2 ^ (w + 1) ∧ eLo w y (k + 1) ≤ 2 ^ (w + 1)
  | 0, _ => by
    have h0 : eLo w y 0 ≤ 2 ^ (w + 1) := by show 2 ^ w ≤ _; rw [two_pow_dbl w]; omega
    exact ⟨h0, eLo_step hy (by decide) h0⟩
  | k + 1, h => by
    have ih := (eLo_le hy (k := k) (by omega)).2
    exact ⟨ih, eLo_step hy h ih⟩
theorem eHi_le {w y : Nat} (hy : y ≤ 64 * 2 ^ w) : ∀ {k : Nat}, k ≤ 40 → eHi w y k ≤ 2 ^ (w + 1)
  | 0, _ => by show 2 ^ w * 2 ^ 1 ≤ _; rw [two_pow_dbl w]; omega
  | k + 1, h => by
    have ih := eHi_le hy (k := k) (by omega)
    show 2 ^ w + cdiv (cdiv (y * eHi w y k) (2 ^ (w + 8))) (40 - k) ≤ 2 ^ (w + 1)
    have h1 : y * eHi w y k ≤ 64 * 2 ^ w * 2 ^ (w + 1) := Nat.mul_le_mul hy ih
    have h2 : cdiv (y * eHi w y k) (2 ^ (w + 8)) ≤ 2 ^ w := by
      refine (cdiv_le_iff (pow2_ne _)).2 (Nat.le_trans h1 ?_)
      rw [show w + 8 = (w + 1) + 7 by omega, Nat.pow_add 2 (w + 1) 7, Nat.mul_comm (64 * 2 ^ w), Nat.mul_assoc (2 ^ (w + 1))]
      exact Nat.mul_le_mul_left _ (by have := Nat.pow_pos (n := w) (show 0 < 2 by decide); omega)
    have h3 : cdiv (cdiv (y * eHi w y k) (2 ^ (w + 8))) (40 - k) ≤ 2 ^ w := by
      refine (cdiv_le_iff (by omega)).2 (Nat.le_trans h2 ?_)
      exact Nat.le_mul_of_pos_left _ (by omega)
    rw [two_pow_dbl w]
    omega
theorem eLo_ge (w y : Nat) : ∀ k, 2 ^ w ≤ eLo w y k
  | 0 => Nat.le_refl _
  | _ + 1 => Nat.le_add_right _ _
theorem eHi_ge (w y : Nat) : ∀ k, 2 ^ w ≤ eHi w y k
  | 0 => by show 2 ^ w ≤ 2 ^ w * 2 ^ 1; omega
  | _ + 1 => Nat.le_add_right _ _
theorem qLo_ge {w a : Nat} (h : 2 ^ w ≤ a) : ∀ k, 2 ^ w ≤ qLo w a k
  | 0 => h
  | k + 1 => by
    have ih := qLo_ge h k
    show 2 ^ w ≤ qLo w a k * qLo w a k / 2 ^ w
    exact (Nat.le_div_iff_mul_le (Nat.pow_pos (by decide))).2 (Nat.mul_le_mul ih ih)
theorem le_cdiv (a : Nat) {d : Nat} (hd : d ≠ 0) : a / d ≤ cdiv a d := Nat.div_le_div_right (by omega)
theorem qHi_ge {w a : Nat} (h : 2 ^ w ≤ a) : ∀ k, 2 ^ w ≤ qHi w a k
  | 0 => h
  | k + 1 => by
    have ih := qHi_ge h k
    show 2 ^ w ≤ cdiv (qHi w a k * qHi w a k) (2 ^ w)
    exact Nat.le_trans ((Nat.le_div_iff_mul_le (Nat.pow_pos (by decide))).2 (Nat.mul_le_mul ih ih)) (le_cdiv _ (pow2_ne w))
theorem sq_pow (w k : Nat) : 2 ^ (w + 2 ^ k) * 2 ^ (w + 2 ^ k) = 2 ^ w * 2 ^ (w + 2 ^ (k + 1)) := by
  rw [← Nat.pow_add, ← Nat.pow_add, Nat.pow_succ]; congr 1; omega
theorem qLo_le {w a : Nat} (h : a ≤ 2 ^ (w + 1)) : ∀ k, qLo w a k ≤ 2 ^ (w + 2 ^ k)
  | 0 => h
  | k + 1 => by
    have ih := qLo_le h k
    show qLo w a k * qLo w a k / 2 ^ w ≤ _
    exact Nat.div_le_of_le_mul (Nat.le_trans (Nat.mul_le_mul ih ih) (Nat.le_of_eq (sq_pow w k)))
theorem qHi_le {w a : Nat} (h : a ≤ 2 ^ (w + 1)) : ∀ k, qHi w a k ≤ 2 ^ (w + 2 ^ k)
  | 0 => h
  | k + 1 => by
    have ih := qHi_le h k
    show cdiv (qHi w a k * qHi w a k) (2 ^ w) ≤ _
    exact (cdiv_le_iff (pow2_ne w)).2 (Nat.le_trans (Nat.mul_le_mul ih ih) (Nat.le_of_eq (sq_pow w k)))
def expL (x : Rat) (p : Nat) : Nat := qLo (p + 112) (eLo (p + 112) (glo x (p + 112)) 40) 8
def expH (x : Rat) (p : Nat) : Nat := qHi (p + 112) (eHi (p + 112) (ghi x (p + 112)) 40) 8
def expLo (x : Rat) (p : Nat) : Rat := if x.num < 0 then sgn false (2 ^ (p + 112 + p) / expH x p) (2 ^ p) else sgn false (expL x p / 2 ^ 112) (2 ^ p)
def expHi (x : Rat) (p : Nat) : Rat := if x.num < 0 then sgn false (cdiv (2 ^ (p + 112 + p)) (expL x p)) (2 ^ p) else sgn false (cdiv (expH x p) (2 ^ 112)) (2 ^ p)
theorem glo_le {x : Rat} {n w : Nat} (h : ¬ x.den * n < x.num.natAbs) : glo x w ≤ n * 2 ^ w ∧ ghi x w ≤ n * 2 ^ w := by
  have h1 : x.num.natAbs * 2 ^ w ≤ x.den * (n * 2 ^ w) := by
    rw [← Nat.mul_assoc]; exact Nat.mul_le_mul_right _ (by omega)
  exact ⟨Nat.div_le_of_le_mul h1, (cdiv_le_iff x.den_nz).2 h1⟩
theorem bl_pow' {n k : Nat} (h : n ≤ 2 ^ k) : bl n ≤ k + 1 := by
  refine bl_le.2 ?_
  have : 2 ^ (k + 1) = 2 * 2 ^ k := two_pow_dbl k
  have := Nat.pow_pos (n := k) (show 0 < 2 by decide)
  omega
theorem exp_fit {x : Rat} {p : Nat} (h : ¬ x.den * 64 < x.num.natAbs) : bl (expL x p) ≤ p + 369 ∧ bl (expH x p) ≤ p + 369 ∧ expL x p ≠ 0 ∧ expH x p ≠ 0 := by
  obtain ⟨h1, h2⟩ := glo_le (w := p + 112) h
  have hp := Nat.pow_pos (n := p + 112) (show 0 < 2 by decide)
  have g1 := qLo_ge (eLo_ge (p + 112) (glo x (p + 112)) 40) 8
  have g2 := qHi_ge (eHi_ge (p + 112) (ghi x (p + 112)) 40) 8
  refine ⟨bl_pow' (qLo_le (eLo_le h1 (k := 39) (by decide)).2 8), bl_pow' (qHi_le (eHi_le h2 (by decide)) 8), ?_, ?_⟩
  · unfold expL; omega
  · unfold expH; omega
end Go.Q
namespace Go.Q
open Go.Proofs
set_option maxRecDepth 100000
set_option maxHeartbeats 8000000
def Be (h : PH) (r : Value) (x y : Rat) : Prop := ∃ b1 a1 m1 c1 a2 m2 c2 b2 a3 m3 c3 a4 m4 c4, r = .tuple #[.agg #[.bool b1, .slice a1 m1 c1, .slice a2 m2 c2, .bool b2, .slice a3 m3 c3, .slice a4 m4 c4], .int .i64 0] ∧ Cn h (.agg #[.bool b1, .slice a1 m1 c1, .slice a2 m2 c2]) x ∧ Cn h (.agg #[.bool b2, .slice a3 m3 c3, .slice a4 m4 c4]) y
theorem bl_64 {n w : Nat} (h : n ≤ 64 * 2 ^ w) : bl n ≤ w + 7 := bl_pow' (k := w + 6) (by rw [Nat.pow_add]; omega)
theorem bl_cd {a k n : Nat} (h : bl a ≤ k) (hn : 1 ≤ n) : bl (cdiv a (2 ^ n)) ≤ k + 1 := Nat.le_trans (bl_cdiv a (pow2_ne n)) (by omega)
theorem EExp_spec {h0 h : PH} [Le h0 h] {v : Value} {x : Rat} {p : Nat} (hx : Cn h0 v x) (bx : sz x ≤ 1024) (hb : ¬ x.den * 64 < x.num.natAbs) (hp : p ≤ 128) : Spec mach 62 #[v, .int .i64 p] h (fun r h' => Be h' r (expLo x p) (expHi x p)) NP := by
  have kS := fun {h} [Le h0 h] => EScaled_spec (h := h) (w := p + 112) hx (Nat.le_trans bx (by decide)) (by omega)
  obtain ⟨g1, g2⟩ := glo_le (w := p + 112) hb
  have bL := bl_64 g1
  have bH := bl_64 g2
  have bl1 : ∀ {k}, k < 40 → bl (eLo (p + 112) (glo x (p + 112)) k) ≤ p + 114 := fun hk => bl_pow' (eLo_le g1 hk).1
  have bl2 : ∀ {k}, k ≤ 40 → bl (eHi (p + 112) (ghi x (p + 112)) k) ≤ p + 114 := fun hk => bl_pow' (eHi_le g2 hk)
  have bq1 := bl_qLo (p + 112) (eLo (p + 112) (glo x (p + 112)) 40)
  have bq2 := bl_qHi (p + 112) (eHi (p + 112) (ghi x (p + 112)) 40)
  have b40 : bl (eLo (p + 112) (glo x (p + 112)) 40) ≤ p + 114 := bl_pow' (eLo_le g1 (k := 39) (by decide)).2
  have b41 := bl2 (Nat.le_refl 40)
  obtain ⟨f1, f2, f3, f4⟩ := exp_fit (p := p) hb
  obtain ⟨na, nl, nc, da, dl, dc, rfl, hn, hd, e1, e2⟩ := hx.parts
  clear hn hd e1 e2 hx
  have u1 := bl_pow2 (p + 112)
  have u3 := bl_pow2 (p + 112 + p)
  have u2 := bl_one
  generalize hD : decide (x.num < 0) = b at kS ⊢
  have f3 := Hid.mk f3
  have f4 := Hid.mk f4
  have bq1 := fun j => Hid.mk (bq1 j)
  have bq2 := fun j => Hid.mk (bq2 j)
  have b40 := Hid.mk b40
  have b41 := Hid.mk b41
  have f2' := Hid.mk f2
  clear hb bx g1 g2
  have F := Hid.mk (And.intro bL (And.intro bH (And.intro f1 (And.intro f2 (And.intro u1 (And.intro u2 u3)))))); clear bL bH f1 f2 u1 u2 u3
  refine Spec.go [(9, .o [0, 2, 3, 4, 6, 7, 9, 10, 1, 5, 8, 11, 12, 13, 14])] Tryd.func62 rfl rfl (by kernel_rfl) fun C _ => ?_
  try simp (disch := omega) only [go_sem, Nat.reduceBEq, Nat.reduceAdd]
  refine caN (by exact kS) ?_; rintro v1 h1 s1 ⟨a1, m1, c1, a2, m2, c2, rfl, q1, q2⟩
  try simp (disch := omega) only [go_sem, Nat.reduceBEq, Nat.reduceAdd]
  refine caN (by exact Unit_spec (w := p + 112) (by have := F.out; omega)) ?_; rintro _ h3 _ q3; obtain ⟨v3, v3_l, v3_c, rfl, q3⟩ := q3.sl
  try simp (disch := omega) only [go_sem, Nat.reduceBEq, Nat.reduceAdd]
  refine caN (by exact Unit_spec (w := p + 112) (by have := F.out; omega)) ?_; rintro _ h4 _ q4; obtain ⟨v4, _, _, rfl, q4⟩ := q4.sl
  try simp (disch := omega) only [go_sem, Nat.reduceBEq, Nat.reduceAdd]
  refine caN (by exact Shl_spec (n := 1) q4 (by have := F.out; omega)) ?_; rintro _ h5 _ q5; obtain ⟨v5, v5_l, v5_c, rfl, q5⟩ := q5.sl
  try simp (disch := omega) only [go_sem, Nat.reduceBEq, Nat.reduceAdd]
  refine lp [(9, .o [0, 2, 3, 4, 6, 7, 9, 10, 1, 5, 8, 11, 12, 13, 14])] (fun x' : Value × Value × Nat => ⟨[(1, .v (.int .i64 p)), (2, .p 0 0), (4, .p 1 0), (6, .v (.int .i64 (p + 112 : Nat))), (7, .p 2 0), (8, .v x'.1), (9, .v x'.2.1), (10, .v (.int .u32 (x'.2.2 : Nat)))], [[.bool b, .slice na nl nc, .slice da dl dc], [.bool false, .slice none 0 0, .slice none 0 0, .bool false, .slice none 0 0, .slice none 0 0], [.slice a1 m1 c1, .slice a2 m2 c2]]⟩) (fun x' h' => Le h1 h' ∧ x'.2.2 ≤ 40 ∧ N32 h' x'.1 (eLo (p + 112) (glo x (p + 112)) (40 - x'.2.2)) ∧ N32 h' x'.2.1 (eHi (p + 112) (ghi x (p + 112)) (40 - x'.2.2))) (fun x' => x'.2.2) (.slice v3 v3_l v3_c, .slice v5 v5_l v5_c, 40) ?_ ⟨inferInstance, Nat.le_refl _, by show N32 _ _ (eLo _ _ (40 - 40)); rw [Nat.sub_self, eLo_0]; exact q3.to, by show N32 _ _ (eHi _ _ (40 - 40)); rw [Nat.sub_self, eHi_0]; exact q5⟩ (by kernel_rfl) ?_
  · try simp (disch := omega) only [go_sem, Nat.reduceBEq, Nat.reduceAdd]
    all_goals rfl
  rintro ⟨va, vb, i⟩ h6 ⟨le6, hi, ha, hb'⟩
  dsimp only at hi ha hb' ⊢
  by_cases h0i : i = 0
  · subst h0i
    rw [Nat.sub_zero] at ha hb'
    obtain ⟨_, _, _, rfl, ha⟩ := ha.sl
    obtain ⟨_, _, _, rfl, hb'⟩ := hb'.sl
    try simp (disch := omega) only [go_sem, Nat.reduceBEq, Nat.reduceAdd]
    refine lp [(9, .o [0, 2, 3, 4, 6, 7, 9, 10, 1, 5, 8, 11, 12, 13, 14])] (fun x' : Value × Value × Nat => ⟨[(1, .v (.int .i64 p)), (2, .p 0 0), (4, .p 1 0), (6, .v (.int .i64 (p + 112 : Nat))), (8, .v x'.1), (9, .v x'.2.1), (58, .v (.int .i64 (x'.2.2 : Nat)))], [[.bool b, .slice na nl nc, .slice da dl dc], [.bool false, .slice none 0 0, .slice none 0 0, .bool false, .slice none 0 0, .slice none 0 0], [.slice a1 m1 c1, .slice a2 m2 c2]]⟩) (fun x' h' => x'.2.2 ≤ 8 ∧ N32 h' x'.1 (qLo (p + 112) (eLo (p + 112) (glo x (p + 112)) 40) x'.2.2) ∧ N32 h' x'.2.1 (qHi (p + 112) (eHi (p + 112) (ghi x (p + 112)) 40) x'.2.2)) (fun x' => 8 - x'.2.2) (_, _, 0) ?_ ⟨(show 0 ≤ 8 by decide), by show N32 _ _ (qLo _ _ 0); rw [qLo_0]; exact ha, by show N32 _ _ (qHi _ _ 0); rw [qHi_0]; exact hb'⟩ (by kernel_rfl) ?_
    · try simp (disch := omega) only [go_sem, Nat.reduceBEq, Nat.reduceAdd]
      all_goals rfl
    rintro ⟨va', vb', j⟩ h7 ⟨hj, hc, hd'⟩
    dsimp only at hj hc hd' ⊢
    by_cases hj8 : j = 8
    · subst hj8
      have hc : N32 h7 va' (expL x p) := hc
      have hd' : N32 h7 vb' (expH x p) := hd'
      obtain ⟨_, _, _, rfl, hc⟩ := hc.sl
      obtain ⟨_, _, _, rfl, hd'⟩ := hd'.sl
      cases b with
      | false =>
        have hlt : ¬ x.num < 0 := of_decide_eq_false hD
        have ea : expLo x p = sgn false (expL x p / 2 ^ (p + 112 - p)) (2 ^ p) := by unfold expLo; rw [if_neg hlt, show p + 112 - p = 112 by have := F.out; omega]
        have eb : expHi x p = sgn false (cdiv (expH x p) (2 ^ (p + 112 - p))) (2 ^ p) := by unfold expHi; rw [if_neg hlt, show p + 112 - p = 112 by have := F.out; omega]
        have y1 := bl_div_le (expL x p) (2 ^ (p + 112 - p))
        have y2 := bl_cd (n := p + 112 - p) f2'.out (by have := F.out; omega)
        rw [ea, eb]
        clear ea eb
        have F := Hid.mk (And.intro F.out (And.intro y1 y2)); clear y1 y2
        try simp (disch := omega) only [go_sem, Nat.reduceBEq, Nat.reduceAdd]
        refine caN (by exact Bracket_spec (a := expL x p) (b := expH x p) (w := p + 112) (p := p) (neg := false) ⟨_, _, _, _, _, _, rfl, hc, hd'⟩ (by have := F.out; omega) (by have := F.out; omega) (by have := F.out; omega) (by have := F.out; omega) (by have := F.out; omega) (by have := F.out; omega) (by have := F.out; omega)) ?_; rintro v8 h8 s8 ⟨_, _, _, _, _, _, _, _, _, _, _, _, _, _, rfl, r1, r2⟩
        try simp (disch := omega) only [go_sem, Nat.reduceBEq, Nat.reduceAdd]
        exact ⟨_, _, _, _, _, _, _, _, _, _, _, _, _, _, rfl, r1, r2⟩
      | true =>
        have hlt : x.num < 0 := of_decide_eq_true hD
        have y1 := bl_div_le (2 ^ (p + 112 + p)) (expH x p)
        have y2 := bl_cdiv (2 ^ (p + 112 + p)) f3.out
        have ea : expLo x p = sgn false (2 ^ (p + 112 + p) / expH x p) (2 ^ p) := by unfold expLo; rw [if_pos hlt]
        have eb : expHi x p = sgn false (cdiv (2 ^ (p + 112 + p)) (expL x p)) (2 ^ p) := by unfold expHi; rw [if_pos hlt]
        rw [ea, eb]
        clear ea eb
        have F := Hid.mk (And.intro F.out (And.intro y1 y2)); clear y1 y2
        try simp (disch := omega) only [go_sem, Nat.reduceBEq, Nat.reduceAdd]
        refine caN (by exact Unit_spec (w := p + 112 + p) (by have := F.out; omega)) ?_; rintro _ h8 _ q8; obtain ⟨v8, _, _, rfl, q8⟩ := q8.sl
        try simp (disch := omega) only [go_sem, Nat.reduceBEq, Nat.reduceAdd]
        refine caN (by exact EOver_spec (c := false) q8 (hd'.to (h' := h8)) f4.out (by have := F.out; omega) (by have := F.out; omega)) ?_; rintro _ h9 _ q9; obtain ⟨v9, _, _, rfl, q9⟩ := q9.sl
        try simp (disch := omega) only [go_sem, Nat.reduceBEq, Nat.reduceAdd]
        refine caN (by exact Rational_spec (n := p) q9 (show bl (2 ^ (p + 112 + p) / expH x p) ≤ 2048 by have := F.out; omega) (by have := F.out; omega)) ?_; rintro v10 h10 s10 q10; obtain ⟨_, _, _, _, _, _, _, rfl, q10⟩ := q10.sa
        try simp (disch := omega) only [go_sem, Nat.reduceBEq, Nat.reduceAdd]
        refine caN (by exact EOver_spec (c := true) (q8.to (h' := h10)) (hc.to (h' := h10)) f3.out (by have := F.out; omega) (by have := F.out; omega)) ?_; rintro _ h11 _ q11; obtain ⟨v11, _, _, rfl, q11⟩ := q11.sl
        try simp (disch := omega) only [go_sem, Nat.reduceBEq, Nat.reduceAdd]
        refine caN (by exact Rational_spec (n := p) q11 (show bl (cdiv (2 ^ (p + 112 + p)) (expL x p)) ≤ 2048 by have := F.out; omega) (by have := F.out; omega)) ?_; rintro v12 h12 s12 q12; obtain ⟨_, _, _, _, _, _, _, rfl, q12⟩ := q12.sa
        try simp (disch := omega) only [go_sem, Nat.reduceBEq, Nat.reduceAdd]
        exact ⟨_, _, _, _, _, _, _, _, _, _, _, _, _, _, rfl, q10.to, q12⟩
    · have hj8 : j < 8 := by have := F.out; omega
      have z0 : 2 ^ j ≤ 2 ^ 8 := Nat.pow_le_pow_right (by decide) (by have := F.out; omega)
      have z1 := Nat.le_trans (bq1 j).out (Nat.mul_le_mul z0 (Nat.add_le_add_right b40.out 1))
      have z2 := Nat.le_trans (bq2 j).out (Nat.mul_le_mul z0 (Nat.add_le_add_right b41.out 1))
      have z3 := bl_mul (qLo (p + 112) (eLo (p + 112) (glo x (p + 112)) 40) j) (qLo (p + 112) (eLo (p + 112) (glo x (p + 112)) 40) j)
      have z4 := bl_mul (qHi (p + 112) (eHi (p + 112) (ghi x (p + 112)) 40) j) (qHi (p + 112) (eHi (p + 112) (ghi x (p + 112)) 40) j)
      clear z0
      have F := Hid.mk (And.intro F.out (And.intro z1 (And.intro z2 (And.intro z3 z4)))); clear z1 z2 z3 z4
      try simp (disch := omega) only [go_sem, Nat.reduceBEq, Nat.reduceAdd]
      refine caN (by exact Mul_spec hc hc (by have := F.out; omega) (by have := F.out; omega)) ?_; rintro _ h8 _ r1; obtain ⟨w1, _, _, rfl, r1⟩ := r1.sl
      try simp (disch := omega) only [go_sem, Nat.reduceBEq, Nat.reduceAdd]
      refine caN (by exact Shr_spec (n := p + 112) r1 (by have := F.out; omega) (by have := F.out; omega)) ?_; rintro _ h9 _ r2; obtain ⟨w2, _, _, rfl, r2⟩ := r2.sl
      try simp (disch := omega) only [go_sem, Nat.reduceBEq, Nat.reduceAdd]
      refine caN (by exact Mul_spec (hd'.to (h' := h9)) (hd'.to (h' := h9)) (by have := F.out; omega) (by have := F.out; omega)) ?_; rintro _ h10 _ r3; obtain ⟨w3, _, _, rfl, r3⟩ := r3.sl
      try simp (disch := omega) only [go_sem, Nat.reduceBEq, Nat.reduceAdd]
      refine caN (by exact EUp_spec (n := p + 112) r3 (by have := F.out; omega) (by have := F.out; omega)) ?_; rintro _ h11 _ r4; obtain ⟨w4, _, _, rfl, r4⟩ := r4.sl
      try simp (disch := omega) only [go_sem, Nat.reduceBEq, Nat.reduceAdd]
      dsimp only [lpE]; refine ⟨(_, _, j + 1), ?_, ⟨(show j + 1 ≤ 8 by have := F.out; omega), by show N32 _ _ (qLo _ _ (j + 1)); rw [qLo_s]; exact r2.to, by show N32 _ _ (qHi _ _ (j + 1)); rw [qHi_s]; exact r4⟩, (show 8 - (j + 1) < 8 - j by have := F.out; omega)⟩
      try simp (disch := omega) only [go_sem, Nat.reduceBEq, Nat.reduceAdd]
      all_goals rfl
  · obtain ⟨k, hk, ek⟩ : ∃ k, k < 40 ∧ 40 - i = k := ⟨_, by have := F.out; omega, rfl⟩
    have ei : i = 40 - k := by have := F.out; omega
    have en : 40 - (i - 1) = k + 1 := by have := F.out; omega
    rw [ek] at ha hb'
    have c1 := bl1 hk
    have c2 := bl2 (Nat.le_of_lt hk)
    have d1 := bl_mul (glo x (p + 112)) (eLo (p + 112) (glo x (p + 112)) k)
    have d2 := bl_mul (ghi x (p + 112)) (eHi (p + 112) (ghi x (p + 112)) k)
    have d3 := bl_div_le (glo x (p + 112) * eLo (p + 112) (glo x (p + 112)) k) (2 ^ (p + 112 + 8))
    have d4 := bl_div_le (glo x (p + 112) * eLo (p + 112) (glo x (p + 112)) k / 2 ^ (p + 112 + 8)) i
    have d5 := bl_cd (n := p + 112 + 8) d2 (by have := F.out; omega)
    have d6 : bl (odiv (cdiv (ghi x (p + 112) * eHi (p + 112) (ghi x (p + 112)) k) (2 ^ (p + 112 + 8))) i true) ≤ _ := bl_cdiv _ h0i
    have d7 : bl i ≤ 6 := bl_le.2 (by have := F.out; omega)
    have h0i := Hid.mk h0i
    have hi0 : 1 ≤ i := by have := F.out; omega
    have ei := Hid.mk ei
    have en := Hid.mk en
    clear ek hk
    have F := Hid.mk (And.intro F.out (And.intro c1 (And.intro c2 (And.intro d1 (And.intro d2 (And.intro d3 (And.intro d4 (And.intro d5 (And.intro d6 d7))))))))); clear c1 c2 d1 d2 d3 d4 d5 d6 d7
    try simp (disch := omega) only [go_sem, Nat.reduceBEq, Nat.reduceAdd]
    refine caN (by exact Mul_spec (q1.to (h' := h6)) ha (by have := F.out; omega) (by have := F.out; omega)) ?_; rintro _ h7 _ r1; obtain ⟨w1, _, _, rfl, r1⟩ := r1.sl
    try simp (disch := omega) only [go_sem, Nat.reduceBEq, Nat.reduceAdd]
    refine caN (by exact Shr_spec (n := p + 112 + 8) r1 (by have := F.out; omega) (by have := F.out; omega)) ?_; rintro _ h8 _ r2; obtain ⟨w2, _, _, rfl, r2⟩ := r2.sl
    try simp (disch := omega) only [go_sem, Nat.reduceBEq, Nat.reduceAdd]
    refine caN (by exact DivSmall_spec (d := i) r2 (by have := F.out; omega) (by have := F.out; omega) (by have := F.out; omega)) ?_; rintro w3 h9 s9 ⟨_, rfl, r3⟩; obtain ⟨_, _, _, rfl, r3⟩ := r3.sl
    try simp (disch := omega) only [go_sem, Nat.reduceBEq, Nat.reduceAdd]
    refine caN (by exact Unit_spec (w := p + 112) (by have := F.out; omega)) ?_; rintro _ h10 _ r4; obtain ⟨w4, _, _, rfl, r4⟩ := r4.sl
    try simp (disch := omega) only [go_sem, Nat.reduceBEq, Nat.reduceAdd]
    refine caN (by exact Add_spec r4 (r3.to (h' := h10)) (by have := F.out; omega) (by have := F.out; omega)) ?_; rintro _ h11 _ r5; obtain ⟨w5, w5_l, w5_c, rfl, r5⟩ := r5.sl
    try simp (disch := omega) only [go_sem, Nat.reduceBEq, Nat.reduceAdd]
    refine caN (by exact Unit_spec (w := p + 112) (by have := F.out; omega)) ?_; rintro _ h12 _ r6; obtain ⟨w6, _, _, rfl, r6⟩ := r6.sl
    try simp (disch := omega) only [go_sem, Nat.reduceBEq, Nat.reduceAdd]
    refine caN (by exact Mul_spec (q2.to (h' := h12)) (hb'.to (h' := h12)) (by have := F.out; omega) (by have := F.out; omega)) ?_; rintro _ h13 _ r7; obtain ⟨w7, _, _, rfl, r7⟩ := r7.sl
    try simp (disch := omega) only [go_sem, Nat.reduceBEq, Nat.reduceAdd]
    refine caN (by exact EUp_spec (n := p + 112 + 8) r7 (by have := F.out; omega) (by have := F.out; omega)) ?_; rintro _ h14 _ r8; obtain ⟨w8, _, _, rfl, r8⟩ := r8.sl
    try simp (disch := omega) only [go_sem, Nat.reduceBEq, Nat.reduceAdd]
    refine caN (by exact Small_spec (n := i) (by have := F.out; omega)) ?_; rintro _ h15 _ r9; obtain ⟨w9, _, _, rfl, r9⟩ := r9.sl
    try simp (disch := omega) only [go_sem, Nat.reduceBEq, Nat.reduceAdd]
    refine caN (by exact EOver_spec (c := true) (r8.to (h' := h15)) r9 h0i.out (by have := F.out; omega) (by have := F.out; omega)) ?_; rintro _ h16 _ r10; obtain ⟨w10, _, _, rfl, r10⟩ := r10.sl
    try simp (disch := omega) only [go_sem, Nat.reduceBEq, Nat.reduceAdd]
    refine caN (by exact Add_spec (r6.to (h' := h16)) r10 (by have := F.out; omega) (by have := F.out; omega)) ?_; rintro _ h17 _ r11; obtain ⟨w11, w11_l, w11_c, rfl, r11⟩ := r11.sl
    try simp (disch := omega) only [go_sem, Nat.reduceBEq, Nat.reduceAdd]
    dsimp only [lpE]; refine ⟨(.slice w5 w5_l w5_c, .slice w11 w11_l w11_c, i - 1), ?_, ⟨Le.trn le6 inferInstance, (show i - 1 ≤ 40 by have := F.out; omega), ?_, ?_⟩, (show i - 1 < i by have := F.out; omega)⟩
    · try simp (disch := omega) only [go_sem, Nat.reduceBEq, Nat.reduceAdd]
      all_goals rfl
    · show N32 _ _ (eLo _ _ (40 - (i - 1)))
      rw [en.out, eLo_s, ← ei.out]
      exact r5.to
    · show N32 _ _ (eHi _ _ (40 - (i - 1)))
      rw [en.out, eHi_s, ← ei.out]
      exact r11
end Go.Q
namespace Go.Q
open Go.Proofs
set_option maxRecDepth 100000
set_option maxHeartbeats 8000000
theorem EReady_exp {h0 h : PH} [Le h0 h] {v : Value} {x : Rat} {p : Int} (hx : Rv h0 v x) (hp : 0 ≤ p ∧ p ≤ 128) (hl : ¬ 1024 < sz x) (hb : ¬ x.den * 64 < x.num.natAbs) : Spec mach 87 #[.int .i64 1, v, .int .i64 p] h (fun r h' => ∃ b na nl nc da dl dc, r = .tuple #[.agg #[.bool b, .slice na nl nc, .slice da dl dc], .int .i64 0] ∧ Cn h' (.agg #[.bool b, .slice na nl nc, .slice da dl dc]) x) NP := by
  have kK := fun {h} [Le h0 h] => EKnown_ok (h := h) (fn := 1) hx (by decide)
  have bx := hx.sz
  obtain ⟨_, _, _, _, _, _, _, rfl, _⟩ := hx.sa
  have d1 : defB 1 x = true := rfl
  refine Spec.go [] Tryd.func87 rfl rfl (by kernel_rfl) fun C _ => ?_
  try simp (disch := omega) only [go_sem, Nat.reduceBEq, Nat.reduceAdd]
  refine caN (by exact kK) ?_; rintro v1 h1 s1 ⟨_, _, _, _, _, _, _, rfl, c⟩
  try simp (disch := omega) only [go_sem, Nat.reduceBEq, Nat.reduceAdd]
  refine caN (by exact EDefined_spec (fn := 1) c) ?_; rintro v2 h2 s2 rfl
  try simp (disch := omega) only [go_sem, Nat.reduceBEq, Nat.reduceAdd]
  rw [d1]
  try simp (disch := omega) only [go_sem, Nat.reduceBEq, Nat.reduceAdd]
  refine caN (by exact TooLong_spec (c.to (h' := h2))) ?_; rintro v3 h3 s3 rfl
  try simp (disch := omega) only [go_sem, Nat.reduceBEq, Nat.reduceAdd]
  try rw [decide_eq_false hl]
  try simp (disch := omega) only [go_sem, Nat.reduceBEq, Nat.reduceAdd]
  refine caN (by exact Beyond_spec (n := 64) (c.to (h' := h3)) (by omega) (by decide)) ?_; rintro v4 h4 s4 rfl
  try simp (disch := omega) only [go_sem, Nat.reduceBEq, Nat.reduceAdd]
  try rw [decide_eq_false hb]
  try simp (disch := omega) only [go_sem, Nat.reduceBEq, Nat.reduceAdd]
  exact ⟨_, _, _, _, _, _, _, rfl, c.to⟩
theorem EApply_exp {h0 h : PH} [Le h0 h] {v : Value} {x y z : Rat} {p : Int} {g : FuncId} (hx : Rv h0 v x) (hp : 0 ≤ p ∧ p ≤ 128) (hl : ¬ 1024 < sz x) (hb : ¬ x.den * 64 < x.num.natAbs) (hx0 : x ≠ 0) (hg : ∀ {h0 h : PH} {a : Value} [Le h0 h], Cn h0 a x → Spec mach g #[a, .int .i64 p] h (fun r h' => Be h' r y z) NP) :
    Spec mach 61 #[.int .i64 1, v, .int .i64 p, .func (.func g) #[] #[]] h (fun r h' => Be h' r y z) NP := by
  have kK := fun {h} [Le h0 h] => EReady_exp (h := h) hx hp hl hb
  have e1 : exB 1 x = false := by unfold exB; rw [if_neg (by decide)]; exact decide_eq_false hx0
  have kE := fun {h1 h : PH} {a : Value} [Le h1 h] (c : Cn h1 a x) => EExact_spec (h := h) (fn := 1) c
  rw [e1] at kE
  obtain ⟨_, _, _, _, _, _, _, rfl, _⟩ := hx.sa
  refine Spec.go [] Tryd.func61 rfl rfl (by kernel_rfl) fun C _ => ?_
  try simp (disch := omega) only [go_sem, Nat.reduceBEq, Nat.reduceAdd]
  refine caN (by exact kK) ?_; rintro v1 h1 s1 ⟨_, _, _, _, _, _, _, rfl, c⟩
  try simp (disch := omega) only [go_sem, Nat.reduceBEq, Nat.reduceAdd]
  refine caN (by exact kE c) ?_; rintro v2 h2 s2 ⟨_, _, _, _, _, _, _, rfl, _⟩
  try simp (disch := omega) only [go_sem, Nat.reduceBEq, Nat.reduceAdd]
  refine caN (by exact hg (c.to (h' := h2))) ?_; rintro v3 h3 s3 ⟨_, _, _, _, _, _, _, _, _, _, _, _, _, _, rfl, q3⟩
  try simp (disch := omega) only [go_sem, Nat.reduceBEq, Nat.reduceAdd]
  exact ⟨_, _, _, _, _, _, _, _, _, _, _, _, _, _, rfl, q3⟩
theorem FExp_ok {h0 h : PH} [Le h0 h] {v : Value} {x : Rat} {p : Nat} (hx : Rv h0 v x) (hp : p ≤ 128) (hl : ¬ 1024 < sz x) (hb : ¬ x.den * 64 < x.num.natAbs) (hx0 : x ≠ 0) : Spec mach 31 #[v, .int .i64 p] h (fun r h' => Be h' r (expLo x p) (expHi x p)) NP := by
  have kA := fun {h} [Le h0 h] => EApply_exp (h := h) (p := p) (g := 62) hx (by omega) hl hb hx0 (fun {h0 h a} _ c => EExp_spec c (by omega) hb hp)
  obtain ⟨_, _, _, _, _, _, _, rfl, _⟩ := hx.sa
  clear hl hb
  refine Spec.go [] Tryd.func31 rfl rfl (by kernel_rfl) fun C _ => ?_
  try simp (disch := omega) only [go_sem, Nat.reduceBEq, Nat.reduceAdd]
  refine caN (by exact kA) ?_; rintro v1 h1 s1 ⟨_, _, _, _, _, _, _, _, _, _, _, _, _, _, rfl, r1, r2⟩
  try simp (disch := omega) only [go_sem, Nat.reduceBEq, Nat.reduceAdd]
  exact ⟨_, _, _, _, _, _, _, _, _, _, _, _, _, _, rfl, r1, r2⟩
end Go.Q
namespace Go.Q
open Go.Proofs
set_option maxRecDepth 100000
set_option maxHeartbeats 8000000
end Go.Q
namespace Go.Q
open Go.Proofs
set_option maxRecDepth 100000
set_option maxHeartbeats 8000000
end Go.Q
namespace Go.Q
open Go.Proofs
set_option maxRecDepth 100000
set_option maxHeartbeats 8000000
end Go.Q
namespace Go.Q
open Go.Proofs
set_option maxRecDepth 100000
set_option maxHeartbeats 8000000
theorem RFrac2_spec {h : PH} {a b : Nat} (ha : a < 2 ^ 20) (hb : b < 2 ^ 20) : Spec mach 32 #[.int .i64 a, .int .i64 b] h (fun v h' => Qr h' v ((a : Rat) / (b : Rat))) NP := by
  have S : ∀ {n : Nat}, n < 2 ^ 20 → sz (((n : Int)) : Rat) ≤ 2 ^ 35 := by
    intro n hn
    unfold sz
    have e1 : bl ((((n : Int)) : Rat).num.natAbs) ≤ 64 := bl_le.2 (by simp; omega)
    have e2 : bl ((((n : Int)) : Rat).den) ≤ 64 := bl_le.2 (by simp)
    omega
  have b1 := S ha
  have b2 := S hb
  have e : ((((a : Int)) : Rat) / (((b : Int)) : Rat)) = (a : Rat) / (b : Rat) := rfl
  refine Spec.go [] Tryd.func32 rfl rfl (by kernel_rfl) fun C _ => ?_
  try simp (disch := omega) only [go_sem, Nat.reduceBEq, Nat.reduceAdd]
  refine caN (by exact QInt_spec (n := a) (by omega) (by omega)) ?_; rintro v1 g1 s1 q1; obtain ⟨_, _, _, _, _, _, _, rfl, q1⟩ := q1.sa
  try simp (disch := omega) only [go_sem, Nat.reduceBEq, Nat.reduceAdd]
  refine caN (by exact QInt_spec (n := b) (by omega) (by omega)) ?_; rintro v2 g2 s2 q2; obtain ⟨_, _, _, _, _, _, _, rfl, q2⟩ := q2.sa
  try simp (disch := omega) only [go_sem, Nat.reduceBEq, Nat.reduceAdd]
  refine caN (by exact QDiv_spec (q1.to (h' := g2)) q2 b1 b2) ?_; rintro v3 g3 s3 q3; rw [e] at q3; obtain ⟨_, _, _, _, _, _, _, rfl, q3⟩ := q3.sa
  try simp (disch := omega) only [go_sem, Nat.reduceBEq, Nat.reduceAdd]
  exact q3
theorem exp_sane1 : expLo 1 3 = ((21 : Nat) : Rat) / ((8 : Nat) : Rat) := by
  unfold expLo
  rw [if_neg (by decide), show expL 1 3 / 2 ^ 112 = 21 by decide +kernel]
  decide +kernel
theorem exp_sane2 : expHi 1 3 = ((11 : Nat) : Rat) / ((4 : Nat) : Rat) := by
  unfold expHi
  rw [if_neg (by decide), show cdiv (expH 1 3) (2 ^ 112) = 22 by decide +kernel]
  decide +kernel
theorem one_rv {h : PH} {b : Nat} (hb : h b = some #[.int .u32 1]) : Rv h (.agg #[.bool false, .slice (some ⟨b, 0, none⟩) 1 1, .slice none 0 0]) 1 := by
  have e : qof false 1 0 = 1 := by decide +kernel
  refine ⟨false, 1, 0, ⟨some ⟨b, 0, none⟩, 1, [1], none, 0, [], rfl, Arr.of_row (fun _ => hb) (by decide) (by decide) (by decide), Arr.nil _, rfl, rfl, by decide, by decide⟩, ?_, e⟩
  unfold lg
  rw [e]
  decide +kernel
theorem sane_spec {h : PH} : Spec mach 10 #[] h (fun r _ => r = .bool true) NP := by
  have z1 : sz (((21 : Nat) : Rat) / ((8 : Nat) : Rat)) ≤ 2 ^ 30 := by decide +kernel
  have z2 : sz (((11 : Nat) : Rat) / ((4 : Nat) : Rat)) ≤ 2 ^ 30 := by decide +kernel
  have e1 : decide (((21 : Nat) : Rat) / ((8 : Nat) : Rat) = ((21 : Nat) : Rat) / ((8 : Nat) : Rat)) = true := decide_eq_true rfl
  have e2 : decide (((11 : Nat) : Rat) / ((4 : Nat) : Rat) = ((11 : Nat) : Rat) / ((4 : Nat) : Rat)) = true := decide_eq_true rfl
  have z1 := Hid.mk z1
  have z2 := Hid.mk z2
  refine Spec.go [(1, .t (.s [0] (.p 0 (.s [1, 2, 3, 4, 5, 6, 7, 8] .d))))] Tryd.func10 rfl rfl (by kernel_rfl) fun C _ => ?_
  try simp (disch := omega) only [go_sem, Nat.reduceBEq, Nat.reduceAdd]
  intro b h1 st1 hb
  try simp (disch := omega) only [go_sem, Nat.reduceBEq, Nat.reduceAdd]
  have hb := hb (by simp [uw])
  try simp (disch := omega) only [go_sem, Nat.reduceBEq, Nat.reduceAdd]
  refine caN (by exact FExp_ok (x := 1) (p := 3) (one_rv hb) (by decide) (by decide) (by decide) (by decide)) ?_; rintro v2 h2 s2 ⟨_, _, _, _, _, _, _, _, _, _, _, _, _, _, rfl, r1, r2⟩
  try simp (disch := omega) only [go_sem, Nat.reduceBEq, Nat.reduceAdd]
  rw [exp_sane1] at r1
  rw [exp_sane2] at r2
  try simp (disch := omega) only [go_sem, Nat.reduceBEq, Nat.reduceAdd]
  refine caN (by exact RFrac2_spec (a := 21) (b := 8) (by decide) (by decide)) ?_; rintro v3 h3 s3 q3; obtain ⟨_, _, _, _, _, _, _, rfl, q3⟩ := q3.sa
  try simp (disch := omega) only [go_sem, Nat.reduceBEq, Nat.reduceAdd]
  refine caN (by exact Right_spec (r1.to (h' := h3)) q3 z1.out z1.out) ?_; rintro v4 h4 s4 rfl
  try simp (disch := omega) only [go_sem, Nat.reduceBEq, Nat.reduceAdd, e1, decide_true]
  refine caN (by exact RFrac2_spec (a := 11) (b := 4) (by decide) (by decide)) ?_; rintro v5 h5 s5 q5; obtain ⟨_, _, _, _, _, _, _, rfl, q5⟩ := q5.sa
  try simp (disch := omega) only [go_sem, Nat.reduceBEq, Nat.reduceAdd]
  refine caN (by exact Right_spec (r2.to (h' := h5)) q5 z2.out z2.out) ?_; rintro v6 h6 s6 rfl
  try simp (disch := omega) only [go_sem, Nat.reduceBEq, Nat.reduceAdd, e2, decide_true]
end Go.Q
namespace Go.Q
open Go.Proofs
set_option maxRecDepth 100000
set_option maxHeartbeats 8000000
theorem FDefined_ok {h0 h : PH} [Le h0 h] {v : Value} {x : Rat} {fn : Int} (hx : Rv h0 v x) (hf : 1 ≤ fn ∧ fn ≤ 8) : Spec mach 8 #[.int .i64 fn, v] h (fun r _ => r = .tuple #[.bool (defB fn x), .int .i64 0]) NP := by
  have kK := fun {h} [Le h0 h] => EKnown_ok (h := h) hx hf
  obtain ⟨_, _, _, _, _, _, _, rfl, _⟩ := hx.sa
  refine Spec.go [] Tryd.func8 rfl rfl (by kernel_rfl) fun C _ => ?_
  try simp (disch := omega) only [go_sem, Nat.reduceBEq, Nat.reduceAdd]
  refine caN (by exact kK) ?_; rintro v1 h1 s1 ⟨_, _, _, _, _, _, _, rfl, c⟩
  try simp (disch := omega) only [go_sem, Nat.reduceBEq, Nat.reduceAdd]
  refine caN (by exact EDefined_spec (fn := fn) c) ?_; rintro v2 h2 s2 rfl
  try simp (disch := omega) only [go_sem, Nat.reduceBEq, Nat.reduceAdd]
theorem FDefined_no {h0 h : PH} [Le h0 h] {v : Value} {fn e : Int} (hs : ∃ b na nl nc da dl dc, v = .agg #[.bool b, .slice na nl nc, .slice da dl dc]) (he : e ≠ 0) (hk : ∀ {h : PH} [Le h0 h], Spec mach 28 #[.int .i64 fn, v] h (fun r _ => r = .tuple #[.agg #[.bool false, .slice none 0 0, .slice none 0 0], .int .i64 e]) NP) : Spec mach 8 #[.int .i64 fn, v] h (fun r _ => r = .tuple #[.bool false, .int .i64 e]) NP := by
  obtain ⟨_, _, _, _, _, _, _, rfl⟩ := hs
  refine Spec.go [] Tryd.func8 rfl rfl (by kernel_rfl) fun C _ => ?_
  try simp (disch := omega) only [go_sem, Nat.reduceBEq, Nat.reduceAdd]
  refine caN (by exact hk) ?_; rintro v1 h1 s1 rfl
  try simp (disch := omega) only [go_sem, Nat.reduceBEq, Nat.reduceAdd]
theorem FExact_ok {h0 h : PH} [Le h0 h] {v : Value} {x : Rat} {fn : Int} (hx : Rv h0 v x) (hf : 1 ≤ fn ∧ fn ≤ 8) : Spec mach 9 #[.int .i64 fn, v] h (fun r h' => ∃ b na nl nc da dl dc, r = .tuple #[.agg #[.bool b, .slice na nl nc, .slice da dl dc], .bool (exB fn x), .int .i64 0] ∧ Cn h' (.agg #[.bool b, .slice na nl nc, .slice da dl dc]) (exV fn x)) NP := by
  have kK := fun {h} [Le h0 h] => EKnown_ok (h := h) hx hf
  obtain ⟨_, _, _, _, _, _, _, rfl, _⟩ := hx.sa
  refine Spec.go [] Tryd.func9 rfl rfl (by kernel_rfl) fun C _ => ?_
  try simp (disch := omega) only [go_sem, Nat.reduceBEq, Nat.reduceAdd]
  refine caN (by exact kK) ?_; rintro v1 h1 s1 ⟨_, _, _, _, _, _, _, rfl, c⟩
  try simp (disch := omega) only [go_sem, Nat.reduceBEq, Nat.reduceAdd]
  refine caN (by exact EExact_spec (fn := fn) c) ?_; rintro v2 h2 s2 ⟨_, _, _, _, _, _, _, rfl, c2⟩
  try simp (disch := omega) only [go_sem, Nat.reduceBEq, Nat.reduceAdd]
  exact ⟨_, _, _, _, _, _, _, rfl, c2⟩
theorem FExact_no {h0 h : PH} [Le h0 h] {v : Value} {fn e : Int} (hs : ∃ b na nl nc da dl dc, v = .agg #[.bool b, .slice na nl nc, .slice da dl dc]) (he : e ≠ 0) (hk : ∀ {h : PH} [Le h0 h], Spec mach 28 #[.int .i64 fn, v] h (fun r _ => r = .tuple #[.agg #[.bool false, .slice none 0 0, .slice none 0 0], .int .i64 e]) NP) : Spec mach 9 #[.int .i64 fn, v] h (fun r _ => r = .tuple #[.agg #[.bool false, .slice none 0 0, .slice none 0 0], .bool false, .int .i64 e]) NP := by
  obtain ⟨_, _, _, _, _, _, _, rfl⟩ := hs
  refine Spec.go [] Tryd.func9 rfl rfl (by kernel_rfl) fun C _ => ?_
  try simp (disch := omega) only [go_sem, Nat.reduceBEq, Nat.reduceAdd]
  refine caN (by exact hk) ?_; rintro v1 h1 s1 rfl
  try simp (disch := omega) only [go_sem, Nat.reduceBEq, Nat.reduceAdd]
theorem exB_def {fn : Int} {x : Rat} (h : exB fn x = true) : defB fn x = true := by
  unfold exB at h
  unfold defB
  by_cases h2 : fn = 2
  · subst h2
    rw [if_pos (.inl rfl), decide_eq_true_eq] at h
    subst h
    decide
  · rw [if_neg h2]
    by_cases h7 : fn = 7
    · subst h7
      rw [if_pos (.inr rfl), decide_eq_true_eq] at h
      subst h
      decide
    · rw [if_neg (by omega), decide_eq_true_eq] at h
      subst h
      split
      · decide
      · rfl
theorem Domains_law {h0 h : PH} [Le h0 h] {v : Value} {neg : Bool} {n d : Nat} {fn : Int} (hv : Rw h0 v neg n d) : Spec mach 3 #[.int .i64 fn, v] h (fun r _ => r = .bool true) NP := by
  have kO := fun {h} [Le h0 h] => QOf_spec (h := h) hv
  have kL := fun {h} [Le h0 h] => Large_spec (h := h) hv
  have hv0 := hv
  obtain ⟨_, _, _, _, _, _, _, rfl, _⟩ := hv.sa
  have z0 : decide ((0 : Rat) = 0) = true := by decide
  by_cases hl : lg neg n d
  · rw [decide_eq_true hl] at kL
    have kD := fun {h} [Le h0 h] => FDefined_no (h := h) (fn := fn) (e := 1) ⟨_, _, _, _, _, _, _, rfl⟩ (by decide) (fun {h} [Le h0 h] => EKnown_no (h := h) hv0 hl)
    have kE := fun {h} [Le h0 h] => FExact_no (h := h) (fn := fn) (e := 1) ⟨_, _, _, _, _, _, _, rfl⟩ (by decide) (fun {h} [Le h0 h] => EKnown_no (h := h) hv0 hl)
    refine Spec.go [] Tryd.func3 rfl rfl (by kernel_rfl) fun C _ => ?_
    try simp (disch := omega) only [go_sem, Nat.reduceBEq, Nat.reduceAdd]
    refine caN (by exact kO) ?_; rintro v1 h1 s1 q1; have q1' := q1; obtain ⟨_, _, _, _, _, _, _, rfl, _⟩ := q1'.sl
    try simp (disch := omega) only [go_sem, Nat.reduceBEq, Nat.reduceAdd]
    refine caN (by exact kL) ?_; rintro v2 h2 s2 rfl
    try simp (disch := omega) only [go_sem, Nat.reduceBEq, Nat.reduceAdd]
    refine caN (by exact kD) ?_; rintro v3 h3 s3 rfl
    try simp (disch := omega) only [go_sem, Nat.reduceBEq, Nat.reduceAdd]
    refine caN (by exact kE) ?_; rintro v4 h4 s4 rfl
    try simp (disch := omega) only [go_sem, Nat.reduceBEq, Nat.reduceAdd]
    refine caN (by exact sane_spec) ?_; rintro v5 h5 s5 rfl
    try simp (disch := omega) only [go_sem, Nat.reduceBEq, Nat.reduceAdd]
    refine caN (by exact Right_spec (Cn.nul h5) (Qr_nil h5) (by decide) (by decide)) ?_; rintro v6 h6 s6 rfl
    try simp (disch := omega) only [go_sem, Nat.reduceBEq, Nat.reduceAdd, z0, decide_true]
  · rw [decide_eq_false hl] at kL
    have hx : Rv h0 _ (qof neg n d) := ⟨neg, n, d, hv0, hl, rfl⟩
    by_cases hf : 1 ≤ fn ∧ fn ≤ 8
    · have kD := fun {h} [Le h0 h] => FDefined_ok (h := h) hx hf
      have kE := fun {h} [Le h0 h] => FExact_ok (h := h) hx hf
      have bx := hx.sz
      have ev : sz (exV fn (qof neg n d)) ≤ 2048 := by unfold exV; split <;> decide
      have e1 : decide (exV fn (qof neg n d) = exV fn (qof neg n d)) = true := decide_eq_true rfl
      have xd := exB_def (fn := fn) (x := qof neg n d)
      generalize qof neg n d = x at *
      have f1 : decide (fn < 1) = false := decide_eq_false (by omega)
      have f8 : decide (fn > 8) = false := decide_eq_false (by omega)
      cases eb : exB fn x <;> cases db : defB fn x
      all_goals
        first
          | exact absurd (xd eb) (by rw [db]; decide)
          | (have kR := fun {h1 h : PH} {w : Value} [Le h1 h] (hq : Qr h1 w x) => RExact_spec (h := h) (fn := fn) hq bx
             have kF := fun {h1 h : PH} {w : Value} [Le h1 h] (hq : Qr h1 w x) => RDefined_spec (h := h) (fn := fn) hq bx
             rw [db] at kD
             rw [eb] at kE
             simp only [eb] at kR
             simp only [db] at kF
             refine Spec.go [] Tryd.func3 rfl rfl (by kernel_rfl) fun C _ => ?_
             try simp (disch := omega) only [go_sem, Nat.reduceBEq, Nat.reduceAdd]
             refine caN (by exact kO) ?_; rintro v1 h1 s1 q1; have q1' := q1; obtain ⟨_, _, _, _, _, _, _, rfl, _⟩ := q1'.sl
             try simp (disch := omega) only [go_sem, Nat.reduceBEq, Nat.reduceAdd, f1, f8]
             refine caN (by exact kL) ?_; rintro v2 h2 s2 rfl
             try simp (disch := omega) only [go_sem, Nat.reduceBEq, Nat.reduceAdd, f1, f8]
             refine caN (by exact kD) ?_; rintro v3 h3 s3 rfl
             try simp (disch := omega) only [go_sem, Nat.reduceBEq, Nat.reduceAdd]
             refine caN (by exact kE) ?_; rintro v4 h4 s4 ⟨_, _, _, _, _, _, _, rfl, c4⟩
             try simp (disch := omega) only [go_sem, Nat.reduceBEq, Nat.reduceAdd]
             refine caN (by exact sane_spec) ?_; rintro v5 h5 s5 rfl
             try simp (disch := omega) only [go_sem, Nat.reduceBEq, Nat.reduceAdd]
             refine caN (by exact kR (q1.to (h' := h5))) ?_; rintro v6 h6 s6 ⟨_, _, _, _, _, _, _, rfl, c6⟩
             try simp (disch := omega) only [go_sem, Nat.reduceBEq, Nat.reduceAdd]
             refine caN (by exact kF (q1.to (h' := h6))) ?_; rintro v7 h7 s7 rfl
             try simp (disch := omega) only [go_sem, Nat.reduceBEq, Nat.reduceAdd]
             refine caN (by exact Right_spec (c4.to (h' := h7)) (c6.to (h' := h7)) (Nat.le_trans ev (by decide)) (Nat.le_trans ev (by decide))) ?_; rintro v8 h8 s8 rfl
             (try simp (disch := omega) only [go_sem, Nat.reduceBEq, Nat.reduceAdd, e1, decide_true]) )
    · have kD := fun {h} [Le h0 h] => FDefined_no (h := h) (fn := fn) (e := 2) ⟨_, _, _, _, _, _, _, rfl⟩ (by decide) (fun {h} [Le h0 h] => EKnown_arg (h := h) hx hf)
      have kE := fun {h} [Le h0 h] => FExact_no (h := h) (fn := fn) (e := 2) ⟨_, _, _, _, _, _, _, rfl⟩ (by decide) (fun {h} [Le h0 h] => EKnown_arg (h := h) hx hf)
      rcases Int.lt_or_le fn 1 with f1 | f1
      all_goals
        refine Spec.go [] Tryd.func3 rfl rfl (by kernel_rfl) fun C _ => ?_
        try simp (disch := omega) only [go_sem, Nat.reduceBEq, Nat.reduceAdd]
        refine caN (by exact kO) ?_; rintro v1 h1 s1 q1; have q1' := q1; obtain ⟨_, _, _, _, _, _, _, rfl, _⟩ := q1'.sl
        try simp (disch := omega) only [go_sem, Nat.reduceBEq, Nat.reduceAdd]
        refine caN (by exact kL) ?_; rintro v2 h2 s2 rfl
        try simp (disch := omega) only [go_sem, Nat.reduceBEq, Nat.reduceAdd]
        refine caN (by exact kD) ?_; rintro v3 h3 s3 rfl
        try simp (disch := omega) only [go_sem, Nat.reduceBEq, Nat.reduceAdd]
        refine caN (by exact kE) ?_; rintro v4 h4 s4 rfl
        try simp (disch := omega) only [go_sem, Nat.reduceBEq, Nat.reduceAdd]
        refine caN (by exact sane_spec) ?_; rintro v5 h5 s5 rfl
        try simp (disch := omega) only [go_sem, Nat.reduceBEq, Nat.reduceAdd]
        refine caN (by exact Right_spec (Cn.nul h5) (Qr_nil h5) (by decide) (by decide)) ?_; rintro v6 h6 s6 rfl
        try simp (disch := omega) only [go_sem, Nat.reduceBEq, Nat.reduceAdd, z0, decide_true]
end Go.Q
