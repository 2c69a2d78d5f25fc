/-
  Contracts of package elem: what is known of an argument; domains and exact values. Conditions: the values are numbers, raw (Rv) or canonical (Cn).
  The bracket of exp at 1 with the precision 3, and the statements' check of it (sane). Conditions: none.
  The series of the arctangent on a grid; pi. Plain. Conditions: the numbers are at most 1 of the grid; the precisions are at most 200.
  The bounds of the exponential function on a grid. Plain. Conditions: the argument's absolute value is at most 64.
  What exp returns of a number other than 0. Conditions: the number has at most 1024 binary digits, its absolute value is at most 64; the precision is at most 128.
  What arctan, pi and Pi return. Conditions: the numbers are at most 1 of the grid; the precisions are those that the program uses.
  What waves returns: the alternating series of sine and cosine on a grid. Conditions: the number is at most 1 of the grid; the precisions are those that the program uses.
  The series of the logarithm on a grid, and what logs returns. Conditions: the numbers are at most 1 of the grid; the precisions are those that the program uses.
  What halve and angle return. Conditions: the numbers are at most 1 of the grid; the precisions are those that the program uses.
  What atan returns. Conditions: the number is of at most 1024 binary digits; the precision is at most 128.
  Contracts of package number: sums, products, quotients, comparison, whole parts, rounding, opposites. Conditions: the values are numbers of at most 2048 binary digits.
  What number.Down, Up, elem.rounded and elem.below return. Conditions: the numbers stay in range.
  The logarithm on a grid: exponent, remainder, bounds. Plain. Conditions: the number is above 0.
  What log returns. Conditions: the number is above 0 and of at most 1024 binary digits; the precision is at most 128.
  Contracts of package elem: whole parts of quotients; numbers of a remainder modulo 4 in a range; Turns. Conditions: the sizes are those that the program uses.
  Intervals as plain sets: two ends, each a number or infinite, or empty; the operations on them. Conditions: none.
  Plain laws of intervals: membership, meets, hulls, grids. Conditions: ends in order (ok).
  The remainder of a number by quarter turns, plain: bounds. Conditions: the number's absolute value is at most 2^32; the working precision is from 64 to 192.
  Roots of numbers on a grid, plain; what package number returns for them. Conditions: the number is not large, the index from 2 to 8, the precision at most 256.
  What package number returns for roots on a grid: positive numbers. Conditions: the number is not large, the index from 2 to 8, the precision at most 256. (Printed by a program.)
  What package number returns for roots on a grid: negative numbers. Conditions: the number is not large, the index from 2 to 8, the precision at most 256. (Printed by a program.)
  What number.root returns, of any number. Conditions: the number is not large, the index from 2 to 8, the precision at most 256; no even root of a number below 0.
  Contracts of package number: roots rounded down and up. Conditions: the values are numbers of at most 2048 binary digits.
  What arcsine, asin and acos return. Conditions: the number's absolute value is at most 1, of at most 1024 binary digits; the precision is at most 128.
  What sine and cosine return. Conditions: the numbers' absolute values are at most 1, of at most 2048 binary digits; the working precision is from 20 to 200.
  What modulo, rest and both return. Conditions: the number's absolute value is at most 2^32, of at most 1024 binary digits; the working precision is from 64 to 192.
  What both, sin and cos return. Conditions: the number's absolute value is at most 2^32, of at most 1024 binary digits; the precision is at most 128.
-/
import Derived.Test.YtigakdgaimfnhaaGreatDoorKc7d040PkF
import Derived.Test.YtigakdgaimfnhaaGreatDoorKa2a7cdPkK
import Derived.Test.YtigakdgaimfnhaaGreatDoorKc52af3PkH
set_option linter.unusedVariables false
set_option linter.unusedSimpArgs false
namespace Go.Q
open Go.Proofs
set_option maxRecDepth 100000
set_option maxHeartbeats 8000000
theorem N32.len0y {h : PH} {a : Option Addr} {l c n : Nat} (r : N32 h (.slice a l c) n) : l = 0 ↔ n = 0 := by
  obtain ⟨a', c', e, _⟩ := r
  cases e
  exact W_len0 (by decide)
theorem Cn.parts {h : PH} {v : Value} {x : Rat} (r : Cn h v x) : ∃ na nl nc da dl dc, v = .agg #[.bool (decide (x.num < 0)), .slice na nl nc, .slice da dl dc] ∧ N32 h (.slice na nl nc) x.num.natAbs ∧ N32 h (.slice da dl dc) (if x.den = 1 then 0 else x.den) ∧ (nl = 0 ↔ x = 0) ∧ (dl = 0 ↔ x.den = 1) := by
  obtain ⟨sn, sd, rfl, h1, h2⟩ := r
  obtain ⟨na, nl, nc, rfl, h1⟩ := h1.sl
  obtain ⟨da, dl, dc, rfl, h2⟩ := h2.sl
  refine ⟨_, _, _, _, _, _, rfl, h1, h2, ?_, ?_⟩
  · rw [h1.len0y, Int.natAbs_eq_zero, Rat.num_eq_zero]
  · rw [h2.len0y]
    have := x.den_nz
    split <;> omega
theorem EWhole_spec {h0 h : PH} [Le h0 h] {v : Value} {x : Rat} (hx : Cn h0 v x) : Spec mach 75 #[v] h (fun v h' => N32 h' v x.den) NP := by
  obtain ⟨na, nl, nc, da, dl, dc, rfl, hn, hd, e1, e2⟩ := hx.parts
  by_cases h1 : x.den = 1
  · have e3 : ((dl : Int) == 0) = true := by simp [e2.2 h1]
    rw [h1]
    refine Spec.go [] Tryz.func75 rfl rfl (by kernel_rfl) fun C _ => ?_
    simp (maxSteps := 999999) (disch := omega) only [go_sem, Nat.reduceBEq, Nat.reduceAdd, e3]
    refine caN (by exact Small_spec (n := 1) (by decide)) ?_; rintro _ g1 _ q1; obtain ⟨v1, _, _, rfl, q1⟩ := q1.sl
    simp (maxSteps := 999999) (disch := omega) only [go_sem, Nat.reduceBEq, Nat.reduceAdd]
    exact q1
  · have e3 : ((dl : Int) == 0) = false := by have := mt e2.1 h1; simp; omega
    rw [if_neg h1] at hd
    refine Spec.go [] Tryz.func75 rfl rfl (by kernel_rfl) fun C _ => ?_
    simp (maxSteps := 999999) (disch := omega) only [go_sem, Nat.reduceBEq, Nat.reduceAdd, e3]
    exact hd.to
theorem EIsOne_spec {h0 h : PH} [Le h0 h] {v : Value} {x : Rat} (hx : Cn h0 v x) : Spec mach 95 #[v] h (fun v _ => v = .bool (decide (x = 1))) NP := by
  obtain ⟨na, nl, nc, da, dl, dc, rfl, hn, hd, e1, e2⟩ := hx.parts
  have kO := fun {h} [Le h0 h] => Of_any (h := h) hn
  have e4 : x = 1 ↔ ¬ x.num < 0 ∧ x.den = 1 ∧ x.num.natAbs = 1 := by
    constructor
    · rintro rfl; decide
    · rintro ⟨k1, k2, k3⟩
      apply Rat.ext
      · show x.num = 1; omega
      · show x.den = 1; exact k2
  cases hs : decide (x.num < 0) with
  | true =>
    have hs' := of_decide_eq_true hs
    rw [decide_eq_false (fun k => (e4.1 k).1 hs')]
    refine Spec.go [] Tryz.func95 rfl rfl (by kernel_rfl) fun C _ => ?_
    simp (maxSteps := 999999) (disch := omega) only [go_sem, Nat.reduceBEq, Nat.reduceAdd]
  | false =>
    have hs' := of_decide_eq_false hs
    by_cases h1 : x.den = 1
    · have e3 : ((dl : Int) == 0) = true := by simp [e2.2 h1]
      rw [show decide (x = 1) = decide (x.num.natAbs = 1) by simp only [e4, h1, hs', true_and, not_false_eq_true]]
      refine Spec.go [] Tryz.func95 rfl rfl (by kernel_rfl) fun C _ => ?_
      simp (maxSteps := 999999) (disch := omega) only [go_sem, Nat.reduceBEq, Nat.reduceAdd, e3]
      refine caN (by exact kO) ?_; rintro _ g1 _ q1; obtain ⟨v1, _, _, rfl, q1⟩ := q1.sl
      simp (maxSteps := 999999) (disch := omega) only [go_sem, Nat.reduceBEq, Nat.reduceAdd]
      refine caN (by exact One_spec q1) ?_; rintro v2 h2 s2 rfl
      simp (maxSteps := 999999) (disch := omega) only [go_sem, Nat.reduceBEq, Nat.reduceAdd]
    · have e3 : ((dl : Int) == 0) = false := by have := mt e2.1 h1; simp; omega
      rw [decide_eq_false (fun k => h1 (e4.1 k).2.1)]
      refine Spec.go [] Tryz.func95 rfl rfl (by kernel_rfl) fun C _ => ?_
      simp (maxSteps := 999999) (disch := omega) only [go_sem, Nat.reduceBEq, Nat.reduceAdd, e3]
def defB (fn : Int) (x : Rat) : Bool := if fn = 2 then decide (0 < x) else if fn = 6 ∨ fn = 7 then decide (x.num.natAbs ≤ x.den) else true
theorem EDefined_spec {h0 h : PH} [Le h0 h] {v : Value} {x : Rat} {fn : Int} (hx : Cn h0 v x) : Spec mach 92 #[.int .i64 fn, v] h (fun v _ => v = .bool (defB fn x)) NP := by
  have kW := fun {h} [Le h0 h] => EWhole_spec (h := h) hx
  obtain ⟨na, nl, nc, da, dl, dc, rfl, hn, hd, e1, e2⟩ := hx.parts
  have kO := fun {h} [Le h0 h] => Of_any (h := h) hn
  unfold defB
  by_cases h2 : fn = 2
  · subst h2
    rw [if_pos rfl]
    cases hs : decide (x.num < 0) with
    | true =>
      have hs' := of_decide_eq_true hs
      rw [decide_eq_false (show ¬ 0 < x by rw [num_neg] at hs'; grind)]
      refine Spec.go [(6, .o [0, 1, 3, 2, 4, 5, 6, 7])] Tryz.func92 rfl rfl (by kernel_rfl) fun C _ => ?_
      simp (maxSteps := 999999) (disch := omega) only [go_sem, Nat.reduceBEq, Nat.reduceAdd]
    | false =>
      have hs' := of_decide_eq_false hs
      rw [num_neg] at hs'
      by_cases h0' : x = 0
      · have e3 : decide ((nl : Int) > 0) = false := decide_eq_false (by have := e1.2 h0'; omega)
        rw [decide_eq_false (show ¬ 0 < x by grind)]
        refine Spec.go [(6, .o [0, 1, 3, 2, 4, 5, 6, 7])] Tryz.func92 rfl rfl (by kernel_rfl) fun C _ => ?_
        simp (maxSteps := 999999) (disch := omega) only [go_sem, Nat.reduceBEq, Nat.reduceAdd, e3]
      · have e3 : decide ((nl : Int) > 0) = true := decide_eq_true (by have := mt e1.1 h0'; omega)
        rw [decide_eq_true (show 0 < x by grind)]
        refine Spec.go [(6, .o [0, 1, 3, 2, 4, 5, 6, 7])] Tryz.func92 rfl rfl (by kernel_rfl) fun C _ => ?_
        simp (maxSteps := 999999) (disch := omega) only [go_sem, Nat.reduceBEq, Nat.reduceAdd, e3]
  · have f2 : (fn == 2) = false := by simpa using h2
    rw [if_neg h2]
    by_cases h6 : fn = 6 ∨ fn = 7
    · rw [if_pos h6]
      have e5 : decide (cmp3 x.num.natAbs x.den ≤ 0) = decide (x.num.natAbs ≤ x.den) := by unfold cmp3; grind
      rcases h6 with rfl | rfl
      all_goals
        refine Spec.go [(6, .o [0, 1, 3, 2, 4, 5, 6, 7])] Tryz.func92 rfl rfl (by kernel_rfl) fun C _ => ?_
        simp (maxSteps := 999999) (disch := omega) only [go_sem, Nat.reduceBEq, Nat.reduceAdd]
        refine caN (by exact kO) ?_; rintro _ g1 _ q1; obtain ⟨v1, _, _, rfl, q1⟩ := q1.sl
        simp (maxSteps := 999999) (disch := omega) only [go_sem, Nat.reduceBEq, Nat.reduceAdd]
        refine caN (by exact kW) ?_; rintro _ g2 _ q2; obtain ⟨v2, _, _, rfl, q2⟩ := q2.sl
        simp (maxSteps := 999999) (disch := omega) only [go_sem, Nat.reduceBEq, Nat.reduceAdd]
        refine caN (by exact Cmp_spec (q1.to (h' := g2)) q2) ?_; rintro v3 h3 s3 rfl
        simp (maxSteps := 999999) (disch := omega) only [go_sem, Nat.reduceBEq, Nat.reduceAdd, e5]
    · have f6 : (fn == 6) = false := by simp; omega
      have f7 : (fn == 7) = false := by simp; omega
      rw [if_neg h6]
      refine Spec.go [(6, .o [0, 1, 3, 2, 4, 5, 6, 7])] Tryz.func92 rfl rfl (by kernel_rfl) fun C _ => ?_
      simp (maxSteps := 999999) (disch := omega) only [go_sem, Nat.reduceBEq, Nat.reduceAdd, f2, f6, f7]
def exB (fn : Int) (x : Rat) : Bool := if fn = 2 ∨ fn = 7 then decide (x = 1) else decide (x = 0)
def exV (fn : Int) (x : Rat) : Rat := if (fn = 1 ∨ fn = 4) ∧ x = 0 then 1 else 0
theorem EExact_spec {h0 h : PH} [Le h0 h] {v : Value} {x : Rat} {fn : Int} (hx : Cn h0 v x) : Spec mach 67 #[.int .i64 fn, v] h (fun r h' => ∃ b na nl nc da dl dc, r = .tuple #[.agg #[.bool b, .slice na nl nc, .slice da dl dc], .bool (exB fn x)] ∧ Cn h' (.agg #[.bool b, .slice na nl nc, .slice da dl dc]) (exV fn x)) NP := by
  have kI := fun {h} [Le h0 h] => EIsOne_spec (h := h) hx
  obtain ⟨na, nl, nc, da, dl, dc, rfl, hn, hd, e1, e2⟩ := hx.parts
  have e3 : ((nl : Int) == 0) = decide (x = 0) := by
    rw [Bool.eq_iff_iff]; simp only [beq_iff_eq, decide_eq_true_eq, ← e1]; omega
  unfold exB exV
  by_cases h14 : fn = 1 ∨ fn = 4
  · rw [if_neg (show ¬ (fn = 2 ∨ fn = 7) by omega)]
    by_cases hz : x = 0
    · rw [decide_eq_true hz] at e3
      rw [if_pos ⟨h14, hz⟩, decide_eq_true hz]
      rcases h14 with rfl | rfl
      all_goals
        refine Spec.go [(2, .y (.a 0 (.a 1 (.a 2 (.a 3 (.a 4 (.a 5 (.a 6 .d .n) .n) (.a 5 (.a 4 (.a 6 .d .n) .n) .n)) (.a 5 (.a 3 (.a 4 (.a 6 .d .n) .n) .n) .n)) (.a 5 (.a 2 (.a 3 (.a 4 (.a 6 .d .n) .n) .n) .n) .n)) (.a 5 (.a 1 (.a 2 (.a 3 (.a 4 (.a 6 .d .n) .n) .n) .n) .n) .n)) (.a 1 (.a 0 (.a 2 (.a 3 (.a 4 (.a 5 (.a 6 .d .n) .n) (.a 5 (.a 4 (.a 6 .d .n) .n) .n)) (.a 5 (.a 3 (.a 4 (.a 6 .d .n) .n) .n) .n)) (.a 5 (.a 2 (.a 3 (.a 4 (.a 6 .d .n) .n) .n) .n) .n)) (.a 2 (.a 0 (.a 3 (.a 4 (.a 5 (.a 6 .d .n) .n) (.a 5 (.a 4 (.a 6 .d .n) .n) .n)) (.a 5 (.a 3 (.a 4 (.a 6 .d .n) .n) .n) .n)) (.a 3 (.a 0 (.a 4 (.a 5 (.a 6 .d .n) .n) (.a 5 (.a 4 (.a 6 .d .n) .n) .n)) (.a 4 (.a 0 (.a 5 (.a 6 .d .n) .n) .n) .n)) .n)) .n)) .n)))] Tryz.func67 rfl rfl (by kernel_rfl) fun C _ => ?_
        simp (maxSteps := 999999) (disch := omega) only [go_sem, Nat.reduceBEq, Nat.reduceAdd, e3]
        refine caN (by exact FromInt_spec (n := 1) (by decide) (by decide)) ?_; rintro v1 h1 s1 c; obtain ⟨_, _, _, _, _, _, _, rfl, c⟩ := c.sa
        simp (maxSteps := 999999) (disch := omega) only [go_sem, Nat.reduceBEq, Nat.reduceAdd]
        exact ⟨_, _, _, _, _, _, _, rfl, c⟩
    · rw [decide_eq_false hz] at e3
      rw [if_neg (fun k => hz k.2), decide_eq_false hz]
      rcases h14 with rfl | rfl
      all_goals
        refine Spec.go [(2, .y (.a 0 (.a 1 (.a 2 (.a 3 (.a 4 (.a 5 (.a 6 .d .n) .n) (.a 5 (.a 4 (.a 6 .d .n) .n) .n)) (.a 5 (.a 3 (.a 4 (.a 6 .d .n) .n) .n) .n)) (.a 5 (.a 2 (.a 3 (.a 4 (.a 6 .d .n) .n) .n) .n) .n)) (.a 5 (.a 1 (.a 2 (.a 3 (.a 4 (.a 6 .d .n) .n) .n) .n) .n) .n)) (.a 1 (.a 0 (.a 2 (.a 3 (.a 4 (.a 5 (.a 6 .d .n) .n) (.a 5 (.a 4 (.a 6 .d .n) .n) .n)) (.a 5 (.a 3 (.a 4 (.a 6 .d .n) .n) .n) .n)) (.a 5 (.a 2 (.a 3 (.a 4 (.a 6 .d .n) .n) .n) .n) .n)) (.a 2 (.a 0 (.a 3 (.a 4 (.a 5 (.a 6 .d .n) .n) (.a 5 (.a 4 (.a 6 .d .n) .n) .n)) (.a 5 (.a 3 (.a 4 (.a 6 .d .n) .n) .n) .n)) (.a 3 (.a 0 (.a 4 (.a 5 (.a 6 .d .n) .n) (.a 5 (.a 4 (.a 6 .d .n) .n) .n)) (.a 4 (.a 0 (.a 5 (.a 6 .d .n) .n) .n) .n)) .n)) .n)) .n)))] Tryz.func67 rfl rfl (by kernel_rfl) fun C _ => ?_
        simp (maxSteps := 999999) (disch := omega) only [go_sem, Nat.reduceBEq, Nat.reduceAdd, e3]
        exact ⟨_, _, _, _, _, _, _, rfl, Cn.nul _⟩
  · rw [if_neg (show ¬ ((fn = 1 ∨ fn = 4) ∧ x = 0) from fun k => h14 k.1)]
    by_cases h27 : fn = 2 ∨ fn = 7
    · rw [if_pos h27]
      rcases h27 with rfl | rfl
      all_goals
        refine Spec.go [(2, .y (.a 0 (.a 1 (.a 2 (.a 3 (.a 4 (.a 5 (.a 6 .d .n) .n) (.a 5 (.a 4 (.a 6 .d .n) .n) .n)) (.a 5 (.a 3 (.a 4 (.a 6 .d .n) .n) .n) .n)) (.a 5 (.a 2 (.a 3 (.a 4 (.a 6 .d .n) .n) .n) .n) .n)) (.a 5 (.a 1 (.a 2 (.a 3 (.a 4 (.a 6 .d .n) .n) .n) .n) .n) .n)) (.a 1 (.a 0 (.a 2 (.a 3 (.a 4 (.a 5 (.a 6 .d .n) .n) (.a 5 (.a 4 (.a 6 .d .n) .n) .n)) (.a 5 (.a 3 (.a 4 (.a 6 .d .n) .n) .n) .n)) (.a 5 (.a 2 (.a 3 (.a 4 (.a 6 .d .n) .n) .n) .n) .n)) (.a 2 (.a 0 (.a 3 (.a 4 (.a 5 (.a 6 .d .n) .n) (.a 5 (.a 4 (.a 6 .d .n) .n) .n)) (.a 5 (.a 3 (.a 4 (.a 6 .d .n) .n) .n) .n)) (.a 3 (.a 0 (.a 4 (.a 5 (.a 6 .d .n) .n) (.a 5 (.a 4 (.a 6 .d .n) .n) .n)) (.a 4 (.a 0 (.a 5 (.a 6 .d .n) .n) .n) .n)) .n)) .n)) .n)))] Tryz.func67 rfl rfl (by kernel_rfl) fun C _ => ?_
        simp (maxSteps := 999999) (disch := omega) only [go_sem, Nat.reduceBEq, Nat.reduceAdd]
        refine caN (by exact kI) ?_; rintro v1 h1 s1 rfl
        simp (maxSteps := 999999) (disch := omega) only [go_sem, Nat.reduceBEq, Nat.reduceAdd]
        exact ⟨_, _, _, _, _, _, _, rfl, Cn.nul _⟩
    · rw [if_neg h27]
      have f1 : (fn == 1) = false := by simp; omega
      have f2 : (fn == 2) = false := by simp; omega
      have f4 : (fn == 4) = false := by simp; omega
      have f7 : (fn == 7) = false := by simp; omega
      refine Spec.go [(2, .y (.a 0 (.a 1 (.a 2 (.a 3 (.a 4 (.a 5 (.a 6 .d .n) .n) (.a 5 (.a 4 (.a 6 .d .n) .n) .n)) (.a 5 (.a 3 (.a 4 (.a 6 .d .n) .n) .n) .n)) (.a 5 (.a 2 (.a 3 (.a 4 (.a 6 .d .n) .n) .n) .n) .n)) (.a 5 (.a 1 (.a 2 (.a 3 (.a 4 (.a 6 .d .n) .n) .n) .n) .n) .n)) (.a 1 (.a 0 (.a 2 (.a 3 (.a 4 (.a 5 (.a 6 .d .n) .n) (.a 5 (.a 4 (.a 6 .d .n) .n) .n)) (.a 5 (.a 3 (.a 4 (.a 6 .d .n) .n) .n) .n)) (.a 5 (.a 2 (.a 3 (.a 4 (.a 6 .d .n) .n) .n) .n) .n)) (.a 2 (.a 0 (.a 3 (.a 4 (.a 5 (.a 6 .d .n) .n) (.a 5 (.a 4 (.a 6 .d .n) .n) .n)) (.a 5 (.a 3 (.a 4 (.a 6 .d .n) .n) .n) .n)) (.a 3 (.a 0 (.a 4 (.a 5 (.a 6 .d .n) .n) (.a 5 (.a 4 (.a 6 .d .n) .n) .n)) (.a 4 (.a 0 (.a 5 (.a 6 .d .n) .n) .n) .n)) .n)) .n)) .n)))] Tryz.func67 rfl rfl (by kernel_rfl) fun C _ => ?_
      simp (maxSteps := 999999) (disch := omega) only [go_sem, Nat.reduceBEq, Nat.reduceAdd, f1, f2, f4, f7, e3, and_self]
      exact ⟨_, _, _, _, _, _, _, rfl, Cn.nul _⟩
theorem EKnown_ok {h0 h : PH} [Le h0 h] {v : Value} {x : Rat} {fn : Int} (hx : Rv h0 v x) (hf : 1 ≤ fn ∧ fn ≤ 8) : Spec mach 49 #[.int .i64 fn, v] h (fun r h' => ∃ b na nl nc da dl dc, r = .tuple #[.agg #[.bool b, .slice na nl nc, .slice da dl dc], .int .i64 0] ∧ Cn h' (.agg #[.bool b, .slice na nl nc, .slice da dl dc]) x) NP := by
  have kC := fun {h} [Le h0 h] => NumCanon (h := h) hx
  obtain ⟨_, _, _, _, _, _, _, rfl, _⟩ := hx.sa
  refine Spec.go [] Tryz.func49 rfl rfl (by kernel_rfl) fun C _ => ?_
  simp (maxSteps := 999999) (disch := omega) only [go_sem, Nat.reduceBEq, Nat.reduceAdd]
  refine caN (by exact kC) ?_; rintro v1 h1 s1 ⟨_, _, _, _, _, _, _, rfl, c⟩
  simp (maxSteps := 999999) (disch := omega) only [go_sem, Nat.reduceBEq, Nat.reduceAdd]
  exact ⟨_, _, _, _, _, _, _, rfl, c⟩
theorem EKnown_arg {h0 h : PH} [Le h0 h] {v : Value} {x : Rat} {fn : Int} (hx : Rv h0 v x) (hf : ¬ (1 ≤ fn ∧ fn ≤ 8)) : Spec mach 49 #[.int .i64 fn, v] h (fun r _ => r = .tuple #[.agg #[.bool false, .slice none 0 0, .slice none 0 0], .int .i64 2]) NP := by
  have kC := fun {h} [Le h0 h] => NumCanon (h := h) hx
  obtain ⟨_, _, _, _, _, _, _, rfl, _⟩ := hx.sa
  rcases Int.lt_or_le fn 1 with h1 | h1
  all_goals
    refine Spec.go [] Tryz.func49 rfl rfl (by kernel_rfl) fun C _ => ?_
    simp (maxSteps := 999999) (disch := omega) only [go_sem, Nat.reduceBEq, Nat.reduceAdd]
    refine caN (by exact kC) ?_; rintro v1 h1 s1 ⟨_, _, _, _, _, _, _, rfl, c⟩
    simp (maxSteps := 999999) (disch := omega) only [go_sem, Nat.reduceBEq, Nat.reduceAdd]
    all_goals omega
theorem EKnown_no {h0 h : PH} [Le h0 h] {v : Value} {neg : Bool} {n d : Nat} {fn : Int} (hv : Rw h0 v neg n d) (hl : lg neg n d) : Spec mach 49 #[.int .i64 fn, v] h (fun r _ => r = .tuple #[.agg #[.bool false, .slice none 0 0, .slice none 0 0], .int .i64 1]) NP := by
  have kC := fun {h} [Le h0 h] => NumCanon_no (h := h) hv hl
  obtain ⟨_, _, _, _, _, _, _, rfl, _⟩ := hv.sa
  refine Spec.go [] Tryz.func49 rfl rfl (by kernel_rfl) fun C _ => ?_
  simp (maxSteps := 999999) (disch := omega) only [go_sem, Nat.reduceBEq, Nat.reduceAdd]
  refine caN (by exact kC) ?_; rintro v1 h1 s1 rfl
  simp (maxSteps := 999999) (disch := omega) only [go_sem, Nat.reduceBEq, Nat.reduceAdd]
  all_goals omega
end Go.Q
namespace Go.Q
open Go.Proofs
set_option maxRecDepth 100000
set_option maxHeartbeats 8000000
def eLo (w y : Nat) : Nat → Nat
  | 0 => 2 ^ w
  | k + 1 => 2 ^ w + y * eLo w y k / 2 ^ (w + 8) / (40 - k)
def eHi (w y : Nat) : Nat → Nat
  | 0 => 2 ^ w * 2 ^ 1
  | k + 1 => 2 ^ w + cdiv (cdiv (y * eHi w y k) (2 ^ (w + 8))) (40 - k)
def qLo (w a : Nat) : Nat → Nat
  | 0 => a
  | k + 1 => qLo w a k * qLo w a k / 2 ^ w
def qHi (w a : Nat) : Nat → Nat
  | 0 => a
  | k + 1 => cdiv (qHi w a k * qHi w a k) (2 ^ w)
theorem eLo_0 (w y : Nat) : eLo w y 0 = 2 ^ w := rfl
theorem eLo_s (w y k : Nat) : eLo w y (k + 1) = 2 ^ w + y * eLo w y k / 2 ^ (w + 8) / (40 - k) := rfl
theorem eHi_0 (w y : Nat) : eHi w y 0 = 2 ^ w * 2 ^ 1 := rfl
theorem eHi_s (w y k : Nat) : eHi w y (k + 1) = 2 ^ w + cdiv (cdiv (y * eHi w y k) (2 ^ (w + 8))) (40 - k) := rfl
theorem qLo_0 (w a : Nat) : qLo w a 0 = a := rfl
theorem qLo_s (w a k : Nat) : qLo w a (k + 1) = qLo w a k * qLo w a k / 2 ^ w := rfl
theorem qHi_0 (w a : Nat) : qHi w a 0 = a := rfl
theorem qHi_s (w a k : Nat) : qHi w a (k + 1) = cdiv (qHi w a k * qHi w a k) (2 ^ w) := rfl
theorem bl_qLo (w a k : Nat) : bl (qLo w a k) ≤ 2 ^ k * (bl a + 1) := by
  induction k with
  | zero => show bl a ≤ _; omega
  | succ k ih =>
    have h1 := bl_div_le (qLo w a k * qLo w a k) (2 ^ w)
    have h2 := bl_mul (qLo w a k) (qLo w a k)
    rw [Nat.pow_succ]
    show bl (qLo w a k * qLo w a k / 2 ^ w) ≤ _
    have : 2 ^ k * 2 * (bl a + 1) = 2 * (2 ^ k * (bl a + 1)) := by rw [Nat.mul_comm (2 ^ k) 2, Nat.mul_assoc]
    omega
theorem bl_qHi (w a k : Nat) : bl (qHi w a k) + 1 ≤ 2 ^ k * (bl a + 1) := by
  induction k with
  | zero => show bl a + 1 ≤ _; omega
  | succ k ih =>
    have h1 := bl_cdiv (qHi w a k * qHi w a k) (pow2_ne w)
    have h2 := bl_mul (qHi w a k) (qHi w a k)
    rw [Nat.pow_succ]
    show bl (cdiv (qHi w a k * qHi w a k) (2 ^ w)) + 1 ≤ _
    have : 2 ^ k * 2 * (bl a + 1) = 2 * (2 ^ k * (bl a + 1)) := by rw [Nat.mul_comm (2 ^ k) 2, Nat.mul_assoc]
    omega
theorem TooLong_spec {h0 h : PH} [Le h0 h] {v : Value} {x : Rat} (hx : Cn h0 v x) : Spec mach 93 #[v] h (fun v _ => v = .bool (decide (1024 < sz x))) NP := by
  have kW := fun {h} [Le h0 h] => EWhole_spec (h := h) hx
  obtain ⟨na, nl, nc, da, dl, dc, rfl, hn, hd, e1, e2⟩ := hx.parts
  have kO := fun {h} [Le h0 h] => Of_any (h := h) hn
  have e3 : decide ((if (bl x.den : Int) > (bl x.num.natAbs : Int) then (bl x.den : Int) else (bl x.num.natAbs : Int)) > 1024) = decide (1024 < sz x) := by
    unfold sz
    split <;> congr 1 <;> simp only [eq_iff_iff] <;> omega
  refine Spec.go [(1, .o [0, 1, 4, 2, 3, 5, 6, 7, 8, 9])] Tryz.func93 rfl rfl (by kernel_rfl) fun C _ => ?_
  try simp (disch := omega) only [go_sem, Nat.reduceBEq, Nat.reduceAdd]
  refine caN (by exact kO) ?_; rintro _ g1 _ q1; obtain ⟨_, _, _, rfl, q1⟩ := q1.sl
  try simp (disch := omega) only [go_sem, Nat.reduceBEq, Nat.reduceAdd]
  refine caN (by exact Bits_spec q1) ?_; rintro v2 h2 s2 rfl
  try simp (disch := omega) only [go_sem, Nat.reduceBEq, Nat.reduceAdd]
  refine caN (by exact kW) ?_; rintro _ g3 _ q3; obtain ⟨v3, _, _, rfl, q3⟩ := q3.sl
  try simp (disch := omega) only [go_sem, Nat.reduceBEq, Nat.reduceAdd]
  refine caN (by exact Bits_spec q3) ?_; rintro v4 h4 s4 rfl
  try simp (disch := omega) only [go_sem, Nat.reduceBEq, Nat.reduceAdd, e3]
theorem Beyond_spec {h0 h : PH} [Le h0 h] {v : Value} {x : Rat} {n : Nat} (hx : Cn h0 v x) (bx : sz x ≤ 2 ^ 20) (hn : n < 2 ^ 64) : Spec mach 85 #[v, .int .u64 n] h (fun v _ => v = .bool (decide (x.den * n < x.num.natAbs))) NP := by
  have b2 := sz_den x
  have b3 : bl n ≤ 64 := bl_le.2 hn
  have kW := fun {h} [Le h0 h] => EWhole_spec (h := h) hx
  obtain ⟨na, nl, nc, da, dl, dc, rfl, hn', hd, e1, e2⟩ := hx.parts
  have kO := fun {h} [Le h0 h] => Of_any (h := h) hn'
  have e3 : decide (cmp3 x.num.natAbs (x.den * n) > 0) = decide (x.den * n < x.num.natAbs) := by unfold cmp3; grind
  refine Spec.go [(1, .o [0, 1, 3, 5, 2, 4, 6, 7, 8, 9, 10])] Tryz.func85 rfl rfl (by kernel_rfl) fun C _ => ?_
  try simp (disch := omega) only [go_sem, Nat.reduceBEq, Nat.reduceAdd]
  refine caN (by exact kO) ?_; rintro _ g1 _ q1; obtain ⟨_, _, _, rfl, q1⟩ := q1.sl
  try simp (disch := omega) only [go_sem, Nat.reduceBEq, Nat.reduceAdd]
  refine caN (by exact kW) ?_; rintro _ g2 _ q2; obtain ⟨v2, _, _, rfl, q2⟩ := q2.sl
  try simp (disch := omega) only [go_sem, Nat.reduceBEq, Nat.reduceAdd]
  refine caN (by exact Small_spec (n := n) hn) ?_; rintro _ g3 _ q3; obtain ⟨v3, _, _, rfl, q3⟩ := q3.sl
  try simp (disch := omega) only [go_sem, Nat.reduceBEq, Nat.reduceAdd]
  refine caN (by exact Mul_spec (q2.to (h' := g3)) q3 (by omega) (by omega)) ?_; rintro _ g4 _ q4; obtain ⟨v4, _, _, rfl, q4⟩ := q4.sl
  try simp (disch := omega) only [go_sem, Nat.reduceBEq, Nat.reduceAdd]
  refine caN (by exact Cmp_spec (q1.to (h' := g4)) q4) ?_; rintro v5 h5 s5 rfl
  try simp (disch := omega) only [go_sem, Nat.reduceBEq, Nat.reduceAdd, e3]
end Go.Q
namespace Go.Q
open Go.Proofs
set_option maxRecDepth 100000
structure Hid (p : Prop) : Prop where
  out : p
theorem Le.trn {a b c : PH} (x : Le a b) (y : Le b c) : Le a c := ⟨x.sub.trans y.sub⟩
@[go_sem] theorem uw_get1 (d : Nat) : (uw [d])[0]? = some (.int .u32 (d : Nat)) := rfl
theorem cdiv_le_iff {a d c : Nat} (hd : d ≠ 0) : cdiv a d ≤ c ↔ a ≤ d * c := by
  unfold cdiv
  rw [Nat.div_le_iff_le_mul_add_pred (Nat.pos_of_ne_zero hd)]
  omega
def arcV (w s t : Nat) : Bool → Nat → Nat
  | false, 0 => (2 ^ w * 81 - t * 79) / (79 * 81)
  | true, 0 => cdiv (2 ^ w) 79
  | false, j + 1 => (2 ^ w * 2 ^ w - t * arcV w s t true j * (77 - 2 * j)) / ((77 - 2 * j) * 2 ^ w)
  | true, j + 1 => cdiv (2 ^ w * 2 ^ w - s * arcV w s t false j * (77 - 2 * j)) ((77 - 2 * j) * 2 ^ w)
def sqL (a w : Nat) : Nat := a * a / 2 ^ w
def sqH (b w : Nat) : Nat := cdiv (b * b) (2 ^ w)
def arcL (a b w : Nat) : Nat := a * arcV w (sqL a w) (sqH b w) false 39 / 2 ^ w
def arcH (a b w : Nat) : Nat := cdiv (b * arcV w (sqL a w) (sqH b w) true 39) (2 ^ w)
theorem sqL_le {a w : Nat} (h : a ≤ 2 ^ w) : sqL a w ≤ 2 ^ w := by
  unfold sqL
  exact Nat.div_le_of_le_mul (Nat.mul_le_mul h h)
theorem sqH_le {a w : Nat} (h : a ≤ 2 ^ w) : sqH a w ≤ 2 ^ w := by
  unfold sqH
  exact (cdiv_le_iff (pow2_ne w)).2 (Nat.mul_le_mul h h)
theorem mul_div_mul {a k b : Nat} (hb : b ≠ 0) : a * b / (k * b) = a / k := Nat.mul_div_mul_right _ _ (Nat.pos_of_ne_zero hb)
theorem arcV_le {w s t : Nat} : ∀ {j : Nat}, j ≤ 39 → arcV w s t true j ≤ 2 ^ w / (79 - 2 * j) + 1 ∧ arcV w s t false j ≤ 2 ^ w / (79 - 2 * j)
  | 0, _ => by
    refine ⟨cdiv_le (by decide), ?_⟩
    show (2 ^ w * 81 - t * 79) / (79 * 81) ≤ 2 ^ w / 79
    rw [← mul_div_mul (a := 2 ^ w) (k := 79) (b := 81) (by decide)]
    exact Nat.div_le_div_right (Nat.sub_le _ _)
  | j + 1, h => by
    have e : 79 - 2 * (j + 1) = 77 - 2 * j := by omega
    have hk : (77 - 2 * j) * 2 ^ w ≠ 0 := Nat.mul_ne_zero (by omega) (pow2_ne w)
    have em : 2 ^ w * 2 ^ w / ((77 - 2 * j) * 2 ^ w) = 2 ^ w / (77 - 2 * j) := mul_div_mul (pow2_ne w)
    rw [e]
    constructor
    · refine Nat.le_trans (cdiv_le hk) ?_
      rw [← em]
      exact Nat.add_le_add_right (Nat.div_le_div_right (Nat.sub_le _ _)) 1
    · rw [← em]
      exact Nat.div_le_div_right (Nat.sub_le _ _)
theorem arcV_top {w s t j : Nat} {c : Bool} (hj : j ≤ 39) : arcV w s t c j ≤ 2 ^ w + 1 := by
  obtain ⟨h1, h2⟩ := arcV_le (w := w) (s := s) (t := t) hj
  have := Nat.div_le_self (2 ^ w) (79 - 2 * j)
  cases c <;> omega
theorem bl_pow_le {n w : Nat} (h : n ≤ 2 ^ w + 1) : bl n ≤ w + 2 := by
  refine bl_le.2 ?_
  have : 2 ^ (w + 2) = 4 * 2 ^ w := by rw [Nat.pow_add]; omega
  have := Nat.pow_pos (n := w) (show 0 < 2 by decide)
  omega
theorem arcL_le {a b w : Nat} (ha : a ≤ 2 ^ w) : arcL a b w ≤ 2 ^ w + 1 := by
  unfold arcL
  exact Nat.div_le_of_le_mul (Nat.mul_le_mul ha (arcV_top (by decide)))
theorem arcH_le {a b w : Nat} (hb : b ≤ 2 ^ w) : arcH a b w ≤ 2 ^ w + 1 := by
  unfold arcH
  exact (cdiv_le_iff (pow2_ne w)).2 (Nat.mul_le_mul hb (arcV_top (by decide)))
def fifL (n w : Nat) : Nat := arcL (2 ^ w / n) (cdiv (2 ^ w) n) w
def fifH (n w : Nat) : Nat := arcH (2 ^ w / n) (cdiv (2 ^ w) n) w
def piL (w : Nat) : Nat := fifL 5 w * 2 ^ 4 - fifH 239 w * 2 ^ 2
def piH (w : Nat) : Nat := fifH 5 w * 2 ^ 4 - fifL 239 w * 2 ^ 2
theorem fif_le (n : Nat) {w : Nat} (hn : n ≠ 0) : 2 ^ w / n ≤ 2 ^ w ∧ cdiv (2 ^ w) n ≤ 2 ^ w := ⟨Nat.div_le_self _ _, (cdiv_le_iff hn).2 (by have := Nat.mul_le_mul_right (2 ^ w) (Nat.pos_of_ne_zero hn); omega)⟩
theorem bl_fif {n w : Nat} (hn : n ≠ 0) : bl (fifL n w) ≤ w + 2 ∧ bl (fifH n w) ≤ w + 2 := ⟨bl_pow_le (arcL_le (fif_le n hn).1), bl_pow_le (arcH_le (fif_le n hn).2)⟩
def piOk (w : Nat) : Bool := Nat.ble (fifH 239 w * 2 ^ 2 + 3 * 2 ^ w) (fifL 5 w * 2 ^ 4) && Nat.ble (fifL 239 w * 2 ^ 2 + 3 * 2 ^ w) (fifH 5 w * 2 ^ 4) && Nat.ble (piH w) (4 * 2 ^ w) && Nat.ble (piL w + 1) (piH w)
theorem piOk_all : ((List.range 161).all fun i => piOk (i + 32)) = true := by decide +kernel
theorem pi_sub {w : Nat} (h1 : 32 ≤ w) (h2 : w ≤ 192) : fifH 239 w * 2 ^ 2 + 3 * 2 ^ w ≤ fifL 5 w * 2 ^ 4 ∧ fifL 239 w * 2 ^ 2 + 3 * 2 ^ w ≤ fifH 5 w * 2 ^ 4 ∧ piH w ≤ 4 * 2 ^ w ∧ piL w < piH w := by
  have h := List.all_eq_true.1 piOk_all (w - 32) (List.mem_range.2 (by omega))
  rw [show w - 32 + 32 = w by omega] at h
  unfold piOk at h
  simp only [Bool.and_eq_true, Nat.ble_eq] at h
  omega
theorem piL_ge {w : Nat} (h1 : 32 ≤ w) (h2 : w ≤ 192) : 3 * 2 ^ w ≤ piL w ∧ piL w < piH w ∧ piH w ≤ 4 * 2 ^ w := by
  have := pi_sub h1 h2
  unfold piL at *
  omega
theorem bl_pi {w : Nat} : bl (piL w) ≤ w + 6 ∧ bl (piH w) ≤ w + 6 := by
  obtain ⟨h1, _⟩ := bl_fif (n := 5) (w := w) (by decide)
  obtain ⟨_, h2⟩ := bl_fif (n := 5) (w := w) (by decide)
  have h3 := bl_shl (fifL 5 w) 4
  have h4 := bl_shl (fifH 5 w) 4
  have h5 : bl (piL w) ≤ bl (fifL 5 w * 2 ^ 4) := bl_mono (Nat.sub_le _ _)
  have h6 : bl (piH w) ≤ bl (fifH 5 w * 2 ^ 4) := bl_mono (Nat.sub_le _ _)
  omega
end Go.Q
namespace Go.Q
open Go.Proofs
set_option maxRecDepth 100000
theorem two_pow_dbl (w : Nat) : 2 ^ (w + 1) = 2 * 2 ^ w := by rw [Nat.pow_succ]; omega
theorem eLo_step {w y k : Nat} (hy : y ≤ 64 * 2 ^ w) (_hk : k < 40) (h : eLo w y k ≤ 2 ^ (w + 1)) : eLo w y (k + 1) ≤ 2 ^ (w + 1) := by
  show 2 ^ w + y * eLo w y k / 2 ^ (w + 8) / (40 - k) ≤ 2 ^ (w + 1)
  have h1 : y * eLo w y k ≤ 64 * 2 ^ w * 2 ^ (w + 1) := Nat.mul_le_mul hy h
  have h2 : y * eLo w y k / 2 ^ (w + 8) ≤ 2 ^ w := by
    refine Nat.div_le_of_le_mul (Nat.le_trans h1 ?_)
    rw [show w + 8 = (w + 1) + 7 by omega, Nat.pow_add 2 (w + 1) 7, Nat.mul_comm (64 * 2 ^ w), Nat.mul_assoc (2 ^ (w + 1))]
    exact Nat.mul_le_mul_left _ (by have := Nat.pow_pos (n := w) (show 0 < 2 by decide); omega)
  have h3 := Nat.div_le_self (y * eLo w y k / 2 ^ (w + 8)) (40 - k)
  rw [two_pow_dbl w]
  omega
theorem eLo_le {w y : Nat} (hy : y ≤ 64 * 2 ^ w) : ∀ {k : Nat}, k < 40 → eLo w y k ≤ 2 ^ (w + 1) ∧ eLo w y (k + 1) ≤ 2 ^ (w + 1)
  | 0, _ => by
    have h0 : eLo w y 0 ≤ 2 ^ (w + 1) := by show 2 ^ w ≤ _; rw [two_pow_dbl w]; omega
    exact ⟨h0, eLo_step hy (by decide) h0⟩
  | k + 1, h => by
    have ih := (eLo_le hy (k := k) (by omega)).2
    exact ⟨ih, eLo_step hy h ih⟩
theorem eHi_le {w y : Nat} (hy : y ≤ 64 * 2 ^ w) : ∀ {k : Nat}, k ≤ 40 → eHi w y k ≤ 2 ^ (w + 1)
  | 0, _ => by show 2 ^ w * 2 ^ 1 ≤ _; rw [two_pow_dbl w]; omega
  | k + 1, h => by
    have ih := eHi_le hy (k := k) (by omega)
    show 2 ^ w + cdiv (cdiv (y * eHi w y k) (2 ^ (w + 8))) (40 - k) ≤ 2 ^ (w + 1)
    have h1 : y * eHi w y k ≤ 64 * 2 ^ w * 2 ^ (w + 1) := Nat.mul_le_mul hy ih
    have h2 : cdiv (y * eHi w y k) (2 ^ (w + 8)) ≤ 2 ^ w := by
      refine (cdiv_le_iff (pow2_ne _)).2 (Nat.le_trans h1 ?_)
      rw [show w + 8 = (w + 1) + 7 by omega, Nat.pow_add 2 (w + 1) 7, Nat.mul_comm (64 * 2 ^ w), Nat.mul_assoc (2 ^ (w + 1))]
      exact Nat.mul_le_mul_left _ (by have := Nat.pow_pos (n := w) (show 0 < 2 by decide); omega)
    have h3 : cdiv (cdiv (y * eHi w y k) (2 ^ (w + 8))) (40 - k) ≤ 2 ^ w := by
      refine (cdiv_le_iff (by omega)).2 (Nat.le_trans h2 ?_)
      exact Nat.le_mul_of_pos_left _ (by omega)
    rw [two_pow_dbl w]
    omega
theorem eLo_ge (w y : Nat) : ∀ k, 2 ^ w ≤ eLo w y k
  | 0 => Nat.le_refl _
  | _ + 1 => Nat.le_add_right _ _
theorem eHi_ge (w y : Nat) : ∀ k, 2 ^ w ≤ eHi w y k
  | 0 => by show 2 ^ w ≤ 2 ^ w * 2 ^ 1; omega
  | _ + 1 => Nat.le_add_right _ _
theorem qLo_ge {w a : Nat} (h : 2 ^ w ≤ a) : ∀ k, 2 ^ w ≤ qLo w a k
  | 0 => h
  | k + 1 => by
    have ih := qLo_ge h k
    show 2 ^ w ≤ qLo w a k * qLo w a k / 2 ^ w
    exact (Nat.le_div_iff_mul_le (Nat.pow_pos (by decide))).2 (Nat.mul_le_mul ih ih)
theorem le_cdiv (a : Nat) {d : Nat} (hd : d ≠ 0) : a / d ≤ cdiv a d := Nat.div_le_div_right (by omega)
theorem qHi_ge {w a : Nat} (h : 2 ^ w ≤ a) : ∀ k, 2 ^ w ≤ qHi w a k
  | 0 => h
  | k + 1 => by
    have ih := qHi_ge h k
    show 2 ^ w ≤ cdiv (qHi w a k * qHi w a k) (2 ^ w)
    exact Nat.le_trans ((Nat.le_div_iff_mul_le (Nat.pow_pos (by decide))).2 (Nat.mul_le_mul ih ih)) (le_cdiv _ (pow2_ne w))
theorem sq_pow (w k : Nat) : 2 ^ (w + 2 ^ k) * 2 ^ (w + 2 ^ k) = 2 ^ w * 2 ^ (w + 2 ^ (k + 1)) := by
  rw [← Nat.pow_add, ← Nat.pow_add, Nat.pow_succ]; congr 1; omega
theorem qLo_le {w a : Nat} (h : a ≤ 2 ^ (w + 1)) : ∀ k, qLo w a k ≤ 2 ^ (w + 2 ^ k)
  | 0 => h
  | k + 1 => by
    have ih := qLo_le h k
    show qLo w a k * qLo w a k / 2 ^ w ≤ _
    exact Nat.div_le_of_le_mul (Nat.le_trans (Nat.mul_le_mul ih ih) (Nat.le_of_eq (sq_pow w k)))
theorem qHi_le {w a : Nat} (h : a ≤ 2 ^ (w + 1)) : ∀ k, qHi w a k ≤ 2 ^ (w + 2 ^ k)
  | 0 => h
  | k + 1 => by
    have ih := qHi_le h k
    show cdiv (qHi w a k * qHi w a k) (2 ^ w) ≤ _
    exact (cdiv_le_iff (pow2_ne w)).2 (Nat.le_trans (Nat.mul_le_mul ih ih) (Nat.le_of_eq (sq_pow w k)))
def expL (x : Rat) (p : Nat) : Nat := qLo (p + 112) (eLo (p + 112) (glo x (p + 112)) 40) 8
def expH (x : Rat) (p : Nat) : Nat := qHi (p + 112) (eHi (p + 112) (ghi x (p + 112)) 40) 8
def expLo (x : Rat) (p : Nat) : Rat := if x.num < 0 then sgn false (2 ^ (p + 112 + p) / expH x p) (2 ^ p) else sgn false (expL x p / 2 ^ 112) (2 ^ p)
def expHi (x : Rat) (p : Nat) : Rat := if x.num < 0 then sgn false (cdiv (2 ^ (p + 112 + p)) (expL x p)) (2 ^ p) else sgn false (cdiv (expH x p) (2 ^ 112)) (2 ^ p)
theorem glo_le {x : Rat} {n w : Nat} (h : ¬ x.den * n < x.num.natAbs) : glo x w ≤ n * 2 ^ w ∧ ghi x w ≤ n * 2 ^ w := by
  have h1 : x.num.natAbs * 2 ^ w ≤ x.den * (n * 2 ^ w) := by
    rw [← Nat.mul_assoc]; exact Nat.mul_le_mul_right _ (by omega)
  exact ⟨Nat.div_le_of_le_mul h1, (cdiv_le_iff x.den_nz).2 h1⟩
theorem bl_pow' {n k : Nat} (h : n ≤ 2 ^ k) : bl n ≤ k + 1 := by
  refine bl_le.2 ?_
  have : 2 ^ (k + 1) = 2 * 2 ^ k := two_pow_dbl k
  have := Nat.pow_pos (n := k) (show 0 < 2 by decide)
  omega
theorem exp_fit {x : Rat} {p : Nat} (h : ¬ x.den * 64 < x.num.natAbs) : bl (expL x p) ≤ p + 369 ∧ bl (expH x p) ≤ p + 369 ∧ expL x p ≠ 0 ∧ expH x p ≠ 0 := by
  obtain ⟨h1, h2⟩ := glo_le (w := p + 112) h
  have hp := Nat.pow_pos (n := p + 112) (show 0 < 2 by decide)
  have g1 := qLo_ge (eLo_ge (p + 112) (glo x (p + 112)) 40) 8
  have g2 := qHi_ge (eHi_ge (p + 112) (ghi x (p + 112)) 40) 8
  refine ⟨bl_pow' (qLo_le (eLo_le h1 (k := 39) (by decide)).2 8), bl_pow' (qHi_le (eHi_le h2 (by decide)) 8), ?_, ?_⟩
  · unfold expL; omega
  · unfold expH; omega
end Go.Q
namespace Go.Q
open Go.Proofs
set_option maxRecDepth 100000
set_option maxHeartbeats 8000000
def Be (h : PH) (r : Value) (x y : Rat) : Prop := ∃ b1 a1 m1 c1 a2 m2 c2 b2 a3 m3 c3 a4 m4 c4, r = .tuple #[.agg #[.bool b1, .slice a1 m1 c1, .slice a2 m2 c2, .bool b2, .slice a3 m3 c3, .slice a4 m4 c4], .int .i64 0] ∧ Cn h (.agg #[.bool b1, .slice a1 m1 c1, .slice a2 m2 c2]) x ∧ Cn h (.agg #[.bool b2, .slice a3 m3 c3, .slice a4 m4 c4]) y
theorem bl_64 {n w : Nat} (h : n ≤ 64 * 2 ^ w) : bl n ≤ w + 7 := bl_pow' (k := w + 6) (by rw [Nat.pow_add]; omega)
theorem bl_cd {a k n : Nat} (h : bl a ≤ k) (hn : 1 ≤ n) : bl (cdiv a (2 ^ n)) ≤ k + 1 := Nat.le_trans (bl_cdiv a (pow2_ne n)) (by omega)
theorem EExp_spec {h0 h : PH} [Le h0 h] {v : Value} {x : Rat} {p : Nat} (hx : Cn h0 v x) (bx : sz x ≤ 1024) (hb : ¬ x.den * 64 < x.num.natAbs) (hp : p ≤ 128) : Spec mach 40 #[v, .int .i64 p] h (fun r h' => Be h' r (expLo x p) (expHi x p)) NP := by
  have kS := fun {h} [Le h0 h] => EScaled_spec (h := h) (w := p + 112) hx (Nat.le_trans bx (by decide)) (by omega)
  obtain ⟨g1, g2⟩ := glo_le (w := p + 112) hb
  have bL := bl_64 g1
  have bH := bl_64 g2
  have bl1 : ∀ {k}, k < 40 → bl (eLo (p + 112) (glo x (p + 112)) k) ≤ p + 114 := fun hk => bl_pow' (eLo_le g1 hk).1
  have bl2 : ∀ {k}, k ≤ 40 → bl (eHi (p + 112) (ghi x (p + 112)) k) ≤ p + 114 := fun hk => bl_pow' (eHi_le g2 hk)
  have bq1 := bl_qLo (p + 112) (eLo (p + 112) (glo x (p + 112)) 40)
  have bq2 := bl_qHi (p + 112) (eHi (p + 112) (ghi x (p + 112)) 40)
  have b40 : bl (eLo (p + 112) (glo x (p + 112)) 40) ≤ p + 114 := bl_pow' (eLo_le g1 (k := 39) (by decide)).2
  have b41 := bl2 (Nat.le_refl 40)
  obtain ⟨f1, f2, f3, f4⟩ := exp_fit (p := p) hb
  obtain ⟨na, nl, nc, da, dl, dc, rfl, hn, hd, e1, e2⟩ := hx.parts
  clear hn hd e1 e2 hx
  have u1 := bl_pow2 (p + 112)
  have u3 := bl_pow2 (p + 112 + p)
  have u2 := bl_one
  generalize hD : decide (x.num < 0) = b at kS ⊢
  have f3 := Hid.mk f3
  have f4 := Hid.mk f4
  have bq1 := fun j => Hid.mk (bq1 j)
  have bq2 := fun j => Hid.mk (bq2 j)
  have b40 := Hid.mk b40
  have b41 := Hid.mk b41
  have f2' := Hid.mk f2
  clear hb bx g1 g2
  have F := Hid.mk (And.intro bL (And.intro bH (And.intro f1 (And.intro f2 (And.intro u1 (And.intro u2 u3)))))); clear bL bH f1 f2 u1 u2 u3
  refine Spec.go [(9, .o [0, 2, 3, 4, 6, 7, 9, 10, 1, 5, 8, 11, 12, 13, 14])] Tryz.func40 rfl rfl (by kernel_rfl) fun C _ => ?_
  try simp (disch := omega) only [go_sem, Nat.reduceBEq, Nat.reduceAdd]
  refine caN (by exact kS) ?_; rintro v1 h1 s1 ⟨a1, m1, c1, a2, m2, c2, rfl, q1, q2⟩
  try simp (disch := omega) only [go_sem, Nat.reduceBEq, Nat.reduceAdd]
  refine caN (by exact Unit_spec (w := p + 112) (by have := F.out; omega)) ?_; rintro _ h3 _ q3; obtain ⟨v3, v3_l, v3_c, rfl, q3⟩ := q3.sl
  try simp (disch := omega) only [go_sem, Nat.reduceBEq, Nat.reduceAdd]
  refine caN (by exact Unit_spec (w := p + 112) (by have := F.out; omega)) ?_; rintro _ h4 _ q4; obtain ⟨v4, _, _, rfl, q4⟩ := q4.sl
  try simp (disch := omega) only [go_sem, Nat.reduceBEq, Nat.reduceAdd]
  refine caN (by exact Shl_spec (n := 1) q4 (by have := F.out; omega)) ?_; rintro _ h5 _ q5; obtain ⟨v5, v5_l, v5_c, rfl, q5⟩ := q5.sl
  try simp (disch := omega) only [go_sem, Nat.reduceBEq, Nat.reduceAdd]
  refine lp [(9, .o [0, 2, 3, 4, 6, 7, 9, 10, 1, 5, 8, 11, 12, 13, 14])] (fun x' : Value × Value × Nat => ⟨[(1, .v (.int .i64 p)), (2, .p 0 0), (4, .p 1 0), (6, .v (.int .i64 (p + 112 : Nat))), (7, .p 2 0), (8, .v x'.1), (9, .v x'.2.1), (10, .v (.int .u32 (x'.2.2 : Nat)))], [[.bool b, .slice na nl nc, .slice da dl dc], [.bool false, .slice none 0 0, .slice none 0 0, .bool false, .slice none 0 0, .slice none 0 0], [.slice a1 m1 c1, .slice a2 m2 c2]]⟩) (fun x' h' => Le h1 h' ∧ x'.2.2 ≤ 40 ∧ N32 h' x'.1 (eLo (p + 112) (glo x (p + 112)) (40 - x'.2.2)) ∧ N32 h' x'.2.1 (eHi (p + 112) (ghi x (p + 112)) (40 - x'.2.2))) (fun x' => x'.2.2) (.slice v3 v3_l v3_c, .slice v5 v5_l v5_c, 40) ?_ ⟨inferInstance, Nat.le_refl _, by show N32 _ _ (eLo _ _ (40 - 40)); rw [Nat.sub_self, eLo_0]; exact q3.to, by show N32 _ _ (eHi _ _ (40 - 40)); rw [Nat.sub_self, eHi_0]; exact q5⟩ (by kernel_rfl) ?_
  · try simp (disch := omega) only [go_sem, Nat.reduceBEq, Nat.reduceAdd]
    all_goals rfl
  rintro ⟨va, vb, i⟩ h6 ⟨le6, hi, ha, hb'⟩
  dsimp only at hi ha hb' ⊢
  by_cases h0i : i = 0
  · subst h0i
    rw [Nat.sub_zero] at ha hb'
    obtain ⟨_, _, _, rfl, ha⟩ := ha.sl
    obtain ⟨_, _, _, rfl, hb'⟩ := hb'.sl
    try simp (disch := omega) only [go_sem, Nat.reduceBEq, Nat.reduceAdd]
    refine lp [(9, .o [0, 2, 3, 4, 6, 7, 9, 10, 1, 5, 8, 11, 12, 13, 14])] (fun x' : Value × Value × Nat => ⟨[(1, .v (.int .i64 p)), (2, .p 0 0), (4, .p 1 0), (6, .v (.int .i64 (p + 112 : Nat))), (8, .v x'.1), (9, .v x'.2.1), (58, .v (.int .i64 (x'.2.2 : Nat)))], [[.bool b, .slice na nl nc, .slice da dl dc], [.bool false, .slice none 0 0, .slice none 0 0, .bool false, .slice none 0 0, .slice none 0 0], [.slice a1 m1 c1, .slice a2 m2 c2]]⟩) (fun x' h' => x'.2.2 ≤ 8 ∧ N32 h' x'.1 (qLo (p + 112) (eLo (p + 112) (glo x (p + 112)) 40) x'.2.2) ∧ N32 h' x'.2.1 (qHi (p + 112) (eHi (p + 112) (ghi x (p + 112)) 40) x'.2.2)) (fun x' => 8 - x'.2.2) (_, _, 0) ?_ ⟨(show 0 ≤ 8 by decide), by show N32 _ _ (qLo _ _ 0); rw [qLo_0]; exact ha, by show N32 _ _ (qHi _ _ 0); rw [qHi_0]; exact hb'⟩ (by kernel_rfl) ?_
    · try simp (disch := omega) only [go_sem, Nat.reduceBEq, Nat.reduceAdd]
      all_goals rfl
    rintro ⟨va', vb', j⟩ h7 ⟨hj, hc, hd'⟩
    dsimp only at hj hc hd' ⊢
    by_cases hj8 : j = 8
    · subst hj8
      have hc : N32 h7 va' (expL x p) := hc
      have hd' : N32 h7 vb' (expH x p) := hd'
      obtain ⟨_, _, _, rfl, hc⟩ := hc.sl
      obtain ⟨_, _, _, rfl, hd'⟩ := hd'.sl
      cases b with
      | false =>
        have hlt : ¬ x.num < 0 := of_decide_eq_false hD
        have ea : expLo x p = sgn false (expL x p / 2 ^ (p + 112 - p)) (2 ^ p) := by unfold expLo; rw [if_neg hlt, show p + 112 - p = 112 by have := F.out; omega]
        have eb : expHi x p = sgn false (cdiv (expH x p) (2 ^ (p + 112 - p))) (2 ^ p) := by unfold expHi; rw [if_neg hlt, show p + 112 - p = 112 by have := F.out; omega]
        have y1 := bl_div_le (expL x p) (2 ^ (p + 112 - p))
        have y2 := bl_cd (n := p + 112 - p) f2'.out (by have := F.out; omega)
        rw [ea, eb]
        clear ea eb
        have F := Hid.mk (And.intro F.out (And.intro y1 y2)); clear y1 y2
        try simp (disch := omega) only [go_sem, Nat.reduceBEq, Nat.reduceAdd]
        refine caN (by exact Bracket_spec (a := expL x p) (b := expH x p) (w := p + 112) (p := p) (neg := false) ⟨_, _, _, _, _, _, rfl, hc, hd'⟩ (by have := F.out; omega) (by have := F.out; omega) (by have := F.out; omega) (by have := F.out; omega) (by have := F.out; omega) (by have := F.out; omega) (by have := F.out; omega)) ?_; rintro v8 h8 s8 ⟨_, _, _, _, _, _, _, _, _, _, _, _, _, _, rfl, r1, r2⟩
        try simp (disch := omega) only [go_sem, Nat.reduceBEq, Nat.reduceAdd]
        exact ⟨_, _, _, _, _, _, _, _, _, _, _, _, _, _, rfl, r1, r2⟩
      | true =>
        have hlt : x.num < 0 := of_decide_eq_true hD
        have y1 := bl_div_le (2 ^ (p + 112 + p)) (expH x p)
        have y2 := bl_cdiv (2 ^ (p + 112 + p)) f3.out
        have ea : expLo x p = sgn false (2 ^ (p + 112 + p) / expH x p) (2 ^ p) := by unfold expLo; rw [if_pos hlt]
        have eb : expHi x p = sgn false (cdiv (2 ^ (p + 112 + p)) (expL x p)) (2 ^ p) := by unfold expHi; rw [if_pos hlt]
        rw [ea, eb]
        clear ea eb
        have F := Hid.mk (And.intro F.out (And.intro y1 y2)); clear y1 y2
        try simp (disch := omega) only [go_sem, Nat.reduceBEq, Nat.reduceAdd]
        refine caN (by exact Unit_spec (w := p + 112 + p) (by have := F.out; omega)) ?_; rintro _ h8 _ q8; obtain ⟨v8, _, _, rfl, q8⟩ := q8.sl
        try simp (disch := omega) only [go_sem, Nat.reduceBEq, Nat.reduceAdd]
        refine caN (by exact EOver_spec (c := false) q8 (hd'.to (h' := h8)) f4.out (by have := F.out; omega) (by have := F.out; omega)) ?_; rintro _ h9 _ q9; obtain ⟨v9, _, _, rfl, q9⟩ := q9.sl
        try simp (disch := omega) only [go_sem, Nat.reduceBEq, Nat.reduceAdd]
        refine caN (by exact Rational_spec (n := p) q9 (show bl (2 ^ (p + 112 + p) / expH x p) ≤ 2048 by have := F.out; omega) (by have := F.out; omega)) ?_; rintro v10 h10 s10 q10; obtain ⟨_, _, _, _, _, _, _, rfl, q10⟩ := q10.sa
        try simp (disch := omega) only [go_sem, Nat.reduceBEq, Nat.reduceAdd]
        refine caN (by exact EOver_spec (c := true) (q8.to (h' := h10)) (hc.to (h' := h10)) f3.out (by have := F.out; omega) (by have := F.out; omega)) ?_; rintro _ h11 _ q11; obtain ⟨v11, _, _, rfl, q11⟩ := q11.sl
        try simp (disch := omega) only [go_sem, Nat.reduceBEq, Nat.reduceAdd]
        refine caN (by exact Rational_spec (n := p) q11 (show bl (cdiv (2 ^ (p + 112 + p)) (expL x p)) ≤ 2048 by have := F.out; omega) (by have := F.out; omega)) ?_; rintro v12 h12 s12 q12; obtain ⟨_, _, _, _, _, _, _, rfl, q12⟩ := q12.sa
        try simp (disch := omega) only [go_sem, Nat.reduceBEq, Nat.reduceAdd]
        exact ⟨_, _, _, _, _, _, _, _, _, _, _, _, _, _, rfl, q10.to, q12⟩
    · have hj8 : j < 8 := by have := F.out; omega
      have z0 : 2 ^ j ≤ 2 ^ 8 := Nat.pow_le_pow_right (by decide) (by have := F.out; omega)
      have z1 := Nat.le_trans (bq1 j).out (Nat.mul_le_mul z0 (Nat.add_le_add_right b40.out 1))
      have z2 := Nat.le_trans (bq2 j).out (Nat.mul_le_mul z0 (Nat.add_le_add_right b41.out 1))
      have z3 := bl_mul (qLo (p + 112) (eLo (p + 112) (glo x (p + 112)) 40) j) (qLo (p + 112) (eLo (p + 112) (glo x (p + 112)) 40) j)
      have z4 := bl_mul (qHi (p + 112) (eHi (p + 112) (ghi x (p + 112)) 40) j) (qHi (p + 112) (eHi (p + 112) (ghi x (p + 112)) 40) j)
      clear z0
      have F := Hid.mk (And.intro F.out (And.intro z1 (And.intro z2 (And.intro z3 z4)))); clear z1 z2 z3 z4
      try simp (disch := omega) only [go_sem, Nat.reduceBEq, Nat.reduceAdd]
      refine caN (by exact Mul_spec hc hc (by have := F.out; omega) (by have := F.out; omega)) ?_; rintro _ h8 _ r1; obtain ⟨w1, _, _, rfl, r1⟩ := r1.sl
      try simp (disch := omega) only [go_sem, Nat.reduceBEq, Nat.reduceAdd]
      refine caN (by exact Shr_spec (n := p + 112) r1 (by have := F.out; omega) (by have := F.out; omega)) ?_; rintro _ h9 _ r2; obtain ⟨w2, _, _, rfl, r2⟩ := r2.sl
      try simp (disch := omega) only [go_sem, Nat.reduceBEq, Nat.reduceAdd]
      refine caN (by exact Mul_spec (hd'.to (h' := h9)) (hd'.to (h' := h9)) (by have := F.out; omega) (by have := F.out; omega)) ?_; rintro _ h10 _ r3; obtain ⟨w3, _, _, rfl, r3⟩ := r3.sl
      try simp (disch := omega) only [go_sem, Nat.reduceBEq, Nat.reduceAdd]
      refine caN (by exact EUp_spec (n := p + 112) r3 (by have := F.out; omega) (by have := F.out; omega)) ?_; rintro _ h11 _ r4; obtain ⟨w4, _, _, rfl, r4⟩ := r4.sl
      try simp (disch := omega) only [go_sem, Nat.reduceBEq, Nat.reduceAdd]
      dsimp only [lpE]; refine ⟨(_, _, j + 1), ?_, ⟨(show j + 1 ≤ 8 by have := F.out; omega), by show N32 _ _ (qLo _ _ (j + 1)); rw [qLo_s]; exact r2.to, by show N32 _ _ (qHi _ _ (j + 1)); rw [qHi_s]; exact r4⟩, (show 8 - (j + 1) < 8 - j by have := F.out; omega)⟩
      try simp (disch := omega) only [go_sem, Nat.reduceBEq, Nat.reduceAdd]
      all_goals rfl
  · obtain ⟨k, hk, ek⟩ : ∃ k, k < 40 ∧ 40 - i = k := ⟨_, by have := F.out; omega, rfl⟩
    have ei : i = 40 - k := by have := F.out; omega
    have en : 40 - (i - 1) = k + 1 := by have := F.out; omega
    rw [ek] at ha hb'
    have c1 := bl1 hk
    have c2 := bl2 (Nat.le_of_lt hk)
    have d1 := bl_mul (glo x (p + 112)) (eLo (p + 112) (glo x (p + 112)) k)
    have d2 := bl_mul (ghi x (p + 112)) (eHi (p + 112) (ghi x (p + 112)) k)
    have d3 := bl_div_le (glo x (p + 112) * eLo (p + 112) (glo x (p + 112)) k) (2 ^ (p + 112 + 8))
    have d4 := bl_div_le (glo x (p + 112) * eLo (p + 112) (glo x (p + 112)) k / 2 ^ (p + 112 + 8)) i
    have d5 := bl_cd (n := p + 112 + 8) d2 (by have := F.out; omega)
    have d6 : bl (odiv (cdiv (ghi x (p + 112) * eHi (p + 112) (ghi x (p + 112)) k) (2 ^ (p + 112 + 8))) i true) ≤ _ := bl_cdiv _ h0i
    have d7 : bl i ≤ 6 := bl_le.2 (by have := F.out; omega)
    have h0i := Hid.mk h0i
    have hi0 : 1 ≤ i := by have := F.out; omega
    have ei := Hid.mk ei
    have en := Hid.mk en
    clear ek hk
    have F := Hid.mk (And.intro F.out (And.intro c1 (And.intro c2 (And.intro d1 (And.intro d2 (And.intro d3 (And.intro d4 (And.intro d5 (And.intro d6 d7))))))))); clear c1 c2 d1 d2 d3 d4 d5 d6 d7
    try simp (disch := omega) only [go_sem, Nat.reduceBEq, Nat.reduceAdd]
    refine caN (by exact Mul_spec (q1.to (h' := h6)) ha (by have := F.out; omega) (by have := F.out; omega)) ?_; rintro _ h7 _ r1; obtain ⟨w1, _, _, rfl, r1⟩ := r1.sl
    try simp (disch := omega) only [go_sem, Nat.reduceBEq, Nat.reduceAdd]
    refine caN (by exact Shr_spec (n := p + 112 + 8) r1 (by have := F.out; omega) (by have := F.out; omega)) ?_; rintro _ h8 _ r2; obtain ⟨w2, _, _, rfl, r2⟩ := r2.sl
    try simp (disch := omega) only [go_sem, Nat.reduceBEq, Nat.reduceAdd]
    refine caN (by exact DivSmall_spec (d := i) r2 (by have := F.out; omega) (by have := F.out; omega) (by have := F.out; omega)) ?_; rintro w3 h9 s9 ⟨_, rfl, r3⟩; obtain ⟨_, _, _, rfl, r3⟩ := r3.sl
    try simp (disch := omega) only [go_sem, Nat.reduceBEq, Nat.reduceAdd]
    refine caN (by exact Unit_spec (w := p + 112) (by have := F.out; omega)) ?_; rintro _ h10 _ r4; obtain ⟨w4, _, _, rfl, r4⟩ := r4.sl
    try simp (disch := omega) only [go_sem, Nat.reduceBEq, Nat.reduceAdd]
    refine caN (by exact Add_spec r4 (r3.to (h' := h10)) (by have := F.out; omega) (by have := F.out; omega)) ?_; rintro _ h11 _ r5; obtain ⟨w5, w5_l, w5_c, rfl, r5⟩ := r5.sl
    try simp (disch := omega) only [go_sem, Nat.reduceBEq, Nat.reduceAdd]
    refine caN (by exact Unit_spec (w := p + 112) (by have := F.out; omega)) ?_; rintro _ h12 _ r6; obtain ⟨w6, _, _, rfl, r6⟩ := r6.sl
    try simp (disch := omega) only [go_sem, Nat.reduceBEq, Nat.reduceAdd]
    refine caN (by exact Mul_spec (q2.to (h' := h12)) (hb'.to (h' := h12)) (by have := F.out; omega) (by have := F.out; omega)) ?_; rintro _ h13 _ r7; obtain ⟨w7, _, _, rfl, r7⟩ := r7.sl
    try simp (disch := omega) only [go_sem, Nat.reduceBEq, Nat.reduceAdd]
    refine caN (by exact EUp_spec (n := p + 112 + 8) r7 (by have := F.out; omega) (by have := F.out; omega)) ?_; rintro _ h14 _ r8; obtain ⟨w8, _, _, rfl, r8⟩ := r8.sl
    try simp (disch := omega) only [go_sem, Nat.reduceBEq, Nat.reduceAdd]
    refine caN (by exact Small_spec (n := i) (by have := F.out; omega)) ?_; rintro _ h15 _ r9; obtain ⟨w9, _, _, rfl, r9⟩ := r9.sl
    try simp (disch := omega) only [go_sem, Nat.reduceBEq, Nat.reduceAdd]
    refine caN (by exact EOver_spec (c := true) (r8.to (h' := h15)) r9 h0i.out (by have := F.out; omega) (by have := F.out; omega)) ?_; rintro _ h16 _ r10; obtain ⟨w10, _, _, rfl, r10⟩ := r10.sl
    try simp (disch := omega) only [go_sem, Nat.reduceBEq, Nat.reduceAdd]
    refine caN (by exact Add_spec (r6.to (h' := h16)) r10 (by have := F.out; omega) (by have := F.out; omega)) ?_; rintro _ h17 _ r11; obtain ⟨w11, w11_l, w11_c, rfl, r11⟩ := r11.sl
    try simp (disch := omega) only [go_sem, Nat.reduceBEq, Nat.reduceAdd]
    dsimp only [lpE]; refine ⟨(.slice w5 w5_l w5_c, .slice w11 w11_l w11_c, i - 1), ?_, ⟨Le.trn le6 inferInstance, (show i - 1 ≤ 40 by have := F.out; omega), ?_, ?_⟩, (show i - 1 < i by have := F.out; omega)⟩
    · try simp (disch := omega) only [go_sem, Nat.reduceBEq, Nat.reduceAdd]
      all_goals rfl
    · show N32 _ _ (eLo _ _ (40 - (i - 1)))
      rw [en.out, eLo_s, ← ei.out]
      exact r5.to
    · show N32 _ _ (eHi _ _ (40 - (i - 1)))
      rw [en.out, eHi_s, ← ei.out]
      exact r11
end Go.Q
namespace Go.Q
open Go.Proofs
set_option maxRecDepth 100000
set_option maxHeartbeats 8000000
end Go.Q
namespace Go.Q
open Go.Proofs
set_option maxRecDepth 100000
set_option maxHeartbeats 8000000
def wav (f i : Nat) : Nat := (2 * i + f) * (2 * i + f + 1)
def waV (w f s t : Nat) : Bool → Nat → Nat
  | false, 0 => 0
  | true, 0 => 2 ^ w
  | false, j + 1 => (2 ^ w * 2 ^ w * wav f (23 - j) - t * waV w f s t true j) / (wav f (23 - j) * 2 ^ w)
  | true, j + 1 => cdiv (2 ^ w * 2 ^ w * wav f (23 - j) - s * waV w f s t false j) (wav f (23 - j) * 2 ^ w)
theorem waV_s (w f s t j : Nat) : waV w f s t false (j + 1) = (2 ^ w * 2 ^ w * wav f (23 - j) - t * waV w f s t true j) / (wav f (23 - j) * 2 ^ w) := rfl
theorem waV_s' (w f s t j : Nat) : waV w f s t true (j + 1) = cdiv (2 ^ w * 2 ^ w * wav f (23 - j) - s * waV w f s t false j) (wav f (23 - j) * 2 ^ w) := rfl
def wvL (y w f : Nat) : Nat := waV w f (sqL y w) (sqH y w) false 24
def wvH (y w f : Nat) : Nat := waV w f (sqL y w) (sqH y w) true 24
theorem wav_pos {f i : Nat} (hf : 1 ≤ f) : wav f i ≠ 0 := Nat.mul_ne_zero (by omega) (by omega)
theorem waV_le {w f s t : Nat} (hf : 1 ≤ f) : ∀ j, waV w f s t true j ≤ 2 ^ w ∧ waV w f s t false j ≤ 2 ^ w
  | 0 => ⟨Nat.le_refl _, Nat.zero_le _⟩
  | j + 1 => by
    have hn : wav f (23 - j) * 2 ^ w ≠ 0 := Nat.mul_ne_zero (wav_pos hf) (pow2_ne w)
    have e : 2 ^ w * 2 ^ w * wav f (23 - j) = wav f (23 - j) * 2 ^ w * 2 ^ w := by rw [Nat.mul_comm, Nat.mul_assoc]
    rw [waV_s, waV_s', e]
    exact ⟨(cdiv_le_iff hn).2 (Nat.sub_le _ _), Nat.div_le_of_le_mul (Nat.sub_le _ _)⟩
end Go.Q
namespace Go.Q
open Go.Proofs
set_option maxRecDepth 100000
set_option maxHeartbeats 8000000
def logV (w s t : Nat) : Bool → Nat → Nat
  | false, 0 => 2 ^ w / 111
  | true, 0 => cdiv (2 ^ w * 100 + t * 111) 11100
  | false, j + 1 => (2 ^ w * 2 ^ w + s * logV w s t false j * (109 - 2 * j)) / ((109 - 2 * j) * 2 ^ w)
  | true, j + 1 => cdiv (2 ^ w * 2 ^ w + t * logV w s t true j * (109 - 2 * j)) ((109 - 2 * j) * 2 ^ w)
theorem logV_0 (w s t : Nat) : logV w s t false 0 = 2 ^ w / 111 := rfl
theorem logV_0' (w s t : Nat) : logV w s t true 0 = cdiv (2 ^ w * 100 + t * 111) 11100 := rfl
theorem logV_s (w s t j : Nat) : logV w s t false (j + 1) = (2 ^ w * 2 ^ w + s * logV w s t false j * (109 - 2 * j)) / ((109 - 2 * j) * 2 ^ w) := rfl
theorem logV_s' (w s t j : Nat) : logV w s t true (j + 1) = cdiv (2 ^ w * 2 ^ w + t * logV w s t true j * (109 - 2 * j)) ((109 - 2 * j) * 2 ^ w) := rfl
def logL (a b w : Nat) : Nat := a * logV w (sqL a w) (sqH b w) false 55 * 2 ^ 1 / 2 ^ w
def logH (a b w : Nat) : Nat := cdiv (b * logV w (sqL a w) (sqH b w) true 55 * 2 ^ 1) (2 ^ w)
theorem log_fit {u k s v m : Nat} (hk : 0 < k) (hs : s ≤ u) (hv : v ≤ m * u) : u * u + s * v * k ≤ k * u * ((m + 1) * u) := by
  have h1 : s * v * k ≤ u * (m * u) * k := Nat.mul_le_mul_right k (Nat.mul_le_mul hs hv)
  have h2 : u * u ≤ k * (u * u) := Nat.le_mul_of_pos_left _ hk
  have e : k * u * ((m + 1) * u) = u * (m * u) * k + k * (u * u) := by
    rw [Nat.add_mul, Nat.one_mul, Nat.mul_add, Nat.mul_comm k u, Nat.mul_assoc u k, Nat.mul_assoc u k, Nat.mul_left_comm k, Nat.mul_assoc u, Nat.mul_comm (m * u) k, Nat.mul_left_comm k m u, Nat.mul_left_comm u k u]
  omega
theorem logV_le {w s t : Nat} (hs : s ≤ 2 ^ w) (ht : t ≤ 2 ^ w) : ∀ {j : Nat}, j ≤ 55 → logV w s t true j ≤ (j + 1) * 2 ^ w ∧ logV w s t false j ≤ (j + 1) * 2 ^ w
  | 0, _ => by
    rw [logV_0, logV_0']
    refine ⟨(cdiv_le_iff (by decide)).2 (by omega), ?_⟩
    have := Nat.div_le_self (2 ^ w) 111
    omega
  | j + 1, h => by
    obtain ⟨h1, h2⟩ := logV_le hs ht (j := j) (by omega)
    have hk : 0 < 109 - 2 * j := by omega
    have hn : (109 - 2 * j) * 2 ^ w ≠ 0 := Nat.mul_ne_zero (by omega) (pow2_ne w)
    rw [logV_s, logV_s']
    exact ⟨(cdiv_le_iff hn).2 (log_fit hk ht h1), Nat.div_le_of_le_mul (log_fit hk hs h2)⟩
theorem logL_le {a b w : Nat} (ha : a ≤ 2 ^ w) (hb : b ≤ 2 ^ w) : logL a b w ≤ 112 * 2 ^ w ∧ logH a b w ≤ 112 * 2 ^ w := by
  obtain ⟨h1, h2⟩ := logV_le (sqL_le ha) (sqH_le hb) (Nat.le_refl 55)
  unfold logL logH
  refine ⟨Nat.div_le_of_le_mul ?_, (cdiv_le_iff (pow2_ne w)).2 ?_⟩
  · have := Nat.mul_le_mul ha h2
    rw [show 2 ^ w * (112 * 2 ^ w) = 2 ^ w * ((55 + 1) * 2 ^ w) * 2 ^ 1 by rw [Nat.mul_assoc, Nat.mul_comm ((55 + 1) * 2 ^ w) (2 ^ 1), ← Nat.mul_assoc (2 ^ 1)]]
    exact Nat.mul_le_mul_right _ this
  · have := Nat.mul_le_mul hb h1
    rw [show 2 ^ w * (112 * 2 ^ w) = 2 ^ w * ((55 + 1) * 2 ^ w) * 2 ^ 1 by rw [Nat.mul_assoc, Nat.mul_comm ((55 + 1) * 2 ^ w) (2 ^ 1), ← Nat.mul_assoc (2 ^ 1)]]
    exact Nat.mul_le_mul_right _ this
end Go.Q
namespace Go.Q
open Go.Proofs
set_option maxRecDepth 100000
set_option maxHeartbeats 8000000
def rtUp (n : Nat) : Nat := if irt 2 n ^ 2 = n then irt 2 n else irt 2 n + 1
def hvL (a w : Nat) : Nat := a * 2 ^ w / (2 ^ w + rtUp (2 ^ (2 * w) + a * a))
def hvH (b w : Nat) : Nat := cdiv (b * 2 ^ w) (2 ^ w + irt 2 (2 ^ (2 * w) + b * b))
def anL (a b w : Nat) : Nat := arcL (hvL (hvL a w) w) (hvH (hvH b w) w) w * 2 ^ 2
def anH (a b w : Nat) : Nat := arcH (hvL (hvL a w) w) (hvH (hvH b w) w) w * 2 ^ 2
theorem Pr.sp {h : PH} {v : Value} {a b : Nat} (r : Pr h v a b) : ∃ x m c y n d, v = .agg #[.slice x m c, .slice y n d] ∧ Pr h (.agg #[.slice x m c, .slice y n d]) a b := by
  obtain ⟨x, m, c, y, n, d, rfl, h1, h2⟩ := r
  exact ⟨x, m, c, y, n, d, rfl, _, _, _, _, _, _, rfl, h1, h2⟩
end Go.Q
namespace Go.Q
open Go.Proofs
set_option maxRecDepth 100000
set_option maxHeartbeats 8000000
theorem irt_unit (w a : Nat) : 2 ^ w ≤ irt 2 (2 ^ (2 * w) + a * a) := irt_max (by decide) (by rw [← Nat.pow_mul, Nat.mul_comm w 2]; exact Nat.le_add_right _ _)
theorem rtUp_unit (w a : Nat) : 2 ^ w ≤ rtUp (2 ^ (2 * w) + a * a) := by
  have := irt_unit w a
  unfold rtUp
  split <;> omega
theorem twice_c (c u : Nat) : (u + u) * c = 2 * c * u := by rw [← Nat.two_mul, Nat.mul_right_comm]
theorem hvH_half {b c w : Nat} (h : b ≤ 2 * c) : hvH b w ≤ c := by
  unfold hvH
  have h1 := irt_unit w b
  have hn : 2 ^ w + irt 2 (2 ^ (2 * w) + b * b) ≠ 0 := by have := Nat.pos_of_ne_zero (pow2_ne w); omega
  refine (cdiv_le_iff hn).2 ?_
  have h2 : b * 2 ^ w ≤ 2 * c * 2 ^ w := Nat.mul_le_mul_right _ h
  have h3 : (2 ^ w + 2 ^ w) * c ≤ (2 ^ w + irt 2 (2 ^ (2 * w) + b * b)) * c := Nat.mul_le_mul_right _ (by omega)
  rw [twice_c] at h3
  exact Nat.le_trans h2 h3
theorem hvL_half {b c w : Nat} (h : b ≤ 2 * c) : hvL b w ≤ c := by
  unfold hvL
  refine Nat.div_le_of_le_mul ?_
  have h1 := rtUp_unit w b
  have h2 : b * 2 ^ w ≤ 2 * c * 2 ^ w := Nat.mul_le_mul_right _ h
  have h3 : (2 ^ w + 2 ^ w) * c ≤ (2 ^ w + rtUp (2 ^ (2 * w) + b * b)) * c := Nat.mul_le_mul_right _ (by omega)
  rw [twice_c] at h3
  exact Nat.le_trans h2 h3
theorem arc_small {c u v : Nat} (hc : c ≤ u) (hv : v ≤ u + 1) : c * v ≤ u * (c + 1) := by
  have h1 : c * v ≤ c * (u + 1) := Nat.mul_le_mul_left _ hv
  have e1 : c * (u + 1) = u * c + c := by rw [Nat.mul_add, Nat.mul_one, Nat.mul_comm]
  have e2 : u * (c + 1) = u * c + u := by rw [Nat.mul_add, Nat.mul_one]
  omega
theorem an_le {a b w : Nat} (hw : 2 ≤ w) (ha : a ≤ 2 ^ w) (hb : b ≤ 2 ^ w) : anL a b w ≤ 2 ^ w + 4 ∧ anH a b w ≤ 2 ^ w + 4 := by
  obtain ⟨c, hc⟩ : ∃ c, 2 ^ w = 4 * c := ⟨2 ^ (w - 2), by rw [show w = 2 + (w - 2) by omega, Nat.pow_add]; simp⟩
  have a2 : hvL (hvL a w) w ≤ c := hvL_half (hvL_half (by omega))
  have b2 : hvH (hvH b w) w ≤ c := hvH_half (hvH_half (by omega))
  have v1 : arcV w (sqL (hvL (hvL a w) w) w) (sqH (hvH (hvH b w) w) w) false 39 ≤ 2 ^ w + 1 := arcV_top (Nat.le_refl _)
  have v2 : arcV w (sqL (hvL (hvL a w) w) w) (sqH (hvH (hvH b w) w) w) true 39 ≤ 2 ^ w + 1 := arcV_top (Nat.le_refl _)
  have m1 := arc_small (c := hvL (hvL a w) w) (by omega) v1
  have m2 := arc_small (c := hvH (hvH b w) w) (by omega) v2
  have k1 : arcL (hvL (hvL a w) w) (hvH (hvH b w) w) w ≤ hvL (hvL a w) w + 1 := Nat.div_le_of_le_mul m1
  have k2 : arcH (hvL (hvL a w) w) (hvH (hvH b w) w) w ≤ hvH (hvH b w) w + 1 := (cdiv_le_iff (pow2_ne w)).2 m2
  unfold anL anH
  omega
def invQ (x : Rat) : Rat := sgn false x.den x.num.natAbs
def bkL (neg : Bool) (a b k p : Nat) : Rat := if neg then sgn neg (cdiv b (2 ^ k)) (2 ^ p) else sgn neg (a / 2 ^ k) (2 ^ p)
def bkH (neg : Bool) (a b k p : Nat) : Rat := if neg then sgn neg (a / 2 ^ k) (2 ^ p) else sgn neg (cdiv b (2 ^ k)) (2 ^ p)
def atA (x : Rat) (w : Nat) : Nat := if x.den < x.num.natAbs then piL w - anH (glo (invQ x) w) (ghi (invQ x) w) w * 2 ^ 1 else anL (glo x w) (ghi x w) w
def atB (x : Rat) (w : Nat) : Nat := if x.den < x.num.natAbs then piH w - anL (glo (invQ x) w) (ghi (invQ x) w) w * 2 ^ 1 else anH (glo x w) (ghi x w) w
def atK (x : Rat) : Nat := if x.den < x.num.natAbs then 33 else 32
def atLo (x : Rat) (p : Nat) : Rat := bkL (decide (x.num < 0)) (atA x (p + 32)) (atB x (p + 32)) (atK x) p
def atHi (x : Rat) (p : Nat) : Rat := bkH (decide (x.num < 0)) (atA x (p + 32)) (atB x (p + 32)) (atK x) p
theorem g_le {x : Rat} {w : Nat} (h : ¬ x.den < x.num.natAbs) : glo x w ≤ 2 ^ w ∧ ghi x w ≤ 2 ^ w := by
  have h1 : x.num.natAbs * 2 ^ w ≤ x.den * 2 ^ w := Nat.mul_le_mul_right _ (by omega)
  exact ⟨Nat.div_le_of_le_mul h1, (cdiv_le_iff x.den_nz).2 h1⟩
theorem bl_w3 {n w : Nat} (hw : 2 ≤ w) (h : n ≤ 2 ^ w + 4) : bl n ≤ w + 3 := bl_le.2 (by
  have : 2 ^ (w + 3) = 2 ^ w * 8 := Nat.pow_add _ _ _
  have : 2 ^ w = 2 ^ (w - 2) * 4 := by rw [← Nat.pow_add 2 _ 2]; congr 1; omega
  have := Nat.pos_of_ne_zero (pow2_ne (w - 2))
  omega)
end Go.Q
namespace Go.Q
open Go.Proofs
set_option maxRecDepth 100000
set_option maxHeartbeats 8000000
end Go.Q
namespace Go.Q
open Go.Proofs
set_option maxRecDepth 100000
set_option maxHeartbeats 8000000
theorem Bk.sp {h : PH} {v : Value} {x y : Rat} (r : Bk h v x y) : ∃ b1 a1 m1 c1 a2 m2 c2 b2 a3 m3 c3 a4 m4 c4, v = .agg #[.bool b1, .slice a1 m1 c1, .slice a2 m2 c2, .bool b2, .slice a3 m3 c3, .slice a4 m4 c4] ∧ Bk h (.agg #[.bool b1, .slice a1 m1 c1, .slice a2 m2 c2, .bool b2, .slice a3 m3 c3, .slice a4 m4 c4]) x y := by
  obtain ⟨b1, a1, m1, c1, a2, m2, c2, b2, a3, m3, c3, a4, m4, c4, rfl, k1, k2⟩ := r
  exact ⟨b1, a1, m1, c1, a2, m2, c2, b2, a3, m3, c3, a4, m4, c4, rfl, _, _, _, _, _, _, _, _, _, _, _, _, _, _, rfl, k1, k2⟩
end Go.Q
namespace Go.Q
open Go.Proofs
set_option maxRecDepth 100000
def lge0 (n d : Nat) : Int := (bl n : Int) - bl d
def lgn (n : Nat) (e : Int) : Nat := n * 2 ^ (max 0 (-e)).toNat
def lgd (d : Nat) (e : Int) : Nat := d * 2 ^ (max 0 e).toNat
def lge (n d : Nat) : Int := if lgn n (lge0 n d) < lgd d (lge0 n d) then lge0 n d - 1 else lge0 n d
theorem lge_abs {n d k : Nat} (hn : bl n ≤ k) (hd : bl d ≤ k) : -((k : Int) + 1) ≤ lge n d ∧ lge n d ≤ k ∧ -(k : Int) ≤ lge0 n d ∧ lge0 n d ≤ k := by
  unfold lge lge0
  split <;> omega
def lgT (n d w : Nat) : Nat := (lgn n (lge n d) - lgd d (lge n d)) * 2 ^ w
def lgB (n d : Nat) : Nat := lgn n (lge n d) + lgd d (lge n d)
theorem lgB_ne {n d : Nat} (hn : n ≠ 0) : lgB n d ≠ 0 := by
  have : lgn n (lge n d) ≠ 0 := Nat.mul_ne_zero hn (pow2_ne _)
  unfold lgB
  omega
theorem lgT_le {n d w : Nat} : lgT n d w ≤ lgB n d * 2 ^ w := Nat.mul_le_mul_right _ (by unfold lgB; omega)
def lgmL (n d w : Nat) : Nat := logL (lgT n d w / lgB n d) (cdiv (lgT n d w) (lgB n d)) w
def lgmH (n d w : Nat) : Nat := logH (lgT n d w / lgB n d) (cdiv (lgT n d w) (lgB n d)) w
def lg2L (w : Nat) : Nat := logL (2 ^ w / 3) (cdiv (2 ^ w) 3) w
def lg2H (w : Nat) : Nat := logH (2 ^ w / 3) (cdiv (2 ^ w) 3) w
theorem lgm_arg {n d w : Nat} (hn : n ≠ 0) : lgT n d w / lgB n d ≤ 2 ^ w ∧ cdiv (lgT n d w) (lgB n d) ≤ 2 ^ w :=
  ⟨Nat.div_le_of_le_mul lgT_le, (cdiv_le_iff (lgB_ne hn)).2 lgT_le⟩
theorem lg2_arg (w : Nat) : 2 ^ w / 3 ≤ 2 ^ w ∧ cdiv (2 ^ w) 3 ≤ 2 ^ w := fif_le 3 (by decide)
def lnLo (n d p : Nat) : Rat :=
  if 0 ≤ lge n d then sgn false ((lg2L (p + 32) * (lge n d).toNat + lgmL n d (p + 32)) / 2 ^ 32) (2 ^ p)
  else gdown (sgn false (lgmL n d (p + 32)) (2 ^ (p + 32)) + -sgn false (lg2H (p + 32) * (0 - lge n d).toNat) (2 ^ (p + 32))) p
def lnHi (n d p : Nat) : Rat :=
  if 0 ≤ lge n d then sgn false (cdiv (lg2H (p + 32) * (lge n d).toNat + lgmH n d (p + 32)) (2 ^ 32)) (2 ^ p)
  else gup (sgn false (lgmH n d (p + 32)) (2 ^ (p + 32)) + -sgn false (lg2L (p + 32) * (0 - lge n d).toNat) (2 ^ (p + 32))) p
theorem bl_112 {n w : Nat} (h : n ≤ 112 * 2 ^ w) : bl n ≤ w + 8 := bl_pow' (k := w + 7) (by rw [Nat.pow_add]; omega)
theorem sz_dif {a b w k : Nat} (ha : bl a ≤ k) (hb : bl b ≤ k) (hk : w + 1 ≤ k) : sz (sgn false a (2 ^ w) + -sgn false b (2 ^ w)) ≤ 2 * k + 1 := by
  have h1 := sz_sgn false a (pow2_ne w)
  have h2 := sz_sgn false b (pow2_ne w)
  have h3 := bl_pow2 w
  have h4 := sz_add (sgn false a (2 ^ w)) (-sgn false b (2 ^ w))
  rw [sz_neg] at h4
  omega
end Go.Q
namespace Go.Q
open Go.Proofs
set_option maxRecDepth 100000
set_option maxHeartbeats 8000000
theorem sz_gd (x : Rat) (p : Nat) : sz (gdown x p) ≤ sz x + 2 * p + 2 := by
  have h1 := sz_unscale ((x * 2 ^ p).floor : Rat) p
  have h2 := sz_floor (x * 2 ^ p)
  have h3 := sz_scale x p
  unfold gdown
  omega
theorem gup_gdown (x : Rat) (p : Nat) : gup x p = -gdown (-x) p := by
  unfold gup gdown
  rw [Rat.ceil_eq_neg_floor_neg, Rat.neg_mul, Rat.intCast_neg, Rat.div_def, Rat.div_def, Rat.neg_mul]
theorem sz_gu (x : Rat) (p : Nat) : sz (gup x p) ≤ sz x + 2 * p + 2 := by
  rw [gup_gdown, sz_neg]
  have := sz_gd (-x) p
  rw [sz_neg] at this
  exact this
end Go.Q
namespace Go.Q
open Go.Proofs
set_option maxRecDepth 100000
set_option maxHeartbeats 8000000
theorem W_1 {m : Nat} (h0 : m ≠ 0) (h : m < 4294967296) : W 4294967296 m = [m] := by
  rw [W_pos (by decide) h0, Nat.mod_eq_of_lt h, Nat.div_eq_of_lt h, W_zero]
theorem N32.one {h : PH} {a : Option Addr} {l c m : Nat} (r : N32 h (.slice a l c) m) (h0 : m ≠ 0) (hm : m < 4294967296) : ∃ ad, a = some ad ∧ l = 1 ∧ h.at (ad.add 0) = some (.int .u32 m) := by
  obtain ⟨a', c', e, r⟩ := r
  cases e
  rw [W_1 h0 hm] at r ⊢
  obtain ⟨ad, rfl, e⟩ := r.get (i := 0) (by simp)
  exact ⟨ad, rfl, rfl, e⟩
def mt (a b r : Int) : Bool := decide (a + (r - a) % 4 ≤ b)
theorem num_bd {x : Rat} (h : ¬ x.den * 4294967296 < x.num.natAbs) : -4294967296 ≤ x ∧ x ≤ 4294967296 := by
  have e : x = mkRat x.num x.den := (Rat.mkRat_self x).symm
  have hd : (0 : Rat) < (x.den : Rat) := by exact_mod_cast x.den_pos
  have e2 : x * (x.den : Rat) = (x.num : Rat) := by
    have key : ∀ (d n y : Rat), d ≠ 0 → y = n / d → y * d = n := fun d n y hd hy => by rw [hy]; exact Rat.div_mul_cancel hd
    have := Rat.mkRat_eq_div x.num x.den
    rw [← e] at this
    exact key _ _ _ (Rat.ne_of_gt hd) this
  have k1 : (x.num : Rat) ≤ 4294967296 * (x.den : Rat) := by
    have h1 : x.num ≤ 4294967296 * (x.den : Int) := by omega
    have h2 := Rat.intCast_le_intCast.2 h1
    rw [Rat.intCast_mul] at h2
    exact h2
  have k2 : -(4294967296 * (x.den : Rat)) ≤ (x.num : Rat) := by
    have h1 : -(4294967296 * (x.den : Int)) ≤ x.num := by omega
    have h2 := Rat.intCast_le_intCast.2 h1
    rw [Rat.intCast_neg, Rat.intCast_mul] at h2
    exact h2
  rw [← e2] at k1 k2
  constructor
  · refine Decidable.byContradiction fun hc => ?_
    have := Rat.mul_lt_mul_of_pos_right (show x < -4294967296 by grind) hd
    grind
  · refine Decidable.byContradiction fun hc => ?_
    have := Rat.mul_lt_mul_of_pos_right (show 4294967296 < x by grind) hd
    grind
theorem quo_bd {x y : Rat} (hx : -4294967296 ≤ x ∧ x ≤ 4294967296) (hy : 3 / 2 ≤ y) : -2863311531 ≤ x * y⁻¹ ∧ x * y⁻¹ ≤ 2863311531 := by
  have y0 : y ≠ 0 := by grind
  have e : x * y⁻¹ * y = x := by rw [Rat.mul_assoc, Rat.inv_mul_cancel _ y0, Rat.mul_one]
  generalize x * y⁻¹ = q at *
  have key : ∀ p : Rat, 2863311531 < p → ¬ p * y ≤ 4294967296 := by
    intro p hp hc
    have h1 : p * (3 / 2) ≤ p * y := Rat.mul_le_mul_of_nonneg_left hy (by grind)
    have h2 : 2863311531 * (3 / 2) ≤ p * (3 / 2) := Rat.mul_le_mul_of_nonneg_right (by grind) (by decide +kernel)
    grind
  constructor
  · refine Decidable.byContradiction fun hc => key (-q) (by grind) (by rw [Rat.neg_mul, e]; grind)
  · refine Decidable.byContradiction fun hc => key q (by grind) (by rw [e]; exact hx.2)
theorem floor_bd {q : Rat} {c : Int} (h : -(c : Rat) ≤ q ∧ q ≤ (c : Rat)) : -c ≤ q.floor ∧ q.floor ≤ c := by
  constructor
  · rw [Rat.le_floor_iff]
    exact_mod_cast h.1
  · have := Rat.le_trans (Rat.floor_le q) h.2
    exact_mod_cast this
end Go.Q
namespace Go.Q
inductive NS where
  | e
  | i (lo hi : Option Rat)
def ordO : Option Rat → Option Rat → Bool
  | some x, some y => !decide (y < x)
  | _, _ => true
namespace NS
def void : NS → Bool
  | .e => true
  | _ => false
def ok : NS → Prop
  | .e => True
  | .i a b => ordO a b = true
def all (f : Rat → Bool) : NS → Bool
  | .e => true
  | .i a b => a.all f && b.all f
def le (k : Nat) (x : NS) : Prop := x.all (fun q => decide (sz q ≤ k)) = true
instance (k : Nat) (x : NS) : Decidable (x.le k) := by unfold le; infer_instance
def slo : NS → Int
  | .e => 0
  | .i a _ => match a with
    | none => -1
    | some q => sgn3 q
def shi : NS → Int
  | .e => 0
  | .i _ b => match b with
    | none => 1
    | some q => sgn3 q
def zero (x : NS) : Bool := !x.void && decide (x.slo ≤ 0) && decide (0 ≤ x.shi)
def lowIn : Option Rat → Option Rat → Bool
  | none, _ => true
  | some _, none => false
  | some c, some a => !decide (a < c)
def highIn : Option Rat → Option Rat → Bool
  | none, _ => true
  | some _, none => false
  | some d, some b => !decide (d < b)
def within : NS → NS → Bool
  | .e, _ => true
  | _, .e => false
  | .i a b, .i c d => lowIn c a && highIn d b
def has : NS → Rat → Bool
  | .e, _ => false
  | .i a b, q => a.all (fun x => !decide (q < x)) && b.all (fun x => !decide (x < q))
end NS
end Go.Q
namespace Go.Q
namespace NS
theorem has_i {a b : Option Rat} {q : Rat} : (NS.i a b).has q = true ↔ (∀ x, a = some x → x ≤ q) ∧ (∀ x, b = some x → q ≤ x) := by
  cases a <;> cases b <;> simp [has] <;> grind
theorem ne_has {a b : Option Rat} (h : ordO a b = true) : ∃ q, (NS.i a b).has q = true := by
  cases a with
  | none => cases b with
    | none => exact ⟨0, by simp [has]⟩
    | some b => exact ⟨b, by simp [has] <;> grind⟩
  | some a => cases b with
    | none => exact ⟨a, by simp [has] <;> grind⟩
    | some b => exact ⟨a, by simp [ordO] at h; simp [has]; grind⟩
theorem low_has {b : Option Rat} (c : Rat) : ∃ q, q < c ∧ (NS.i none b).has q = true := by
  cases b with
  | none => exact ⟨c - 1, by grind, by simp [has]⟩
  | some b => exact ⟨min (c - 1) b, by grind, by simp [has] <;> grind⟩
theorem high_has {a : Option Rat} (c : Rat) : ∃ q, c < q ∧ (NS.i a none).has q = true := by
  cases a with
  | none => exact ⟨c + 1, by grind, by simp [has]⟩
  | some a => exact ⟨max (c + 1) a, by grind, by simp [has] <;> grind⟩
theorem lo_has {a : Rat} {b : Option Rat} (h : ordO (some a) b = true) : (NS.i (some a) b).has a = true := by
  cases b with
  | none => simp [has] <;> grind
  | some b => simp [ordO] at h; simp [has]; grind
theorem hi_has {a : Option Rat} {b : Rat} (h : ordO a (some b) = true) : (NS.i a (some b)).has b = true := by
  cases a with
  | none => simp [has] <;> grind
  | some a => simp [ordO] at h; simp [has]; grind
theorem within_iff {x y : NS} (hx : x.ok) : x.within y = true ↔ ∀ q, x.has q = true → y.has q = true := by
  cases x with
  | e => simp [within, has]
  | i a b =>
    cases y with
    | e =>
      obtain ⟨q, hq⟩ := ne_has hx
      simp only [within, has, Bool.false_eq_true, false_iff]
      exact fun h => h q hq
    | i c d =>
      constructor
      · intro h q hq
        rw [has_i] at hq ⊢
        cases a <;> cases b <;> cases c <;> cases d <;> simp [within, lowIn, highIn] at h hq ⊢ <;> grind
      · intro h
        have h1 : lowIn c a = true := by
          cases c with
          | none => rfl
          | some c => cases a with
            | none =>
              obtain ⟨q, hc, hq⟩ := low_has (b := b) c
              have := has_i.1 (h q hq)
              have := this.1 c rfl
              grind
            | some a =>
              have := has_i.1 (h a (lo_has hx))
              have := this.1 c rfl
              simp [lowIn, highIn]; grind
        have h2 : highIn d b = true := by
          cases d with
          | none => rfl
          | some d => cases b with
            | none =>
              obtain ⟨q, hc, hq⟩ := high_has (a := a) d
              have := has_i.1 (h q hq)
              have := this.2 d rfl
              grind
            | some b =>
              have := has_i.1 (h b (hi_has hx))
              have := this.2 d rfl
              simp [lowIn, highIn]; grind
        simp only [within, h1, h2, Bool.and_self]
theorem anti {x y : NS} (hx : x.ok) (hy : y.ok) (h1 : x.within y = true) (h2 : y.within x = true) : x = y := by
  cases x with
  | e => cases y with
    | e => rfl
    | i c d => cases h2
  | i a b => cases y with
    | e => cases h1
    | i c d =>
      cases a <;> cases b <;> cases c <;> cases d <;> simp [within, lowIn, highIn] at h1 h2 ⊢ <;> grind
theorem ext {x y : NS} (hx : x.ok) (hy : y.ok) (h : ∀ q, x.has q = y.has q) : x = y :=
  anti hx hy ((within_iff hx).2 fun q k => by rw [← h]; exact k) ((within_iff hy).2 fun q k => by rw [h]; exact k)
end NS
theorem pow2_pos (p : Nat) : (0 : Rat) < 2 ^ p := Rat.pow_pos (by decide)
theorem div_le' {a b c : Rat} (hb : 0 < b) : a / b ≤ c ↔ a ≤ c * b := by
  have := Rat.lt_div_iff (a := c) (b := a) hb
  grind
theorem gdown_le (x : Rat) (p : Nat) : gdown x p ≤ x := by
  unfold gdown
  have h := Rat.floor_le (x * 2 ^ p)
  rw [div_le' (pow2_pos p)]
  exact h
theorem gdown_mono {x y : Rat} (p : Nat) (h : x ≤ y) : gdown x p ≤ gdown y p := by
  unfold gdown
  have h1 : x * 2 ^ p ≤ y * 2 ^ p := Rat.mul_le_mul_of_nonneg_right h (Rat.le_of_lt (pow2_pos p))
  have h2 : (x * 2 ^ p).floor ≤ (y * 2 ^ p).floor := Rat.le_floor_iff.2 (Rat.le_trans (Rat.floor_le _) h1)
  rw [div_le' (pow2_pos p), Rat.div_mul_cancel (by have := pow2_pos p; grind)]
  exact_mod_cast h2
theorem gup_neg (x : Rat) (p : Nat) : gup (-x) p = -gdown x p := by
  unfold gup gdown
  rw [Rat.neg_mul, Rat.ceil_eq_neg_floor_neg, Rat.neg_neg, Rat.intCast_neg, Rat.div_def, Rat.neg_mul, ← Rat.div_def]
theorem gdown_neg (x : Rat) (p : Nat) : gdown (-x) p = -gup x p := by
  have := gup_neg (-x) p
  rw [Rat.neg_neg] at this
  rw [this, Rat.neg_neg]
theorem gup_eq (x : Rat) (p : Nat) : gup x p = -gdown (-x) p := by rw [gdown_neg, Rat.neg_neg]
theorem le_gup (x : Rat) (p : Nat) : x ≤ gup x p := by
  have := gdown_le (-x) p
  rw [gup_eq]; grind
namespace NS
end NS
end Go.Q
namespace Go.Q
open Go.Proofs
set_option maxRecDepth 100000
set_option maxHeartbeats 8000000
def piFine (w : Nat) : Bool := Nat.ble (piH w * 5) (16 * 2 ^ w) && Nat.ble (piH w) (piL w + 1024)
theorem piFine_all : ((List.range 129).all fun i => piFine (i + 64)) = true := by decide +kernel
theorem pi_fine {w : Nat} (h1 : 64 ≤ w) (h2 : w ≤ 192) : piH w * 5 ≤ 16 * 2 ^ w ∧ piH w ≤ piL w + 1024 := by
  have h := List.all_eq_true.1 piFine_all (w - 64) (List.mem_range.2 (by omega))
  rw [show w - 64 + 64 = w by omega] at h
  simpa [piFine] using h
def fW (w : Nat) : Rat := sgn false (piL w) (2 ^ (w + 1))
def gW (w : Nat) : Rat := sgn false (piH w) (2 ^ (w + 1))
theorem sgn_u (n w : Nat) : sgn false n (2 ^ w) * ((2 ^ w : Nat) : Rat) = (n : Rat) := by
  have hd : ((2 ^ w : Nat) : Rat) ≠ 0 := by exact_mod_cast pow2_ne w
  unfold sgn
  rw [Rat.mkRat_eq_div]
  show ((n : Int) : Rat) / ((2 ^ w : Nat) : Rat) * ((2 ^ w : Nat) : Rat) = _
  rw [Rat.div_mul_cancel hd]
  rfl
theorem u_pos (w : Nat) : (0 : Rat) < ((2 ^ w : Nat) : Rat) := by exact_mod_cast Nat.pow_pos (by decide)
theorem fW_bd {w : Nat} (h1 : 64 ≤ w) (h2 : w ≤ 192) : 3 / 2 ≤ fW w ∧ fW w ≤ gW w ∧ gW w ≤ 8 / 5 ∧ (gW w - fW w) * 18014398509481984 ≤ 1 := by
  obtain ⟨a1, a2, a3⟩ := piL_ge (w := w) (by omega) h2
  obtain ⟨a4, a5⟩ := pi_fine h1 h2
  have e1 := sgn_u (piL w) (w + 1)
  have e2 := sgn_u (piH w) (w + 1)
  have hp := u_pos (w + 1)
  have eu : ((2 ^ (w + 1) : Nat) : Rat) = ((2 ^ w : Nat) : Rat) * 2 := by rw [Nat.pow_succ]; push_cast; rfl
  have b1 : (3 : Rat) * ((2 ^ w : Nat) : Rat) ≤ (piL w : Rat) := by exact_mod_cast a1
  have b2 : (piL w : Rat) ≤ (piH w : Rat) := by exact_mod_cast Nat.le_of_lt a2
  have b3 : (piH w : Rat) * 5 ≤ 16 * ((2 ^ w : Nat) : Rat) := by exact_mod_cast a4
  have b4 : (piH w : Rat) ≤ (piL w : Rat) + 1024 := by exact_mod_cast a5
  have b5 : (18446744073709551616 : Rat) ≤ ((2 ^ w : Nat) : Rat) := by
    have : 2 ^ 64 ≤ 2 ^ w := Nat.pow_le_pow_right (by decide) h1
    exact_mod_cast this
  unfold fW gW
  generalize sgn false (piL w) (2 ^ (w + 1)) = f at *
  generalize sgn false (piH w) (2 ^ (w + 1)) = g at *
  rw [← e1] at b1 b2 b4
  rw [← e2] at b2 b3 b4
  rw [eu] at e1 e2 b1 b2 b3 b4 hp
  generalize ((2 ^ w : Nat) : Rat) = u at *
  clear e1 e2 eu a1 a2 a3 a4 a5
  have hu : (0 : Rat) < u := by grind
  refine ⟨?_, ?_, ?_, ?_⟩
  · exact Rat.le_of_mul_le_mul_right (by grind) hu
  · exact Rat.le_of_mul_le_mul_right (by grind) hp
  · exact Rat.le_of_mul_le_mul_right (by grind) hp
  · have : (g - f) * (u * 2) ≤ 1024 := by grind
    have h0 : 0 ≤ g - f := by
      have : f ≤ g := Rat.le_of_mul_le_mul_right (by grind) hp
      grind
    have := Rat.mul_le_mul_of_nonneg_left b5 h0
    grind
def rsK (x : Rat) (w : Nat) : Int := (x * (fW w)⁻¹ + 1 / 2).floor
def rsA (x : Rat) (w : Nat) : Rat := gdown (x + -((rsK x w : Rat) * (if rsK x w < 0 then fW w else gW w))) w
def rsB (x : Rat) (w : Nat) : Rat := gup (x + -((rsK x w : Rat) * (if rsK x w < 0 then gW w else fW w))) w
theorem rsK_bd {x : Rat} {w : Nat} (h1 : 64 ≤ w) (h2 : w ≤ 192) (hx : -4294967296 ≤ x ∧ x ≤ 4294967296) : -2863311532 ≤ rsK x w ∧ rsK x w ≤ 2863311532 := by
  obtain ⟨a1, _, _, _⟩ := fW_bd h1 h2
  obtain ⟨b1, b2⟩ := quo_bd hx a1
  have e : ((2863311532 : Int) : Rat) = 2863311532 := rfl
  exact floor_bd (c := 2863311532) (by rw [e]; constructor <;> grind)
theorem gd_ge_int {x : Rat} {z : Int} {w : Nat} (h : (z : Rat) ≤ x) : (z : Rat) ≤ gdown x w := by
  have e : gdown (z : Rat) w = (z : Rat) := by
    unfold gdown
    have hp := pow2_pos w
    rw [show (z : Rat) * 2 ^ w = ((z * 2 ^ w : Int) : Rat) by push_cast; rfl, Rat.floor_intCast]
    push_cast
    rw [Rat.div_def, Rat.mul_assoc, Rat.mul_inv_cancel _ (by grind), Rat.mul_one]
  rw [← e]
  exact gdown_mono w h
theorem gu_le_int {x : Rat} {z : Int} {w : Nat} (h : x ≤ (z : Rat)) : gup x w ≤ (z : Rat) := by
  rw [gup_eq]
  have := gd_ge_int (x := -x) (z := -z) (w := w) (by push_cast; grind)
  push_cast at this
  grind
theorem rs_mid {x : Rat} {w : Nat} (h1 : 64 ≤ w) (h2 : w ≤ 192) (hx : -4294967296 ≤ x ∧ x ≤ 4294967296) :
    -1 ≤ x + -((rsK x w : Rat) * (if rsK x w < 0 then fW w else gW w)) ∧ x + -((rsK x w : Rat) * (if rsK x w < 0 then fW w else gW w)) ≤ x + -((rsK x w : Rat) * (if rsK x w < 0 then gW w else fW w)) ∧ x + -((rsK x w : Rat) * (if rsK x w < 0 then gW w else fW w)) ≤ 1 := by
  obtain ⟨a1, a2, a3, a4⟩ := fW_bd h1 h2
  obtain ⟨k1, k2⟩ := rsK_bd h1 h2 hx
  have l1 := Rat.floor_le (x * (fW w)⁻¹ + 1 / 2)
  have l2 := Rat.lt_floor_add_one (x * (fW w)⁻¹ + 1 / 2)
  have e : x * (fW w)⁻¹ * fW w = x := by rw [Rat.mul_assoc, Rat.inv_mul_cancel _ (by grind), Rat.mul_one]
  have k1' : (-2863311532 : Rat) ≤ (rsK x w : Rat) := Rat.intCast_le_intCast.2 k1
  have k2' : (rsK x w : Rat) ≤ (2863311532 : Rat) := Rat.intCast_le_intCast.2 k2
  have ks : rsK x w < 0 ↔ (rsK x w : Rat) < 0 := by
    have := @Rat.intCast_lt_intCast (rsK x w) 0
    simpa using this.symm
  unfold rsK at *
  generalize hk : (x * (fW w)⁻¹ + 1 / 2).floor = k at *
  clear hk
  generalize (fW w)⁻¹ = i at *
  generalize fW w = f at *
  generalize gW w = g at *
  have m1 : x ≤ ((k : Rat) + 1 / 2) * f := by
    have : x * i ≤ (k : Rat) + 1 / 2 := by grind
    have := Rat.mul_le_mul_of_nonneg_right this (show 0 ≤ f by grind)
    grind
  have m2 : ((k : Rat) - 1 / 2) * f ≤ x := by
    have : (k : Rat) - 1 / 2 ≤ x * i := by grind
    have := Rat.mul_le_mul_of_nonneg_right this (show 0 ≤ f by grind)
    grind
  have d0 : 0 ≤ g - f := by grind
  clear e l1 l2
  by_cases hk : k < 0
  · have hk' := ks.1 hk
    simp only [if_pos hk]
    have n1 := Rat.mul_le_mul_of_nonneg_right k1' d0
    have n2 := Rat.mul_le_mul_of_nonneg_right (Rat.le_of_lt hk') d0
    clear ks k1 k2
    refine ⟨?_, ?_, ?_⟩ <;> grind
  · have hk' : (0 : Rat) ≤ (k : Rat) := Rat.not_lt.1 fun c => hk (ks.2 c)
    simp only [if_neg hk]
    have n1 := Rat.mul_le_mul_of_nonneg_right k2' d0
    have n2 := Rat.mul_le_mul_of_nonneg_right hk' d0
    clear ks k1 k2
    refine ⟨?_, ?_, ?_⟩ <;> grind
theorem rs_bd {x : Rat} {w : Nat} (h1 : 64 ≤ w) (h2 : w ≤ 192) (hx : -4294967296 ≤ x ∧ x ≤ 4294967296) : -1 ≤ rsA x w ∧ rsA x w ≤ rsB x w ∧ rsB x w ≤ 1 := by
  obtain ⟨a1, a2, a3⟩ := rs_mid h1 h2 hx
  unfold rsA rsB
  refine ⟨?_, Rat.le_trans (gdown_le _ _) (Rat.le_trans a2 (le_gup _ _)), ?_⟩
  · exact_mod_cast gd_ge_int (z := -1) (w := w) (by exact_mod_cast a1)
  · exact_mod_cast gu_le_int (z := 1) (w := w) (by exact_mod_cast a3)
theorem q_den (q : Rat) : q * (q.den : Rat) = (q.num : Rat) := by
  have hd : (q.den : Rat) ≠ 0 := by exact_mod_cast q.den_nz
  have e := Rat.mkRat_self q
  rw [Rat.mkRat_eq_div] at e
  generalize (q.den : Rat) = d at *
  generalize (q.num : Rat) = n at *
  rw [← e, Rat.div_mul_cancel hd]
theorem abs_num {q : Rat} (h1 : -1 ≤ q) (h2 : q ≤ 1) : ¬ q.den < q.num.natAbs := by
  have hd : (0 : Rat) < (q.den : Rat) := by exact_mod_cast q.den_pos
  have e := q_den q
  have m1 := Rat.mul_le_mul_of_nonneg_right h1 (Rat.le_of_lt hd)
  have m2 := Rat.mul_le_mul_of_nonneg_right h2 (Rat.le_of_lt hd)
  rw [e] at m1 m2
  have n1 : -(q.den : Int) ≤ q.num := by
    have : ((-(q.den : Int) : Int) : Rat) ≤ (q.num : Rat) := by push_cast; grind
    exact_mod_cast this
  have n2 : q.num ≤ (q.den : Int) := by
    have : (q.num : Rat) ≤ ((q.den : Int) : Rat) := by push_cast; grind
    exact_mod_cast this
  omega
end Go.Q
namespace Go.Q
open Go.Proofs
set_option maxRecDepth 100000
set_option maxHeartbeats 8000000
def rtw (q : Rat) (n p : Nat) : Nat := q.num.natAbs * 2 ^ (p * n) / q.den
def rtx (q : Rat) (n p : Nat) : Bool := decide (irt n (rtw q n p) ^ n = rtw q n p) && decide (q.num.natAbs * 2 ^ (p * n) % q.den = 0)
def rtm (up : Bool) (q : Rat) (n p : Nat) : Nat := if (up != decide (q.num < 0)) = true ∧ rtx q n p = false then irt n (rtw q n p) + 1 else irt n (rtw q n p)
def rootg (up : Bool) (q : Rat) (n p : Nat) : Rat := sgn (decide (q.num < 0)) (rtm up q n p) (2 ^ p)
end Go.Q
namespace Go.Q
open Go.Proofs
set_option maxRecDepth 100000
set_option maxHeartbeats 8000000
end Go.Q
namespace Go.Q
open Go.Proofs
set_option maxRecDepth 100000
set_option maxHeartbeats 8000000
end Go.Q
namespace Go.Q
open Go.Proofs
set_option maxRecDepth 100000
set_option maxHeartbeats 8000000
end Go.Q
namespace Go.Q
open Go.Proofs
set_option maxRecDepth 100000
set_option maxHeartbeats 8000000
end Go.Q
namespace Go.Q
open Go.Proofs
set_option maxRecDepth 100000
set_option maxHeartbeats 8000000
def abQ (x : Rat) : Rat := sgn false x.num.natAbs x.den
def asR (x : Rat) : Rat := 1 + -(abQ x * abQ x)
def asG (u : Bool) (x : Rat) (w : Nat) : Rat := rootg u (asR x) 2 w
def asH (u : Bool) (x : Rat) (w : Nat) : Rat := abQ x * (1 + asG u x w)⁻¹
def asL (x : Rat) (w : Nat) : Nat := anL (glo (asH true x w) w) (ghi (asH false x w) w) w * 2 ^ 1
def asU (x : Rat) (w : Nat) : Nat := anH (glo (asH true x w) w) (ghi (asH false x w) w) w * 2 ^ 1
theorem abQ_parts (x : Rat) : (abQ x).num = (x.num.natAbs : Int) ∧ (abQ x).den = x.den := by
  have := sgn_num (neg := false) (n := x.num.natAbs) (d := x.den) x.den_nz x.reduced
  simpa [abQ] using this
theorem abQ_bd {x : Rat} (h : x.num.natAbs ≤ x.den) : 0 ≤ abQ x ∧ abQ x ≤ 1 := by
  obtain ⟨e1, e2⟩ := abQ_parts x
  have hd : (0 : Rat) < (x.den : Rat) := by exact_mod_cast x.den_pos
  have e : abQ x * (x.den : Rat) = (x.num.natAbs : Rat) := by
    have := q_den (abQ x)
    rw [e1, e2] at this
    exact_mod_cast this
  have h' : (x.num.natAbs : Rat) ≤ (x.den : Rat) := by exact_mod_cast h
  have h0 : (0 : Rat) ≤ (x.num.natAbs : Rat) := by exact_mod_cast Nat.zero_le _
  generalize (x.num.natAbs : Rat) = n at *
  generalize (x.den : Rat) = d at *
  exact ⟨Rat.le_of_mul_le_mul_right (by grind) hd, Rat.le_of_mul_le_mul_right (by grind) hd⟩
theorem asR_bd {x : Rat} (h : x.num.natAbs ≤ x.den) : 0 ≤ asR x ∧ asR x ≤ 1 := by
  obtain ⟨h1, h2⟩ := abQ_bd h
  have m1 := Rat.mul_le_mul_of_nonneg_left h2 h1
  have m2 := Rat.mul_nonneg h1 h1
  unfold asR
  generalize abQ x = a at *
  constructor <;> grind
theorem rtw_le {q : Rat} {w : Nat} (h0 : 0 ≤ q) (h1 : q ≤ 1) : rtw q 2 w ≤ 2 ^ (w * 2) := by
  have := abs_num (q := q) (by grind) h1
  unfold rtw
  exact Nat.div_le_of_le_mul (Nat.mul_le_mul_right _ (by omega))
theorem asG_m {u : Bool} {q : Rat} {w : Nat} (h0 : 0 ≤ q) (h1 : q ≤ 1) : ∃ m, rootg u q 2 w = sgn false m (2 ^ w) ∧ m ≤ 2 ^ w + 1 := by
  have hw := rtw_le (w := w) h0 h1
  have hi : irt 2 (rtw q 2 w) ≤ 2 ^ w := by
    have h2 := irt_le (n := 2) (a := rtw q 2 w) (by decide)
    have h3 : irt 2 (rtw q 2 w) ^ 2 ≤ (2 ^ w) ^ 2 := by rw [← Nat.pow_mul]; exact Nat.le_trans h2 hw
    exact (Nat.pow_le_pow_iff_left (by decide)).1 h3
  refine ⟨rtm u q 2 w, ?_, ?_⟩
  · unfold rootg
    rw [show decide (q.num < 0) = false from decide_eq_false (by rw [num_neg]; grind)]
  · unfold rtm
    split <;> omega
theorem one_sgn (m w : Nat) : 1 + sgn false m (2 ^ w) = sgn false (2 ^ w + m) (2 ^ w) := by
  have hd : ((2 ^ w : Nat) : Rat) ≠ 0 := by exact_mod_cast pow2_ne w
  have e1 := sgn_u m w
  have e2 := sgn_u (2 ^ w + m) w
  have e3 : ((2 ^ w + m : Nat) : Rat) = ((2 ^ w : Nat) : Rat) + (m : Rat) := by push_cast; rfl
  rw [e3] at e2
  generalize sgn false m (2 ^ w) = a at *
  generalize sgn false (2 ^ w + m) (2 ^ w) = b at *
  generalize ((2 ^ w : Nat) : Rat) = u at *
  have : (1 + a) * u = b * u := by grind
  grind
theorem asG_bd {u : Bool} {x : Rat} {w : Nat} (h : x.num.natAbs ≤ x.den) : 0 ≤ asG u x w ∧ sz (1 + asG u x w) ≤ w + 3 := by
  obtain ⟨h0, h1⟩ := asR_bd h
  obtain ⟨m, e, hm⟩ := asG_m (u := u) (w := w) h0 h1
  unfold asG
  rw [e]
  constructor
  · have := sgn_u m w
    have hp := u_pos w
    have hm0 : (0 : Rat) ≤ (m : Rat) := by exact_mod_cast Nat.zero_le _
    exact Rat.le_of_mul_le_mul_right (by grind) hp
  · rw [one_sgn]
    have b1 := sz_sgn false (2 ^ w + m) (pow2_ne w)
    have b2 : bl (2 ^ w + m) ≤ w + 3 := bl_le.2 (by
      have : 2 ^ (w + 3) = 2 ^ w * 8 := Nat.pow_add _ _ _
      have := Nat.pos_of_ne_zero (pow2_ne w)
      omega)
    have b3 := bl_pow2 w
    omega
theorem asH_bd {u : Bool} {x : Rat} {w : Nat} (h : x.num.natAbs ≤ x.den) : 0 ≤ asH u x w ∧ asH u x w ≤ 1 := by
  obtain ⟨h0, h1⟩ := abQ_bd h
  obtain ⟨g0, _⟩ := asG_bd (u := u) (w := w) h
  unfold asH
  generalize asG u x w = g at *
  generalize abQ x = a at *
  have hp : (0 : Rat) < 1 + g := by grind
  have e : (1 + g) * (1 + g)⁻¹ = 1 := Rat.mul_inv_cancel _ (by grind)
  have hi : 0 ≤ (1 + g)⁻¹ := Rat.le_of_lt (Rat.inv_pos.2 hp)
  constructor
  · exact Rat.mul_nonneg h0 hi
  · have := Rat.mul_le_mul_of_nonneg_right (show a ≤ 1 + g by grind) hi
    grind
theorem as_arg {x : Rat} {w : Nat} (h : x.num.natAbs ≤ x.den) : glo (asH true x w) w ≤ 2 ^ w ∧ ghi (asH false x w) w ≤ 2 ^ w := by
  obtain ⟨a1, a2⟩ := asH_bd (u := true) (w := w) h
  obtain ⟨b1, b2⟩ := asH_bd (u := false) (w := w) h
  exact ⟨(g_le (abs_num (by grind) a2)).1, (g_le (abs_num (by grind) b2)).2⟩
def asinLo (x : Rat) (p : Nat) : Rat := bkL (decide (x.num < 0)) (asL x (p + 32)) (asU x (p + 32)) 32 p
def asinHi (x : Rat) (p : Nat) : Rat := bkH (decide (x.num < 0)) (asL x (p + 32)) (asU x (p + 32)) 32 p
theorem bl_as {x : Rat} {w : Nat} (hw : 2 ≤ w) (h : x.num.natAbs ≤ x.den) : bl (asL x w) ≤ w + 4 ∧ bl (asU x w) ≤ w + 4 := by
  obtain ⟨l1, l2⟩ := as_arg (w := w) h
  obtain ⟨m1, m2⟩ := an_le hw l1 l2
  have b1 := bl_w3 hw m1
  have b2 := bl_w3 hw m2
  have b3 := bl_shl (anL (glo (asH true x w) w) (ghi (asH false x w) w) w) 1
  have b4 := bl_shl (anH (glo (asH true x w) w) (ghi (asH false x w) w) w) 1
  unfold asL asU
  omega
def acLo (x : Rat) (p : Nat) : Rat := if x = 0 then bkL false (piL (p + 32)) (piH (p + 32)) 33 p else if x.num < 0 then bkL false (piL (p + 32) + asL x (p + 32) * 2 ^ 1) (piH (p + 32) + asU x (p + 32) * 2 ^ 1) 33 p else gdown (sgn false (piL (p + 32)) (2 ^ (p + 32 + 1)) + -sgn false (asU x (p + 32) * 2 ^ 1) (2 ^ (p + 32 + 1))) p
def acHi (x : Rat) (p : Nat) : Rat := if x = 0 then bkH false (piL (p + 32)) (piH (p + 32)) 33 p else if x.num < 0 then bkH false (piL (p + 32) + asL x (p + 32) * 2 ^ 1) (piH (p + 32) + asU x (p + 32) * 2 ^ 1) 33 p else gup (sgn false (piH (p + 32)) (2 ^ (p + 32 + 1)) + -sgn false (asL x (p + 32) * 2 ^ 1) (2 ^ (p + 32 + 1))) p
end Go.Q
namespace Go.Q
open Go.Proofs
set_option maxRecDepth 100000
set_option maxHeartbeats 8000000
def snAt (x : Rat) (w : Nat) (low : Bool) : Rat := if (!(low == decide (x.num < 0))) = true then sgn (decide (x.num < 0)) (glo x w * wvL (glo x w) w 2 / 2 ^ w) (2 ^ w) else sgn (decide (x.num < 0)) (cdiv (glo x w * wvH (glo x w) w 2) (2 ^ w)) (2 ^ w)
theorem sn_n {y w : Nat} (hy : y ≤ 2 ^ w) : y * wvL y w 2 / 2 ^ w ≤ 2 ^ w ∧ cdiv (y * wvH y w 2) (2 ^ w) ≤ 2 ^ w := by
  obtain ⟨h1, h2⟩ := waV_le (w := w) (f := 2) (s := sqL y w) (t := sqH y w) (by decide) 24
  exact ⟨Nat.div_le_of_le_mul (Nat.mul_le_mul hy h2), (cdiv_le_iff (pow2_ne w)).2 (Nat.mul_le_mul hy h1)⟩
theorem snAt_sz {x : Rat} {w : Nat} {low : Bool} (hy : glo x w ≤ 2 ^ w) : sz (snAt x w low) ≤ w + 2 := by
  obtain ⟨h1, h2⟩ := sn_n hy
  have b0 := bl_pow2 w
  unfold snAt
  split
  · have := sz_sgn (decide (x.num < 0)) (glo x w * wvL (glo x w) w 2 / 2 ^ w) (pow2_ne w)
    have := bl_pow_le (n := glo x w * wvL (glo x w) w 2 / 2 ^ w) (w := w) (by omega)
    omega
  · have := sz_sgn (decide (x.num < 0)) (cdiv (glo x w * wvH (glo x w) w 2) (2 ^ w)) (pow2_ne w)
    have := bl_pow_le (n := cdiv (glo x w * wvH (glo x w) w 2) (2 ^ w)) (w := w) (by omega)
    omega
def csX (x y : Rat) (w : Nat) : Nat := max (glo x w) (glo y w)
def csN (x y : Rat) (w : Nat) : Nat := if (x.num < 0 ∧ ¬ y.num < 0) ∨ x = 0 ∨ y = 0 then 0 else min (glo x w) (glo y w)
end Go.Q
namespace Go.Q
open Go.Proofs
set_option maxRecDepth 100000
set_option maxHeartbeats 8000000
end Go.Q
namespace Go.Q
open Go.Proofs
set_option maxRecDepth 100000
set_option maxHeartbeats 8000000
def snl (x : Rat) (w : Nat) : Rat := snAt (rsA x w) w true
def snh (x : Rat) (w : Nat) : Rat := snAt (rsB x w) w false
def csl (x : Rat) (w : Nat) : Rat := sgn false (wvL (csX (rsA x w) (rsB x w) w) w 1) (2 ^ w)
def csh (x : Rat) (w : Nat) : Rat := sgn false (wvH (csN (rsA x w) (rsB x w) w) w 1) (2 ^ w)
def siL (x : Rat) (w : Nat) : Rat := if rsK x w % 4 = 1 then csl x w else if rsK x w % 4 = 2 then -snh x w else if rsK x w % 4 = 3 then -csh x w else snl x w
def siH (x : Rat) (w : Nat) : Rat := if rsK x w % 4 = 1 then csh x w else if rsK x w % 4 = 2 then -snl x w else if rsK x w % 4 = 3 then -csl x w else snh x w
def coL (x : Rat) (w : Nat) : Rat := if rsK x w % 4 = 1 then -snh x w else if rsK x w % 4 = 2 then -csh x w else if rsK x w % 4 = 3 then snl x w else csl x w
def coH (x : Rat) (w : Nat) : Rat := if rsK x w % 4 = 1 then -snl x w else if rsK x w % 4 = 2 then -csl x w else if rsK x w % 4 = 3 then snh x w else csh x w
theorem rs_glo {x : Rat} {w : Nat} (h1 : 64 ≤ w) (h2 : w ≤ 192) (hb : ¬ x.den * 4294967296 < x.num.natAbs) : glo (rsA x w) w ≤ 2 ^ w ∧ glo (rsB x w) w ≤ 2 ^ w := by
  obtain ⟨a1, a2, a3⟩ := rs_bd h1 h2 (num_bd hb)
  exact ⟨(g_le (abs_num a1 (by grind))).1, (g_le (abs_num (by grind) a3)).1⟩
theorem cs_sz {y w : Nat} : sz (sgn false (wvL y w 1) (2 ^ w)) ≤ w + 2 ∧ sz (sgn false (wvH y w 1) (2 ^ w)) ≤ w + 2 := by
  obtain ⟨w1, w2⟩ := waV_le (w := w) (f := 1) (s := sqL y w) (t := sqH y w) (by decide) 24
  have h0 := bl_pow2 w
  have h1 := bl_pow_le (n := wvL y w 1) (w := w) (by unfold wvL; omega)
  have h2 := bl_pow_le (n := wvH y w 1) (w := w) (by unfold wvH; omega)
  have h3 := sz_sgn false (wvL y w 1) (pow2_ne w)
  have h4 := sz_sgn false (wvH y w 1) (pow2_ne w)
  omega
theorem sc_sz {x : Rat} {w : Nat} (hb : ¬ x.den * 4294967296 < x.num.natAbs) (hw : 64 ≤ w) (hw' : w ≤ 192) : sz (siL x w) ≤ w + 2 ∧ sz (siH x w) ≤ w + 2 ∧ sz (coL x w) ≤ w + 2 ∧ sz (coH x w) ≤ w + 2 := by
  obtain ⟨l1, l2⟩ := rs_glo hw hw' hb
  obtain ⟨c1, _⟩ := cs_sz (y := csX (rsA x w) (rsB x w) w) (w := w)
  obtain ⟨_, c2⟩ := cs_sz (y := csN (rsA x w) (rsB x w) w) (w := w)
  have c1 : sz (csl x w) ≤ w + 2 := c1
  have c2 : sz (csh x w) ≤ w + 2 := c2
  have n1 : sz (snl x w) ≤ w + 2 := snAt_sz l1
  have n2 : sz (snh x w) ≤ w + 2 := snAt_sz l2
  have e1 := sz_neg (snl x w)
  have e2 := sz_neg (snh x w)
  have e3 := sz_neg (csl x w)
  have e4 := sz_neg (csh x w)
  unfold siL siH coL coH
  refine ⟨?_, ?_, ?_, ?_⟩ <;> (repeat' split) <;> omega
end Go.Q
