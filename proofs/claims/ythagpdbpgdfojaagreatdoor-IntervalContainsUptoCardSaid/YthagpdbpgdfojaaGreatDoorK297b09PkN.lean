/-
  Contracts of package number and package interval: roots. Conditions: the values are numbers (Cn), sets (Sd), intervals (Iv).
  The eight operations of the statements on two intervals: what each ends in; a part of the operands gives a part of the result, plain. Conditions: the precision is allowed, no number is large.
  The statements' own choice of an operation (apply): what it ends in. Conditions: the arguments are intervals.
  Contracts of the reference's intervals: canonical intervals, points, the whole line. Conditions: the values are intervals (Iv) and numbers (Rw).
  Contracts of the reference's intervals: two arguments; opposite, lesser and greater intervals. Conditions: the values are intervals (Iv) and sets (Rr).
  Contracts of the reference: products of numbers, of ends of sets. Conditions: the values denote the numbers and ends named, of at most 2^30 binary digits.
  Contracts of the reference's intervals: the product of two sets. Conditions: the values denote the sets named (Rr), their ends of at most 2048 binary digits. (Printed by a program.)
  Contracts of the reference's intervals: sums and differences. Conditions: the values are intervals (Iv) and sets (Rr).
  Contracts of the reference's intervals: numbers in a set. Conditions: the values are intervals (Iv), sets (Rr) and numbers (Rw, Qr).
  Contracts of the reference's intervals: inverses, products, quotients. Conditions: the values are intervals (Iv) and sets (Rr).
  What Mul and Div return. Conditions: the arguments are intervals.
  Contracts of the reference's intervals: signs, absolute values, opposites. Conditions: the values are intervals (Iv) and sets (Rr).
  Contracts of the reference's intervals: powers. Conditions: the values are intervals (Iv) and sets (Rr).
  What Pow returns. Conditions: the argument is an interval.
  Contracts of the reference's intervals: roots. Conditions: the values are intervals (Iv).
  What Root returns. Conditions: the argument is an interval.
  Operations are isotone. Conditions: the arguments are intervals.
  A set cut in two: the results of an operation on its parts have the result on the whole as their hull, plain. Conditions: ends in order (ok), the cut lies in the set.
  Powers of a set cut in two; hulls of joined sets, plain. Conditions: ends in order (ok), the cut lies in the set.
  The eight operations on an interval that is cut in two, plain: the hull of the two results is the result on the whole. Conditions: the precision is allowed, no number is large, the cut lies in the interval.
  The result of an operation on sets holds the result on each pair of their numbers, plain; of a root, what is known of it on any grid meets it. Conditions: ends in order (ok).
  Numbers as they come in (Rv) and as an operation of package number returns them (Nq). Conditions: none.
  Contracts of package number: sums, products, quotients, powers, comparison, roots on a grid; the statements' own choice among them (on). Conditions: the values are numbers of at most 2048 binary digits.
  Contracts of package interval: what Meet returns; laws of sizes. Conditions: the values are intervals.
  The result of an operation on intervals contains the result of the operation on each pair of their numbers. Conditions: the arguments are intervals and numbers.
-/
import Derived.Test.YthagpdbpgdfojaaGreatDoorK8c26a1PkD
import Derived.Test.YthagpdbpgdfojaaGreatDoorK74c410PkM
import Derived.Test.YthagpdbpgdfojaaGreatDoorK44c0f3PkH
import Derived.Test.YthagpdbpgdfojaaGreatDoorK1d3f91PkJ
import Derived.Test.YthagpdbpgdfojaaGreatDoorKce97e3PkL
import Derived.Test.YthagpdbpgdfojaaGreatDoorK120424PkK
import Derived.Test.YthagpdbpgdfojaaGreatDoorKd284b9PkG
set_option linter.unusedVariables false
set_option linter.unusedSimpArgs false
namespace Go.Q
open Go.Proofs
set_option maxRecDepth 100000
set_option maxHeartbeats 8000000
@[go_sem] theorem void_at_e' : NS.void .e = true := rfl
@[go_sem] theorem void_at_i' (a b : Option Rat) : NS.void (.i a b) = false := rfl
theorem pub_on {h h' : PH} [l : Le h h'] {b : Nat} {cs : Array Value} (hb : h b = some cs) : h' b = some cs := l.sub _ _ hb
theorem root_any {h0 h : PH} [Le h0 h] {v : Value} {neg : Bool} {a d n p : Nat} {u : Bool} (hv : Rw h0 v neg a d) (hl : ¬ lg neg a d) (hn : 2 ≤ n) (hn8 : n ≤ 8) (hp : p ≤ 256) (hd : ¬ ((qof neg a d).num < 0 ∧ n % 2 = 0)) :
    Spec mach 96 #[v, .int .i64 n, .int .i64 p, .bool u] h (fun r h' => ∃ w, r = .tuple #[w, .int .i64 0] ∧ Cn h' w (rootg u (qof neg a d) n p)) NP := by
  cases en : decide ((qof neg a d).num < 0) with
  | false => exact root_pos hv hl hn hn8 hp hd en
  | true => exact root_neg hv hl hn hn8 hp hd en
theorem RootDown_cn {h0 h : PH} [Le h0 h] {v : Value} {x : Rat} {n p : Nat} (hv : Cn h0 v x) (hs : sz x ≤ 2048) (hn : 2 ≤ n) (hn8 : n ≤ 8) (hp : p ≤ 256) (hd : ¬ (x < 0 ∧ n % 2 = 0)) : Spec mach 39 #[v, .int .i64 n, .int .i64 p] h (fun r h' => ∃ w, r = .tuple #[w, .int .i64 0] ∧ Cn h' w (rootg false x n p)) NP := by
  have hw := hv.rw (Nat.le_trans hs (by decide))
  have hl : ¬ lg (decide (x.num < 0)) x.num.natAbs (if x.den = 1 then 0 else x.den) := by rw [lg_cn]; omega
  have hq := qof_cn x
  have kR := fun {h} [Le h0 h] => root_any (h := h) (u := false) (p := p) hw hl hn hn8 hp (by rw [hq, num_neg]; exact hd)
  rw [hq] at kR
  clear hw hl hq
  obtain ⟨_, _, _, _, _, _, _, rfl, _⟩ := hv.sa
  refine Spec.go [] Tryz.func39 rfl rfl (by kernel_rfl) fun C _ => ?_
  try simp (maxSteps := 999999) (disch := omega) only [go_sem, Nat.reduceBEq, Nat.reduceAdd]
  refine caN (by exact kR) ?_; rintro v1 h1 s1 ⟨w, rfl, hw1⟩; obtain ⟨_, _, _, _, _, _, _, rfl, hw2⟩ := hw1.sa
  try simp (maxSteps := 999999) (disch := omega) only [go_sem, Nat.reduceBEq, Nat.reduceAdd]
  exact ⟨_, rfl, hw2⟩
theorem RootUp_cn {h0 h : PH} [Le h0 h] {v : Value} {x : Rat} {n p : Nat} (hv : Cn h0 v x) (hs : sz x ≤ 2048) (hn : 2 ≤ n) (hn8 : n ≤ 8) (hp : p ≤ 256) (hd : ¬ (x < 0 ∧ n % 2 = 0)) : Spec mach 40 #[v, .int .i64 n, .int .i64 p] h (fun r h' => ∃ w, r = .tuple #[w, .int .i64 0] ∧ Cn h' w (rootg true x n p)) NP := by
  have hw := hv.rw (Nat.le_trans hs (by decide))
  have hl : ¬ lg (decide (x.num < 0)) x.num.natAbs (if x.den = 1 then 0 else x.den) := by rw [lg_cn]; omega
  have hq := qof_cn x
  have kR := fun {h} [Le h0 h] => root_any (h := h) (u := true) (p := p) hw hl hn hn8 hp (by rw [hq, num_neg]; exact hd)
  rw [hq] at kR
  clear hw hl hq
  obtain ⟨_, _, _, _, _, _, _, rfl, _⟩ := hv.sa
  refine Spec.go [] Tryz.func40 rfl rfl (by kernel_rfl) fun C _ => ?_
  try simp (maxSteps := 999999) (disch := omega) only [go_sem, Nat.reduceBEq, Nat.reduceAdd]
  refine caN (by exact kR) ?_; rintro v1 h1 s1 ⟨w, rfl, hw1⟩; obtain ⟨_, _, _, _, _, _, _, rfl, hw2⟩ := hw1.sa
  try simp (maxSteps := 999999) (disch := omega) only [go_sem, Nat.reduceBEq, Nat.reduceAdd]
  exact ⟨_, rfl, hw2⟩
theorem number_cn {h0 h : PH} [Le h0 h] {v : Value} {x : Rat} (hv : Cn h0 v x) (hs : sz x ≤ 2048) : Spec mach 70 #[v] h (fun v h' => Fr h' v x) NP := by
  have hl : ¬ lg (decide (x.num < 0)) x.num.natAbs (if x.den = 1 then 0 else x.den) := by rw [lg_cn]; omega
  have := number_ok (h := h) (hv.rw (Nat.le_trans hs (by decide))) hl
  rwa [qof_cn] at this
def NS.rootS (n p : Nat) : NS → NS
  | .e => .e
  | .i a b => .i (a.map (rootg false · n p)) (b.map (rootg true · n p))
def badr (n : Int) : Bool := decide (n < 2) || decide (8 < n)
theorem badr_no {n : Int} (h : badr n = false) : 2 ≤ n ∧ n ≤ 8 := by
  unfold badr at h
  simp only [Bool.or_eq_false_iff, decide_eq_false_iff_not] at h
  omega
theorem badr_yes {n : Int} (h : badr n = true) : n < 2 ∨ 8 < n := by
  unfold badr at h
  simpa using h
def rootO (n p : Int) (x : NS) : Out := bif x.void then .ok .e else if n % 2 = 0 ∧ x.slo < 0 then .error 5 else .ok (x.rootS n.toNat p.toNat)
def rootR (n p : Int) (x : NS) : Out := bif badr n then .error 2 else Out.prec p (rootO n p x)
theorem dom_low {a b : Option Rat} {m : Nat} (hd : ¬ ((m : Int) % 2 = 0 ∧ (NS.i a b).slo < 0)) : ∀ q, a = some q → ¬ (q < 0 ∧ m % 2 = 0) := by
  intro q e k
  subst e
  have : sgn3 q = -1 := by unfold sgn3; rw [if_pos k.1]
  exact hd ⟨by omega, by show sgn3 q < 0; omega⟩
theorem dom_high {a b : Option Rat} {m : Nat} (hx : (NS.i a b).ok) (hd : ¬ ((m : Int) % 2 = 0 ∧ (NS.i a b).slo < 0)) : ∀ q, b = some q → ¬ (q < 0 ∧ m % 2 = 0) := by
  intro q e k
  subst e
  cases a with
  | none => exact hd ⟨by omega, by show (-1 : Int) < 0; decide⟩
  | some a =>
    have h1 : ¬ q < a := by simpa [NS.ok, ordO] using hx
    exact dom_low hd a rfl ⟨by grind, k.2⟩
theorem Root1 {h0 h : PH} [Le h0 h] {s : Value} {x : NS} {n p : Int} {b1 b2 : Nat} (hs : Sd h0 s x) (hx : x.ok) (lx : x.le 2048) (hb1 : h b1 = some #[.int .i64 n]) (hb2 : h b2 = some #[.int .i64 p]) : Does 68 #[s, .pointer (some ⟨b1, 0, none⟩), .pointer (some ⟨b2, 0, none⟩)] h (rootR n p x) := by
  have hs0 := hs.sn
  cases gn : badr n with
  | true =>
    have e0 : rootR n p x = .error 2 := by unfold rootR; rw [gn]; rfl
    rw [e0]
    obtain ⟨_, _, _, _, _, _, _, _, _, _, _, _, _, _, _, _, rfl, hs⟩ := hs.sa
    show Spec _ _ _ _ NR (fail 2)
    refine Spec.go [(9, .o [0, 1, 6, 7, 2, 3, 4, 5, 8, 9, 10, 11, 12, 13, 14]), (11, .o [0, 1, 6, 7, 2, 3, 4, 5, 8, 9, 10, 11, 12, 13, 14])] Tryz.func68 rfl rfl (by kernel_rfl) fun C _ => ?_
    try simp (maxSteps := 999999) (disch := omega) only [go_sem, Nat.reduceBEq, Nat.reduceAdd]
    refine ld1_of (at_one hb1) ?_
    try simp (maxSteps := 999999) (disch := omega) only [go_sem, Nat.reduceBEq, Nat.reduceAdd]
    exact caF (by exact precise_fail (badr_yes gn)) (fun _ _ h => h)
  | false =>
    have hn := badr_no gn
    cases gp : bad p with
    | true =>
      have e0 : rootR n p x = .error 2 := by unfold rootR Out.prec; rw [gn, gp]; rfl
      rw [e0]
      obtain ⟨_, _, _, _, _, _, _, _, _, _, _, _, _, _, _, _, rfl, hs⟩ := hs.sa
      show Spec _ _ _ _ NR (fail 2)
      refine Spec.go [(9, .o [0, 1, 6, 7, 2, 3, 4, 5, 8, 9, 10, 11, 12, 13, 14]), (11, .o [0, 1, 6, 7, 2, 3, 4, 5, 8, 9, 10, 11, 12, 13, 14])] Tryz.func68 rfl rfl (by kernel_rfl) fun C _ => ?_
      try simp (maxSteps := 999999) (disch := omega) only [go_sem, Nat.reduceBEq, Nat.reduceAdd]
      refine ld1_of (at_one hb1) ?_
      try simp (maxSteps := 999999) (disch := omega) only [go_sem, Nat.reduceBEq, Nat.reduceAdd]
      refine caN (by exact precise_ok hn.1 hn.2) ?_; rintro v1 h1 st1 _
      try simp (maxSteps := 999999) (disch := omega) only [go_sem, Nat.reduceBEq, Nat.reduceAdd]
      refine ld1_of (at_one (pub_on hb2)) ?_
      try simp (maxSteps := 999999) (disch := omega) only [go_sem, Nat.reduceBEq, Nat.reduceAdd]
      exact caF (by exact precise_fail (bad_yes gp)) (fun _ _ h => h)
    | false =>
      have hp := bad_no gp
      have e0 : rootR n p x = rootO n p x := by unfold rootR Out.prec; rw [gn, gp]; rfl
      rw [e0]
      clear e0
      cases x with
      | e =>
        show Spec _ _ _ _ (fun v h' => Sn h' v .e) NP
        have kS := fun {h} [Le h0 h] => signs_void (h := h) hs0
        obtain ⟨_, _, _, _, _, _, _, _, _, _, _, _, _, _, _, _, rfl, hs⟩ := hs.sa
        refine Spec.go [(9, .o [0, 1, 6, 7, 2, 3, 4, 5, 8, 9, 10, 11, 12, 13, 14]), (11, .o [0, 1, 6, 7, 2, 3, 4, 5, 8, 9, 10, 11, 12, 13, 14])] Tryz.func68 rfl rfl (by kernel_rfl) fun C _ => ?_
        try simp (maxSteps := 999999) (disch := omega) only [go_sem, Nat.reduceBEq, Nat.reduceAdd]
        refine ld1_of (at_one hb1) ?_
        try simp (maxSteps := 999999) (disch := omega) only [go_sem, Nat.reduceBEq, Nat.reduceAdd]
        refine caN (by exact precise_ok hn.1 hn.2) ?_; rintro v1 h1 st1 _
        try simp (maxSteps := 999999) (disch := omega) only [go_sem, Nat.reduceBEq, Nat.reduceAdd]
        refine ld1_of (at_one (pub_on hb2)) ?_
        try simp (maxSteps := 999999) (disch := omega) only [go_sem, Nat.reduceBEq, Nat.reduceAdd]
        refine caN (by exact precise_ok hp.1 hp.2) ?_; rintro v2 h2 st2 _
        try simp (maxSteps := 999999) (disch := omega) only [go_sem, Nat.reduceBEq, Nat.reduceAdd]
        refine caN (by exact kS) ?_; rintro v3 h3 st3 ⟨m1, m2, rfl⟩
        try simp (maxSteps := 999999) (disch := omega) only [go_sem, Nat.reduceBEq, Nat.reduceAdd]
        exact hs0.to
      | i a b =>
        have kS := fun {h} [Le h0 h] => signs_set (h := h) hs0
        rw [NS.le_i] at lx
        obtain ⟨B1, A1, M1, C1, A2, M2, C2, B2, A3, M3, C3, A4, M4, C4, rfl, e1, e2⟩ := hs0.ie
        obtain ⟨m, rfl⟩ : ∃ m : Nat, n = (m : Int) := ⟨n.toNat, by omega⟩
        obtain ⟨r, rfl⟩ : ∃ r : Nat, p = (r : Int) := ⟨p.toNat, by omega⟩
        have hm2 : 2 ≤ m := by omega
        have hm8 : m ≤ 8 := by omega
        have hp2 : r ≤ 256 := by omega
        by_cases hd : (m : Int) % 2 = 0 ∧ (NS.i a b).slo < 0
        · have e0 : rootO m r (.i a b) = .error 5 := by
            show (if _ then _ else _) = _
            rw [if_pos hd]
          rw [e0]
          obtain ⟨hd1, hd2⟩ := hd
          have hm : m % 2 = 0 := by omega
          generalize (NS.i a b).slo = sl at *
          generalize (NS.i a b).shi = sh at *
          show Spec _ _ _ _ NR (fail 5)
          refine Spec.go [(9, .o [0, 1, 6, 7, 2, 3, 4, 5, 8, 9, 10, 11, 12, 13, 14]), (11, .o [0, 1, 6, 7, 2, 3, 4, 5, 8, 9, 10, 11, 12, 13, 14])] Tryz.func68 rfl rfl (by kernel_rfl) fun C _ => ?_
          try simp (maxSteps := 999999) (disch := omega) only [go_sem, Nat.reduceBEq, Nat.reduceAdd]
          refine ld1_of (at_one hb1) ?_
          try simp (maxSteps := 999999) (disch := omega) only [go_sem, Nat.reduceBEq, Nat.reduceAdd]
          refine caN (by exact precise_ok hn.1 hn.2) ?_; rintro v1 h1 st1 _
          try simp (maxSteps := 999999) (disch := omega) only [go_sem, Nat.reduceBEq, Nat.reduceAdd]
          refine ld1_of (at_one (pub_on hb2)) ?_
          try simp (maxSteps := 999999) (disch := omega) only [go_sem, Nat.reduceBEq, Nat.reduceAdd]
          refine caN (by exact precise_ok hp.1 hp.2) ?_; rintro v2 h2 st2 _
          try simp (maxSteps := 999999) (disch := omega) only [go_sem, Nat.reduceBEq, Nat.reduceAdd]
          refine caN (by exact kS) ?_; rintro v3 h3 st3 rfl
          try simp (maxSteps := 999999) (disch := omega) only [go_sem, Nat.reduceBEq, Nat.reduceAdd]
          refine ld1_of (at_one (pub_on hb1)) ?_
          try simp (maxSteps := 999999) (disch := omega) only [go_sem, Nat.reduceBEq, Nat.reduceAdd]
          exact caF (by exact must_fail (by decide)) (fun _ _ h => h)
        · have e0 : rootO m r (.i a b) = .ok ((NS.i a b).rootS m r) := by
            show (if _ then _ else _) = _
            rw [if_neg hd]
            rfl
          rw [e0]
          have d1 := dom_low hd
          have d2 := dom_high hx hd
          have hd : ¬ (m % 2 = 0 ∧ (NS.i a b).slo < 0) := fun k => hd ⟨by omega, k.2⟩
          generalize (NS.i a b).slo = sl at *
          generalize (NS.i a b).shi = sh at *
          show Spec _ _ _ _ (fun v h' => Sn h' v (.i (a.map (rootg false · m r)) (b.map (rootg true · m r)))) NP
          have hcase : m % 2 = 1 ∨ (m % 2 = 0 ∧ ¬ sl < 0) := by
            rcases (show m % 2 = 1 ∨ m % 2 = 0 by omega) with k | k
            · exact .inl k
            · exact .inr ⟨k, fun j => hd ⟨k, j⟩⟩
          clear hd
          cases a with
          | none =>
            cases b with
            | none =>
              dsimp only [Option.isNone] at *
              rcases hcase with hm | ⟨hm, hl⟩ <;>
              · refine Spec.go [(9, .o [0, 1, 6, 7, 2, 3, 4, 5, 8, 9, 10, 11, 12, 13, 14]), (11, .o [0, 1, 6, 7, 2, 3, 4, 5, 8, 9, 10, 11, 12, 13, 14])] Tryz.func68 rfl rfl (by kernel_rfl) fun C _ => ?_
                try simp (maxSteps := 999999) (disch := omega) only [go_sem, Nat.reduceBEq, Nat.reduceAdd]
                refine ld1_of (at_one hb1) ?_
                try simp (maxSteps := 999999) (disch := omega) only [go_sem, Nat.reduceBEq, Nat.reduceAdd]
                refine caN (by exact precise_ok hn.1 hn.2) ?_; rintro v1 h1 st1 _
                try simp (maxSteps := 999999) (disch := omega) only [go_sem, Nat.reduceBEq, Nat.reduceAdd]
                refine ld1_of (at_one (pub_on hb2)) ?_
                try simp (maxSteps := 999999) (disch := omega) only [go_sem, Nat.reduceBEq, Nat.reduceAdd]
                refine caN (by exact precise_ok hp.1 hp.2) ?_; rintro v2 h2 st2 _
                try simp (maxSteps := 999999) (disch := omega) only [go_sem, Nat.reduceBEq, Nat.reduceAdd]
                refine caN (by exact kS) ?_; rintro v3 h3 st3 rfl
                try simp (maxSteps := 999999) (disch := omega) only [go_sem, Nat.reduceBEq, Nat.reduceAdd]
                refine ld1_of (at_one (pub_on hb1)) ?_
                try simp (maxSteps := 999999) (disch := omega) only [go_sem, Nat.reduceBEq, Nat.reduceAdd]
                exact ⟨_, _, _, _, _, _, rfl, e1.to, e2.to⟩
            | some b =>
              have l2 := lx.2 _ rfl
              dsimp only [Option.isNone] at *
              rcases hcase with hm | ⟨hm, hl⟩ <;>
              · refine Spec.go [(9, .o [0, 1, 6, 7, 2, 3, 4, 5, 8, 9, 10, 11, 12, 13, 14]), (11, .o [0, 1, 6, 7, 2, 3, 4, 5, 8, 9, 10, 11, 12, 13, 14])] Tryz.func68 rfl rfl (by kernel_rfl) fun C _ => ?_
                try simp (maxSteps := 999999) (disch := omega) only [go_sem, Nat.reduceBEq, Nat.reduceAdd]
                refine ld1_of (at_one hb1) ?_
                try simp (maxSteps := 999999) (disch := omega) only [go_sem, Nat.reduceBEq, Nat.reduceAdd]
                refine caN (by exact precise_ok hn.1 hn.2) ?_; rintro v1 h1 st1 _
                try simp (maxSteps := 999999) (disch := omega) only [go_sem, Nat.reduceBEq, Nat.reduceAdd]
                refine ld1_of (at_one (pub_on hb2)) ?_
                try simp (maxSteps := 999999) (disch := omega) only [go_sem, Nat.reduceBEq, Nat.reduceAdd]
                refine caN (by exact precise_ok hp.1 hp.2) ?_; rintro v2 h2 st2 _
                try simp (maxSteps := 999999) (disch := omega) only [go_sem, Nat.reduceBEq, Nat.reduceAdd]
                refine caN (by exact kS) ?_; rintro v3 h3 st3 rfl
                try simp (maxSteps := 999999) (disch := omega) only [go_sem, Nat.reduceBEq, Nat.reduceAdd]
                refine ld1_of (at_one (pub_on hb1)) ?_
                try simp (maxSteps := 999999) (disch := omega) only [go_sem, Nat.reduceBEq, Nat.reduceAdd]
                refine ld1_of (at_one (pub_on hb1)) ?_
                try simp (maxSteps := 999999) (disch := omega) only [go_sem, Nat.reduceBEq, Nat.reduceAdd]
                refine ld1_of (at_one (pub_on hb2)) ?_
                try simp (maxSteps := 999999) (disch := omega) only [go_sem, Nat.reduceBEq, Nat.reduceAdd]
                refine caN (by exact Give_ok (e2.num.to (h' := h3)) l2) ?_; rintro y1 k1 x1 ⟨u1, rfl, q1⟩; obtain ⟨_, _, _, _, _, _, _, rfl, q1⟩ := q1.sa
                try simp (maxSteps := 999999) (disch := omega) only [go_sem, Nat.reduceBEq, Nat.reduceAdd]
                refine caN (by exact have_ok q1) ?_; rintro y2 k2 x2 rfl
                try simp (maxSteps := 999999) (disch := omega) only [go_sem, Nat.reduceBEq, Nat.reduceAdd]
                refine caN (by exact RootUp_cn (q1.to (h' := k2)) l2 hm2 hm8 hp2 (d2 _ rfl)) ?_; rintro y3 k3 x3 ⟨u3, rfl, q3⟩; obtain ⟨_, _, _, _, _, _, _, rfl, q3⟩ := q3.sa
                try simp (maxSteps := 999999) (disch := omega) only [go_sem, Nat.reduceBEq, Nat.reduceAdd]
                refine caN (by exact have_ok q3) ?_; rintro y4 k4 x4 rfl
                try simp (maxSteps := 999999) (disch := omega) only [go_sem, Nat.reduceBEq, Nat.reduceAdd]
                refine caN (by exact number_cn (q3.to (h' := k4)) (rootg_sz l2 hm2 hp2)) ?_; rintro _ k5 _ r5; obtain ⟨_, _, _, _, _, _, _, rfl, r5⟩ := r5.sa
                try simp (maxSteps := 999999) (disch := omega) only [go_sem, Nat.reduceBEq, Nat.reduceAdd]
                exact ⟨_, _, _, _, _, _, rfl, e1.to, (En.of r5).to⟩
          | some a =>
            have l1 := lx.1 _ rfl
            cases b with
            | none =>
              dsimp only [Option.isNone] at *
              rcases hcase with hm | ⟨hm, hl⟩ <;>
              · refine Spec.go [(9, .o [0, 1, 6, 7, 2, 3, 4, 5, 8, 9, 10, 11, 12, 13, 14]), (11, .o [0, 1, 6, 7, 2, 3, 4, 5, 8, 9, 10, 11, 12, 13, 14])] Tryz.func68 rfl rfl (by kernel_rfl) fun C _ => ?_
                try simp (maxSteps := 999999) (disch := omega) only [go_sem, Nat.reduceBEq, Nat.reduceAdd]
                refine ld1_of (at_one hb1) ?_
                try simp (maxSteps := 999999) (disch := omega) only [go_sem, Nat.reduceBEq, Nat.reduceAdd]
                refine caN (by exact precise_ok hn.1 hn.2) ?_; rintro v1 h1 st1 _
                try simp (maxSteps := 999999) (disch := omega) only [go_sem, Nat.reduceBEq, Nat.reduceAdd]
                refine ld1_of (at_one (pub_on hb2)) ?_
                try simp (maxSteps := 999999) (disch := omega) only [go_sem, Nat.reduceBEq, Nat.reduceAdd]
                refine caN (by exact precise_ok hp.1 hp.2) ?_; rintro v2 h2 st2 _
                try simp (maxSteps := 999999) (disch := omega) only [go_sem, Nat.reduceBEq, Nat.reduceAdd]
                refine caN (by exact kS) ?_; rintro v3 h3 st3 rfl
                try simp (maxSteps := 999999) (disch := omega) only [go_sem, Nat.reduceBEq, Nat.reduceAdd]
                refine ld1_of (at_one (pub_on hb1)) ?_
                try simp (maxSteps := 999999) (disch := omega) only [go_sem, Nat.reduceBEq, Nat.reduceAdd]
                refine ld1_of (at_one (pub_on hb1)) ?_
                try simp (maxSteps := 999999) (disch := omega) only [go_sem, Nat.reduceBEq, Nat.reduceAdd]
                refine ld1_of (at_one (pub_on hb2)) ?_
                try simp (maxSteps := 999999) (disch := omega) only [go_sem, Nat.reduceBEq, Nat.reduceAdd]
                refine caN (by exact Give_ok e1.num l1) ?_; rintro w1 g1 t1 ⟨z1, rfl, c1⟩; obtain ⟨_, _, _, _, _, _, _, rfl, c1⟩ := c1.sa
                try simp (maxSteps := 999999) (disch := omega) only [go_sem, Nat.reduceBEq, Nat.reduceAdd]
                refine caN (by exact have_ok c1) ?_; rintro w2 g2 t2 rfl
                try simp (maxSteps := 999999) (disch := omega) only [go_sem, Nat.reduceBEq, Nat.reduceAdd]
                refine caN (by exact RootDown_cn (c1.to (h' := g2)) l1 hm2 hm8 hp2 (d1 _ rfl)) ?_; rintro w3 g3 t3 ⟨z3, rfl, c3⟩; obtain ⟨_, _, _, _, _, _, _, rfl, c3⟩ := c3.sa
                try simp (maxSteps := 999999) (disch := omega) only [go_sem, Nat.reduceBEq, Nat.reduceAdd]
                refine caN (by exact have_ok c3) ?_; rintro w4 g4 t4 rfl
                try simp (maxSteps := 999999) (disch := omega) only [go_sem, Nat.reduceBEq, Nat.reduceAdd]
                refine caN (by exact number_cn (c3.to (h' := g4)) (rootg_sz l1 hm2 hp2)) ?_; rintro _ g5 _ f5; obtain ⟨_, _, _, _, _, _, _, rfl, f5⟩ := f5.sa
                try simp (maxSteps := 999999) (disch := omega) only [go_sem, Nat.reduceBEq, Nat.reduceAdd]
                exact ⟨_, _, _, _, _, _, rfl, (En.of f5).to, e2.to⟩
            | some b =>
              have l2 := lx.2 _ rfl
              dsimp only [Option.isNone] at *
              rcases hcase with hm | ⟨hm, hl⟩ <;>
              · refine Spec.go [(9, .o [0, 1, 6, 7, 2, 3, 4, 5, 8, 9, 10, 11, 12, 13, 14]), (11, .o [0, 1, 6, 7, 2, 3, 4, 5, 8, 9, 10, 11, 12, 13, 14])] Tryz.func68 rfl rfl (by kernel_rfl) fun C _ => ?_
                try simp (maxSteps := 999999) (disch := omega) only [go_sem, Nat.reduceBEq, Nat.reduceAdd]
                refine ld1_of (at_one hb1) ?_
                try simp (maxSteps := 999999) (disch := omega) only [go_sem, Nat.reduceBEq, Nat.reduceAdd]
                refine caN (by exact precise_ok hn.1 hn.2) ?_; rintro v1 h1 st1 _
                try simp (maxSteps := 999999) (disch := omega) only [go_sem, Nat.reduceBEq, Nat.reduceAdd]
                refine ld1_of (at_one (pub_on hb2)) ?_
                try simp (maxSteps := 999999) (disch := omega) only [go_sem, Nat.reduceBEq, Nat.reduceAdd]
                refine caN (by exact precise_ok hp.1 hp.2) ?_; rintro v2 h2 st2 _
                try simp (maxSteps := 999999) (disch := omega) only [go_sem, Nat.reduceBEq, Nat.reduceAdd]
                refine caN (by exact kS) ?_; rintro v3 h3 st3 rfl
                try simp (maxSteps := 999999) (disch := omega) only [go_sem, Nat.reduceBEq, Nat.reduceAdd]
                refine ld1_of (at_one (pub_on hb1)) ?_
                try simp (maxSteps := 999999) (disch := omega) only [go_sem, Nat.reduceBEq, Nat.reduceAdd]
                refine ld1_of (at_one (pub_on hb1)) ?_
                try simp (maxSteps := 999999) (disch := omega) only [go_sem, Nat.reduceBEq, Nat.reduceAdd]
                refine ld1_of (at_one (pub_on hb2)) ?_
                try simp (maxSteps := 999999) (disch := omega) only [go_sem, Nat.reduceBEq, Nat.reduceAdd]
                refine caN (by exact Give_ok e1.num l1) ?_; rintro w1 g1 t1 ⟨z1, rfl, c1⟩; obtain ⟨_, _, _, _, _, _, _, rfl, c1⟩ := c1.sa
                try simp (maxSteps := 999999) (disch := omega) only [go_sem, Nat.reduceBEq, Nat.reduceAdd]
                refine caN (by exact have_ok c1) ?_; rintro w2 g2 t2 rfl
                try simp (maxSteps := 999999) (disch := omega) only [go_sem, Nat.reduceBEq, Nat.reduceAdd]
                refine caN (by exact RootDown_cn (c1.to (h' := g2)) l1 hm2 hm8 hp2 (d1 _ rfl)) ?_; rintro w3 g3 t3 ⟨z3, rfl, c3⟩; obtain ⟨_, _, _, _, _, _, _, rfl, c3⟩ := c3.sa
                try simp (maxSteps := 999999) (disch := omega) only [go_sem, Nat.reduceBEq, Nat.reduceAdd]
                refine caN (by exact have_ok c3) ?_; rintro w4 g4 t4 rfl
                try simp (maxSteps := 999999) (disch := omega) only [go_sem, Nat.reduceBEq, Nat.reduceAdd]
                refine caN (by exact number_cn (c3.to (h' := g4)) (rootg_sz l1 hm2 hp2)) ?_; rintro _ g5 _ f5; obtain ⟨_, _, _, _, _, _, _, rfl, f5⟩ := f5.sa
                try simp (maxSteps := 999999) (disch := omega) only [go_sem, Nat.reduceBEq, Nat.reduceAdd]
                refine ld1_of (at_one (pub_on hb1)) ?_
                try simp (maxSteps := 999999) (disch := omega) only [go_sem, Nat.reduceBEq, Nat.reduceAdd]
                refine ld1_of (at_one (pub_on hb2)) ?_
                try simp (maxSteps := 999999) (disch := omega) only [go_sem, Nat.reduceBEq, Nat.reduceAdd]
                refine caN (by exact Give_ok (e2.num.to (h' := g5)) l2) ?_; rintro y1 k1 x1 ⟨u1, rfl, q1⟩; obtain ⟨_, _, _, _, _, _, _, rfl, q1⟩ := q1.sa
                try simp (maxSteps := 999999) (disch := omega) only [go_sem, Nat.reduceBEq, Nat.reduceAdd]
                refine caN (by exact have_ok q1) ?_; rintro y2 k2 x2 rfl
                try simp (maxSteps := 999999) (disch := omega) only [go_sem, Nat.reduceBEq, Nat.reduceAdd]
                refine caN (by exact RootUp_cn (q1.to (h' := k2)) l2 hm2 hm8 hp2 (d2 _ rfl)) ?_; rintro y3 k3 x3 ⟨u3, rfl, q3⟩; obtain ⟨_, _, _, _, _, _, _, rfl, q3⟩ := q3.sa
                try simp (maxSteps := 999999) (disch := omega) only [go_sem, Nat.reduceBEq, Nat.reduceAdd]
                refine caN (by exact have_ok q3) ?_; rintro y4 k4 x4 rfl
                try simp (maxSteps := 999999) (disch := omega) only [go_sem, Nat.reduceBEq, Nat.reduceAdd]
                refine caN (by exact number_cn (q3.to (h' := k4)) (rootg_sz l2 hm2 hp2)) ?_; rintro _ k5 _ r5; obtain ⟨_, _, _, _, _, _, _, rfl, r5⟩ := r5.sa
                try simp (maxSteps := 999999) (disch := omega) only [go_sem, Nat.reduceBEq, Nat.reduceAdd]
                exact ⟨_, _, _, _, _, _, rfl, (En.of f5).to, (En.of r5).to⟩
theorem RootI_spec {h0 h : PH} [Le h0 h] {v : Value} {x : RI} {n p : Int} (hv : Iv h0 v x) : Spec mach 26 #[v, .int .i64 n, .int .i64 p] h (fun r h' => Ir h' r (x.fin (rootR n p x.set))) NP := by
  have hv0 := hv
  obtain ⟨a1, m1, c1, a2, m2, c2, a3, m3, c3, a4, m4, c4, rfl, _, _⟩ := hv.sa
  refine Spec.go [(1, .t (.p 1 (.p 2 (.s [0, 1, 2, 3, 4, 5, 6] .d))))] Tryz.func26 rfl rfl (by kernel_rfl) fun C _ => ?_
  try simp (maxSteps := 999999) (disch := omega) only [go_sem, Nat.reduceBEq, Nat.reduceAdd]
  intro b h1 st1 hb
  try simp (maxSteps := 999999) (disch := omega) only [go_sem, Nat.reduceBEq, Nat.reduceAdd]
  have hb := hb (by simp)
  intro b' h2 st2 hb'
  try simp (maxSteps := 999999) (disch := omega) only [go_sem, Nat.reduceBEq, Nat.reduceAdd]
  have hb' := hb' (by simp)
  refine caN (by exact unary_spec (hv0.to (h' := h2)) (fun g h' i s hs => Root1 hs (RI.set_ok x) (RI.le g) (i.sub _ _ (st2.sub _ _ hb)) (i.sub _ _ hb'))) ?_; rintro r3 h3 st3 hr3; obtain ⟨_, _, _, _, _, _, _, _, _, _, _, _, _, _, _, _, _, rfl, hr3⟩ := hr3.sa
  try simp (maxSteps := 999999) (disch := omega) only [go_sem, Nat.reduceBEq, Nat.reduceAdd]
  exact hr3
end Go.Q
namespace Go.Q
def opO (op : Nat) (x y : RI) (n p : Int) : Out :=
  match op with
  | 0 => x.fin2 y (rnd p x.set y.set (.ok (x.set.sum y.set)))
  | 1 => x.fin2 y (rnd p x.set y.set (.ok (x.set.sum y.set.minus)))
  | 2 => x.fin2 y (rnd p x.set y.set (.ok (x.set.prod y.set)))
  | 3 => x.fin2 y (rnd p x.set y.set (divO x.set y.set))
  | 4 => x.fin2 y (.ok (x.set.lesser y.set))
  | 5 => x.fin2 y (.ok (x.set.minus.lesser y.set.minus).minus)
  | 6 => x.fin (powR n p x.set)
  | _ => x.fin (rootR n p x.set)
theorem fin_out (z : NS) : Out.fin (.ok z) = .ok z ∨ Out.fin (.ok z) = .error 1 := by
  unfold Out.fin
  by_cases h : z.le 2048
  · exact .inl (by simp only [h, decide_true, cond_true])
  · exact .inr (by simp only [h, decide_false, cond_false])
end Go.Q
namespace Go.Q
open Go.Proofs
set_option maxRecDepth 100000
set_option maxHeartbeats 8000000
theorem Apply_spec {h0 h : PH} [Le h0 h] {v w : Value} {x y : RI} {op n p : Int} {k : Nat} (hv : Iv h0 v x) (hw : Iv h0 w y) (em : op.tmod 8 = (k : Int)) (hk : k < 8) :
    Spec mach 8 #[.int .u8 op, v, w, .int .i64 n, .int .i64 p] h (fun r h' => Ir h' r (opO k x y n p)) NP := by
  have hv0 := hv
  have hw0 := hw
  obtain ⟨a1, m1, c1, a2, m2, c2, a3, m3, c3, a4, m4, c4, rfl, _, _⟩ := hv.sa
  obtain ⟨a1', m1', c1', a2', m2', c2', a3', m3', c3', a4', m4', c4', rfl, _, _⟩ := hw.sa
  match k, hk with
  | 0, _ =>
    refine Spec.go [] Tryz.func8 rfl rfl (by kernel_rfl) fun C _ => ?_
    simp (disch := omega) only [go_sem, Nat.reduceBEq, Nat.reduceAdd, em]
    refine caN (by exact AddI_spec (p := p) hv0 hw0) ?_; rintro _ h1 _ q1; obtain ⟨_, _, _, _, _, _, _, _, _, _, _, _, _, _, _, _, _, rfl, q1⟩ := q1.sa
    simp (disch := omega) only [go_sem, Nat.reduceBEq, Nat.reduceAdd]
    exact q1
  | 1, _ =>
    refine Spec.go [] Tryz.func8 rfl rfl (by kernel_rfl) fun C _ => ?_
    simp (disch := omega) only [go_sem, Nat.reduceBEq, Nat.reduceAdd, em]
    refine caN (by exact SubI_spec (p := p) hv0 hw0) ?_; rintro _ h1 _ q1; obtain ⟨_, _, _, _, _, _, _, _, _, _, _, _, _, _, _, _, _, rfl, q1⟩ := q1.sa
    simp (disch := omega) only [go_sem, Nat.reduceBEq, Nat.reduceAdd]
    exact q1
  | 2, _ =>
    refine Spec.go [] Tryz.func8 rfl rfl (by kernel_rfl) fun C _ => ?_
    simp (disch := omega) only [go_sem, Nat.reduceBEq, Nat.reduceAdd, em]
    refine caN (by exact MulI_spec (p := p) hv0 hw0) ?_; rintro _ h1 _ q1; obtain ⟨_, _, _, _, _, _, _, _, _, _, _, _, _, _, _, _, _, rfl, q1⟩ := q1.sa
    simp (disch := omega) only [go_sem, Nat.reduceBEq, Nat.reduceAdd]
    exact q1
  | 3, _ =>
    refine Spec.go [] Tryz.func8 rfl rfl (by kernel_rfl) fun C _ => ?_
    simp (disch := omega) only [go_sem, Nat.reduceBEq, Nat.reduceAdd, em]
    refine caN (by exact DivI_spec (p := p) hv0 hw0) ?_; rintro _ h1 _ q1; obtain ⟨_, _, _, _, _, _, _, _, _, _, _, _, _, _, _, _, _, rfl, q1⟩ := q1.sa
    simp (disch := omega) only [go_sem, Nat.reduceBEq, Nat.reduceAdd]
    exact q1
  | 4, _ =>
    refine Spec.go [] Tryz.func8 rfl rfl (by kernel_rfl) fun C _ => ?_
    simp (disch := omega) only [go_sem, Nat.reduceBEq, Nat.reduceAdd, em]
    refine caN (by exact Min_spec hv0 hw0) ?_; rintro _ h1 _ q1; obtain ⟨_, _, _, _, _, _, _, _, _, _, _, _, _, _, _, _, _, rfl, q1⟩ := q1.sa
    simp (disch := omega) only [go_sem, Nat.reduceBEq, Nat.reduceAdd]
    exact q1
  | 5, _ =>
    refine Spec.go [] Tryz.func8 rfl rfl (by kernel_rfl) fun C _ => ?_
    simp (disch := omega) only [go_sem, Nat.reduceBEq, Nat.reduceAdd, em]
    refine caN (by exact Max_spec hv0 hw0) ?_; rintro _ h1 _ q1; obtain ⟨_, _, _, _, _, _, _, _, _, _, _, _, _, _, _, _, _, rfl, q1⟩ := q1.sa
    simp (disch := omega) only [go_sem, Nat.reduceBEq, Nat.reduceAdd]
    exact q1
  | 6, _ =>
    refine Spec.go [] Tryz.func8 rfl rfl (by kernel_rfl) fun C _ => ?_
    simp (disch := omega) only [go_sem, Nat.reduceBEq, Nat.reduceAdd, em]
    refine caN (by exact PowI_spec (n := n) (p := p) hv0) ?_; rintro _ h1 _ q1; obtain ⟨_, _, _, _, _, _, _, _, _, _, _, _, _, _, _, _, _, rfl, q1⟩ := q1.sa
    simp (disch := omega) only [go_sem, Nat.reduceBEq, Nat.reduceAdd]
    exact q1
  | 7, _ =>
    refine Spec.go [] Tryz.func8 rfl rfl (by kernel_rfl) fun C _ => ?_
    simp (disch := omega) only [go_sem, Nat.reduceBEq, Nat.reduceAdd, em]
    refine caN (by exact RootI_spec (n := n) (p := p) hv0) ?_; rintro _ h1 _ q1; obtain ⟨_, _, _, _, _, _, _, _, _, _, _, _, _, _, _, _, _, rfl, q1⟩ := q1.sa
    simp (disch := omega) only [go_sem, Nat.reduceBEq, Nat.reduceAdd]
    exact q1
end Go.Q
namespace Go.Q
open Go.Proofs
set_option maxRecDepth 100000
set_option maxHeartbeats 4000000
end Go.Q
namespace Go.Q
open Go.Proofs
set_option maxRecDepth 100000
set_option maxHeartbeats 4000000
theorem NS.le.lesser {x y : NS} {k : Nat} (hx : x.le k) (hy : y.le k) : (x.lesser y).le k := by
  cases x with
  | e => rfl
  | i a b =>
    cases y with
    | e => rfl
    | i c d =>
      rw [NS.le_i] at hx hy
      show NS.le k (.i (jmin a c) (omin b d))
      rw [NS.le_i]
      refine ⟨fun q e => ?_, fun q e => ?_⟩
      · cases a with
        | none => cases e
        | some a =>
          cases c with
          | none => cases e
          | some c => cases e; exact sz_min (hx.1 _ rfl) (hy.1 _ rfl)
      · cases b with
        | none => exact hy.2 _ e
        | some b =>
          cases d with
          | none => exact hx.2 _ e
          | some d => cases e; exact sz_min (hx.2 _ rfl) (hy.2 _ rfl)
end Go.Q
namespace Go.Q
open Go.Proofs
set_option maxRecDepth 100000
set_option maxHeartbeats 8000000
@[reducible] def Pt.val : Pt → Rat
  | .fin q => q
  | .inf _ => 0
def Pt.sg : Pt → Int
  | .fin q => sgn3 q
  | .inf u => if u = true then 1 else -1
theorem Pt.mul_zero {x y : Pt} (h : x.sg = 0 ∨ y.sg = 0) : x.mul y = .fin 0 := by
  cases x with
  | fin p => cases y with
    | fin q =>
      show Pt.fin (p * q) = _
      rcases h with h | h
      · have := sgn3_zero.1 (show sgn3 p = 0 from h); subst this; rw [Rat.zero_mul]
      · have := sgn3_zero.1 (show sgn3 q = 0 from h); subst this; rw [Rat.mul_zero]
    | inf u =>
      have := sgn3_zero.1 (show sgn3 p = 0 from h.resolve_right (by cases u <;> simp [Pt.sg])); subst this; simp [Pt.mul]
  | inf u => cases y with
    | fin q =>
      have := sgn3_zero.1 (show sgn3 q = 0 from h.resolve_left (by cases u <;> simp [Pt.sg])); subst this; simp [Pt.mul]
    | inf w => rcases h with h | h <;> (revert h; cases u <;> cases w <;> simp [Pt.sg])
end Go.Q
namespace Go.Q
open Go.Proofs
set_option maxRecDepth 100000
set_option maxHeartbeats 16000000
end Go.Q
namespace Go.Q
open Go.Proofs
set_option maxRecDepth 100000
set_option maxHeartbeats 4000000
end Go.Q
namespace Go.Q
open Go.Proofs
set_option maxRecDepth 100000
set_option maxHeartbeats 4000000
theorem Br.u {r r' : Value} {o : Except Int Bool} (h : Br r o) (h' : Br r' o) : r' = r := by
  cases o with
  | ok b => cases (h : r = _); exact h'
  | error e => cases (h : r = _); exact h'
end Go.Q
namespace Go.Q
open Go.Proofs
set_option maxRecDepth 100000
set_option maxHeartbeats 8000000
end Go.Q
namespace Go.Q
open Go.Proofs
set_option maxRecDepth 100000
set_option maxHeartbeats 4000000
theorem mul_fitp {x y : RI} {p : Int} : Fit (x.fin2 y (rnd p x.set y.set (.ok (x.set.prod y.set)))) := by
  cases g : x.big || y.big with
  | true => unfold RI.fin2; rw [g]; exact .err (by decide)
  | false =>
    obtain ⟨g1, g2⟩ := Bool.or_eq_false_iff.1 g
    refine Fit.two ?_
    unfold rnd Out.prec
    cases bad p with
    | true => exact .err (by decide)
    | false =>
      cases (x.set.void || y.set.void) with
      | true => exact Fit.of (z := .e) trivial
      | false => exact Fit.of (NS.ok_hull (prod_ok (RI.le g1) (RI.le g2)).1)
theorem div_fitp {x y : RI} {p : Int} : Fit (x.fin2 y (rnd p x.set y.set (divO x.set y.set))) := by
  cases g : (x.big || y.big) with
  | true => unfold RI.fin2; rw [g]; exact .err (by decide)
  | false =>
    obtain ⟨g1, g2⟩ := Bool.or_eq_false_iff.1 g
    refine Fit.two ?_
    unfold rnd Out.prec divO
    cases bad p with
    | true => exact .err (by decide)
    | false =>
      cases (x.set.void || y.set.void) with
      | true => exact Fit.of (z := .e) trivial
      | false =>
        cases y.set.zero with
        | true => exact .err (by decide)
        | false => exact Fit.of (NS.ok_hull (prod_ok (RI.le g1) (inv_le (RI.le g2) (by decide))).1)
end Go.Q
namespace Go.Q
open Go.Proofs
set_option maxRecDepth 100000
set_option maxHeartbeats 4000000
end Go.Q
namespace Go.Q
open Go.Proofs
set_option maxRecDepth 100000
set_option maxHeartbeats 8000000
end Go.Q
namespace Go.Q
open Go.Proofs
set_option maxRecDepth 100000
set_option maxHeartbeats 4000000
theorem pow_fit {x : RI} {n p : Int} : Fit (x.fin (powR n p x.set)) := by
  refine Fit.one ?_
  have ox := RI.set_ok x
  generalize x.set = s at *
  unfold powR Out.prec
  cases badn n with
  | true => exact .err (by decide)
  | false =>
    cases bad p with
    | true => exact .err (by decide)
    | false =>
      show Fit (Out.fin (hullO _ (powO n s)))
      by_cases hn : n < 0
      · cases hz : s.zero with
        | true => rw [powO_zero hn hz]; exact .err (by decide)
        | false => rw [powO_neg hn hz]; exact Fit.of (NS.ok_hull (NS.ok_pow (inv_ok hz ox)))
      · rw [powO_pos hn]; exact Fit.of (NS.ok_hull (NS.ok_pow ox))
end Go.Q
namespace Go.Q
open Go.Proofs
set_option maxRecDepth 100000
set_option maxHeartbeats 8000000
end Go.Q
namespace Go.Q
open Go.Proofs
set_option maxRecDepth 100000
set_option maxHeartbeats 4000000
theorem rootS_ok {x : NS} (hx : x.ok) {n : Nat} (hn : n ≠ 0) (p : Nat) : (x.rootS n p).ok := by
  cases x with
  | e => trivial
  | i a b =>
    show ordO _ _ = true
    cases a with
    | none => rfl
    | some a => cases b with
      | none => rfl
      | some b =>
        have h0 : ¬ b < a := by simpa [NS.ok, ordO] using hx
        have h1 := root_mono (show a ≤ b by grind) hn p
        have h2 : ¬ rootg true b n p < rootg false a n p := by grind
        simp [ordO, h2]
theorem root_fit {x : RI} {n p : Int} : Fit (x.fin (rootR n p x.set)) := by
  refine Fit.one ?_
  have ox := RI.set_ok x
  generalize x.set = s at *
  unfold rootR Out.prec
  cases gn : badr n with
  | true => exact .err (by decide)
  | false =>
    cases bad p with
    | true => exact .err (by decide)
    | false =>
      show Fit (Out.fin (rootO n p s))
      unfold rootO
      cases hv : s.void with
      | true => exact Fit.of (z := .e) trivial
      | false =>
        show Fit (Out.fin (if _ then _ else _))
        split
        · exact .err (by decide)
        · have := badr_no gn
          exact Fit.of (rootS_ok ox (by omega) _)
end Go.Q
namespace Go.Q
open Go.Proofs
set_option maxRecDepth 100000
set_option maxHeartbeats 8000000
theorem rnd_fitq {x y z : NS} {p : Int} (hz : z.ok) : Fit (Out.fin (rnd p x y (.ok z))) := by
  unfold rnd Out.prec
  cases bad p with
  | true => exact .err (by decide)
  | false =>
    cases (x.void || y.void) with
    | true => exact Fit.of (z := .e) trivial
    | false => exact Fit.of (NS.ok_hull hz)
theorem op_fit {x y : RI} {n p : Int} : ∀ {k : Nat}, k < 8 → Fit (opO k x y n p)
  | 0, _ => Fit.two (rnd_fitq (NS.ok_sum (RI.set_ok x) (RI.set_ok y)))
  | 1, _ => Fit.two (rnd_fitq (NS.ok_sum (RI.set_ok x) (NS.ok_minus (RI.set_ok y))))
  | 2, _ => mul_fitp
  | 3, _ => div_fitp
  | 4, _ => Fit.two (Fit.of (NS.ok_lesser (RI.set_ok x) (RI.set_ok y)))
  | 5, _ => Fit.two (Fit.of (NS.ok_minus (NS.ok_lesser (NS.ok_minus (RI.set_ok x)) (NS.ok_minus (RI.set_ok y)))))
  | 6, _ => pow_fit
  | 7, _ => root_fit
end Go.Q
namespace Go.Q
theorem left_in {a b : Option Rat} {q : Rat} (hq : (NS.i a b).has q = true) : (NS.i a (some q)).within (.i a b) = true ∧ (NS.i a (some q)).ok := by
  rw [NS.has_i] at hq
  constructor
  · rw [within_i, low_iff, high_iff]
    exact ⟨fun z e => ⟨z, e, Rat.le_refl⟩, fun z e => ⟨q, rfl, hq.2 z e⟩⟩
  · cases a with
    | none => rfl
    | some a =>
      have := hq.1 a rfl
      have h3 : ¬ q < a := by grind
      simp [NS.ok, ordO, h3]
theorem right_in {a b : Option Rat} {q : Rat} (hq : (NS.i a b).has q = true) : (NS.i (some q) b).within (.i a b) = true ∧ (NS.i (some q) b).ok := by
  rw [NS.has_i] at hq
  constructor
  · rw [within_i, low_iff, high_iff]
    exact ⟨fun z e => ⟨q, rfl, hq.1 z e⟩, fun z e => ⟨z, e, Rat.le_refl⟩⟩
  · cases b with
    | none => rfl
    | some b =>
      have := hq.2 b rfl
      have h3 : ¬ b < q := by grind
      simp [NS.ok, ordO, h3]
theorem minus_has {x : NS} {q : Rat} (h : x.has q = true) : x.minus.has (-q) = true := by
  cases x with
  | e => cases h
  | i a b =>
    rw [NS.has_i] at h
    show (NS.i (b.map (-·)) (a.map (-·))).has (-q) = true
    rw [NS.has_i]
    refine ⟨fun z e => ?_, fun z e => ?_⟩
    · cases b with
      | none => cases e
      | some b => cases e; have := h.2 b rfl; grind
    · cases a with
      | none => cases e
      | some a => cases e; have := h.1 a rfl; grind
end Go.Q
namespace Go.Q
theorem size_has {x : NS} {r : Rat} (hx : x.ok) (h : x.has r = true) : ∃ s, x.size.has s = true ∧ 0 ≤ s ∧ (s = r ∨ s = -r) := by
  cases x with
  | e => cases h
  | i a b =>
    have h' := NS.has_i.1 h
    rcases size_cases hx with ⟨p, e1, hp, es⟩ | ⟨q, e1, hq, es⟩ | ⟨hp, hq, es⟩
    · exact ⟨r, by rw [es]; exact h, by have := h'.1 p e1; grind, .inl rfl⟩
    · exact ⟨-r, by rw [es]; exact minus_has h, by have := h'.2 q e1; grind, .inr rfl⟩
    · rw [es]
      have key : ∀ s : Rat, 0 ≤ s → (∀ p, a = some p → ∀ q, b = some q → s ≤ max (-p) q) → (NS.i (some ((0 : Int) : Rat)) (jmax (a.map (-·)) b)).has s = true := by
        intro s hs hk
        rw [NS.has_i]
        refine ⟨fun z e => by cases e; exact hs, fun z e => ?_⟩
        cases a with
        | none => cases e
        | some a => cases b with
          | none => cases e
          | some b => cases e; exact hk a rfl b rfl
      by_cases hr : 0 ≤ r
      · exact ⟨r, key r hr fun p e1 q e2 => by have := h'.2 q e2; grind, hr, .inl rfl⟩
      · exact ⟨-r, key (-r) (by grind) fun p e1 q e2 => by have := h'.1 p e1; grind, by grind, .inr rfl⟩
theorem pow_has {x : NS} {r : Rat} (n : Nat) (hx : x.ok) (h : x.has r = true) : (x.pow n).has (r ^ n) = true := by
  cases x with
  | e => cases h
  | i a b =>
    show (if n = 0 then _ else if n % 2 = 0 then _ else _ : NS).has (r ^ n) = true
    by_cases h0 : n = 0
    · rw [if_pos h0, h0, Rat.pow_zero]
      rw [NS.has_i]
      exact ⟨fun z e => by cases e; exact Rat.le_refl, fun z e => by cases e; exact Rat.le_refl⟩
    · rw [if_neg h0]
      by_cases h2 : n % 2 = 0
      · rw [if_pos h2]
        obtain ⟨s, k1, k2, k3⟩ := size_has hx h
        have e1 : r ^ n = s ^ n := by
          rcases k3 with rfl | rfl
          · rfl
          · rw [rneg_pow, if_pos h2]
        rw [e1]
        cases hs : (NS.i a b).size with
        | e => rw [hs] at k1; cases k1
        | i c d =>
          obtain ⟨p, ep, hp⟩ := NS.size_low hx hs
          rw [hs] at k1
          subst ep
          rw [NS.has_i] at k1
          show (NS.i (some (p ^ n)) (d.map (· ^ n))).has (s ^ n) = true
          rw [NS.has_i]
          refine ⟨fun z e => by cases e; exact rpow_mono n hp (k1.1 _ rfl), fun z e => ?_⟩
          cases d with
          | none => cases e
          | some d => cases e; exact rpow_mono n k2 (k1.2 _ rfl)
      · rw [if_neg h2]
        rw [NS.has_i] at h
        show (NS.i (a.map (· ^ n)) (b.map (· ^ n))).has (r ^ n) = true
        rw [NS.has_i]
        refine ⟨fun z e => ?_, fun z e => ?_⟩
        · cases a with
          | none => cases e
          | some a => cases e; exact rpow_odd (by omega) (h.1 _ rfl)
        · cases b with
          | none => cases e
          | some b => cases e; exact rpow_odd (by omega) (h.2 _ rfl)
end Go.Q
namespace Go.Q
theorem cut_inv {a b : Option Rat} {q : Rat} (ho : (NS.i a b).ok) (hq : (NS.i a b).has q = true) (hz : (NS.i a b).zero = false) : (NS.i (some (invO b)) (some (invO a))).has q⁻¹ = true := by
  obtain ⟨l1, l2⟩ := left_in hq
  obtain ⟨r1, r2⟩ := right_in hq
  have k1 : invO (some q) ≤ invO a := inv_ord (zero_iso l2 l1 hz) l2
  have k2 : invO b ≤ invO (some q) := inv_ord (zero_iso r2 r1 hz) r2
  rw [NS.has_i]
  exact ⟨fun z e => by cases e; exact k2, fun z e => by cases e; exact k1⟩
end Go.Q
namespace Go.Q
theorem hull_has {x : NS} {p : Nat} {q : Rat} (hx : x.ok) (h : x.has q = true) : (x.hull p).has q = true := (NS.within_iff hx).1 NS.within_hull q h
theorem sum_has {x y : NS} {u v : Rat} (hu : x.has u = true) (hv : y.has v = true) : (x.sum y).has (u + v) = true := by
  cases x with
  | e => cases hu
  | i a b =>
    cases y with
    | e => cases hv
    | i c d =>
      rw [NS.has_i] at hu hv
      show (NS.i (oadd a c) (oadd b d)).has (u + v) = true
      rw [NS.has_i]
      refine ⟨fun z e => ?_, fun z e => ?_⟩
      · cases a with
        | none => cases e
        | some a => cases c with
          | none => cases e
          | some c => cases e; have := hu.1 a rfl; have := hv.1 c rfl; grind
      · cases b with
        | none => cases e
        | some b => cases d with
          | none => cases e
          | some d => cases e; have := hu.2 b rfl; have := hv.2 d rfl; grind
theorem lesser_has {x y : NS} {u v : Rat} (hu : x.has u = true) (hv : y.has v = true) : (x.lesser y).has (min u v) = true := by
  cases x with
  | e => cases hu
  | i a b =>
    cases y with
    | e => cases hv
    | i c d =>
      rw [NS.has_i] at hu hv
      show (NS.i (jmin a c) (omin b d)).has (min u v) = true
      rw [NS.has_i]
      refine ⟨fun z e => ?_, fun z e => ?_⟩
      · cases a with
        | none => cases e
        | some a => cases c with
          | none => cases e
          | some c => cases e; have := hu.1 a rfl; have := hv.1 c rfl; grind
      · cases b with
        | none => cases d with
          | none => cases e
          | some d => cases e; have := hv.2 z rfl; grind
        | some b => cases d with
          | none => cases e; have := hu.2 z rfl; grind
          | some d => cases e; have := hu.2 b rfl; have := hv.2 d rfl; grind
theorem greater_has {x y : NS} {u v : Rat} (hu : x.has u = true) (hv : y.has v = true) : ((x.minus.lesser y.minus).minus).has (max u v) = true := by
  have := minus_has (lesser_has (minus_has hu) (minus_has hv))
  rwa [show -(min (-u) (-v)) = max u v by grind] at this
theorem inv_has {y : NS} {v : Rat} (hy : y.ok) (hv : y.has v = true) (hz : y.zero = false) : y.inv.has v⁻¹ = true := by
  cases y with
  | e => cases hv
  | i a b => exact cut_inv hy hv hz
theorem zero_ne {y : NS} {v : Rat} (hv : y.has v = true) (hz : y.zero = false) : v ≠ 0 := by
  rintro rfl
  rw [zero_has] at hv
  rw [hv] at hz; cases hz
def onQ (op : Nat) (u v : Rat) (n : Int) : Rat :=
  match op with
  | 0 => u + v
  | 1 => u + -v
  | 2 => u * v
  | 3 => u * v⁻¹
  | 4 => min u v
  | 5 => max u v
  | _ => if n < 0 then (u⁻¹) ^ (-n).toNat else u ^ n.toNat
theorem fin_has {o : Out} {C : NS} {q : Rat} (h : o.fin = .ok C) (hq : ∀ z, o = .ok z → z.has q = true) : C.has q = true := by
  cases o with
  | error e => cases h
  | ok z =>
    rcases fin_out z with k | k <;> rw [k] at h <;> cases h
    exact hq _ rfl
theorem rnd_has {x y : NS} {p : Int} {o : Out} {q : Rat} {z : NS} (gp : bad p = false) (hx : x.void = false) (hy : y.void = false) (h : rnd p x y o = .ok z) (ho : ∀ w, o = .ok w → w.ok ∧ w.has q = true) : z.has q = true := by
  unfold rnd Out.prec at h
  rw [gp, hx, hy] at h
  cases o with
  | error e => cases h
  | ok w =>
    cases h
    exact hull_has (ho w rfl).1 (ho w rfl).2
theorem has_void {x : NS} {q : Rat} (h : x.has q = true) : x.void = false := by
  cases x with
  | e => cases h
  | i a b => rfl
theorem op_has {op : Nat} {x y : RI} {n p : Int} {u v : Rat} (gp : bad p = false) (ho : op < 7) (hu : x.set.has u = true) (hv : op < 6 → y.set.has v = true) {C : NS} (hC : opO op x y n p = .ok C) : C.has (onQ op u v n) = true := by
  have ox := RI.set_ok x
  have oy := RI.set_ok y
  have two : ∀ {o : Out} {q : Rat}, x.fin2 y o = .ok C → (x.big = false → y.big = false → ∀ z, o = .ok z → z.has q = true) → C.has q = true := by
    intro o q h hq
    unfold RI.fin2 at h
    cases g : x.big || y.big with
    | true => rw [g] at h; cases h
    | false =>
      rw [g] at h
      obtain ⟨g1, g2⟩ := Bool.or_eq_false_iff.1 g
      exact fin_has h (hq g1 g2)
  match op, ho with
  | 0, _ => exact two hC fun _ _ z e => rnd_has gp (has_void hu) (has_void (hv (by decide))) e fun w k => by cases k; exact ⟨NS.ok_sum ox oy, sum_has hu (hv (by decide))⟩
  | 1, _ => exact two hC fun _ _ z e => rnd_has gp (has_void hu) (has_void (hv (by decide))) e fun w k => by cases k; exact ⟨NS.ok_sum ox (NS.ok_minus oy), sum_has hu (minus_has (hv (by decide)))⟩
  | 2, _ => exact two hC fun g1 g2 z e => rnd_has gp (has_void hu) (has_void (hv (by decide))) e fun w k => by cases k; exact ⟨(prod_ok (RI.le g1) (RI.le g2)).1, prod_mem hu (hv (by decide))⟩
  | 3, _ =>
    exact two hC fun g1 g2 z e => rnd_has gp (has_void hu) (has_void (hv (by decide))) e fun w k => by
      unfold divO at k
      cases hz : y.set.zero with
      | true => rw [hz] at k; cases k
      | false =>
        rw [hz] at k
        cases k
        exact ⟨(prod_ok (RI.le g1) (inv_le (RI.le g2) (by decide))).1, prod_mem hu (inv_has oy (hv (by decide)) hz)⟩
  | 4, _ => exact two hC fun _ _ z e => by cases e; exact lesser_has hu (hv (by decide))
  | 5, _ => exact two hC fun _ _ z e => by cases e; exact greater_has hu (hv (by decide))
  | 6, _ =>
    have hC : x.fin (powR n p x.set) = .ok C := hC
    unfold RI.fin at hC
    cases g : x.big with
    | true => rw [g] at hC; cases hC
    | false =>
      rw [g] at hC
      refine fin_has hC fun z e => ?_
      show z.has (if n < 0 then (u⁻¹) ^ (-n).toNat else u ^ n.toNat) = true
      unfold powR Out.prec at e
      cases gn : badn n with
      | true => rw [gn] at e; cases e
      | false =>
        rw [gn, gp] at e
        have e : hullO p.toNat (powO n x.set) = .ok z := e
        by_cases hn : n < 0
        · rw [if_pos hn]
          cases hz : x.set.zero with
          | true => rw [powO_zero hn hz] at e; cases e
          | false =>
            rw [powO_neg hn hz] at e
            cases e
            exact hull_has (NS.ok_pow (inv_ok hz ox)) (pow_has _ (inv_ok hz ox) (inv_has ox hu hz))
        · rw [if_neg hn]
          rw [powO_pos hn] at e
          cases e
          exact hull_has (NS.ok_pow ox) (pow_has _ ox hu)
theorem root_cross0 {a b : Rat} (ha : 0 ≤ a) (h : a ≤ b) {n : Nat} (hn : n ≠ 0) (p r : Nat) : rootg false a n p ≤ rootg true b n r := by
  refine Decidable.byContradiction fun k => ?_
  have hb : 0 ≤ b := Rat.le_trans ha h
  have h1 := rpow_lt hn (rootg_nonneg hb true n r) (show rootg true b n r < rootg false a n p by grind)
  have h2 := root_low ha hn p
  have h3 := root_high hb hn r
  grind
theorem root_cross {a b : Rat} (h : a ≤ b) {n : Nat} (hn : n ≠ 0) (p r : Nat) : rootg false a n p ≤ rootg true b n r := by
  by_cases ha : 0 ≤ a
  · exact root_cross0 ha h hn p r
  · have e1 : rootg false a n p = -(rootg true (-a) n p) := rootg_neg (show a < 0 by grind) false n p
    have n1 := rootg_nonneg (show 0 ≤ -a by grind) true n p
    by_cases hb : 0 ≤ b
    · have := rootg_nonneg hb true n r
      rw [e1]; grind
    · have e2 : rootg true b n r = -(rootg false (-b) n r) := rootg_neg (show b < 0 by grind) true n r
      have := root_cross0 (show 0 ≤ -b by grind) (show -b ≤ -a by grind) hn r p
      rw [e1, e2]; grind
theorem root_meets {x : NS} {u : Rat} {n p r : Nat} (hn : n ≠ 0) (hu : x.has u = true) : ((x.rootS n p).met (.i (some (rootg false u n r)) (some (rootg true u n r)))).void = false := by
  have hlu := root_cross (Rat.le_refl (a := u)) hn r r
  cases x with
  | e => cases hu
  | i a b =>
    rw [NS.has_i] at hu
    have k1 : ∀ z, a = some z → rootg false z n p ≤ rootg true u n r := fun z e => root_cross (hu.1 z e) hn p r
    have k2 : ∀ z, b = some z → rootg false u n r ≤ rootg true z n p := fun z e => root_cross (hu.2 z e) hn r p
    have k3 : ∀ y z, a = some y → b = some z → rootg false y n p ≤ rootg true z n p := fun y z e1 e2 => root_cross (Rat.le_trans (hu.1 y e1) (hu.2 z e2)) hn p p
    show (NS.mk' (omax (a.map (rootg false · n p)) (some (rootg false u n r))) (omin (b.map (rootg true · n p)) (some (rootg true u n r)))).void = false
    have key : ordO (omax (a.map (rootg false · n p)) (some (rootg false u n r))) (omin (b.map (rootg true · n p)) (some (rootg true u n r))) = true := by
      cases a with
      | none => cases b with
        | none =>
          have : ¬ rootg true u n r < rootg false u n r := by grind
          simp [omax, omin, ordO, this]
        | some b =>
          have := k2 b rfl
          have : ¬ min (rootg true b n p) (rootg true u n r) < rootg false u n r := by grind
          simp [omax, omin, ordO, this]
      | some a => cases b with
        | none =>
          have := k1 a rfl
          have : ¬ rootg true u n r < max (rootg false a n p) (rootg false u n r) := by grind
          simp [omax, omin, ordO, this]
        | some b =>
          have := k1 a rfl
          have := k2 b rfl
          have := k3 a b rfl rfl
          have : ¬ min (rootg true b n p) (rootg true u n r) < max (rootg false a n p) (rootg false u n r) := by grind
          simp [omax, omin, ordO, this]
    unfold NS.mk'
    rw [key]; rfl
end Go.Q
namespace Go.Q
open Go.Proofs
set_option maxRecDepth 100000
set_option maxHeartbeats 8000000
def Rv (h : PH) (v : Value) (q : Rat) : Prop := ∃ neg n d, Rw h v neg n d ∧ ¬ lg neg n d ∧ qof neg n d = q
theorem Rv.to {h h' : PH} {v : Value} {q : Rat} (r : Rv h v q) [Le h h'] : Rv h' v q := let ⟨a, b, c, h1, h2⟩ := r; ⟨a, b, c, h1.to, h2⟩
theorem Rv.of {h : PH} {v : Value} {q : Rat} (c : Cn h v q) (hs : sz q ≤ 2048) : Rv h v q := ⟨_, _, _, c.rw (Nat.le_trans hs (by decide)), by rw [lg_cn]; omega, qof_cn q⟩
theorem Rv.sz {h : PH} {v : Value} {q : Rat} (r : Rv h v q) : sz q ≤ 2048 := by
  obtain ⟨_, _, _, _, h2, rfl⟩ := r
  unfold lg at h2
  omega
theorem Rv.up {h : PH} {v : Value} {q : Rat} (r : Rv h v q) : Go.Q.sz q ≤ 2 ^ 36 := Nat.le_trans r.sz (by decide)
theorem Rv.sa {h : PH} {v : Value} {q : Rat} (r : Rv h v q) : ∃ b na nl nc da dl dc, v = .agg #[.bool b, .slice na nl nc, .slice da dl dc] ∧ Rv h (.agg #[.bool b, .slice na nl nc, .slice da dl dc]) q := by
  have r0 := r
  obtain ⟨_, _, _, h1, _, _⟩ := r
  obtain ⟨_, _, _, _, _, _, _, rfl, _⟩ := h1.sa
  exact ⟨_, _, _, _, _, _, _, rfl, r0⟩
theorem Read_rv {h0 h : PH} [Le h0 h] {v : Value} {q : Rat} (hv : Rv h0 v q) : Spec mach 91 #[v] h (fun r h' => ∃ f, r = .tuple #[f, .bool true] ∧ Fr h' f q) NP := by
  obtain ⟨_, _, _, h1, h2, rfl⟩ := hv
  exact Read_ok h1 h2
def Nq (h : PH) (r : Value) (q : Rat) : Prop := ∃ w e, r = .tuple #[w, .int .i64 e] ∧ (∃ b na nl nc da dl dc, w = .agg #[.bool b, .slice na nl nc, .slice da dl dc]) ∧ (e = 1 ∨ e = 0 ∧ Rv h w q)
theorem Nq.sa {h : PH} {r : Value} {q : Rat} (k : Nq h r q) : ∃ b na nl nc da dl dc e, r = .tuple #[.agg #[.bool b, .slice na nl nc, .slice da dl dc], .int .i64 e] ∧ (e = 1 ∨ e = 0 ∧ Rv h (.agg #[.bool b, .slice na nl nc, .slice da dl dc]) q) := by
  obtain ⟨_, _, rfl, ⟨_, _, _, _, _, _, _, rfl⟩, k⟩ := k
  exact ⟨_, _, _, _, _, _, _, _, rfl, k⟩
theorem Nq.mk {h : PH} {b : Bool} {na da : Option Addr} {nl nc dl dc : Nat} {e : Int} {q : Rat} (k : e = 1 ∨ e = 0 ∧ Rv h (.agg #[.bool b, .slice na nl nc, .slice da dl dc]) q) : Nq h (.tuple #[.agg #[.bool b, .slice na nl nc, .slice da dl dc], .int .i64 e]) q := ⟨_, _, rfl, ⟨_, _, _, _, _, _, _, rfl⟩, k⟩
def Nc (h : PH) (r : Value) (q : Rat) : Prop := ∃ b na nl nc da dl dc e, r = .tuple #[.agg #[.bool b, .slice na nl nc, .slice da dl dc], .int .i64 e] ∧ (e = 1 ∧ 2048 < sz q ∨ e = 0 ∧ sz q ≤ 2048 ∧ Cn h (.agg #[.bool b, .slice na nl nc, .slice da dl dc]) q)
theorem Nc.nq {h : PH} {r : Value} {q : Rat} (k : Nc h r q) : Nq h r q := by
  obtain ⟨_, _, _, _, _, _, _, _, rfl, k⟩ := k
  exact Nq.mk (k.imp (·.1) fun k => ⟨k.1, Rv.of k.2.2 k.2.1⟩)
theorem Nc.mk {h : PH} {b : Bool} {na da : Option Addr} {nl nc dl dc : Nat} {e : Int} {q : Rat} (k : e = 1 ∧ 2048 < sz q ∨ e = 0 ∧ sz q ≤ 2048 ∧ Cn h (.agg #[.bool b, .slice na nl nc, .slice da dl dc]) q) : Nc h (.tuple #[.agg #[.bool b, .slice na nl nc, .slice da dl dc], .int .i64 e]) q := ⟨_, _, _, _, _, _, _, _, rfl, k⟩
theorem Nc.ok {h : PH} {r : Value} {q : Rat} (k : Nc h r q) (hs : sz q ≤ 2048) : ∃ b na nl nc da dl dc, r = .tuple #[.agg #[.bool b, .slice na nl nc, .slice da dl dc], .int .i64 0] ∧ Cn h (.agg #[.bool b, .slice na nl nc, .slice da dl dc]) q := by
  obtain ⟨_, _, _, _, _, _, _, _, rfl, ⟨_, k⟩ | ⟨rfl, _, k⟩⟩ := k
  · omega
  · exact ⟨_, _, _, _, _, _, _, rfl, k⟩
theorem Give_nc {h0 h : PH} [Le h0 h] {v : Value} {x : Rat} (hx : Fr h0 v x) : Spec mach 72 #[v] h (fun r h' => Nc h' r x) NP := by
  by_cases hs : sz x ≤ 2048
  · refine (Give_ok hx hs).mono (fun r h' _ k => ?_) (fun _ _ _ k => k)
    obtain ⟨u, rfl, c⟩ := k
    obtain ⟨_, _, _, _, _, _, _, rfl, c⟩ := c.sa
    exact Nc.mk (.inr ⟨rfl, hs, c⟩)
  · exact (Give_no hx hs).mono (fun r h' _ k => by subst k; exact Nc.mk (.inl ⟨rfl, by omega⟩)) (fun _ _ _ k => k)
end Go.Q
namespace Go.Q
open Go.Proofs
set_option maxRecDepth 100000
set_option maxHeartbeats 8000000
theorem Two_spec {h0 h : PH} [Le h0 h] {v w : Value} {x y z : Rat} {g : FuncId} (hx : Rv h0 v x) (hy : Rv h0 w y) (hg : ∀ {h0 h : PH} {a b : Value} [Le h0 h], Fr h0 a x → Fr h0 b y → Spec mach g #[a, b] h (fun v h' => Fr h' v z) NP) : Spec mach 86 #[v, w, .func (.func g) #[] #[]] h (fun r h' => Nc h' r z) NP := by
  have kX := fun {h} [Le h0 h] => Read_rv (h := h) hx
  have kY := fun {h} [Le h0 h] => Read_rv (h := h) hy
  obtain ⟨_, _, _, _, _, _, _, rfl, _⟩ := hx.sa
  obtain ⟨_, _, _, _, _, _, _, rfl, _⟩ := hy.sa
  refine Spec.go [] Tryz.func86 rfl rfl (by kernel_rfl) fun C _ => ?_
  simp (disch := omega) only [go_sem, Nat.reduceBEq, Nat.reduceAdd]
  refine caN (by exact kX) ?_; rintro v1 h1 s1 ⟨f, rfl, hf⟩; obtain ⟨_, _, _, _, _, _, _, rfl, hf⟩ := hf.sa
  simp (disch := omega) only [go_sem, Nat.reduceBEq, Nat.reduceAdd]
  refine caN (by exact kY) ?_; rintro v2 h2 s2 ⟨f', rfl, hf'⟩; obtain ⟨_, _, _, _, _, _, _, rfl, hf'⟩ := hf'.sa
  simp (disch := omega) only [go_sem, Nat.reduceBEq, Nat.reduceAdd]
  refine caN (by exact hg (hf.to (h' := h2)) hf') ?_; rintro v3 h3 s3 hz
  simp (disch := omega) only [go_sem, Nat.reduceBEq, Nat.reduceAdd]
  refine caN (by exact Give_nc hz) ?_; rintro v4 h4 s4 q4; obtain ⟨_, _, _, _, _, _, _, _, rfl, w4⟩ := q4
  simp (disch := omega) only [go_sem, Nat.reduceBEq, Nat.reduceAdd]
  exact Nc.mk w4
theorem NumAdd {h0 h : PH} [Le h0 h] {v w : Value} {x y : Rat} (hx : Rv h0 v x) (hy : Rv h0 w y) : Spec mach 33 #[v, w] h (fun r h' => Nc h' r (x + y)) NP := by
  have kT := fun {h} [Le h0 h] => Two_spec (h := h) (g := 87) hx hy (fun a b => Add_frac a b hx.up hy.up)
  obtain ⟨_, _, _, _, _, _, _, rfl, _⟩ := hx.sa
  obtain ⟨_, _, _, _, _, _, _, rfl, _⟩ := hy.sa
  refine Spec.go [] Tryz.func33 rfl rfl (by kernel_rfl) fun C _ => ?_
  simp (disch := omega) only [go_sem, Nat.reduceBEq, Nat.reduceAdd]
  refine caN (by exact kT) ?_; rintro v1 h1 s1 q1; obtain ⟨_, _, _, _, _, _, _, _, rfl, w1⟩ := q1
  simp (disch := omega) only [go_sem, Nat.reduceBEq, Nat.reduceAdd]
  exact Nc.mk w1
theorem NumSub1 {h0 h : PH} [Le h0 h] {v w : Value} {x y : Rat} (hx : Fr h0 v x) (hy : Fr h0 w y) (sx : sz x ≤ 2 ^ 36) (sy : sz y ≤ 2 ^ 36) : Spec mach 88 #[v, w] h (fun v h' => Fr h' v (x + -y)) NP := by
  have kO := fun {h} [Le h0 h] => Opposite_spec (h := h) hy
  have kA := fun {h h' : PH} {u : Value} [Le h0 h] [Le h h'] (hu : Fr h u (-y)) => Add_frac (h0 := h) (h := h') (hx.to (h' := h)) hu sx (by rw [sz_neg]; exact sy)
  obtain ⟨_, _, _, _, _, _, _, rfl, _⟩ := hx.sa
  obtain ⟨_, _, _, _, _, _, _, rfl, _⟩ := hy.sa
  refine Spec.go [] Tryz.func88 rfl rfl (by kernel_rfl) fun C _ => ?_
  simp (disch := omega) only [go_sem, Nat.reduceBEq, Nat.reduceAdd]
  refine caN (by exact kO) ?_; rintro v1 h1 s1 q1; obtain ⟨_, _, _, _, _, _, _, rfl, q1⟩ := q1.sa
  simp (disch := omega) only [go_sem, Nat.reduceBEq, Nat.reduceAdd]
  refine caN (by exact kA q1) ?_; rintro v2 h2 s2 q2; obtain ⟨_, _, _, _, _, _, _, rfl, q2⟩ := q2.sa
  simp (disch := omega) only [go_sem, Nat.reduceBEq, Nat.reduceAdd]
  exact q2
theorem NumSub {h0 h : PH} [Le h0 h] {v w : Value} {x y : Rat} (hx : Rv h0 v x) (hy : Rv h0 w y) : Spec mach 34 #[v, w] h (fun r h' => Nc h' r (x + -y)) NP := by
  have kT := fun {h} [Le h0 h] => Two_spec (h := h) (g := 88) hx hy (fun a b => NumSub1 a b hx.up hy.up)
  obtain ⟨_, _, _, _, _, _, _, rfl, _⟩ := hx.sa
  obtain ⟨_, _, _, _, _, _, _, rfl, _⟩ := hy.sa
  refine Spec.go [] Tryz.func34 rfl rfl (by kernel_rfl) fun C _ => ?_
  simp (disch := omega) only [go_sem, Nat.reduceBEq, Nat.reduceAdd]
  refine caN (by exact kT) ?_; rintro v1 h1 s1 q1; obtain ⟨_, _, _, _, _, _, _, _, rfl, w1⟩ := q1
  simp (disch := omega) only [go_sem, Nat.reduceBEq, Nat.reduceAdd]
  exact Nc.mk w1
theorem NumMul {h0 h : PH} [Le h0 h] {v w : Value} {x y : Rat} (hx : Rv h0 v x) (hy : Rv h0 w y) : Spec mach 35 #[v, w] h (fun r h' => Nc h' r (x * y)) NP := by
  have kT := fun {h} [Le h0 h] => Two_spec (h := h) (g := 90) hx hy (fun a b => Mul_frac a b hx.up hy.up)
  obtain ⟨_, _, _, _, _, _, _, rfl, _⟩ := hx.sa
  obtain ⟨_, _, _, _, _, _, _, rfl, _⟩ := hy.sa
  refine Spec.go [] Tryz.func35 rfl rfl (by kernel_rfl) fun C _ => ?_
  simp (disch := omega) only [go_sem, Nat.reduceBEq, Nat.reduceAdd]
  refine caN (by exact kT) ?_; rintro v1 h1 s1 q1; obtain ⟨_, _, _, _, _, _, _, _, rfl, w1⟩ := q1
  simp (disch := omega) only [go_sem, Nat.reduceBEq, Nat.reduceAdd]
  exact Nc.mk w1
theorem NumDiv {h0 h : PH} [Le h0 h] {v w : Value} {x y : Rat} (hx : Rv h0 v x) (hy : Rv h0 w y) (hz : y ≠ 0) : Spec mach 36 #[v, w] h (fun r h' => Nc h' r (x * y⁻¹)) NP := by
  have kX := fun {h} [Le h0 h] => Read_rv (h := h) hx
  have kY := fun {h} [Le h0 h] => Read_rv (h := h) hy
  have sx := hx.up
  have sy : sz y⁻¹ ≤ 2 ^ 36 := Nat.le_trans (sz_inv y) hy.up
  have hn : ¬ y.num.natAbs = 0 := by rw [Int.natAbs_eq_zero]; exact fun e => hz (Rat.num_eq_zero.1 e)
  obtain ⟨_, _, _, _, _, _, _, rfl, _⟩ := hx.sa
  obtain ⟨_, _, _, _, _, _, _, rfl, _⟩ := hy.sa
  clear hx hy
  refine Spec.go [] Tryz.func36 rfl rfl (by kernel_rfl) fun C _ => ?_
  simp (disch := omega) only [go_sem, Nat.reduceBEq, Nat.reduceAdd]
  refine caN (by exact kX) ?_; rintro v1 h1 s1 ⟨f, rfl, hf⟩; obtain ⟨_, _, _, _, _, _, _, rfl, hf⟩ := hf.sa
  simp (disch := omega) only [go_sem, Nat.reduceBEq, Nat.reduceAdd]
  refine caN (by exact kY) ?_; rintro v2 h2 s2 ⟨f', rfl, hf'⟩; have hf0 := hf'; obtain ⟨na, nl, nc, da, dl, dc, rfl, hnn, hdd⟩ := hf'.sl
  simp (disch := omega) only [go_sem, Nat.reduceBEq, Nat.reduceAdd]
  refine caN (by exact Zero_spec hnn) ?_; rintro v3 h3 s3 rfl
  simp (disch := omega) only [go_sem, Nat.reduceBEq, Nat.reduceAdd]
  refine caN (by exact Inverse_spec (hf0.to (h' := h3)) hz) ?_; rintro v4 h4 s4 q4; obtain ⟨_, _, _, _, _, _, _, rfl, q4⟩ := q4.sa
  simp (disch := omega) only [go_sem, Nat.reduceBEq, Nat.reduceAdd]
  refine caN (by exact Mul_frac (hf.to (h' := h4)) q4 sx sy) ?_; rintro v5 h5 s5 q5
  simp (disch := omega) only [go_sem, Nat.reduceBEq, Nat.reduceAdd]
  refine caN (by exact Give_nc q5) ?_; rintro v6 h6 s6 q6; obtain ⟨_, _, _, _, _, _, _, _, rfl, w6⟩ := q6
  simp (disch := omega) only [go_sem, Nat.reduceBEq, Nat.reduceAdd]
  exact Nc.mk w6
theorem NumCompare {h0 h : PH} [Le h0 h] {v w : Value} {x y : Rat} (hx : Rv h0 v x) (hy : Rv h0 w y) : Spec mach 94 #[v, w] h (fun r _ => r = .tuple #[.int .i64 (cmpQ x y), .int .i64 0]) NP := by
  have kX := fun {h} [Le h0 h] => Read_rv (h := h) hx
  have kY := fun {h} [Le h0 h] => Read_rv (h := h) hy
  have sx := hx.up
  have sy := hy.up
  obtain ⟨_, _, _, _, _, _, _, rfl, _⟩ := hx.sa
  obtain ⟨_, _, _, _, _, _, _, rfl, _⟩ := hy.sa
  clear hx hy
  refine Spec.go [] Tryz.func94 rfl rfl (by kernel_rfl) fun C _ => ?_
  simp (disch := omega) only [go_sem, Nat.reduceBEq, Nat.reduceAdd]
  refine caN (by exact kX) ?_; rintro v1 h1 s1 ⟨f, rfl, hf⟩; obtain ⟨_, _, _, _, _, _, _, rfl, hf⟩ := hf.sa
  simp (disch := omega) only [go_sem, Nat.reduceBEq, Nat.reduceAdd]
  refine caN (by exact kY) ?_; rintro v2 h2 s2 ⟨f', rfl, hf'⟩; obtain ⟨_, _, _, _, _, _, _, rfl, hf'⟩ := hf'.sa
  simp (disch := omega) only [go_sem, Nat.reduceBEq, Nat.reduceAdd]
  refine caN (by exact Cmp_frac (hf.to (h' := h2)) hf' sx sy) ?_; rintro v3 h3 s3 rfl
  simp (disch := omega) only [go_sem, Nat.reduceBEq, Nat.reduceAdd]
theorem NumPow {h0 h : PH} [Le h0 h] {v : Value} {x : Rat} {n : Int} (hx : Rv h0 v x) (hn : badn n = false) (hz : n < 0 → x ≠ 0) : Spec mach 38 #[v, .int .i64 n] h (fun r h' => Nc h' r (if n < 0 then (x⁻¹) ^ (-n).toNat else x ^ n.toNat)) NP := by
  have kX := fun {h} [Le h0 h] => Read_rv (h := h) hx
  have sx : sz x ≤ 2 ^ 20 := Nat.le_trans hx.sz (by decide)
  have sy : sz x⁻¹ ≤ 2 ^ 20 := Nat.le_trans (sz_inv x) sx
  have hb := badn_no hn
  obtain ⟨_, _, _, _, _, _, _, rfl, _⟩ := hx.sa
  clear hx
  by_cases h0 : n < 0
  · have hn : ¬ x.num.natAbs = 0 := by rw [Int.natAbs_eq_zero]; exact fun e => hz h0 (Rat.num_eq_zero.1 e)
    obtain ⟨m, rfl⟩ : ∃ m : Nat, n = -(m : Int) := ⟨(-n).toNat, by omega⟩
    have ew : (0 : Int) - -(m : Int) = (m : Int) := by omega
    rw [if_pos h0, show (- -(m : Int)).toNat = m by omega]
    refine Spec.go [] Tryz.func38 rfl rfl (by kernel_rfl) fun C _ => ?_
    simp (disch := omega) only [go_sem, Nat.reduceBEq, Nat.reduceAdd]
    refine caN (by exact kX) ?_; rintro v1 h1 s1 ⟨f, rfl, hf⟩; have hf0 := hf; obtain ⟨na, nl, nc, da, dl, dc, rfl, hnn, hdd⟩ := hf.sl
    simp (disch := omega) only [go_sem, Nat.reduceBEq, Nat.reduceAdd]
    refine caN (by exact Zero_spec hnn) ?_; rintro v3 h3 s3 rfl
    simp (disch := omega) only [go_sem, Nat.reduceBEq, Nat.reduceAdd, ew]
    refine caN (by exact Inverse_spec (hf0.to (h' := h3)) (hz h0)) ?_; rintro v4 h4 s4 q4; obtain ⟨_, _, _, _, _, _, _, rfl, q4⟩ := q4.sa
    simp (disch := omega) only [go_sem, Nat.reduceBEq, Nat.reduceAdd, ew]
    refine caN (by exact PowF_spec (n := m) q4 (by omega) sy) ?_; rintro v5 h5 s5 q5
    simp (disch := omega) only [go_sem, Nat.reduceBEq, Nat.reduceAdd]
    refine caN (by exact Give_nc q5) ?_; rintro v6 h6 s6 q6; obtain ⟨_, _, _, _, _, _, _, _, rfl, w6⟩ := q6
    simp (disch := omega) only [go_sem, Nat.reduceBEq, Nat.reduceAdd]
    exact Nc.mk w6
  · obtain ⟨m, rfl⟩ : ∃ m : Nat, n = (m : Int) := ⟨n.toNat, by omega⟩
    rw [if_neg h0, show (m : Int).toNat = m by omega]
    refine Spec.go [] Tryz.func38 rfl rfl (by kernel_rfl) fun C _ => ?_
    simp (disch := omega) only [go_sem, Nat.reduceBEq, Nat.reduceAdd]
    refine caN (by exact kX) ?_; rintro v1 h1 s1 ⟨f, rfl, hf⟩; obtain ⟨_, _, _, _, _, _, _, rfl, hf⟩ := hf.sa
    simp (disch := omega) only [go_sem, Nat.reduceBEq, Nat.reduceAdd]
    refine caN (by exact PowF_spec (n := m) hf (by omega) sx) ?_; rintro v5 h5 s5 q5
    simp (disch := omega) only [go_sem, Nat.reduceBEq, Nat.reduceAdd]
    refine caN (by exact Give_nc q5) ?_; rintro v6 h6 s6 q6; obtain ⟨_, _, _, _, _, _, _, _, rfl, w6⟩ := q6
    simp (disch := omega) only [go_sem, Nat.reduceBEq, Nat.reduceAdd]
    exact Nc.mk w6
theorem NumRoot {h0 h : PH} [Le h0 h] {v : Value} {x : Rat} {n p : Nat} {u : Bool} (hv : Rv h0 v x) (hn : 2 ≤ n) (hn8 : n ≤ 8) (hp : p ≤ 256) (hd : ¬ (x < 0 ∧ n % 2 = 0)) : Spec mach 96 #[v, .int .i64 n, .int .i64 p, .bool u] h (fun r h' => ∃ b na nl nc da dl dc, r = .tuple #[.agg #[.bool b, .slice na nl nc, .slice da dl dc], .int .i64 0] ∧ Rv h' (.agg #[.bool b, .slice na nl nc, .slice da dl dc]) (rootg u x n p)) NP := by
  have sr := rootg_sz (up := u) hv.sz hn hp
  obtain ⟨_, _, _, h1, h2, rfl⟩ := hv
  refine (root_any (u := u) (p := p) h1 h2 hn hn8 hp (by rw [num_neg]; exact hd)).mono (fun r h' _ k => ?_) (fun _ _ _ k => k)
  obtain ⟨w, rfl, c⟩ := k
  obtain ⟨_, _, _, _, _, _, _, rfl, c⟩ := c.sa
  exact ⟨_, _, _, _, _, _, _, rfl, Rv.of c sr⟩
theorem NumDown {h0 h : PH} [Le h0 h] {v : Value} {x : Rat} {n p : Nat} (hv : Rv h0 v x) (hn : 2 ≤ n) (hn8 : n ≤ 8) (hp : p ≤ 256) (hd : ¬ (x < 0 ∧ n % 2 = 0)) : Spec mach 39 #[v, .int .i64 n, .int .i64 p] h (fun r h' => ∃ b na nl nc da dl dc, r = .tuple #[.agg #[.bool b, .slice na nl nc, .slice da dl dc], .int .i64 0] ∧ Rv h' (.agg #[.bool b, .slice na nl nc, .slice da dl dc]) (rootg false x n p)) NP := by
  have kR := fun {h} [Le h0 h] => NumRoot (h := h) (u := false) hv hn hn8 hp hd
  obtain ⟨_, _, _, _, _, _, _, rfl, _⟩ := hv.sa
  refine Spec.go [] Tryz.func39 rfl rfl (by kernel_rfl) fun C _ => ?_
  simp (disch := omega) only [go_sem, Nat.reduceBEq, Nat.reduceAdd]
  refine caN (by exact kR) ?_; rintro v1 h1 s1 ⟨_, _, _, _, _, _, _, rfl, q1⟩
  simp (disch := omega) only [go_sem, Nat.reduceBEq, Nat.reduceAdd]
  exact ⟨_, _, _, _, _, _, _, rfl, q1⟩
theorem NumUp {h0 h : PH} [Le h0 h] {v : Value} {x : Rat} {n p : Nat} (hv : Rv h0 v x) (hn : 2 ≤ n) (hn8 : n ≤ 8) (hp : p ≤ 256) (hd : ¬ (x < 0 ∧ n % 2 = 0)) : Spec mach 40 #[v, .int .i64 n, .int .i64 p] h (fun r h' => ∃ b na nl nc da dl dc, r = .tuple #[.agg #[.bool b, .slice na nl nc, .slice da dl dc], .int .i64 0] ∧ Rv h' (.agg #[.bool b, .slice na nl nc, .slice da dl dc]) (rootg true x n p)) NP := by
  have kR := fun {h} [Le h0 h] => NumRoot (h := h) (u := true) hv hn hn8 hp hd
  obtain ⟨_, _, _, _, _, _, _, rfl, _⟩ := hv.sa
  refine Spec.go [] Tryz.func40 rfl rfl (by kernel_rfl) fun C _ => ?_
  simp (disch := omega) only [go_sem, Nat.reduceBEq, Nat.reduceAdd]
  refine caN (by exact kR) ?_; rintro v1 h1 s1 ⟨_, _, _, _, _, _, _, rfl, q1⟩
  simp (disch := omega) only [go_sem, Nat.reduceBEq, Nat.reduceAdd]
  exact ⟨_, _, _, _, _, _, _, rfl, q1⟩
theorem Least2_spec {h0 h : PH} [Le h0 h] {v w : Value} {x y : Rat} {g : Bool} (hx : Rv h0 v x) (hy : Rv h0 w y) : Spec mach 37 #[v, w, .bool g] h (fun r h' => Nq h' r (bif g then max x y else min x y)) NP := by
  have kC := fun {h} [Le h0 h] => NumCompare (h := h) hx hy
  have hx0 := hx
  have hy0 := hy
  obtain ⟨_, _, _, _, _, _, _, rfl, _⟩ := hx.sa
  obtain ⟨_, _, _, _, _, _, _, rfl, _⟩ := hy.sa
  have bt : (true == false) = false := rfl
  have bf : (false == true) = false := rfl
  have e1 : decide (cmpQ x y ≤ 0) = decide (x ≤ y) := by unfold cmpQ; grind
  cases eL : decide (x ≤ y) with
  | true =>
    have hL : x ≤ y := of_decide_eq_true eL
    cases g with
    | true =>
      refine Spec.go [] Tryz.func37 rfl rfl (by kernel_rfl) fun C _ => ?_
      simp (disch := omega) only [go_sem, Nat.reduceBEq, Nat.reduceAdd]
      refine caN (by exact kC) ?_; rintro v1 h1 s1 rfl
      simp (disch := omega) only [go_sem, Nat.reduceBEq, Nat.reduceAdd, e1, eL, bt, bf, Bool.not_false, Bool.not_true]
      refine Nq.mk (.inr ⟨rfl, ?_⟩)
      rw [show max x y = y by grind]
      exact hy0.to
    | false =>
      refine Spec.go [] Tryz.func37 rfl rfl (by kernel_rfl) fun C _ => ?_
      simp (disch := omega) only [go_sem, Nat.reduceBEq, Nat.reduceAdd]
      refine caN (by exact kC) ?_; rintro v1 h1 s1 rfl
      simp (disch := omega) only [go_sem, Nat.reduceBEq, Nat.reduceAdd, e1, eL, bt, bf, Bool.not_false, Bool.not_true]
      refine Nq.mk (.inr ⟨rfl, ?_⟩)
      rw [show min x y = x by grind]
      exact hx0.to
  | false =>
    have hL : ¬ x ≤ y := of_decide_eq_false eL
    cases g with
    | true =>
      refine Spec.go [] Tryz.func37 rfl rfl (by kernel_rfl) fun C _ => ?_
      simp (disch := omega) only [go_sem, Nat.reduceBEq, Nat.reduceAdd]
      refine caN (by exact kC) ?_; rintro v1 h1 s1 rfl
      simp (disch := omega) only [go_sem, Nat.reduceBEq, Nat.reduceAdd, e1, eL, bt, bf, Bool.not_false, Bool.not_true]
      refine Nq.mk (.inr ⟨rfl, ?_⟩)
      rw [show max x y = x by grind]
      exact hx0.to
    | false =>
      refine Spec.go [] Tryz.func37 rfl rfl (by kernel_rfl) fun C _ => ?_
      simp (disch := omega) only [go_sem, Nat.reduceBEq, Nat.reduceAdd]
      refine caN (by exact kC) ?_; rintro v1 h1 s1 rfl
      simp (disch := omega) only [go_sem, Nat.reduceBEq, Nat.reduceAdd, e1, eL, bt, bf, Bool.not_false, Bool.not_true]
      refine Nq.mk (.inr ⟨rfl, ?_⟩)
      rw [show min x y = y by grind]
      exact hy0.to
def Oq (h : PH) (r : Value) (q : Rat) : Prop := ∃ b na nl nc da dl dc e, r = .tuple #[.agg #[.bool b, .slice na nl nc, .slice da dl dc], .agg #[.bool b, .slice na nl nc, .slice da dl dc], .int .i64 e] ∧ (e = 1 ∨ e = 0 ∧ Rv h (.agg #[.bool b, .slice na nl nc, .slice da dl dc]) q)
@[go_sem] def onPl : Plans := [(23, .y (.a 0 (.a 1 (.a 2 (.a 3 (.a 4 (.a 5 .d .n) .n) .n) (.a 3 (.a 2 (.a 4 (.a 5 .d .n) .n) (.a 4 (.a 2 (.a 5 .d .n) .n) .n)) .n)) (.a 2 (.a 1 (.a 3 (.a 4 (.a 5 .d .n) .n) .n) (.a 3 (.a 1 (.a 4 (.a 5 .d .n) .n) .n) .n)) (.a 3 (.a 1 (.a 2 (.a 4 (.a 5 .d .n) .n) (.a 4 (.a 2 (.a 5 .d .n) .n) .n)) (.a 2 (.a 1 (.a 4 (.a 5 .d .n) .n) .n) .n)) .n))) (.a 1 (.a 0 (.a 2 (.a 3 (.a 4 (.a 5 .d .n) .n) .n) (.a 3 (.a 2 (.a 4 (.a 5 .d .n) .n) (.a 4 (.a 2 (.a 5 .d .n) .n) .n)) .n)) (.a 2 (.a 0 (.a 3 (.a 4 (.a 5 .d .n) .n) .n) .n) .n)) (.a 2 (.a 0 (.a 1 (.a 3 (.a 4 (.a 5 .d .n) .n) .n) (.a 3 (.a 1 (.a 4 (.a 5 .d .n) .n) .n) .n)) (.a 1 (.a 0 (.a 3 (.a 4 (.a 5 .d .n) .n) .n) .n) .n)) .n)))), (24, .y (.a 0 (.a 1 (.a 2 (.a 3 (.a 4 (.a 5 .d .n) .n) .n) (.a 3 (.a 2 (.a 4 (.a 5 .d .n) .n) (.a 4 (.a 2 (.a 5 .d .n) .n) .n)) .n)) (.a 2 (.a 1 (.a 3 (.a 4 (.a 5 .d .n) .n) .n) (.a 3 (.a 1 (.a 4 (.a 5 .d .n) .n) .n) .n)) (.a 3 (.a 1 (.a 2 (.a 4 (.a 5 .d .n) .n) (.a 4 (.a 2 (.a 5 .d .n) .n) .n)) (.a 2 (.a 1 (.a 4 (.a 5 .d .n) .n) .n) .n)) .n))) (.a 1 (.a 0 (.a 2 (.a 3 (.a 4 (.a 5 .d .n) .n) .n) (.a 3 (.a 2 (.a 4 (.a 5 .d .n) .n) (.a 4 (.a 2 (.a 5 .d .n) .n) .n)) .n)) (.a 2 (.a 0 (.a 3 (.a 4 (.a 5 .d .n) .n) .n) .n) .n)) (.a 2 (.a 0 (.a 1 (.a 3 (.a 4 (.a 5 .d .n) .n) .n) (.a 3 (.a 1 (.a 4 (.a 5 .d .n) .n) .n) .n)) (.a 1 (.a 0 (.a 3 (.a 4 (.a 5 .d .n) .n) .n) .n) .n)) .n))))]
theorem On_spec {h0 h : PH} [Le h0 h] {v w : Value} {x y : Rat} {op n p : Int} {k : Nat} (hx : Rv h0 v x) (hy : k < 6 → Rv h0 w y) (hw : ∃ b na nl nc da dl dc, w = .agg #[.bool b, .slice na nl nc, .slice da dl dc]) (em : op.tmod 8 = (k : Int)) (hk : k < 7) (h3 : k = 3 → y ≠ 0) (h6 : k = 6 → badn n = false ∧ (n < 0 → x ≠ 0)) :
    Spec mach 12 #[.int .u8 op, v, w, .int .i64 n, .int .i64 p] h (fun r h' => Oq h' r (onQ k x y n)) NP := by
  have hx0 := hx
  obtain ⟨_, _, _, _, _, _, _, rfl, _⟩ := hx.sa
  obtain ⟨_, _, _, _, _, _, _, rfl⟩ := hw
  match k, hk with
  | 0, _ =>
    refine Spec.go onPl Tryz.func12 rfl rfl (by kernel_rfl) fun C _ => ?_
    simp (disch := omega) only [go_sem, Nat.reduceBEq, Nat.reduceAdd, em]
    refine caN (by exact NumAdd hx0 (hy (by decide))) ?_; rintro v1 h1 s1 q1; obtain ⟨_, _, _, _, _, _, _, _, rfl, w1⟩ := q1.nq.sa
    simp (maxSteps := 4000000) (disch := omega) only [go_sem, Nat.reduceBEq, Nat.reduceAdd, and_self]
    exact ⟨_, _, _, _, _, _, _, _, rfl, w1⟩
  | 1, _ =>
    refine Spec.go onPl Tryz.func12 rfl rfl (by kernel_rfl) fun C _ => ?_
    simp (disch := omega) only [go_sem, Nat.reduceBEq, Nat.reduceAdd, em]
    refine caN (by exact NumSub hx0 (hy (by decide))) ?_; rintro v1 h1 s1 q1; obtain ⟨_, _, _, _, _, _, _, _, rfl, w1⟩ := q1.nq.sa
    simp (maxSteps := 4000000) (disch := omega) only [go_sem, Nat.reduceBEq, Nat.reduceAdd, and_self]
    exact ⟨_, _, _, _, _, _, _, _, rfl, w1⟩
  | 2, _ =>
    refine Spec.go onPl Tryz.func12 rfl rfl (by kernel_rfl) fun C _ => ?_
    simp (disch := omega) only [go_sem, Nat.reduceBEq, Nat.reduceAdd, em]
    refine caN (by exact NumMul hx0 (hy (by decide))) ?_; rintro v1 h1 s1 q1; obtain ⟨_, _, _, _, _, _, _, _, rfl, w1⟩ := q1.nq.sa
    simp (maxSteps := 4000000) (disch := omega) only [go_sem, Nat.reduceBEq, Nat.reduceAdd, and_self]
    exact ⟨_, _, _, _, _, _, _, _, rfl, w1⟩
  | 3, _ =>
    refine Spec.go onPl Tryz.func12 rfl rfl (by kernel_rfl) fun C _ => ?_
    simp (disch := omega) only [go_sem, Nat.reduceBEq, Nat.reduceAdd, em]
    refine caN (by exact NumDiv hx0 (hy (by decide)) (h3 rfl)) ?_; rintro v1 h1 s1 q1; obtain ⟨_, _, _, _, _, _, _, _, rfl, w1⟩ := q1.nq.sa
    simp (maxSteps := 4000000) (disch := omega) only [go_sem, Nat.reduceBEq, Nat.reduceAdd, and_self]
    exact ⟨_, _, _, _, _, _, _, _, rfl, w1⟩
  | 4, _ =>
    refine Spec.go onPl Tryz.func12 rfl rfl (by kernel_rfl) fun C _ => ?_
    simp (disch := omega) only [go_sem, Nat.reduceBEq, Nat.reduceAdd, em]
    refine caN (by exact Least2_spec hx0 (hy (by decide))) ?_; rintro v1 h1 s1 q1; obtain ⟨_, _, _, _, _, _, _, _, rfl, w1⟩ := q1.sa
    simp (maxSteps := 4000000) (disch := omega) only [go_sem, Nat.reduceBEq, Nat.reduceAdd, and_self]
    exact ⟨_, _, _, _, _, _, _, _, rfl, w1⟩
  | 5, _ =>
    refine Spec.go onPl Tryz.func12 rfl rfl (by kernel_rfl) fun C _ => ?_
    simp (disch := omega) only [go_sem, Nat.reduceBEq, Nat.reduceAdd, em]
    refine caN (by exact Least2_spec hx0 (hy (by decide))) ?_; rintro v1 h1 s1 q1; obtain ⟨_, _, _, _, _, _, _, _, rfl, w1⟩ := q1.sa
    simp (maxSteps := 4000000) (disch := omega) only [go_sem, Nat.reduceBEq, Nat.reduceAdd, and_self]
    exact ⟨_, _, _, _, _, _, _, _, rfl, w1⟩
  | 6, _ =>
    refine Spec.go onPl Tryz.func12 rfl rfl (by kernel_rfl) fun C _ => ?_
    simp (disch := omega) only [go_sem, Nat.reduceBEq, Nat.reduceAdd, em]
    refine caN (by exact NumPow hx0 (h6 rfl).1 (h6 rfl).2) ?_; rintro v1 h1 s1 q1; obtain ⟨_, _, _, _, _, _, _, _, rfl, w1⟩ := q1.nq.sa
    simp (maxSteps := 4000000) (disch := omega) only [go_sem, Nat.reduceBEq, Nat.reduceAdd, and_self]
    exact ⟨_, _, _, _, _, _, _, _, rfl, w1⟩
theorem On_root {h0 h : PH} [Le h0 h] {v w : Value} {x : Rat} {op n p : Int} {m r : Nat} (hx : Rv h0 v x) (hw : ∃ b na nl nc da dl dc, w = .agg #[.bool b, .slice na nl nc, .slice da dl dc]) (em : op.tmod 8 = 7) (en : n = (m : Int)) (ep : p = (r : Int)) (hn : 2 ≤ m) (hn8 : m ≤ 8) (hp : r ≤ 256) (hd : ¬ (x < 0 ∧ m % 2 = 0)) :
    Spec mach 12 #[.int .u8 op, v, w, .int .i64 n, .int .i64 p] h (fun q h' => ∃ b na nl nc da dl dc b' na' nl' nc' da' dl' dc', q = .tuple #[.agg #[.bool b, .slice na nl nc, .slice da dl dc], .agg #[.bool b', .slice na' nl' nc', .slice da' dl' dc'], .int .i64 0] ∧
      Rv h' (.agg #[.bool b, .slice na nl nc, .slice da dl dc]) (rootg false x m r) ∧ Rv h' (.agg #[.bool b', .slice na' nl' nc', .slice da' dl' dc']) (rootg true x m r)) NP := by
  subst en
  subst ep
  have kD := fun {h} [Le h0 h] => NumDown (h := h) (n := m) (p := r) hx hn hn8 hp hd
  have kU := fun {h} [Le h0 h] => NumUp (h := h) (n := m) (p := r) hx hn hn8 hp hd
  obtain ⟨_, _, _, _, _, _, _, rfl, _⟩ := hx.sa
  obtain ⟨_, _, _, _, _, _, _, rfl⟩ := hw
  clear hx
  refine Spec.go onPl Tryz.func12 rfl rfl (by kernel_rfl) fun C _ => ?_
  simp (disch := omega) only [go_sem, Nat.reduceBEq, Nat.reduceAdd, em]
  refine caN (by exact kD) ?_; rintro v1 h1 s1 ⟨_, _, _, _, _, _, _, rfl, q1⟩
  simp (disch := omega) only [go_sem, Nat.reduceBEq, Nat.reduceAdd]
  refine caN (by exact kU) ?_; rintro v2 h2 s2 ⟨_, _, _, _, _, _, _, rfl, q2⟩
  simp (maxSteps := 4000000) (disch := omega) only [go_sem, Nat.reduceBEq, Nat.reduceAdd, and_self]
  exact ⟨_, _, _, _, _, _, _, _, _, _, _, _, _, _, rfl, q1.to, q2⟩
end Go.Q
namespace Go.Q
open Go.Proofs
set_option maxRecDepth 100000
set_option maxHeartbeats 4000000
theorem Meet_spec {h0 h : PH} [Le h0 h] {v w : Value} {x y : RI} (hv : Iv h0 v x) (hw : Iv h0 w y) : Spec mach 14 #[v, w] h (fun r h' => Ir h' r (x.fin2 y (.ok (x.set.met y.set)))) NP := by
  have hv0 := hv
  have hw0 := hw
  obtain ⟨a1, m1, c1, a2, m2, c2, a3, m3, c3, a4, m4, c4, rfl, _, _⟩ := hv.sa
  obtain ⟨a1', m1', c1', a2', m2', c2', a3', m3', c3', a4', m4', c4', rfl, _, _⟩ := hw.sa
  refine Spec.go [] Tryz.func14 rfl rfl (by kernel_rfl) fun C _ => ?_
  try simp (maxSteps := 999999) (disch := omega) only [go_sem, Nat.reduceBEq, Nat.reduceAdd]
  refine caN (by exact exact_spec hv0 hw0 (fun g g' h' _ s t hs ht => Does.mk (Met_set hs ht (RI.le30 g) (RI.le30 g')))) ?_; rintro _ h3 _ hr3; obtain ⟨_, _, _, _, _, _, _, _, _, _, _, _, _, _, _, _, _, rfl, hr3⟩ := hr3.sa
  try simp (maxSteps := 999999) (disch := omega) only [go_sem, Nat.reduceBEq, Nat.reduceAdd]
  exact hr3
theorem NS.le.met {x y : NS} {k : Nat} (hx : x.le k) (hy : y.le k) : (x.met y).le k := by
  cases x with
  | e => rfl
  | i a b =>
    cases y with
    | e => rfl
    | i c d =>
      rw [NS.le_i] at hx hy
      show NS.le k (NS.mk' (omax a c) (omin b d))
      have h1 : NS.le k (.i (omax a c) (omin b d)) := by
        rw [NS.le_i]
        refine ⟨fun q e => ?_, fun q e => ?_⟩
        · cases a with
          | none => exact hy.1 _ e
          | some a =>
            cases c with
            | none => exact hx.1 _ e
            | some c => cases e; exact sz_max (hx.1 _ rfl) (hy.1 _ rfl)
        · cases b with
          | none => exact hy.2 _ e
          | some b =>
            cases d with
            | none => exact hx.2 _ e
            | some d => cases e; exact sz_min (hx.2 _ rfl) (hy.2 _ rfl)
      unfold NS.mk'
      cases ordO (omax a c) (omin b d) with
      | true => exact h1
      | false => rfl
theorem NS.le.joined {x y : NS} {k : Nat} (hx : x.le k) (hy : y.le k) : (x.joined y).le k := by
  cases x with
  | e => cases y <;> exact hy
  | i a b =>
    cases y with
    | e => exact hx
    | i c d =>
      rw [NS.le_i] at hx hy
      show NS.le k (.i (jmin a c) (jmax b d))
      rw [NS.le_i]
      refine ⟨fun q e => ?_, fun q e => ?_⟩
      · cases a with
        | none => cases e
        | some a =>
          cases c with
          | none => cases e
          | some c => cases e; exact sz_min (hx.1 _ rfl) (hy.1 _ rfl)
      · cases b with
        | none => cases e
        | some b =>
          cases d with
          | none => cases e
          | some d => cases e; exact sz_max (hx.2 _ rfl) (hy.2 _ rfl)
theorem Meet_ok {h0 h : PH} [Le h0 h] {v w : Value} {x y : RI} (hv : Iv h0 v x) (hw : Iv h0 w y) (g : x.big = false) (g' : y.big = false) : Spec mach 14 #[v, w] h (fun r h' => Ir h' r (.ok (x.set.met y.set))) NP := by
  have k := Meet_spec (h := h) hv hw
  have e : x.fin2 y (.ok (x.set.met y.set)) = .ok (x.set.met y.set) := by
    unfold RI.fin2 Out.fin
    simp only [g, g', Bool.or_self, cond_false, (RI.le g).met (RI.le g'), decide_true, cond_true]
  rwa [e] at k
end Go.Q
namespace Go.Q
open Go.Proofs
set_option maxRecDepth 100000
set_option maxHeartbeats 8000000
theorem op_on {k : Nat} {x y : RI} {n p : Int} {u v : Rat} (gp : bad p = false) (hu : x.set.has u = true) (hv : k < 6 → y.set.has v = true) {C : NS} (hC : opO k x y n p = .ok C) :
    (k = 3 → v ≠ 0) ∧ (k = 6 → badn n = false ∧ (n < 0 → u ≠ 0)) ∧ (k = 7 → badr n = false ∧ ¬ (u < 0 ∧ n % 2 = 0) ∧ C = x.set.rootS n.toNat p.toNat) := by
  refine ⟨?_, ?_, ?_⟩ <;> rintro rfl
  · have hC : x.fin2 y (rnd p x.set y.set (divO x.set y.set)) = .ok C := hC
    cases hz : y.set.zero with
    | false => exact zero_ne (hv (by decide)) hz
    | true =>
      exfalso
      unfold RI.fin2 rnd Out.prec divO at hC
      rw [gp, has_void hu, has_void (hv (by decide)), hz] at hC
      cases g : x.big || y.big <;> rw [g] at hC <;> cases hC
  · have hC : x.fin (powR n p x.set) = .ok C := hC
    unfold RI.fin powR Out.prec at hC
    rw [gp] at hC
    cases g : x.big with
    | true => rw [g] at hC; cases hC
    | false =>
      rw [g] at hC
      cases gn : badn n with
      | true => rw [gn] at hC; cases hC
      | false =>
        rw [gn] at hC
        refine ⟨rfl, fun hn => ?_⟩
        cases hz : x.set.zero with
        | false => exact zero_ne hu hz
        | true =>
          have hC : Out.fin (hullO p.toNat (powO n x.set)) = .ok C := hC
          rw [powO_zero hn hz] at hC
          cases hC
  · have hC : x.fin (rootR n p x.set) = .ok C := hC
    unfold RI.fin rootR Out.prec rootO at hC
    rw [gp, has_void hu] at hC
    cases g : x.big with
    | true => rw [g] at hC; cases hC
    | false =>
      rw [g] at hC
      cases gn : badr n with
      | true => rw [gn] at hC; cases hC
      | false =>
        rw [gn] at hC
        have hC : Out.fin (if n % 2 = 0 ∧ x.set.slo < 0 then .error 5 else .ok (x.set.rootS n.toNat p.toNat)) = .ok C := hC
        by_cases hs : n % 2 = 0 ∧ x.set.slo < 0
        · rw [if_pos hs] at hC; cases hC
        · rw [if_neg hs] at hC
          refine ⟨rfl, fun hc => hs ⟨hc.2, ?_⟩, ?_⟩
          · generalize x.set = s at hu
            cases s with
            | e => cases hu
            | i a b =>
              cases a with
              | none => show (-1 : Int) < 0; decide
              | some a =>
                rw [NS.has_i] at hu
                have := hu.1 a rfl
                show sgn3 a < 0
                unfold sgn3
                rw [if_pos (by grind)]
                decide
          · obtain ⟨e, _⟩ := Out.fin_ok hC
            cases e; rfl
theorem has_rv {h0 : PH} {v : Value} {x : RI} {neg : Bool} {n d : Nat} (hv : Rw h0 v neg n d) (e : (!x.big && !decide (lg neg n d) && x.set.has (qof neg n d)) = true) : Rv h0 v (qof neg n d) ∧ x.set.has (qof neg n d) = true := by
  simp only [Bool.and_eq_true, Bool.not_eq_true', decide_eq_false_iff_not] at e
  exact ⟨⟨_, _, _, hv, e.1.2, rfl⟩, e.2⟩
theorem betw {b b' : Bool} {n n' d d' : Nat} (w : ¬ lg b n d) (w' : ¬ lg b' n' d') (hl : qof b n d ≤ qof b' n' d') : RI.fin ⟨b, n, d, b', n', d', false, false⟩ (.ok (RI.set ⟨b, n, d, b', n', d', false, false⟩)) = .ok (.i (some (qof b n d)) (some (qof b' n' d'))) ∧ (NS.i (some (qof b n d)) (some (qof b' n' d'))).le 2048 ∧ (NS.i (some (qof b n d)) (some (qof b' n' d'))).ok := by
  have e1 : RI.set ⟨b, n, d, b', n', d', false, false⟩ = .i (some (qof b n d)) (some (qof b' n' d')) := by
    show NS.mk' (some (qof b n d)) (some (qof b' n' d')) = _
    have : ordO (some (qof b n d)) (some (qof b' n' d')) = true := by simp [ordO]; grind
    unfold NS.mk'; rw [this]; rfl
  have g : RI.big ⟨b, n, d, b', n', d', false, false⟩ = false := by simp [RI.big, w, w']
  have l : (NS.i (some (qof b n d)) (some (qof b' n' d'))).le 2048 := by rw [← e1]; exact RI.le g
  refine ⟨?_, l, by show ordO _ _ = true; simp [ordO]; grind⟩
  rw [e1]
  unfold RI.fin
  rw [g]
  exact Out.fin_le l
theorem Contains_law {h0 h : PH} [Le h0 h] {v1 v2 v3 v4 : Value} {x1 x2 : RI} {ng mg : Bool} {nn nd mn md : Nat} {op n p : Int} (ho : 0 ≤ op ∧ op ≤ 255) (hv1 : Iv h0 v1 x1) (hv2 : Iv h0 v2 x2) (hv3 : Rw h0 v3 ng nn nd) (hv4 : Rw h0 v4 mg mn md) (hp : 0 ≤ p ∧ p ≤ 255) :
    Spec mach 5 #[.int .u8 op, v1, v2, v3, v4, .int .i64 n, .int .u8 p] h (fun r _ => r = .bool true) NP := by
  obtain ⟨q, ew, hq0, hq1⟩ : ∃ q, IntKind.i64.wrap (p.tmod 64) = q ∧ 0 ≤ q ∧ q ≤ 63 := by
    refine ⟨p % 64, ?_, by omega, by omega⟩
    rw [Int.tmod_eq_emod_of_nonneg hp.1]
    exact wi64 (by omega) (by omega)
  have gq : bad q = false := by
    cases e : bad q with
    | false => rfl
    | true => have := bad_yes e; omega
  have ew2 : IntKind.i64.wrap (2 * q) = 2 * q := wi64 (by omega) (by omega)
  obtain ⟨k, hk, em⟩ : ∃ k : Nat, k < 8 ∧ op.tmod 8 = (k : Int) := ⟨(op % 8).toNat, by omega, by rw [Int.tmod_eq_emod_of_nonneg ho.1]; omega⟩
  have kC := fun {h} [Le h0 h] => Apply_spec (h := h) (n := n) (p := q) hv1 hv2 em hk
  have kA := fun {h} [Le h0 h] => has_law (h := h) hv1 hv3
  have kB := fun {h} [Le h0 h] => has_law (h := h) hv2 hv4
  have fC : Fit (opO k x1 x2 n q) := op_fit hk
  have rA := has_rv (x := x1) hv3
  have rB := has_rv (x := x2) hv4
  obtain ⟨_, _, _, _, _, _, _, _, _, _, _, _, rfl, _, _⟩ := hv1.sa
  obtain ⟨_, _, _, _, _, _, _, _, _, _, _, _, rfl, _, _⟩ := hv2.sa
  obtain ⟨_, _, _, _, _, _, _, rfl, _⟩ := hv3.sa
  obtain ⟨b4, na4, nl4, nc4, da4, dl4, dc4, rfl, _⟩ := hv4.sa
  clear hv1 hv2 hv3 hv4
  cases oC : opO k x1 x2 n q with
  | error e =>
    have he := fC.2 e oC
    rw [oC] at kC
    refine Spec.go [] Tryz.func5 rfl rfl (by kernel_rfl) fun C _ => ?_
    simp (maxSteps := 999999) (disch := omega) only [go_sem, Nat.reduceBEq, Nat.reduceAdd, ew]
    refine caN (by exact kC) ?_; rintro v5 h5 s5 q5; obtain rfl := q5.ea
    simp (maxSteps := 999999) (disch := omega) only [go_sem, Nat.reduceBEq, Nat.reduceAdd]
    refine caN (by exact awake_spec) ?_; rintro v6 h6 s6 rfl
    simp (maxSteps := 999999) (disch := omega) only [go_sem, Nat.reduceBEq, Nat.reduceAdd]
  | ok C =>
    obtain ⟨kC1, kC2⟩ := fC.1 C oC
    rw [oC] at kC
    cases eA : (!x1.big && !decide (lg ng nn nd) && x1.set.has (qof ng nn nd)) with
    | false =>
      rw [eA] at kA
      refine Spec.go [] Tryz.func5 rfl rfl (by kernel_rfl) fun C _ => ?_
      simp (maxSteps := 999999) (disch := omega) only [go_sem, Nat.reduceBEq, Nat.reduceAdd, ew]
      refine caN (by exact kC) ?_; rintro v5 h5 s5 q5
      obtain ⟨_, _, _, _, _, _, _, _, _, _, _, _, _, _, _, _, rfl, c5⟩ := q5.oa
      simp (maxSteps := 999999) (disch := omega) only [go_sem, Nat.reduceBEq, Nat.reduceAdd]
      refine caN (by exact kA) ?_; rintro v6 h6 s6 rfl
      simp (maxSteps := 999999) (disch := omega) only [go_sem, Nat.reduceBEq, Nat.reduceAdd]
      refine caN (by exact awake_spec) ?_; rintro v7 h7 s7 rfl
      simp (maxSteps := 999999) (disch := omega) only [go_sem, Nat.reduceBEq, Nat.reduceAdd]
    | true =>
      rw [eA] at kA
      obtain ⟨rA, hA⟩ := rA eA
      by_cases hb : k < 6 → (!x2.big && !decide (lg mg mn md) && x2.set.has (qof mg mn md)) = true
      · obtain ⟨d3, d6, d7⟩ := op_on gq hA (fun h => (rB (hb h)).2) oC
        by_cases h7 : k < 7
        · have kO := fun {h} [Le h0 h] => On_spec (h := h) (p := 2 * q) rA (fun h => (rB (hb h)).1) ⟨_, _, _, _, _, _, _, rfl⟩ em h7 d3 d6
          have hC := op_has gq h7 hA (fun h => (rB (hb h)).2) oC
          rcases Nat.lt_or_ge k 6 with g6 | g6
          all_goals
            try rw [hb g6] at kB
            refine Spec.go [] Tryz.func5 rfl rfl (by kernel_rfl) fun C _ => ?_
            simp (maxSteps := 999999) (disch := omega) only [go_sem, Nat.reduceBEq, Nat.reduceAdd, ew]
            refine caN (by exact kC) ?_; rintro v5 h5 s5 q5
            obtain ⟨_, _, _, _, _, _, _, _, _, _, _, _, _, _, _, _, rfl, c5⟩ := q5.oa
            simp (maxSteps := 999999) (disch := omega) only [go_sem, Nat.reduceBEq, Nat.reduceAdd]
            refine caN (by exact kA) ?_; rintro v6 h6 s6 rfl
            simp (maxSteps := 999999) (disch := omega) only [go_sem, Nat.reduceBEq, Nat.reduceAdd, em, ew, ew2]
            try (refine caN (by exact kB) ?_; rintro v7 h7 s7 rfl; (simp (maxSteps := 999999) (disch := omega) only [go_sem, Nat.reduceBEq, Nat.reduceAdd, ew, ew2]))
            refine caN (by exact kO) ?_; rintro v8 h8 s8 q8
            obtain ⟨_, _, _, _, _, _, _, e, rfl, q8⟩ := q8
            rcases q8 with rfl | ⟨rfl, q8⟩
            · simp (maxSteps := 999999) (disch := omega) only [go_sem, Nat.reduceBEq, Nat.reduceAdd]
              refine caN (by exact awake_spec) ?_; rintro v9 h9 s9 rfl
              simp (maxSteps := 999999) (disch := omega) only [go_sem, Nat.reduceBEq, Nat.reduceAdd]
            · obtain ⟨b, n', d', w1, w2, w3⟩ := q8
              have kF := fun {h} [Le h8 h] => has_law (h := h) ((c5.iv kC2).to (h' := h8)) w1
              rw [NS.ri_big kC2, NS.ri_set kC1, w3, hC, decide_eq_false w2] at kF
              simp (maxSteps := 999999) (disch := omega) only [go_sem, Nat.reduceBEq, Nat.reduceAdd, em]
              refine caN (by exact kF) ?_; rintro v9 h9 s9 rfl
              simp (maxSteps := 999999) (disch := omega) only [go_sem, Nat.reduceBEq, Nat.reduceAdd]
              refine caN (by exact awake_spec) ?_; rintro v10 h10 s10 rfl
              simp (maxSteps := 999999) (disch := omega) only [go_sem, Nat.reduceBEq, Nat.reduceAdd]
        · obtain rfl : k = 7 := by omega
          obtain ⟨b1, b2, rfl⟩ := d7 rfl
          have hbr := badr_no b1
          obtain ⟨m, rfl⟩ : ∃ m : Nat, n = (m : Int) := ⟨n.toNat, by omega⟩
          obtain ⟨r, er⟩ : ∃ r : Nat, 2 * q = (r : Int) := ⟨(2 * q).toNat, by omega⟩
          have kO := fun {h} [Le h0 h] => On_root (h := h) (w := .agg #[.bool b4, .slice na4 nl4 nc4, .slice da4 dl4 dc4]) (p := 2 * q) (n := m) rA ⟨_, _, _, _, _, _, _, rfl⟩ em rfl er (by omega) (by omega) (by omega) (fun k => b2 ⟨k.1, by omega⟩)
          have hM := root_meets (x := x1.set) (n := m) (p := q.toNat) (r := r) (by omega) hA
          have hx := root_cross (Rat.le_refl (a := qof ng nn nd)) (n := m) (by omega) r r
          rw [show (m : Int).toNat = m by omega] at *
          refine Spec.go [] Tryz.func5 rfl rfl (by kernel_rfl) fun C _ => ?_
          simp (maxSteps := 999999) (disch := omega) only [go_sem, Nat.reduceBEq, Nat.reduceAdd, ew]
          refine caN (by exact kC) ?_; rintro v5 h5 s5 q5
          obtain ⟨_, _, _, _, _, _, _, _, _, _, _, _, _, _, _, _, rfl, c5⟩ := q5.oa
          simp (maxSteps := 999999) (disch := omega) only [go_sem, Nat.reduceBEq, Nat.reduceAdd]
          refine caN (by exact kA) ?_; rintro v6 h6 s6 rfl
          simp (maxSteps := 999999) (disch := omega) only [go_sem, Nat.reduceBEq, Nat.reduceAdd, em, ew, ew2]
          refine caN (by exact kO) ?_; rintro v8 h8 s8 q8
          obtain ⟨_, _, _, _, _, _, _, _, _, _, _, _, _, _, rfl, q8, q9⟩ := q8
          obtain ⟨_, _, _, w1, w2, w3⟩ := q8
          obtain ⟨_, _, _, w4, w5, w6⟩ := q9
          rw [← w3, ← w6] at hM hx
          obtain ⟨eB, lB, oB⟩ := betw w2 w5 hx
          simp (maxSteps := 999999) (disch := omega) only [go_sem, Nat.reduceBEq, Nat.reduceAdd, em]
          refine caN (by exact Between_spec w1 w4) ?_; rintro v9 h9 s9 q9
          rw [eB] at q9
          obtain ⟨_, _, _, _, _, _, _, _, _, _, _, _, _, _, _, _, rfl, c9⟩ := q9.oa
          simp (maxSteps := 999999) (disch := omega) only [go_sem, Nat.reduceBEq, Nat.reduceAdd]
          refine caN (by exact Meet_ok ((c5.iv kC2).to (h' := h9)) (c9.iv lB) (NS.ri_big kC2) (NS.ri_big lB)) ?_; rintro v10 h10 s10 q10
          rw [NS.ri_set kC1, NS.ri_set oB] at q10
          obtain ⟨_, _, _, _, _, _, _, _, _, _, _, _, _, _, _, _, rfl, c10⟩ := q10.oa
          simp (maxSteps := 999999) (disch := omega) only [go_sem, Nat.reduceBEq, Nat.reduceAdd]
          have kE := fun {h} [Le h10 h] => IsEmpty_spec (h := h) (c10.iv (kC2.met lB))
          unfold RI.bo at kE
          rw [NS.ri_big (kC2.met lB), NS.ri_set NS.ok_met, hM] at kE
          refine caN (by exact kE) ?_; rintro v11 h11 s11 q11
          obtain rfl : v11 = .tuple #[.bool false, .int .i64 0] := q11
          simp (maxSteps := 999999) (disch := omega) only [go_sem, Nat.reduceBEq, Nat.reduceAdd]
          refine caN (by exact awake_spec) ?_; rintro v12 h12 s12 rfl
          simp (maxSteps := 999999) (disch := omega) only [go_sem, Nat.reduceBEq, Nat.reduceAdd]
      · obtain ⟨g6, eB⟩ : k < 6 ∧ (!x2.big && !decide (lg mg mn md) && x2.set.has (qof mg mn md)) = false := by
          rcases Nat.lt_or_ge k 6 with g6 | g6
          · exact ⟨g6, by cases e : (!x2.big && !decide (lg mg mn md) && x2.set.has (qof mg mn md)) with | false => rfl | true => exact (hb fun _ => e).elim⟩
          · exact (hb fun g => by omega).elim
        rw [eB] at kB
        refine Spec.go [] Tryz.func5 rfl rfl (by kernel_rfl) fun C _ => ?_
        simp (maxSteps := 999999) (disch := omega) only [go_sem, Nat.reduceBEq, Nat.reduceAdd, ew]
        refine caN (by exact kC) ?_; rintro v5 h5 s5 q5
        obtain ⟨_, _, _, _, _, _, _, _, _, _, _, _, _, _, _, _, rfl, c5⟩ := q5.oa
        simp (maxSteps := 999999) (disch := omega) only [go_sem, Nat.reduceBEq, Nat.reduceAdd]
        refine caN (by exact kA) ?_; rintro v6 h6 s6 rfl
        simp (maxSteps := 999999) (disch := omega) only [go_sem, Nat.reduceBEq, Nat.reduceAdd, em]
        refine caN (by exact kB) ?_; rintro v7 h7 s7 rfl
        simp (maxSteps := 999999) (disch := omega) only [go_sem, Nat.reduceBEq, Nat.reduceAdd]
        refine caN (by exact awake_spec) ?_; rintro v8 h8 s8 rfl
        simp (maxSteps := 999999) (disch := omega) only [go_sem, Nat.reduceBEq, Nat.reduceAdd]
end Go.Q
