/-
  Contracts of package number and package interval: roots. Conditions: the values are numbers (Cn), sets (Sd), intervals (Iv).
  The eight operations of the statements on two intervals: what each ends in; a part of the operands gives a part of the result, plain. Conditions: the precision is allowed, no number is large.
  The statements' own choice of an operation (apply): what it ends in. Conditions: the arguments are intervals.
  Contracts of the reference's intervals: canonical intervals, points, the whole line. Conditions: the values are intervals (Iv) and numbers (Rw).
  Contracts of the reference's intervals: two arguments; opposite, lesser and greater intervals. Conditions: the values are intervals (Iv) and sets (Rr).
  Contracts of the reference: products of numbers, of ends of sets. Conditions: the values denote the numbers and ends named, of at most 2^30 binary digits.
  Contracts of the reference's intervals: the product of two sets. Conditions: the values denote the sets named (Rr), their ends of at most 2048 binary digits. (Printed by a program.)
  Contracts of the reference's intervals: sums and differences. Conditions: the values are intervals (Iv) and sets (Rr).
  Contracts of the reference's intervals: numbers in a set. Conditions: the values are intervals (Iv), sets (Rr) and numbers (Rw, Qr).
  Contracts of the reference's intervals: inverses, products, quotients. Conditions: the values are intervals (Iv) and sets (Rr).
  What Mul and Div return. Conditions: the arguments are intervals.
  Contracts of the reference's intervals: signs, absolute values, opposites. Conditions: the values are intervals (Iv) and sets (Rr).
  Contracts of the reference's intervals: powers. Conditions: the values are intervals (Iv) and sets (Rr).
  What Pow returns. Conditions: the argument is an interval.
  Contracts of the reference's intervals: roots. Conditions: the values are intervals (Iv).
  What Root returns. Conditions: the argument is an interval.
  Operations are isotone. Conditions: the arguments are intervals.
  Contracts of package interval: what Meet returns; laws of sizes. Conditions: the values are intervals.
  A set cut in two: the results of an operation on its parts have the result on the whole as their hull, plain. Conditions: ends in order (ok), the cut lies in the set.
  Powers of a set cut in two; hulls of joined sets, plain. Conditions: ends in order (ok), the cut lies in the set.
  The eight operations on an interval that is cut in two, plain: the hull of the two results is the result on the whole. Conditions: the precision is allowed, no number is large, the cut lies in the interval.
  An operation on an interval that is cut in two. Conditions: the arguments are intervals and a number.
-/
import Derived.Test.YthagpdbpgdfojaaGreatDoorKdff4d5PkD
import Derived.Test.YthagpdbpgdfojaaGreatDoorKe0aa7aPkQ
import Derived.Test.YthagpdbpgdfojaaGreatDoorK9c943aPkK
import Derived.Test.YthagpdbpgdfojaaGreatDoorK29c42dPkM
import Derived.Test.YthagpdbpgdfojaaGreatDoorK2a7f09PkP
import Derived.Test.YthagpdbpgdfojaaGreatDoorK36e74aPkN
import Derived.Test.YthagpdbpgdfojaaGreatDoorK9d7525PkO
set_option linter.unusedVariables false
set_option linter.unusedSimpArgs false
namespace Go.Q
open Go.Proofs
set_option maxRecDepth 100000
set_option maxHeartbeats 8000000
@[go_sem] theorem void_at_e' : NS.void .e = true := rfl
@[go_sem] theorem void_at_i' (a b : Option Rat) : NS.void (.i a b) = false := rfl
theorem pub_on {h h' : PH} [l : Le h h'] {b : Nat} {cs : Array Value} (hb : h b = some cs) : h' b = some cs := l.sub _ _ hb
theorem root_any {h0 h : PH} [Le h0 h] {v : Value} {neg : Bool} {a d n p : Nat} {u : Bool} (hv : Rw h0 v neg a d) (hl : ¬ lg neg a d) (hn : 2 ≤ n) (hn8 : n ≤ 8) (hp : p ≤ 256) (hd : ¬ ((qof neg a d).num < 0 ∧ n % 2 = 0)) :
    Spec mach 96 #[v, .int .i64 n, .int .i64 p, .bool u] h (fun r h' => ∃ w, r = .tuple #[w, .int .i64 0] ∧ Cn h' w (rootg u (qof neg a d) n p)) NP := by
  cases en : decide ((qof neg a d).num < 0) with
  | false => exact root_pos hv hl hn hn8 hp hd en
  | true => exact root_neg hv hl hn hn8 hp hd en
theorem RootDown_cn {h0 h : PH} [Le h0 h] {v : Value} {x : Rat} {n p : Nat} (hv : Cn h0 v x) (hs : sz x ≤ 2048) (hn : 2 ≤ n) (hn8 : n ≤ 8) (hp : p ≤ 256) (hd : ¬ (x < 0 ∧ n % 2 = 0)) : Spec mach 39 #[v, .int .i64 n, .int .i64 p] h (fun r h' => ∃ w, r = .tuple #[w, .int .i64 0] ∧ Cn h' w (rootg false x n p)) NP := by
  have hw := hv.rw (Nat.le_trans hs (by decide))
  have hl : ¬ lg (decide (x.num < 0)) x.num.natAbs (if x.den = 1 then 0 else x.den) := by rw [lg_cn]; omega
  have hq := qof_cn x
  have kR := fun {h} [Le h0 h] => root_any (h := h) (u := false) (p := p) hw hl hn hn8 hp (by rw [hq, num_neg]; exact hd)
  rw [hq] at kR
  clear hw hl hq
  obtain ⟨_, _, _, _, _, _, _, rfl, _⟩ := hv.sa
  refine Spec.go [] Tryz.func39 rfl rfl (by kernel_rfl) fun C _ => ?_
  try simp (maxSteps := 999999) (disch := omega) only [go_sem, Nat.reduceBEq, Nat.reduceAdd]
  refine caN (by exact kR) ?_; rintro v1 h1 s1 ⟨w, rfl, hw1⟩; obtain ⟨_, _, _, _, _, _, _, rfl, hw2⟩ := hw1.sa
  try simp (maxSteps := 999999) (disch := omega) only [go_sem, Nat.reduceBEq, Nat.reduceAdd]
  exact ⟨_, rfl, hw2⟩
theorem RootUp_cn {h0 h : PH} [Le h0 h] {v : Value} {x : Rat} {n p : Nat} (hv : Cn h0 v x) (hs : sz x ≤ 2048) (hn : 2 ≤ n) (hn8 : n ≤ 8) (hp : p ≤ 256) (hd : ¬ (x < 0 ∧ n % 2 = 0)) : Spec mach 40 #[v, .int .i64 n, .int .i64 p] h (fun r h' => ∃ w, r = .tuple #[w, .int .i64 0] ∧ Cn h' w (rootg true x n p)) NP := by
  have hw := hv.rw (Nat.le_trans hs (by decide))
  have hl : ¬ lg (decide (x.num < 0)) x.num.natAbs (if x.den = 1 then 0 else x.den) := by rw [lg_cn]; omega
  have hq := qof_cn x
  have kR := fun {h} [Le h0 h] => root_any (h := h) (u := true) (p := p) hw hl hn hn8 hp (by rw [hq, num_neg]; exact hd)
  rw [hq] at kR
  clear hw hl hq
  obtain ⟨_, _, _, _, _, _, _, rfl, _⟩ := hv.sa
  refine Spec.go [] Tryz.func40 rfl rfl (by kernel_rfl) fun C _ => ?_
  try simp (maxSteps := 999999) (disch := omega) only [go_sem, Nat.reduceBEq, Nat.reduceAdd]
  refine caN (by exact kR) ?_; rintro v1 h1 s1 ⟨w, rfl, hw1⟩; obtain ⟨_, _, _, _, _, _, _, rfl, hw2⟩ := hw1.sa
  try simp (maxSteps := 999999) (disch := omega) only [go_sem, Nat.reduceBEq, Nat.reduceAdd]
  exact ⟨_, rfl, hw2⟩
theorem number_cn {h0 h : PH} [Le h0 h] {v : Value} {x : Rat} (hv : Cn h0 v x) (hs : sz x ≤ 2048) : Spec mach 70 #[v] h (fun v h' => Fr h' v x) NP := by
  have hl : ¬ lg (decide (x.num < 0)) x.num.natAbs (if x.den = 1 then 0 else x.den) := by rw [lg_cn]; omega
  have := number_ok (h := h) (hv.rw (Nat.le_trans hs (by decide))) hl
  rwa [qof_cn] at this
def NS.rootS (n p : Nat) : NS → NS
  | .e => .e
  | .i a b => .i (a.map (rootg false · n p)) (b.map (rootg true · n p))
def badr (n : Int) : Bool := decide (n < 2) || decide (8 < n)
theorem badr_no {n : Int} (h : badr n = false) : 2 ≤ n ∧ n ≤ 8 := by
  unfold badr at h
  simp only [Bool.or_eq_false_iff, decide_eq_false_iff_not] at h
  omega
theorem badr_yes {n : Int} (h : badr n = true) : n < 2 ∨ 8 < n := by
  unfold badr at h
  simpa using h
def rootO (n p : Int) (x : NS) : Out := bif x.void then .ok .e else if n % 2 = 0 ∧ x.slo < 0 then .error 5 else .ok (x.rootS n.toNat p.toNat)
def rootR (n p : Int) (x : NS) : Out := bif badr n then .error 2 else Out.prec p (rootO n p x)
theorem dom_low {a b : Option Rat} {m : Nat} (hd : ¬ ((m : Int) % 2 = 0 ∧ (NS.i a b).slo < 0)) : ∀ q, a = some q → ¬ (q < 0 ∧ m % 2 = 0) := by
  intro q e k
  subst e
  have : sgn3 q = -1 := by unfold sgn3; rw [if_pos k.1]
  exact hd ⟨by omega, by show sgn3 q < 0; omega⟩
theorem dom_high {a b : Option Rat} {m : Nat} (hx : (NS.i a b).ok) (hd : ¬ ((m : Int) % 2 = 0 ∧ (NS.i a b).slo < 0)) : ∀ q, b = some q → ¬ (q < 0 ∧ m % 2 = 0) := by
  intro q e k
  subst e
  cases a with
  | none => exact hd ⟨by omega, by show (-1 : Int) < 0; decide⟩
  | some a =>
    have h1 : ¬ q < a := by simpa [NS.ok, ordO] using hx
    exact dom_low hd a rfl ⟨by grind, k.2⟩
theorem Root1 {h0 h : PH} [Le h0 h] {s : Value} {x : NS} {n p : Int} {b1 b2 : Nat} (hs : Sd h0 s x) (hx : x.ok) (lx : x.le 2048) (hb1 : h b1 = some #[.int .i64 n]) (hb2 : h b2 = some #[.int .i64 p]) : Does 68 #[s, .pointer (some ⟨b1, 0, none⟩), .pointer (some ⟨b2, 0, none⟩)] h (rootR n p x) := by
  have hs0 := hs.sn
  cases gn : badr n with
  | true =>
    have e0 : rootR n p x = .error 2 := by unfold rootR; rw [gn]; rfl
    rw [e0]
    obtain ⟨_, _, _, _, _, _, _, _, _, _, _, _, _, _, _, _, rfl, hs⟩ := hs.sa
    show Spec _ _ _ _ NR (fail 2)
    refine Spec.go [(9, .o [0, 1, 6, 7, 2, 3, 4, 5, 8, 9, 10, 11, 12, 13, 14]), (11, .o [0, 1, 6, 7, 2, 3, 4, 5, 8, 9, 10, 11, 12, 13, 14])] Tryz.func68 rfl rfl (by kernel_rfl) fun C _ => ?_
    try simp (maxSteps := 999999) (disch := omega) only [go_sem, Nat.reduceBEq, Nat.reduceAdd]
    refine ld1_of (at_one hb1) ?_
    try simp (maxSteps := 999999) (disch := omega) only [go_sem, Nat.reduceBEq, Nat.reduceAdd]
    exact caF (by exact precise_fail (badr_yes gn)) (fun _ _ h => h)
  | false =>
    have hn := badr_no gn
    cases gp : bad p with
    | true =>
      have e0 : rootR n p x = .error 2 := by unfold rootR Out.prec; rw [gn, gp]; rfl
      rw [e0]
      obtain ⟨_, _, _, _, _, _, _, _, _, _, _, _, _, _, _, _, rfl, hs⟩ := hs.sa
      show Spec _ _ _ _ NR (fail 2)
      refine Spec.go [(9, .o [0, 1, 6, 7, 2, 3, 4, 5, 8, 9, 10, 11, 12, 13, 14]), (11, .o [0, 1, 6, 7, 2, 3, 4, 5, 8, 9, 10, 11, 12, 13, 14])] Tryz.func68 rfl rfl (by kernel_rfl) fun C _ => ?_
      try simp (maxSteps := 999999) (disch := omega) only [go_sem, Nat.reduceBEq, Nat.reduceAdd]
      refine ld1_of (at_one hb1) ?_
      try simp (maxSteps := 999999) (disch := omega) only [go_sem, Nat.reduceBEq, Nat.reduceAdd]
      refine caN (by exact precise_ok hn.1 hn.2) ?_; rintro v1 h1 st1 _
      try simp (maxSteps := 999999) (disch := omega) only [go_sem, Nat.reduceBEq, Nat.reduceAdd]
      refine ld1_of (at_one (pub_on hb2)) ?_
      try simp (maxSteps := 999999) (disch := omega) only [go_sem, Nat.reduceBEq, Nat.reduceAdd]
      exact caF (by exact precise_fail (bad_yes gp)) (fun _ _ h => h)
    | false =>
      have hp := bad_no gp
      have e0 : rootR n p x = rootO n p x := by unfold rootR Out.prec; rw [gn, gp]; rfl
      rw [e0]
      clear e0
      cases x with
      | e =>
        show Spec _ _ _ _ (fun v h' => Sn h' v .e) NP
        have kS := fun {h} [Le h0 h] => signs_void (h := h) hs0
        obtain ⟨_, _, _, _, _, _, _, _, _, _, _, _, _, _, _, _, rfl, hs⟩ := hs.sa
        refine Spec.go [(9, .o [0, 1, 6, 7, 2, 3, 4, 5, 8, 9, 10, 11, 12, 13, 14]), (11, .o [0, 1, 6, 7, 2, 3, 4, 5, 8, 9, 10, 11, 12, 13, 14])] Tryz.func68 rfl rfl (by kernel_rfl) fun C _ => ?_
        try simp (maxSteps := 999999) (disch := omega) only [go_sem, Nat.reduceBEq, Nat.reduceAdd]
        refine ld1_of (at_one hb1) ?_
        try simp (maxSteps := 999999) (disch := omega) only [go_sem, Nat.reduceBEq, Nat.reduceAdd]
        refine caN (by exact precise_ok hn.1 hn.2) ?_; rintro v1 h1 st1 _
        try simp (maxSteps := 999999) (disch := omega) only [go_sem, Nat.reduceBEq, Nat.reduceAdd]
        refine ld1_of (at_one (pub_on hb2)) ?_
        try simp (maxSteps := 999999) (disch := omega) only [go_sem, Nat.reduceBEq, Nat.reduceAdd]
        refine caN (by exact precise_ok hp.1 hp.2) ?_; rintro v2 h2 st2 _
        try simp (maxSteps := 999999) (disch := omega) only [go_sem, Nat.reduceBEq, Nat.reduceAdd]
        refine caN (by exact kS) ?_; rintro v3 h3 st3 ⟨m1, m2, rfl⟩
        try simp (maxSteps := 999999) (disch := omega) only [go_sem, Nat.reduceBEq, Nat.reduceAdd]
        exact hs0.to
      | i a b =>
        have kS := fun {h} [Le h0 h] => signs_set (h := h) hs0
        rw [NS.le_i] at lx
        obtain ⟨B1, A1, M1, C1, A2, M2, C2, B2, A3, M3, C3, A4, M4, C4, rfl, e1, e2⟩ := hs0.ie
        obtain ⟨m, rfl⟩ : ∃ m : Nat, n = (m : Int) := ⟨n.toNat, by omega⟩
        obtain ⟨r, rfl⟩ : ∃ r : Nat, p = (r : Int) := ⟨p.toNat, by omega⟩
        have hm2 : 2 ≤ m := by omega
        have hm8 : m ≤ 8 := by omega
        have hp2 : r ≤ 256 := by omega
        by_cases hd : (m : Int) % 2 = 0 ∧ (NS.i a b).slo < 0
        · have e0 : rootO m r (.i a b) = .error 5 := by
            show (if _ then _ else _) = _
            rw [if_pos hd]
          rw [e0]
          obtain ⟨hd1, hd2⟩ := hd
          have hm : m % 2 = 0 := by omega
          generalize (NS.i a b).slo = sl at *
          generalize (NS.i a b).shi = sh at *
          show Spec _ _ _ _ NR (fail 5)
          refine Spec.go [(9, .o [0, 1, 6, 7, 2, 3, 4, 5, 8, 9, 10, 11, 12, 13, 14]), (11, .o [0, 1, 6, 7, 2, 3, 4, 5, 8, 9, 10, 11, 12, 13, 14])] Tryz.func68 rfl rfl (by kernel_rfl) fun C _ => ?_
          try simp (maxSteps := 999999) (disch := omega) only [go_sem, Nat.reduceBEq, Nat.reduceAdd]
          refine ld1_of (at_one hb1) ?_
          try simp (maxSteps := 999999) (disch := omega) only [go_sem, Nat.reduceBEq, Nat.reduceAdd]
          refine caN (by exact precise_ok hn.1 hn.2) ?_; rintro v1 h1 st1 _
          try simp (maxSteps := 999999) (disch := omega) only [go_sem, Nat.reduceBEq, Nat.reduceAdd]
          refine ld1_of (at_one (pub_on hb2)) ?_
          try simp (maxSteps := 999999) (disch := omega) only [go_sem, Nat.reduceBEq, Nat.reduceAdd]
          refine caN (by exact precise_ok hp.1 hp.2) ?_; rintro v2 h2 st2 _
          try simp (maxSteps := 999999) (disch := omega) only [go_sem, Nat.reduceBEq, Nat.reduceAdd]
          refine caN (by exact kS) ?_; rintro v3 h3 st3 rfl
          try simp (maxSteps := 999999) (disch := omega) only [go_sem, Nat.reduceBEq, Nat.reduceAdd]
          refine ld1_of (at_one (pub_on hb1)) ?_
          try simp (maxSteps := 999999) (disch := omega) only [go_sem, Nat.reduceBEq, Nat.reduceAdd]
          exact caF (by exact must_fail (by decide)) (fun _ _ h => h)
        · have e0 : rootO m r (.i a b) = .ok ((NS.i a b).rootS m r) := by
            show (if _ then _ else _) = _
            rw [if_neg hd]
            rfl
          rw [e0]
          have d1 := dom_low hd
          have d2 := dom_high hx hd
          have hd : ¬ (m % 2 = 0 ∧ (NS.i a b).slo < 0) := fun k => hd ⟨by omega, k.2⟩
          generalize (NS.i a b).slo = sl at *
          generalize (NS.i a b).shi = sh at *
          show Spec _ _ _ _ (fun v h' => Sn h' v (.i (a.map (rootg false · m r)) (b.map (rootg true · m r)))) NP
          have hcase : m % 2 = 1 ∨ (m % 2 = 0 ∧ ¬ sl < 0) := by
            rcases (show m % 2 = 1 ∨ m % 2 = 0 by omega) with k | k
            · exact .inl k
            · exact .inr ⟨k, fun j => hd ⟨k, j⟩⟩
          clear hd
          cases a with
          | none =>
            cases b with
            | none =>
              dsimp only [Option.isNone] at *
              rcases hcase with hm | ⟨hm, hl⟩ <;>
              · refine Spec.go [(9, .o [0, 1, 6, 7, 2, 3, 4, 5, 8, 9, 10, 11, 12, 13, 14]), (11, .o [0, 1, 6, 7, 2, 3, 4, 5, 8, 9, 10, 11, 12, 13, 14])] Tryz.func68 rfl rfl (by kernel_rfl) fun C _ => ?_
                try simp (maxSteps := 999999) (disch := omega) only [go_sem, Nat.reduceBEq, Nat.reduceAdd]
                refine ld1_of (at_one hb1) ?_
                try simp (maxSteps := 999999) (disch := omega) only [go_sem, Nat.reduceBEq, Nat.reduceAdd]
                refine caN (by exact precise_ok hn.1 hn.2) ?_; rintro v1 h1 st1 _
                try simp (maxSteps := 999999) (disch := omega) only [go_sem, Nat.reduceBEq, Nat.reduceAdd]
                refine ld1_of (at_one (pub_on hb2)) ?_
                try simp (maxSteps := 999999) (disch := omega) only [go_sem, Nat.reduceBEq, Nat.reduceAdd]
                refine caN (by exact precise_ok hp.1 hp.2) ?_; rintro v2 h2 st2 _
                try simp (maxSteps := 999999) (disch := omega) only [go_sem, Nat.reduceBEq, Nat.reduceAdd]
                refine caN (by exact kS) ?_; rintro v3 h3 st3 rfl
                try simp (maxSteps := 999999) (disch := omega) only [go_sem, Nat.reduceBEq, Nat.reduceAdd]
                refine ld1_of (at_one (pub_on hb1)) ?_
                try simp (maxSteps := 999999) (disch := omega) only [go_sem, Nat.reduceBEq, Nat.reduceAdd]
                exact ⟨_, _, _, _, _, _, rfl, e1.to, e2.to⟩
            | some b =>
              have l2 := lx.2 _ rfl
              dsimp only [Option.isNone] at *
              rcases hcase with hm | ⟨hm, hl⟩ <;>
              · refine Spec.go [(9, .o [0, 1, 6, 7, 2, 3, 4, 5, 8, 9, 10, 11, 12, 13, 14]), (11, .o [0, 1, 6, 7, 2, 3, 4, 5, 8, 9, 10, 11, 12, 13, 14])] Tryz.func68 rfl rfl (by kernel_rfl) fun C _ => ?_
                try simp (maxSteps := 999999) (disch := omega) only [go_sem, Nat.reduceBEq, Nat.reduceAdd]
                refine ld1_of (at_one hb1) ?_
                try simp (maxSteps := 999999) (disch := omega) only [go_sem, Nat.reduceBEq, Nat.reduceAdd]
                refine caN (by exact precise_ok hn.1 hn.2) ?_; rintro v1 h1 st1 _
                try simp (maxSteps := 999999) (disch := omega) only [go_sem, Nat.reduceBEq, Nat.reduceAdd]
                refine ld1_of (at_one (pub_on hb2)) ?_
                try simp (maxSteps := 999999) (disch := omega) only [go_sem, Nat.reduceBEq, Nat.reduceAdd]
                refine caN (by exact precise_ok hp.1 hp.2) ?_; rintro v2 h2 st2 _
                try simp (maxSteps := 999999) (disch := omega) only [go_sem, Nat.reduceBEq, Nat.reduceAdd]
                refine caN (by exact kS) ?_; rintro v3 h3 st3 rfl
                try simp (maxSteps := 999999) (disch := omega) only [go_sem, Nat.reduceBEq, Nat.reduceAdd]
                refine ld1_of (at_one (pub_on hb1)) ?_
                try simp (maxSteps := 999999) (disch := omega) only [go_sem, Nat.reduceBEq, Nat.reduceAdd]
                refine ld1_of (at_one (pub_on hb1)) ?_
                try simp (maxSteps := 999999) (disch := omega) only [go_sem, Nat.reduceBEq, Nat.reduceAdd]
                refine ld1_of (at_one (pub_on hb2)) ?_
                try simp (maxSteps := 999999) (disch := omega) only [go_sem, Nat.reduceBEq, Nat.reduceAdd]
                refine caN (by exact Give_ok (e2.num.to (h' := h3)) l2) ?_; rintro y1 k1 x1 ⟨u1, rfl, q1⟩; obtain ⟨_, _, _, _, _, _, _, rfl, q1⟩ := q1.sa
                try simp (maxSteps := 999999) (disch := omega) only [go_sem, Nat.reduceBEq, Nat.reduceAdd]
                refine caN (by exact have_ok q1) ?_; rintro y2 k2 x2 rfl
                try simp (maxSteps := 999999) (disch := omega) only [go_sem, Nat.reduceBEq, Nat.reduceAdd]
                refine caN (by exact RootUp_cn (q1.to (h' := k2)) l2 hm2 hm8 hp2 (d2 _ rfl)) ?_; rintro y3 k3 x3 ⟨u3, rfl, q3⟩; obtain ⟨_, _, _, _, _, _, _, rfl, q3⟩ := q3.sa
                try simp (maxSteps := 999999) (disch := omega) only [go_sem, Nat.reduceBEq, Nat.reduceAdd]
                refine caN (by exact have_ok q3) ?_; rintro y4 k4 x4 rfl
                try simp (maxSteps := 999999) (disch := omega) only [go_sem, Nat.reduceBEq, Nat.reduceAdd]
                refine caN (by exact number_cn (q3.to (h' := k4)) (rootg_sz l2 hm2 hp2)) ?_; rintro _ k5 _ r5; obtain ⟨_, _, _, _, _, _, _, rfl, r5⟩ := r5.sa
                try simp (maxSteps := 999999) (disch := omega) only [go_sem, Nat.reduceBEq, Nat.reduceAdd]
                exact ⟨_, _, _, _, _, _, rfl, e1.to, (En.of r5).to⟩
          | some a =>
            have l1 := lx.1 _ rfl
            cases b with
            | none =>
              dsimp only [Option.isNone] at *
              rcases hcase with hm | ⟨hm, hl⟩ <;>
              · refine Spec.go [(9, .o [0, 1, 6, 7, 2, 3, 4, 5, 8, 9, 10, 11, 12, 13, 14]), (11, .o [0, 1, 6, 7, 2, 3, 4, 5, 8, 9, 10, 11, 12, 13, 14])] Tryz.func68 rfl rfl (by kernel_rfl) fun C _ => ?_
                try simp (maxSteps := 999999) (disch := omega) only [go_sem, Nat.reduceBEq, Nat.reduceAdd]
                refine ld1_of (at_one hb1) ?_
                try simp (maxSteps := 999999) (disch := omega) only [go_sem, Nat.reduceBEq, Nat.reduceAdd]
                refine caN (by exact precise_ok hn.1 hn.2) ?_; rintro v1 h1 st1 _
                try simp (maxSteps := 999999) (disch := omega) only [go_sem, Nat.reduceBEq, Nat.reduceAdd]
                refine ld1_of (at_one (pub_on hb2)) ?_
                try simp (maxSteps := 999999) (disch := omega) only [go_sem, Nat.reduceBEq, Nat.reduceAdd]
                refine caN (by exact precise_ok hp.1 hp.2) ?_; rintro v2 h2 st2 _
                try simp (maxSteps := 999999) (disch := omega) only [go_sem, Nat.reduceBEq, Nat.reduceAdd]
                refine caN (by exact kS) ?_; rintro v3 h3 st3 rfl
                try simp (maxSteps := 999999) (disch := omega) only [go_sem, Nat.reduceBEq, Nat.reduceAdd]
                refine ld1_of (at_one (pub_on hb1)) ?_
                try simp (maxSteps := 999999) (disch := omega) only [go_sem, Nat.reduceBEq, Nat.reduceAdd]
                refine ld1_of (at_one (pub_on hb1)) ?_
                try simp (maxSteps := 999999) (disch := omega) only [go_sem, Nat.reduceBEq, Nat.reduceAdd]
                refine ld1_of (at_one (pub_on hb2)) ?_
                try simp (maxSteps := 999999) (disch := omega) only [go_sem, Nat.reduceBEq, Nat.reduceAdd]
                refine caN (by exact Give_ok e1.num l1) ?_; rintro w1 g1 t1 ⟨z1, rfl, c1⟩; obtain ⟨_, _, _, _, _, _, _, rfl, c1⟩ := c1.sa
                try simp (maxSteps := 999999) (disch := omega) only [go_sem, Nat.reduceBEq, Nat.reduceAdd]
                refine caN (by exact have_ok c1) ?_; rintro w2 g2 t2 rfl
                try simp (maxSteps := 999999) (disch := omega) only [go_sem, Nat.reduceBEq, Nat.reduceAdd]
                refine caN (by exact RootDown_cn (c1.to (h' := g2)) l1 hm2 hm8 hp2 (d1 _ rfl)) ?_; rintro w3 g3 t3 ⟨z3, rfl, c3⟩; obtain ⟨_, _, _, _, _, _, _, rfl, c3⟩ := c3.sa
                try simp (maxSteps := 999999) (disch := omega) only [go_sem, Nat.reduceBEq, Nat.reduceAdd]
                refine caN (by exact have_ok c3) ?_; rintro w4 g4 t4 rfl
                try simp (maxSteps := 999999) (disch := omega) only [go_sem, Nat.reduceBEq, Nat.reduceAdd]
                refine caN (by exact number_cn (c3.to (h' := g4)) (rootg_sz l1 hm2 hp2)) ?_; rintro _ g5 _ f5; obtain ⟨_, _, _, _, _, _, _, rfl, f5⟩ := f5.sa
                try simp (maxSteps := 999999) (disch := omega) only [go_sem, Nat.reduceBEq, Nat.reduceAdd]
                exact ⟨_, _, _, _, _, _, rfl, (En.of f5).to, e2.to⟩
            | some b =>
              have l2 := lx.2 _ rfl
              dsimp only [Option.isNone] at *
              rcases hcase with hm | ⟨hm, hl⟩ <;>
              · refine Spec.go [(9, .o [0, 1, 6, 7, 2, 3, 4, 5, 8, 9, 10, 11, 12, 13, 14]), (11, .o [0, 1, 6, 7, 2, 3, 4, 5, 8, 9, 10, 11, 12, 13, 14])] Tryz.func68 rfl rfl (by kernel_rfl) fun C _ => ?_
                try simp (maxSteps := 999999) (disch := omega) only [go_sem, Nat.reduceBEq, Nat.reduceAdd]
                refine ld1_of (at_one hb1) ?_
                try simp (maxSteps := 999999) (disch := omega) only [go_sem, Nat.reduceBEq, Nat.reduceAdd]
                refine caN (by exact precise_ok hn.1 hn.2) ?_; rintro v1 h1 st1 _
                try simp (maxSteps := 999999) (disch := omega) only [go_sem, Nat.reduceBEq, Nat.reduceAdd]
                refine ld1_of (at_one (pub_on hb2)) ?_
                try simp (maxSteps := 999999) (disch := omega) only [go_sem, Nat.reduceBEq, Nat.reduceAdd]
                refine caN (by exact precise_ok hp.1 hp.2) ?_; rintro v2 h2 st2 _
                try simp (maxSteps := 999999) (disch := omega) only [go_sem, Nat.reduceBEq, Nat.reduceAdd]
                refine caN (by exact kS) ?_; rintro v3 h3 st3 rfl
                try simp (maxSteps := 999999) (disch := omega) only [go_sem, Nat.reduceBEq, Nat.reduceAdd]
                refine ld1_of (at_one (pub_on hb1)) ?_
                try simp (maxSteps := 999999) (disch := omega) only [go_sem, Nat.reduceBEq, Nat.reduceAdd]
                refine ld1_of (at_one (pub_on hb1)) ?_
                try simp (maxSteps := 999999) (disch := omega) only [go_sem, Nat.reduceBEq, Nat.reduceAdd]
                refine ld1_of (at_one (pub_on hb2)) ?_
                try simp (maxSteps := 999999) (disch := omega) only [go_sem, Nat.reduceBEq, Nat.reduceAdd]
                refine caN (by exact Give_ok e1.num l1) ?_; rintro w1 g1 t1 ⟨z1, rfl, c1⟩; obtain ⟨_, _, _, _, _, _, _, rfl, c1⟩ := c1.sa
                try simp (maxSteps := 999999) (disch := omega) only [go_sem, Nat.reduceBEq, Nat.reduceAdd]
                refine caN (by exact have_ok c1) ?_; rintro w2 g2 t2 rfl
                try simp (maxSteps := 999999) (disch := omega) only [go_sem, Nat.reduceBEq, Nat.reduceAdd]
                refine caN (by exact RootDown_cn (c1.to (h' := g2)) l1 hm2 hm8 hp2 (d1 _ rfl)) ?_; rintro w3 g3 t3 ⟨z3, rfl, c3⟩; obtain ⟨_, _, _, _, _, _, _, rfl, c3⟩ := c3.sa
                try simp (maxSteps := 999999) (disch := omega) only [go_sem, Nat.reduceBEq, Nat.reduceAdd]
                refine caN (by exact have_ok c3) ?_; rintro w4 g4 t4 rfl
                try simp (maxSteps := 999999) (disch := omega) only [go_sem, Nat.reduceBEq, Nat.reduceAdd]
                refine caN (by exact number_cn (c3.to (h' := g4)) (rootg_sz l1 hm2 hp2)) ?_; rintro _ g5 _ f5; obtain ⟨_, _, _, _, _, _, _, rfl, f5⟩ := f5.sa
                try simp (maxSteps := 999999) (disch := omega) only [go_sem, Nat.reduceBEq, Nat.reduceAdd]
                refine ld1_of (at_one (pub_on hb1)) ?_
                try simp (maxSteps := 999999) (disch := omega) only [go_sem, Nat.reduceBEq, Nat.reduceAdd]
                refine ld1_of (at_one (pub_on hb2)) ?_
                try simp (maxSteps := 999999) (disch := omega) only [go_sem, Nat.reduceBEq, Nat.reduceAdd]
                refine caN (by exact Give_ok (e2.num.to (h' := g5)) l2) ?_; rintro y1 k1 x1 ⟨u1, rfl, q1⟩; obtain ⟨_, _, _, _, _, _, _, rfl, q1⟩ := q1.sa
                try simp (maxSteps := 999999) (disch := omega) only [go_sem, Nat.reduceBEq, Nat.reduceAdd]
                refine caN (by exact have_ok q1) ?_; rintro y2 k2 x2 rfl
                try simp (maxSteps := 999999) (disch := omega) only [go_sem, Nat.reduceBEq, Nat.reduceAdd]
                refine caN (by exact RootUp_cn (q1.to (h' := k2)) l2 hm2 hm8 hp2 (d2 _ rfl)) ?_; rintro y3 k3 x3 ⟨u3, rfl, q3⟩; obtain ⟨_, _, _, _, _, _, _, rfl, q3⟩ := q3.sa
                try simp (maxSteps := 999999) (disch := omega) only [go_sem, Nat.reduceBEq, Nat.reduceAdd]
                refine caN (by exact have_ok q3) ?_; rintro y4 k4 x4 rfl
                try simp (maxSteps := 999999) (disch := omega) only [go_sem, Nat.reduceBEq, Nat.reduceAdd]
                refine caN (by exact number_cn (q3.to (h' := k4)) (rootg_sz l2 hm2 hp2)) ?_; rintro _ k5 _ r5; obtain ⟨_, _, _, _, _, _, _, rfl, r5⟩ := r5.sa
                try simp (maxSteps := 999999) (disch := omega) only [go_sem, Nat.reduceBEq, Nat.reduceAdd]
                exact ⟨_, _, _, _, _, _, rfl, (En.of f5).to, (En.of r5).to⟩
theorem RootI_spec {h0 h : PH} [Le h0 h] {v : Value} {x : RI} {n p : Int} (hv : Iv h0 v x) : Spec mach 26 #[v, .int .i64 n, .int .i64 p] h (fun r h' => Ir h' r (x.fin (rootR n p x.set))) NP := by
  have hv0 := hv
  obtain ⟨a1, m1, c1, a2, m2, c2, a3, m3, c3, a4, m4, c4, rfl, _, _⟩ := hv.sa
  refine Spec.go [(1, .t (.p 1 (.p 2 (.s [0, 1, 2, 3, 4, 5, 6] .d))))] Tryz.func26 rfl rfl (by kernel_rfl) fun C _ => ?_
  try simp (maxSteps := 999999) (disch := omega) only [go_sem, Nat.reduceBEq, Nat.reduceAdd]
  intro b h1 st1 hb
  try simp (maxSteps := 999999) (disch := omega) only [go_sem, Nat.reduceBEq, Nat.reduceAdd]
  have hb := hb (by simp)
  intro b' h2 st2 hb'
  try simp (maxSteps := 999999) (disch := omega) only [go_sem, Nat.reduceBEq, Nat.reduceAdd]
  have hb' := hb' (by simp)
  refine caN (by exact unary_spec (hv0.to (h' := h2)) (fun g h' i s hs => Root1 hs (RI.set_ok x) (RI.le g) (i.sub _ _ (st2.sub _ _ hb)) (i.sub _ _ hb'))) ?_; rintro r3 h3 st3 hr3; obtain ⟨_, _, _, _, _, _, _, _, _, _, _, _, _, _, _, _, _, rfl, hr3⟩ := hr3.sa
  try simp (maxSteps := 999999) (disch := omega) only [go_sem, Nat.reduceBEq, Nat.reduceAdd]
  exact hr3
end Go.Q
namespace Go.Q
theorem rootS_iso {x y : NS} {n p : Nat} (hn : n ≠ 0) (h : x.within y = true) : (x.rootS n p).within (y.rootS n p) = true := by
  cases x with
  | e => rfl
  | i a b =>
    cases y with
    | e => cases h
    | i c d =>
      rw [within_i, low_iff, high_iff] at h
      show (NS.i (a.map (rootg false · n p)) (b.map (rootg true · n p))).within (.i (c.map (rootg false · n p)) (d.map (rootg true · n p))) = true
      rw [within_i, low_iff, high_iff]
      refine ⟨fun z e => ?_, fun z e => ?_⟩
      · cases c with
        | none => cases e
        | some c => obtain ⟨w, ew, kw⟩ := h.1 c rfl; subst ew; cases e; exact ⟨_, rfl, root_dn_mono kw hn p⟩
      · cases d with
        | none => cases e
        | some d => obtain ⟨w, ew, kw⟩ := h.2 d rfl; subst ew; cases e; exact ⟨_, rfl, root_up_mono kw hn p⟩
def opO (op : Nat) (x y : RI) (n p : Int) : Out :=
  match op with
  | 0 => x.fin2 y (rnd p x.set y.set (.ok (x.set.sum y.set)))
  | 1 => x.fin2 y (rnd p x.set y.set (.ok (x.set.sum y.set.minus)))
  | 2 => x.fin2 y (rnd p x.set y.set (.ok (x.set.prod y.set)))
  | 3 => x.fin2 y (rnd p x.set y.set (divO x.set y.set))
  | 4 => x.fin2 y (.ok (x.set.lesser y.set))
  | 5 => x.fin2 y (.ok (x.set.minus.lesser y.set.minus).minus)
  | 6 => x.fin (powR n p x.set)
  | _ => x.fin (rootR n p x.set)
theorem within_e {y : NS} : NS.e.within y = true := by cases y <;> rfl
theorem slo_iso {x y : NS} (hx : x.void = false) (h : x.within y = true) (hs : ¬ y.slo < 0) : ¬ x.slo < 0 := by
  cases x with
  | e => cases hx
  | i a b =>
    cases y with
    | e => cases h
    | i c d =>
      rw [within_i, low_iff, high_iff] at h
      cases c with
      | none => exact absurd (show (-1 : Int) < 0 by decide) hs
      | some c =>
        obtain ⟨w, ew, kw⟩ := h.1 c rfl
        subst ew
        have h1 : 0 ≤ c := sg_nn.1 (by have : ¬ sgn3 c < 0 := hs; omega)
        have h2 := sg_nn.2 (show 0 ≤ w by grind)
        show ¬ sgn3 w < 0
        omega
end Go.Q
namespace Go.Q
open Go.Proofs
set_option maxRecDepth 100000
set_option maxHeartbeats 8000000
theorem Apply_spec {h0 h : PH} [Le h0 h] {v w : Value} {x y : RI} {op n p : Int} {k : Nat} (hv : Iv h0 v x) (hw : Iv h0 w y) (em : op.tmod 8 = (k : Int)) (hk : k < 8) :
    Spec mach 8 #[.int .u8 op, v, w, .int .i64 n, .int .i64 p] h (fun r h' => Ir h' r (opO k x y n p)) NP := by
  have hv0 := hv
  have hw0 := hw
  obtain ⟨a1, m1, c1, a2, m2, c2, a3, m3, c3, a4, m4, c4, rfl, _, _⟩ := hv.sa
  obtain ⟨a1', m1', c1', a2', m2', c2', a3', m3', c3', a4', m4', c4', rfl, _, _⟩ := hw.sa
  match k, hk with
  | 0, _ =>
    refine Spec.go [] Tryz.func8 rfl rfl (by kernel_rfl) fun C _ => ?_
    simp (disch := omega) only [go_sem, Nat.reduceBEq, Nat.reduceAdd, em]
    refine caN (by exact AddI_spec (p := p) hv0 hw0) ?_; rintro _ h1 _ q1; obtain ⟨_, _, _, _, _, _, _, _, _, _, _, _, _, _, _, _, _, rfl, q1⟩ := q1.sa
    simp (disch := omega) only [go_sem, Nat.reduceBEq, Nat.reduceAdd]
    exact q1
  | 1, _ =>
    refine Spec.go [] Tryz.func8 rfl rfl (by kernel_rfl) fun C _ => ?_
    simp (disch := omega) only [go_sem, Nat.reduceBEq, Nat.reduceAdd, em]
    refine caN (by exact SubI_spec (p := p) hv0 hw0) ?_; rintro _ h1 _ q1; obtain ⟨_, _, _, _, _, _, _, _, _, _, _, _, _, _, _, _, _, rfl, q1⟩ := q1.sa
    simp (disch := omega) only [go_sem, Nat.reduceBEq, Nat.reduceAdd]
    exact q1
  | 2, _ =>
    refine Spec.go [] Tryz.func8 rfl rfl (by kernel_rfl) fun C _ => ?_
    simp (disch := omega) only [go_sem, Nat.reduceBEq, Nat.reduceAdd, em]
    refine caN (by exact MulI_spec (p := p) hv0 hw0) ?_; rintro _ h1 _ q1; obtain ⟨_, _, _, _, _, _, _, _, _, _, _, _, _, _, _, _, _, rfl, q1⟩ := q1.sa
    simp (disch := omega) only [go_sem, Nat.reduceBEq, Nat.reduceAdd]
    exact q1
  | 3, _ =>
    refine Spec.go [] Tryz.func8 rfl rfl (by kernel_rfl) fun C _ => ?_
    simp (disch := omega) only [go_sem, Nat.reduceBEq, Nat.reduceAdd, em]
    refine caN (by exact DivI_spec (p := p) hv0 hw0) ?_; rintro _ h1 _ q1; obtain ⟨_, _, _, _, _, _, _, _, _, _, _, _, _, _, _, _, _, rfl, q1⟩ := q1.sa
    simp (disch := omega) only [go_sem, Nat.reduceBEq, Nat.reduceAdd]
    exact q1
  | 4, _ =>
    refine Spec.go [] Tryz.func8 rfl rfl (by kernel_rfl) fun C _ => ?_
    simp (disch := omega) only [go_sem, Nat.reduceBEq, Nat.reduceAdd, em]
    refine caN (by exact Min_spec hv0 hw0) ?_; rintro _ h1 _ q1; obtain ⟨_, _, _, _, _, _, _, _, _, _, _, _, _, _, _, _, _, rfl, q1⟩ := q1.sa
    simp (disch := omega) only [go_sem, Nat.reduceBEq, Nat.reduceAdd]
    exact q1
  | 5, _ =>
    refine Spec.go [] Tryz.func8 rfl rfl (by kernel_rfl) fun C _ => ?_
    simp (disch := omega) only [go_sem, Nat.reduceBEq, Nat.reduceAdd, em]
    refine caN (by exact Max_spec hv0 hw0) ?_; rintro _ h1 _ q1; obtain ⟨_, _, _, _, _, _, _, _, _, _, _, _, _, _, _, _, _, rfl, q1⟩ := q1.sa
    simp (disch := omega) only [go_sem, Nat.reduceBEq, Nat.reduceAdd]
    exact q1
  | 6, _ =>
    refine Spec.go [] Tryz.func8 rfl rfl (by kernel_rfl) fun C _ => ?_
    simp (disch := omega) only [go_sem, Nat.reduceBEq, Nat.reduceAdd, em]
    refine caN (by exact PowI_spec (n := n) (p := p) hv0) ?_; rintro _ h1 _ q1; obtain ⟨_, _, _, _, _, _, _, _, _, _, _, _, _, _, _, _, _, rfl, q1⟩ := q1.sa
    simp (disch := omega) only [go_sem, Nat.reduceBEq, Nat.reduceAdd]
    exact q1
  | 7, _ =>
    refine Spec.go [] Tryz.func8 rfl rfl (by kernel_rfl) fun C _ => ?_
    simp (disch := omega) only [go_sem, Nat.reduceBEq, Nat.reduceAdd, em]
    refine caN (by exact RootI_spec (n := n) (p := p) hv0) ?_; rintro _ h1 _ q1; obtain ⟨_, _, _, _, _, _, _, _, _, _, _, _, _, _, _, _, _, rfl, q1⟩ := q1.sa
    simp (disch := omega) only [go_sem, Nat.reduceBEq, Nat.reduceAdd]
    exact q1
end Go.Q
namespace Go.Q
open Go.Proofs
set_option maxRecDepth 100000
set_option maxHeartbeats 4000000
end Go.Q
namespace Go.Q
open Go.Proofs
set_option maxRecDepth 100000
set_option maxHeartbeats 4000000
theorem NS.le.lesser {x y : NS} {k : Nat} (hx : x.le k) (hy : y.le k) : (x.lesser y).le k := by
  cases x with
  | e => rfl
  | i a b =>
    cases y with
    | e => rfl
    | i c d =>
      rw [NS.le_i] at hx hy
      show NS.le k (.i (jmin a c) (omin b d))
      rw [NS.le_i]
      refine ⟨fun q e => ?_, fun q e => ?_⟩
      · cases a with
        | none => cases e
        | some a =>
          cases c with
          | none => cases e
          | some c => cases e; exact sz_min (hx.1 _ rfl) (hy.1 _ rfl)
      · cases b with
        | none => exact hy.2 _ e
        | some b =>
          cases d with
          | none => exact hx.2 _ e
          | some d => cases e; exact sz_min (hx.2 _ rfl) (hy.2 _ rfl)
end Go.Q
namespace Go.Q
open Go.Proofs
set_option maxRecDepth 100000
set_option maxHeartbeats 8000000
@[reducible] def Pt.val : Pt → Rat
  | .fin q => q
  | .inf _ => 0
def Pt.sg : Pt → Int
  | .fin q => sgn3 q
  | .inf u => if u = true then 1 else -1
theorem Pt.mul_zero {x y : Pt} (h : x.sg = 0 ∨ y.sg = 0) : x.mul y = .fin 0 := by
  cases x with
  | fin p => cases y with
    | fin q =>
      show Pt.fin (p * q) = _
      rcases h with h | h
      · have := sgn3_zero.1 (show sgn3 p = 0 from h); subst this; rw [Rat.zero_mul]
      · have := sgn3_zero.1 (show sgn3 q = 0 from h); subst this; rw [Rat.mul_zero]
    | inf u =>
      have := sgn3_zero.1 (show sgn3 p = 0 from h.resolve_right (by cases u <;> simp [Pt.sg])); subst this; simp [Pt.mul]
  | inf u => cases y with
    | fin q =>
      have := sgn3_zero.1 (show sgn3 q = 0 from h.resolve_left (by cases u <;> simp [Pt.sg])); subst this; simp [Pt.mul]
    | inf w => rcases h with h | h <;> (revert h; cases u <;> cases w <;> simp [Pt.sg])
end Go.Q
namespace Go.Q
open Go.Proofs
set_option maxRecDepth 100000
set_option maxHeartbeats 16000000
end Go.Q
namespace Go.Q
open Go.Proofs
set_option maxRecDepth 100000
set_option maxHeartbeats 4000000
end Go.Q
namespace Go.Q
open Go.Proofs
set_option maxRecDepth 100000
set_option maxHeartbeats 4000000
theorem Br.u {r r' : Value} {o : Except Int Bool} (h : Br r o) (h' : Br r' o) : r' = r := by
  cases o with
  | ok b => cases (h : r = _); exact h'
  | error e => cases (h : r = _); exact h'
end Go.Q
namespace Go.Q
open Go.Proofs
set_option maxRecDepth 100000
set_option maxHeartbeats 8000000
end Go.Q
namespace Go.Q
open Go.Proofs
set_option maxRecDepth 100000
set_option maxHeartbeats 4000000
theorem mul_fitp {x y : RI} {p : Int} : Fit (x.fin2 y (rnd p x.set y.set (.ok (x.set.prod y.set)))) := by
  cases g : x.big || y.big with
  | true => unfold RI.fin2; rw [g]; exact .err (by decide)
  | false =>
    obtain ⟨g1, g2⟩ := Bool.or_eq_false_iff.1 g
    refine Fit.two ?_
    unfold rnd Out.prec
    cases bad p with
    | true => exact .err (by decide)
    | false =>
      cases (x.set.void || y.set.void) with
      | true => exact Fit.of (z := .e) trivial
      | false => exact Fit.of (NS.ok_hull (prod_ok (RI.le g1) (RI.le g2)).1)
theorem div_fitp {x y : RI} {p : Int} : Fit (x.fin2 y (rnd p x.set y.set (divO x.set y.set))) := by
  cases g : (x.big || y.big) with
  | true => unfold RI.fin2; rw [g]; exact .err (by decide)
  | false =>
    obtain ⟨g1, g2⟩ := Bool.or_eq_false_iff.1 g
    refine Fit.two ?_
    unfold rnd Out.prec divO
    cases bad p with
    | true => exact .err (by decide)
    | false =>
      cases (x.set.void || y.set.void) with
      | true => exact Fit.of (z := .e) trivial
      | false =>
        cases y.set.zero with
        | true => exact .err (by decide)
        | false => exact Fit.of (NS.ok_hull (prod_ok (RI.le g1) (inv_le (RI.le g2) (by decide))).1)
end Go.Q
namespace Go.Q
open Go.Proofs
set_option maxRecDepth 100000
set_option maxHeartbeats 4000000
end Go.Q
namespace Go.Q
open Go.Proofs
set_option maxRecDepth 100000
set_option maxHeartbeats 8000000
end Go.Q
namespace Go.Q
open Go.Proofs
set_option maxRecDepth 100000
set_option maxHeartbeats 4000000
theorem pow_fit {x : RI} {n p : Int} : Fit (x.fin (powR n p x.set)) := by
  refine Fit.one ?_
  have ox := RI.set_ok x
  generalize x.set = s at *
  unfold powR Out.prec
  cases badn n with
  | true => exact .err (by decide)
  | false =>
    cases bad p with
    | true => exact .err (by decide)
    | false =>
      show Fit (Out.fin (hullO _ (powO n s)))
      by_cases hn : n < 0
      · cases hz : s.zero with
        | true => rw [powO_zero hn hz]; exact .err (by decide)
        | false => rw [powO_neg hn hz]; exact Fit.of (NS.ok_hull (NS.ok_pow (inv_ok hz ox)))
      · rw [powO_pos hn]; exact Fit.of (NS.ok_hull (NS.ok_pow ox))
end Go.Q
namespace Go.Q
open Go.Proofs
set_option maxRecDepth 100000
set_option maxHeartbeats 8000000
end Go.Q
namespace Go.Q
open Go.Proofs
set_option maxRecDepth 100000
set_option maxHeartbeats 4000000
theorem rootS_ok {x : NS} (hx : x.ok) {n : Nat} (hn : n ≠ 0) (p : Nat) : (x.rootS n p).ok := by
  cases x with
  | e => trivial
  | i a b =>
    show ordO _ _ = true
    cases a with
    | none => rfl
    | some a => cases b with
      | none => rfl
      | some b =>
        have h0 : ¬ b < a := by simpa [NS.ok, ordO] using hx
        have h1 := root_mono (show a ≤ b by grind) hn p
        have h2 : ¬ rootg true b n p < rootg false a n p := by grind
        simp [ordO, h2]
theorem root_fit {x : RI} {n p : Int} : Fit (x.fin (rootR n p x.set)) := by
  refine Fit.one ?_
  have ox := RI.set_ok x
  generalize x.set = s at *
  unfold rootR Out.prec
  cases gn : badr n with
  | true => exact .err (by decide)
  | false =>
    cases bad p with
    | true => exact .err (by decide)
    | false =>
      show Fit (Out.fin (rootO n p s))
      unfold rootO
      cases hv : s.void with
      | true => exact Fit.of (z := .e) trivial
      | false =>
        show Fit (Out.fin (if _ then _ else _))
        split
        · exact .err (by decide)
        · have := badr_no gn
          exact Fit.of (rootS_ok ox (by omega) _)
end Go.Q
namespace Go.Q
open Go.Proofs
set_option maxRecDepth 100000
set_option maxHeartbeats 8000000
theorem rnd_fitq {x y z : NS} {p : Int} (hz : z.ok) : Fit (Out.fin (rnd p x y (.ok z))) := by
  unfold rnd Out.prec
  cases bad p with
  | true => exact .err (by decide)
  | false =>
    cases (x.void || y.void) with
    | true => exact Fit.of (z := .e) trivial
    | false => exact Fit.of (NS.ok_hull hz)
theorem op_fit {x y : RI} {n p : Int} : ∀ {k : Nat}, k < 8 → Fit (opO k x y n p)
  | 0, _ => Fit.two (rnd_fitq (NS.ok_sum (RI.set_ok x) (RI.set_ok y)))
  | 1, _ => Fit.two (rnd_fitq (NS.ok_sum (RI.set_ok x) (NS.ok_minus (RI.set_ok y))))
  | 2, _ => mul_fitp
  | 3, _ => div_fitp
  | 4, _ => Fit.two (Fit.of (NS.ok_lesser (RI.set_ok x) (RI.set_ok y)))
  | 5, _ => Fit.two (Fit.of (NS.ok_minus (NS.ok_lesser (NS.ok_minus (RI.set_ok x)) (NS.ok_minus (RI.set_ok y)))))
  | 6, _ => pow_fit
  | 7, _ => root_fit
end Go.Q
namespace Go.Q
open Go.Proofs
set_option maxRecDepth 100000
set_option maxHeartbeats 4000000
theorem NS.le.met {x y : NS} {k : Nat} (hx : x.le k) (hy : y.le k) : (x.met y).le k := by
  cases x with
  | e => rfl
  | i a b =>
    cases y with
    | e => rfl
    | i c d =>
      rw [NS.le_i] at hx hy
      show NS.le k (NS.mk' (omax a c) (omin b d))
      have h1 : NS.le k (.i (omax a c) (omin b d)) := by
        rw [NS.le_i]
        refine ⟨fun q e => ?_, fun q e => ?_⟩
        · cases a with
          | none => exact hy.1 _ e
          | some a =>
            cases c with
            | none => exact hx.1 _ e
            | some c => cases e; exact sz_max (hx.1 _ rfl) (hy.1 _ rfl)
        · cases b with
          | none => exact hy.2 _ e
          | some b =>
            cases d with
            | none => exact hx.2 _ e
            | some d => cases e; exact sz_min (hx.2 _ rfl) (hy.2 _ rfl)
      unfold NS.mk'
      cases ordO (omax a c) (omin b d) with
      | true => exact h1
      | false => rfl
theorem NS.le.joined {x y : NS} {k : Nat} (hx : x.le k) (hy : y.le k) : (x.joined y).le k := by
  cases x with
  | e => cases y <;> exact hy
  | i a b =>
    cases y with
    | e => exact hx
    | i c d =>
      rw [NS.le_i] at hx hy
      show NS.le k (.i (jmin a c) (jmax b d))
      rw [NS.le_i]
      refine ⟨fun q e => ?_, fun q e => ?_⟩
      · cases a with
        | none => cases e
        | some a =>
          cases c with
          | none => cases e
          | some c => cases e; exact sz_min (hx.1 _ rfl) (hy.1 _ rfl)
      · cases b with
        | none => cases e
        | some b =>
          cases d with
          | none => cases e
          | some d => cases e; exact sz_max (hx.2 _ rfl) (hy.2 _ rfl)
theorem Hull_ok {h0 h : PH} [Le h0 h] {v w : Value} {x y : RI} (hv : Iv h0 v x) (hw : Iv h0 w y) (g : x.big = false) (g' : y.big = false) : Spec mach 10 #[v, w] h (fun r h' => Ir h' r (.ok (x.set.joined y.set))) NP := by
  have k := Hull_spec (h := h) hv hw
  have e : x.fin2 y (.ok (x.set.joined y.set)) = .ok (x.set.joined y.set) := by
    unfold RI.fin2 Out.fin
    simp only [g, g', Bool.or_self, cond_false, (RI.le g).joined (RI.le g'), decide_true, cond_true]
  rwa [e] at k
end Go.Q
namespace Go.Q
theorem low_anti {a c : Option Rat} (h1 : NS.lowIn c a = true) (h2 : NS.lowIn a c = true) : a = c := by
  rw [low_iff] at h1 h2
  cases a with
  | none => cases c with
    | none => rfl
    | some c => obtain ⟨w, e, _⟩ := h1 c rfl; cases e
  | some a =>
    obtain ⟨w, e, k⟩ := h2 a rfl
    subst e
    obtain ⟨v, e, k'⟩ := h1 w rfl
    cases e
    rw [Rat.le_antisymm k k']
theorem high_anti {b d : Option Rat} (h1 : NS.highIn d b = true) (h2 : NS.highIn b d = true) : b = d := by
  rw [high_iff] at h1 h2
  cases b with
  | none => cases d with
    | none => rfl
    | some d => obtain ⟨w, e, _⟩ := h1 d rfl; cases e
  | some b =>
    obtain ⟨w, e, k⟩ := h2 b rfl
    subst e
    obtain ⟨v, e, k'⟩ := h1 w rfl
    cases e
    rw [Rat.le_antisymm k' k]
theorem within_anti {x y : NS} (h1 : x.within y = true) (h2 : y.within x = true) : x = y := by
  cases x with
  | e => cases y with
    | e => rfl
    | i c d => cases h2
  | i a b => cases y with
    | e => cases h1
    | i c d =>
      rw [within_i] at h1 h2
      rw [low_anti h1.1 h2.1, high_anti h1.2 h2.2]
theorem within_jl {x y : NS} : x.within (x.joined y) = true := by
  cases x with
  | e => exact within_e
  | i a b =>
    cases y with
    | e =>
      show (NS.i a b).within (.i a b) = true
      rw [within_i, low_iff, high_iff]
      exact ⟨fun z e => ⟨z, e, Rat.le_refl⟩, fun z e => ⟨z, e, Rat.le_refl⟩⟩
    | i c d =>
      show (NS.i a b).within (.i (jmin a c) (jmax b d)) = true
      rw [within_i, low_iff, high_iff]
      refine ⟨fun z e => ?_, fun z e => ?_⟩
      · cases a with
        | none => cases e
        | some a => cases c with
          | none => cases e
          | some c => cases e; exact ⟨a, rfl, by grind⟩
      · cases b with
        | none => cases e
        | some b => cases d with
          | none => cases e
          | some d => cases e; exact ⟨b, rfl, by grind⟩
theorem within_jr {x y : NS} : y.within (x.joined y) = true := by rw [NS.joined_comm]; exact within_jl
theorem cut_eq {x y : NS} {a b : Option Rat} (ox : x.ok) (oy : y.ok) (hx : x.within (.i a b) = true) (hy : y.within (.i a b) = true) (hl : x.hasP (lowP a) = true ∨ y.hasP (lowP a) = true) (hh : x.hasP (highP b) = true ∨ y.hasP (highP b) = true) : x.joined y = .i a b := by
  refine within_anti (join_within hx hy) (within_ends ?_ ?_)
  · rcases hl with h | h
    · exact within_hasP ox within_jl h
    · exact within_hasP oy within_jr h
  · rcases hh with h | h
    · exact within_hasP ox within_jl h
    · exact within_hasP oy within_jr h
theorem left_in {a b : Option Rat} {q : Rat} (hq : (NS.i a b).has q = true) : (NS.i a (some q)).within (.i a b) = true ∧ (NS.i a (some q)).ok := by
  rw [NS.has_i] at hq
  constructor
  · rw [within_i, low_iff, high_iff]
    exact ⟨fun z e => ⟨z, e, Rat.le_refl⟩, fun z e => ⟨q, rfl, hq.2 z e⟩⟩
  · cases a with
    | none => rfl
    | some a =>
      have := hq.1 a rfl
      have h3 : ¬ q < a := by grind
      simp [NS.ok, ordO, h3]
theorem right_in {a b : Option Rat} {q : Rat} (hq : (NS.i a b).has q = true) : (NS.i (some q) b).within (.i a b) = true ∧ (NS.i (some q) b).ok := by
  rw [NS.has_i] at hq
  constructor
  · rw [within_i, low_iff, high_iff]
    exact ⟨fun z e => ⟨q, rfl, hq.1 z e⟩, fun z e => ⟨z, e, Rat.le_refl⟩⟩
  · cases b with
    | none => rfl
    | some b =>
      have := hq.2 b rfl
      have h3 : ¬ b < q := by grind
      simp [NS.ok, ordO, h3]
theorem within_self {x : NS} : x.within x = true := by
  cases x with
  | e => rfl
  | i a b =>
    rw [within_i, low_iff, high_iff]
    exact ⟨fun z e => ⟨z, e, Rat.le_refl⟩, fun z e => ⟨z, e, Rat.le_refl⟩⟩
theorem cut_sum {a b : Option Rat} {q : Rat} {y : NS} (hq : (NS.i a b).has q = true) (oy : y.ok) : ((NS.i a (some q)).sum y).joined ((NS.i (some q) b).sum y) = (NS.i a b).sum y := by
  obtain ⟨l1, l2⟩ := left_in hq
  obtain ⟨r1, r2⟩ := right_in hq
  cases y with
  | e => rfl
  | i c d =>
    have o1 := NS.ok_sum l2 oy
    have o2 := NS.ok_sum r2 oy
    exact cut_eq o1 o2 (sum_iso l1 within_self) (sum_iso r1 within_self) (.inl (low_hasP (a := oadd a c) o1)) (.inr (high_hasP (b := oadd b d) o2))
theorem ok_less {x y : NS} (hx : x.ok) (hy : y.ok) : (x.lesser y).ok := by
  cases x with
  | e => trivial
  | i a b =>
    cases y with
    | e => trivial
    | i c d =>
      show ordO (jmin a c) (omin b d) = true
      have h1 : ordO a b = true := hx
      have h2 : ordO c d = true := hy
      cases a <;> cases b <;> cases c <;> cases d <;> simp [jmin, omin, ordO] at h1 h2 ⊢ <;> grind
theorem cut_lesser {a b : Option Rat} {q : Rat} {y : NS} (hq : (NS.i a b).has q = true) (oy : y.ok) : ((NS.i a (some q)).lesser y).joined ((NS.i (some q) b).lesser y) = (NS.i a b).lesser y := by
  obtain ⟨l1, l2⟩ := left_in hq
  obtain ⟨r1, r2⟩ := right_in hq
  cases y with
  | e => rfl
  | i c d =>
    have o1 := ok_less l2 oy
    have o2 := ok_less r2 oy
    exact cut_eq o1 o2 (lesser_iso l1 within_self) (lesser_iso r1 within_self) (.inl (low_hasP (a := jmin a c) o1)) (.inr (high_hasP (b := omin b d) o2))
theorem minus_joined (x y : NS) : (x.joined y).minus = x.minus.joined y.minus := by
  refine within_anti ?_ ?_
  · have h1 : (x.joined y).within ((x.minus.joined y.minus).minus) = true := by
      refine join_within ?_ ?_
      · have := minus_iso (within_jl (x := x.minus) (y := y.minus)); rwa [NS.minus_minus] at this
      · have := minus_iso (within_jr (x := x.minus) (y := y.minus)); rwa [NS.minus_minus] at this
    have := minus_iso h1
    rwa [NS.minus_minus] at this
  · exact join_within (minus_iso within_jl) (minus_iso within_jr)
theorem minus_has {x : NS} {q : Rat} (h : x.has q = true) : x.minus.has (-q) = true := by
  cases x with
  | e => cases h
  | i a b =>
    rw [NS.has_i] at h
    show (NS.i (b.map (-·)) (a.map (-·))).has (-q) = true
    rw [NS.has_i]
    refine ⟨fun z e => ?_, fun z e => ?_⟩
    · cases b with
      | none => cases e
      | some b => cases e; have := h.2 b rfl; grind
    · cases a with
      | none => cases e
      | some a => cases e; have := h.1 a rfl; grind
theorem cut_greater {a b : Option Rat} {q : Rat} {y : NS} (hq : (NS.i a b).has q = true) (oy : y.ok) :
    ((NS.i a (some q)).minus.lesser y.minus).minus.joined ((NS.i (some q) b).minus.lesser y.minus).minus = ((NS.i a b).minus.lesser y.minus).minus := by
  have h := cut_lesser (y := y.minus) (minus_has hq : (NS.i (b.map (-·)) (a.map (-·))).has (-q) = true) (NS.ok_minus oy)
  rw [← minus_joined, NS.joined_comm]
  exact congrArg NS.minus h
theorem cut_prod {a b : Option Rat} {q : Rat} {y : NS} (hq : (NS.i a b).has q = true) (ho : (NS.i a b).ok) (oy : y.ok) (o1 : ((NS.i a (some q)).prod y).ok) (o2 : ((NS.i (some q) b).prod y).ok) :
    ((NS.i a (some q)).prod y).joined ((NS.i (some q) b).prod y) = (NS.i a b).prod y := by
  obtain ⟨l1, l2⟩ := left_in hq
  obtain ⟨r1, r2⟩ := right_in hq
  cases y with
  | e => rfl
  | i c d =>
    refine within_anti (join_within (prod_iso l2 oy l1 within_self) (prod_iso r2 oy r1 within_self)) (prod_least fun x z hx hz => ?_)
    have hz' : (NS.i c d).hasP z = true := by
      rcases hz with rfl | rfl
      · exact low_hasP oy
      · exact high_hasP oy
    rcases hx with rfl | rfl
    · exact within_hasP o1 within_jl (prod_memP (low_hasP l2) hz')
    · exact within_hasP o2 within_jr (prod_memP (high_hasP r2) hz')
theorem cut_roots {a b : Option Rat} {q : Rat} {n p : Nat} (hn : n ≠ 0) (hq : (NS.i a b).has q = true) : ((NS.i a (some q)).rootS n p).joined ((NS.i (some q) b).rootS n p) = (NS.i a b).rootS n p := by
  obtain ⟨l1, l2⟩ := left_in hq
  obtain ⟨r1, r2⟩ := right_in hq
  have okr : ∀ {x : NS}, x.ok → (x.rootS n p).ok := by
    intro x hx
    cases x with
    | e => trivial
    | i a b =>
      show ordO _ _ = true
      cases a with
      | none => rfl
      | some a => cases b with
        | none => rfl
        | some b =>
          have h0 : ¬ b < a := by simpa [NS.ok, ordO] using hx
          have h1 := root_mono (show a ≤ b by grind) hn p
          have h2 : ¬ rootg true b n p < rootg false a n p := by grind
          simp [ordO, h2]
  have o1 := okr l2
  have o2 := okr r2
  exact cut_eq o1 o2 (rootS_iso hn l1) (rootS_iso hn r1) (.inl (low_hasP (a := a.map (rootg false · n p)) o1)) (.inr (high_hasP (b := b.map (rootg true · n p)) o2))
end Go.Q
namespace Go.Q
theorem size_has {x : NS} {r : Rat} (hx : x.ok) (h : x.has r = true) : ∃ s, x.size.has s = true ∧ 0 ≤ s ∧ (s = r ∨ s = -r) := by
  cases x with
  | e => cases h
  | i a b =>
    have h' := NS.has_i.1 h
    rcases size_cases hx with ⟨p, e1, hp, es⟩ | ⟨q, e1, hq, es⟩ | ⟨hp, hq, es⟩
    · exact ⟨r, by rw [es]; exact h, by have := h'.1 p e1; grind, .inl rfl⟩
    · exact ⟨-r, by rw [es]; exact minus_has h, by have := h'.2 q e1; grind, .inr rfl⟩
    · rw [es]
      have key : ∀ s : Rat, 0 ≤ s → (∀ p, a = some p → ∀ q, b = some q → s ≤ max (-p) q) → (NS.i (some ((0 : Int) : Rat)) (jmax (a.map (-·)) b)).has s = true := by
        intro s hs hk
        rw [NS.has_i]
        refine ⟨fun z e => by cases e; exact hs, fun z e => ?_⟩
        cases a with
        | none => cases e
        | some a => cases b with
          | none => cases e
          | some b => cases e; exact hk a rfl b rfl
      by_cases hr : 0 ≤ r
      · exact ⟨r, key r hr fun p e1 q e2 => by have := h'.2 q e2; grind, hr, .inl rfl⟩
      · exact ⟨-r, key (-r) (by grind) fun p e1 q e2 => by have := h'.1 p e1; grind, by grind, .inr rfl⟩
theorem pow_has {x : NS} {r : Rat} (n : Nat) (hx : x.ok) (h : x.has r = true) : (x.pow n).has (r ^ n) = true := by
  cases x with
  | e => cases h
  | i a b =>
    show (if n = 0 then _ else if n % 2 = 0 then _ else _ : NS).has (r ^ n) = true
    by_cases h0 : n = 0
    · rw [if_pos h0, h0, Rat.pow_zero]
      rw [NS.has_i]
      exact ⟨fun z e => by cases e; exact Rat.le_refl, fun z e => by cases e; exact Rat.le_refl⟩
    · rw [if_neg h0]
      by_cases h2 : n % 2 = 0
      · rw [if_pos h2]
        obtain ⟨s, k1, k2, k3⟩ := size_has hx h
        have e1 : r ^ n = s ^ n := by
          rcases k3 with rfl | rfl
          · rfl
          · rw [rneg_pow, if_pos h2]
        rw [e1]
        cases hs : (NS.i a b).size with
        | e => rw [hs] at k1; cases k1
        | i c d =>
          obtain ⟨p, ep, hp⟩ := NS.size_low hx hs
          rw [hs] at k1
          subst ep
          rw [NS.has_i] at k1
          show (NS.i (some (p ^ n)) (d.map (· ^ n))).has (s ^ n) = true
          rw [NS.has_i]
          refine ⟨fun z e => by cases e; exact rpow_mono n hp (k1.1 _ rfl), fun z e => ?_⟩
          cases d with
          | none => cases e
          | some d => cases e; exact rpow_mono n k2 (k1.2 _ rfl)
      · rw [if_neg h2]
        rw [NS.has_i] at h
        show (NS.i (a.map (· ^ n)) (b.map (· ^ n))).has (r ^ n) = true
        rw [NS.has_i]
        refine ⟨fun z e => ?_, fun z e => ?_⟩
        · cases a with
          | none => cases e
          | some a => cases e; exact rpow_odd (by omega) (h.1 _ rfl)
        · cases b with
          | none => cases e
          | some b => cases e; exact rpow_odd (by omega) (h.2 _ rfl)
theorem pow_inf {a b : Option Rat} {n : Nat} (hx : (NS.i a b).ok) (h0 : n ≠ 0) (h2 : n % 2 = 0) (h : a = none ∨ b = none) : ((NS.i a b).pow n).hasP (.inf true) = true := by
  show (if n = 0 then _ else if n % 2 = 0 then _ else _ : NS).hasP (.inf true) = true
  rw [if_neg h0, if_pos h2]
  rcases size_cases hx with ⟨p, e1, hp, es⟩ | ⟨q, e1, hq, es⟩ | ⟨hp, hq, es⟩
  · rw [es]
    have : b = none := h.resolve_left (fun k => by rw [e1] at k; cases k)
    subst this; rfl
  · rw [es]
    have : a = none := h.resolve_right (fun k => by rw [e1] at k; cases k)
    subst this; rfl
  · rw [es]
    rcases h with rfl | rfl
    · rfl
    · cases a <;> rfl
theorem joined_self (x : NS) : x.joined x = x := within_anti (join_within within_self within_self) within_jl
theorem cut_pow {a b : Option Rat} {q : Rat} (n : Nat) (hq : (NS.i a b).has q = true) (ho : (NS.i a b).ok) : ((NS.i a (some q)).pow n).joined ((NS.i (some q) b).pow n) = (NS.i a b).pow n := by
  obtain ⟨l1, l2⟩ := left_in hq
  obtain ⟨r1, r2⟩ := right_in hq
  have p1 := pow_iso n l2 ho l1
  have p2 := pow_iso n r2 ho r1
  have o1 := NS.ok_pow (n := n) l2
  have o2 := NS.ok_pow (n := n) r2
  have hL : ∀ r, (NS.i a (some q)).has r = true → ((NS.i a (some q)).pow n).hasP (.fin (r ^ n)) = true := fun r h => by rw [hasP_fin]; exact pow_has n l2 h
  have hR : ∀ r, (NS.i (some q) b).has r = true → ((NS.i (some q) b).pow n).hasP (.fin (r ^ n)) = true := fun r h => by rw [hasP_fin]; exact pow_has n r2 h
  have hq' := NS.has_i.1 hq
  by_cases h0 : n = 0
  · subst h0
    exact joined_self _
  · by_cases h2 : n % 2 = 0
    · have iL := fun h => pow_inf (a := a) (b := some q) l2 h0 h2 h
      have iR := fun h => pow_inf (a := some q) (b := b) r2 h0 h2 h
      have eA : (NS.i a b).pow n = (NS.i a b).size.powr n := by
        show (if n = 0 then _ else if n % 2 = 0 then _ else _ : NS) = _
        rw [if_neg h0, if_pos h2]
      have even : ∀ r : Rat, (-r) ^ n = r ^ n := fun r => by rw [rneg_pow, if_pos h2]
      rw [eA] at p1 p2 ⊢
      rcases size_cases ho with ⟨p, e1, hp, es⟩ | ⟨r, e1, hr, es⟩ | ⟨hp, hr, es⟩
      · rw [es] at p1 p2 ⊢
        subst e1
        refine cut_eq o1 o2 p1 p2 (.inl (hL p (NS.lo_has l2))) (.inr ?_)
        cases b with
        | none => exact iR (.inr rfl)
        | some b => exact hR b (NS.hi_has r2)
      · rw [es] at p1 p2 ⊢
        subst e1
        refine cut_eq (a := some ((-r) ^ n)) (b := (a.map (-·)).map (· ^ n)) o1 o2 p1 p2 (.inr ?_) (.inl ?_)
        · have := hR r (NS.hi_has r2)
          rwa [← even] at this
        · cases a with
          | none => exact iL (.inl rfl)
          | some a =>
            have := hL a (NS.lo_has l2)
            rwa [← even] at this
      · rw [es] at p1 p2 ⊢
        refine cut_eq (a := some (((0 : Int) : Rat) ^ n)) (b := (jmax (a.map (-·)) b).map (· ^ n)) o1 o2 p1 p2 ?_ ?_
        · by_cases hz : 0 ≤ q
          · exact .inl (hL 0 (NS.has_i.2 ⟨fun z e => by have := hp z e; grind, fun z e => by cases e; exact hz⟩))
          · exact .inr (hR 0 (NS.has_i.2 ⟨fun z e => by cases e; grind, fun z e => by have := hr z e; grind⟩))
        · cases a with
          | none => exact .inl (iL (.inl rfl))
          | some a =>
            cases b with
            | none => exact .inr (iR (.inr rfl))
            | some b =>
              show _ ∨ NS.hasP _ (.fin ((max (-a) b) ^ n)) = true
              by_cases hm : -a ≤ b
              · rw [show max (-a) b = b by grind]
                exact .inr (hR b (NS.hi_has r2))
              · left
                show NS.hasP _ (.fin ((max (-a) b) ^ n)) = true
                rw [show max (-a) b = -a by grind, even]
                exact hL a (NS.lo_has l2)
    · have eP : ∀ c d : Option Rat, (NS.i c d).pow n = .i (c.map (· ^ n)) (d.map (· ^ n)) := fun c d => by
        show (if n = 0 then _ else if n % 2 = 0 then _ else _ : NS) = _
        rw [if_neg h0, if_neg h2]
        rfl
      rw [eP a b] at p1 p2 ⊢
      rw [eP a (some q)] at p1 o1 ⊢
      rw [eP (some q) b] at p2 o2 ⊢
      exact cut_eq o1 o2 p1 p2 (.inl (low_hasP o1)) (.inr (high_hasP o2))
theorem gdown_min (x y : Rat) (p : Nat) : gdown (min x y) p = min (gdown x p) (gdown y p) := by
  rcases (Rat.le_total : x ≤ y ∨ y ≤ x) with h | h
  · have := gdown_mono p h
    rw [show min x y = x by grind]; grind
  · have := gdown_mono p h
    rw [show min x y = y by grind]; grind
theorem gup_max (x y : Rat) (p : Nat) : gup (max x y) p = max (gup x p) (gup y p) := by
  rcases (Rat.le_total : x ≤ y ∨ y ≤ x) with h | h
  · have := gup_mono p h
    rw [show max x y = y by grind]; grind
  · have := gup_mono p h
    rw [show max x y = x by grind]; grind
theorem hull_joined (x y : NS) (p : Nat) : (x.joined y).hull p = (x.hull p).joined (y.hull p) := by
  cases x with
  | e => cases y <;> rfl
  | i a b =>
    cases y with
    | e => rfl
    | i c d =>
      show NS.i ((jmin a c).map (gdown · p)) ((jmax b d).map (gup · p)) = .i (jmin (a.map (gdown · p)) (c.map (gdown · p))) (jmax (b.map (gup · p)) (d.map (gup · p)))
      congr 1
      · cases a <;> cases c <;> first | rfl | exact congrArg some (gdown_min _ _ _)
      · cases b <;> cases d <;> first | rfl | exact congrArg some (gup_max _ _ _)
end Go.Q
namespace Go.Q
def cutO (o1 o2 o : Out) : Prop := ∀ W, o = .ok W → ∃ S T, o1 = .ok S ∧ o2 = .ok T ∧ S.joined T = W
theorem cut_ok {x y z : NS} (h : x.joined y = z) : cutO (.ok x) (.ok y) (.ok z) := fun W e => by cases e; exact ⟨x, y, rfl, rfl, h⟩
theorem cut_rnd {x l r y : NS} {p : Int} {o1 o2 o : Out} (gp : bad p = false) (hx : x.void = false) (hl : l.void = false) (hr : r.void = false) (h : y.void = false → cutO o1 o2 o) : cutO (rnd p l y o1) (rnd p r y o2) (rnd p x y o) := by
  intro W hW
  unfold rnd Out.prec at *
  rw [gp] at *
  rw [hx] at hW
  rw [hl, hr]
  cases hy : y.void with
  | true => rw [hy] at hW; cases hW; exact ⟨.e, .e, rfl, rfl, rfl⟩
  | false =>
    rw [hy] at hW
    cases o with
    | error e => cases hW
    | ok z =>
      obtain ⟨S, T, rfl, rfl, e⟩ := h hy z rfl
      cases hW
      exact ⟨_, _, rfl, rfl, by rw [← e]; exact (hull_joined _ _ _).symm⟩
theorem cut_inv {a b : Option Rat} {q : Rat} (ho : (NS.i a b).ok) (hq : (NS.i a b).has q = true) (hz : (NS.i a b).zero = false) : (NS.i (some (invO b)) (some (invO a))).has q⁻¹ = true := by
  obtain ⟨l1, l2⟩ := left_in hq
  obtain ⟨r1, r2⟩ := right_in hq
  have k1 : invO (some q) ≤ invO a := inv_ord (zero_iso l2 l1 hz) l2
  have k2 : invO b ≤ invO (some q) := inv_ord (zero_iso r2 r1 hz) r2
  rw [NS.has_i]
  exact ⟨fun z e => by cases e; exact k2, fun z e => by cases e; exact k1⟩
theorem cut_divO {a b : Option Rat} {q : Rat} {y : NS} (ho : (NS.i a b).ok) (oy : y.ok) (hq : (NS.i a b).has q = true) (lL : (NS.i a (some q)).le 2048) (lR : (NS.i (some q) b).le 2048) (ly : y.le 2048) :
    cutO (divO (.i a (some q)) y) (divO (.i (some q) b) y) (divO (.i a b) y) := by
  intro W hW
  unfold divO at *
  cases hz : y.zero with
  | true => rw [hz] at hW; cases hW
  | false =>
    rw [hz] at hW
    cases hW
    exact ⟨_, _, rfl, rfl, cut_prod hq ho (inv_ok hz oy) (prod_ok lL (inv_le ly (by decide))).1 (prod_ok lR (inv_le ly (by decide))).1⟩
theorem cut_powR {a b : Option Rat} {q : Rat} {n p : Int} (ho : (NS.i a b).ok) (hq : (NS.i a b).has q = true) : cutO (powR n p (.i a (some q))) (powR n p (.i (some q) b)) (powR n p (.i a b)) := by
  obtain ⟨l1, l2⟩ := left_in hq
  obtain ⟨r1, r2⟩ := right_in hq
  intro W hW
  unfold powR Out.prec at *
  cases gn : badn n with
  | true => rw [gn] at hW; cases hW
  | false =>
    rw [gn] at hW
    cases gp : bad p with
    | true => rw [gp] at hW; cases hW
    | false =>
      rw [gp] at hW
      have hW : hullO p.toNat (powO n (.i a b)) = .ok W := hW
      show ∃ S T, hullO p.toNat (powO n (.i a (some q))) = .ok S ∧ hullO p.toNat (powO n (.i (some q) b)) = .ok T ∧ _
      by_cases hn : n < 0
      · cases hz : (NS.i a b).zero with
        | true => rw [powO_zero hn hz] at hW; cases hW
        | false =>
          rw [powO_neg hn hz] at hW
          cases hW
          rw [powO_neg hn (zero_iso l2 l1 hz), powO_neg hn (zero_iso r2 r1 hz)]
          refine ⟨_, _, rfl, rfl, ?_⟩
          rw [← hull_joined, NS.joined_comm]
          exact congrArg (NS.hull p.toNat) (cut_pow (a := some (invO b)) (b := some (invO a)) _ (cut_inv ho hq hz) (inv_ok hz ho))
      · rw [powO_pos hn] at hW
        cases hW
        rw [powO_pos hn, powO_pos hn]
        refine ⟨_, _, rfl, rfl, ?_⟩
        rw [← hull_joined, cut_pow _ hq ho]
theorem cut_rootR {a b : Option Rat} {q : Rat} {n p : Int} (hq : (NS.i a b).has q = true) : cutO (rootR n p (.i a (some q))) (rootR n p (.i (some q) b)) (rootR n p (.i a b)) := by
  obtain ⟨l1, l2⟩ := left_in hq
  obtain ⟨r1, r2⟩ := right_in hq
  intro W hW
  unfold rootR Out.prec at *
  cases gn : badr n with
  | true => rw [gn] at hW; cases hW
  | false =>
    rw [gn] at hW
    cases gp : bad p with
    | true => rw [gp] at hW; cases hW
    | false =>
      rw [gp] at hW
      have hW : (if n % 2 = 0 ∧ (NS.i a b).slo < 0 then .error 5 else .ok ((NS.i a b).rootS n.toNat p.toNat) : Out) = .ok W := hW
      show ∃ S T, (if n % 2 = 0 ∧ (NS.i a (some q)).slo < 0 then .error 5 else .ok ((NS.i a (some q)).rootS n.toNat p.toNat) : Out) = .ok S ∧ (if n % 2 = 0 ∧ (NS.i (some q) b).slo < 0 then .error 5 else .ok ((NS.i (some q) b).rootS n.toNat p.toNat) : Out) = .ok T ∧ _
      by_cases hc : n % 2 = 0 ∧ (NS.i a b).slo < 0
      · rw [if_pos hc] at hW; cases hW
      · rw [if_neg hc] at hW
        cases hW
        have c1 : ¬ (n % 2 = 0 ∧ (NS.i a (some q)).slo < 0) := fun k => slo_iso rfl l1 (fun j => hc ⟨k.1, j⟩) k.2
        have c2 : ¬ (n % 2 = 0 ∧ (NS.i (some q) b).slo < 0) := fun k => slo_iso rfl r1 (fun j => hc ⟨k.1, j⟩) k.2
        rw [if_neg c1, if_neg c2]
        have hb := badr_no gn
        exact ⟨_, _, rfl, rfl, cut_roots (by omega) hq⟩
theorem cutO.fin {o1 o2 o : Out} (h : cutO o1 o2 o) {W : NS} (hW : o.fin = .ok W) : (o1.fin = .error 1 ∨ ∃ S, o1.fin = .ok S ∧ S.le 2048 ∧ (o2.fin = .error 1 ∨ ∃ T, o2.fin = .ok T ∧ T.le 2048 ∧ S.joined T = W)) ∧ (o2.fin = .error 1 ∨ ∃ T, o2.fin = .ok T) := by
  have key : ∀ z : NS, Out.fin (.ok z) = .error 1 ∨ (Out.fin (.ok z) = .ok z ∧ z.le 2048) := by
    intro z
    unfold Out.fin
    by_cases h : z.le 2048
    · exact .inr ⟨by simp only [h, decide_true, cond_true], h⟩
    · exact .inl (by simp only [h, decide_false, cond_false])
  cases o with
  | error e => cases hW
  | ok z =>
    obtain ⟨S, T, rfl, rfl, e⟩ := h z rfl
    have hz : z = W := by
      rcases key z with k | ⟨k, _⟩ <;> rw [k] at hW <;> cases hW
      rfl
    subst hz
    refine ⟨?_, ?_⟩
    · rcases key S with k | ⟨k, l⟩
      · exact .inl k
      · refine .inr ⟨S, k, l, ?_⟩
        rcases key T with k' | ⟨k', l'⟩
        · exact .inl k'
        · exact .inr ⟨T, k', l', e⟩
    · rcases key T with k' | ⟨k', l'⟩
      · exact .inl k'
      · exact .inr ⟨T, k'⟩
theorem cut_op {a b : Option Rat} {q : Rat} {x l r y : RI} {n p : Int} {op : Nat} (gp : bad p = false) (ho8 : op < 8) (gx : x.big = false) (gl : l.big = false) (gr : r.big = false) (gy : op < 6 → y.big = false)
    (ex : x.set = .i a b) (el : l.set = .i a (some q)) (er : r.set = .i (some q) b) (hq : (NS.i a b).has q = true) {W : NS} (hW : opO op x y n p = .ok W) :
    (opO op l y n p = .error 1 ∨ ∃ S, opO op l y n p = .ok S ∧ S.le 2048 ∧ (opO op r y n p = .error 1 ∨ ∃ T, opO op r y n p = .ok T ∧ T.le 2048 ∧ S.joined T = W)) ∧ (opO op r y n p = .error 1 ∨ ∃ T, opO op r y n p = .ok T) := by
  have ho : (NS.i a b).ok := by rw [← ex]; exact RI.set_ok x
  have oy := RI.set_ok y
  have two : ∀ {o1 o2 o : Out}, op < 6 → cutO o1 o2 o → x.fin2 y o = .ok W → (l.fin2 y o1 = .error 1 ∨ ∃ S, l.fin2 y o1 = .ok S ∧ S.le 2048 ∧ (r.fin2 y o2 = .error 1 ∨ ∃ T, r.fin2 y o2 = .ok T ∧ T.le 2048 ∧ S.joined T = W)) ∧ (r.fin2 y o2 = .error 1 ∨ ∃ T, r.fin2 y o2 = .ok T) := by
    intro o1 o2 o h6 hc hw
    unfold RI.fin2 at *
    rw [gl, gr, gy h6]
    rw [gx, gy h6] at hw
    exact hc.fin hw
  have one : ∀ {o1 o2 o : Out}, cutO o1 o2 o → x.fin o = .ok W → (l.fin o1 = .error 1 ∨ ∃ S, l.fin o1 = .ok S ∧ S.le 2048 ∧ (r.fin o2 = .error 1 ∨ ∃ T, r.fin o2 = .ok T ∧ T.le 2048 ∧ S.joined T = W)) ∧ (r.fin o2 = .error 1 ∨ ∃ T, r.fin o2 = .ok T) := by
    intro o1 o2 o hc hw
    unfold RI.fin at *
    rw [gl, gr]
    rw [gx] at hw
    exact hc.fin hw
  have lL : (NS.i a (some q)).le 2048 := by rw [← el]; exact RI.le gl
  have lR : (NS.i (some q) b).le 2048 := by rw [← er]; exact RI.le gr
  unfold opO at hW ⊢
  rw [ex] at hW
  rw [el, er]
  match op, ho8 with
  | 0, _ => exact two (by decide) (cut_rnd gp rfl rfl rfl fun _ => cut_ok (cut_sum hq oy)) hW
  | 1, _ => exact two (by decide) (cut_rnd gp rfl rfl rfl fun _ => cut_ok (cut_sum hq (NS.ok_minus oy))) hW
  | 2, _ => exact two (by decide) (cut_rnd gp rfl rfl rfl fun _ => cut_ok (cut_prod hq ho oy (prod_ok lL (RI.le (gy (by decide)))).1 (prod_ok lR (RI.le (gy (by decide)))).1)) hW
  | 3, _ => exact two (by decide) (cut_rnd gp rfl rfl rfl fun _ => cut_divO ho oy hq lL lR (RI.le (gy (by decide)))) hW
  | 4, _ => exact two (by decide) (cut_ok (cut_lesser hq oy)) hW
  | 5, _ => exact two (by decide) (cut_ok (cut_greater hq oy)) hW
  | 6, _ => exact one (cut_powR ho hq) hW
  | 7, _ => exact one (cut_rootR hq) hW
end Go.Q
namespace Go.Q
open Go.Proofs
set_option maxRecDepth 100000
set_option maxHeartbeats 8000000
theorem cut_sets {x : RI} {neg : Bool} {a d : Nat} (h : x.set.has (qof neg a d) = true) : x.set = .i x.lo x.hi ∧ (⟨x.n1, x.a1, x.d1, neg, a, d, x.l, false⟩ : RI).set = .i x.lo (some (qof neg a d)) ∧ (⟨neg, a, d, x.n2, x.a2, x.d2, false, x.u⟩ : RI).set = .i (some (qof neg a d)) x.hi := by
  have e1 : x.set = .i x.lo x.hi := by
    unfold RI.set NS.mk' at h ⊢
    cases e : ordO x.lo x.hi with
    | true => rfl
    | false => rw [e] at h; cases h
  rw [e1, NS.has_i] at h
  refine ⟨e1, ?_, ?_⟩
  · show NS.mk' x.lo (some (qof neg a d)) = _
    have : ordO x.lo (some (qof neg a d)) = true := by
      cases e : x.lo with
      | none => rfl
      | some z => have := h.1 z e; simp [ordO]; grind
    unfold NS.mk'; rw [this]; rfl
  · show NS.mk' (some (qof neg a d)) x.hi = _
    have : ordO (some (qof neg a d)) x.hi = true := by
      cases e : x.hi with
      | none => rfl
      | some z => have := h.2 z e; simp [ordO]; grind
    unfold NS.mk'; rw [this]; rfl
theorem opO_big {x y : RI} {n p : Int} {k : Nat} {W : NS} (hW : opO k x y n p = .ok W) : k < 6 → y.big = false := by
  intro h6
  cases g : y.big with
  | false => rfl
  | true =>
    have two : ∀ {o : Out}, x.fin2 y o ≠ .ok W := by
      intro o e
      unfold RI.fin2 at e
      rw [g, Bool.or_true] at e
      cases e
    match k, h6 with
    | 0, _ => exact (two hW).elim
    | 1, _ => exact (two hW).elim
    | 2, _ => exact (two hW).elim
    | 3, _ => exact (two hW).elim
    | 4, _ => exact (two hW).elim
    | 5, _ => exact (two hW).elim
theorem Parts_law {h0 h : PH} [Le h0 h] {v1 v2 v3 : Value} {x1 x2 : RI} {neg : Bool} {nn nd : Nat} {op n p : Int} (ho : 0 ≤ op ∧ op ≤ 255) (hv1 : Iv h0 v1 x1) (hv2 : Iv h0 v2 x2) (hv3 : Rw h0 v3 neg nn nd) (hp : 0 ≤ p ∧ p ≤ 255) : Spec mach 4 #[.int .u8 op, v1, v2, v3, .int .i64 n, .int .u8 p] h (fun r _ => r = .bool true) NP := by
  obtain ⟨q, ew, hq0, hq1⟩ : ∃ q, IntKind.i64.wrap (p.tmod 64) = q ∧ 0 ≤ q ∧ q ≤ 63 := by
    refine ⟨p % 64, ?_, by omega, by omega⟩
    rw [Int.tmod_eq_emod_of_nonneg hp.1]
    exact wi64 (by omega) (by omega)
  have gq : bad q = false := by
    cases e : bad q with
    | false => rfl
    | true => have := bad_yes e; omega
  obtain ⟨k, hk, em⟩ : ∃ k : Nat, k < 8 ∧ op.tmod 8 = (k : Int) := ⟨(op % 8).toNat, by omega, by rw [Int.tmod_eq_emod_of_nonneg ho.1]; omega⟩
  have kH := fun {h} [Le h0 h] => has_law (h := h) hv1 hv3
  have kW := fun {h} [Le h0 h] => Apply_spec (h := h) (n := n) (p := q) hv1 hv2 em hk
  have fW : Fit (opO k x1 x2 n q) := op_fit hk
  obtain ⟨a1, m1, c1, a2, m2, c2, a3, m3, c3, a4, m4, c4, rfl, i1, i2⟩ := hv1.sa
  obtain ⟨_, _, _, _, _, _, _, rfl, i3⟩ := hv3.sa
  have kL := fun {h} [Le h0 h] => Apply_spec (h := h) (n := n) (p := q) (Iv.mk i1 i3 x1.l false) hv2 em hk
  have kR := fun {h} [Le h0 h] => Apply_spec (h := h) (n := n) (p := q) (Iv.mk i3 i2 false x1.u) hv2 em hk
  have fL : Fit (opO k ⟨x1.n1, x1.a1, x1.d1, neg, nn, nd, x1.l, false⟩ x2 n q) := op_fit hk
  have fR : Fit (opO k ⟨neg, nn, nd, x1.n2, x1.a2, x1.d2, false, x1.u⟩ x2 n q) := op_fit hk
  obtain ⟨_, _, _, _, _, _, _, _, _, _, _, _, rfl, _, _⟩ := hv2.sa
  clear hv1 hv2 hv3
  cases eH : (!x1.big && !decide (lg neg nn nd) && x1.set.has (qof neg nn nd)) with
  | false =>
    rw [eH] at kH
    refine Spec.go [] Tryz.func4 rfl rfl (by kernel_rfl) fun C _ => ?_
    simp (maxSteps := 999999) (disch := omega) only [go_sem, Nat.reduceBEq, Nat.reduceAdd]
    refine caN (by exact kH) ?_; rintro v5 h5 s5 rfl
    simp (maxSteps := 999999) (disch := omega) only [go_sem, Nat.reduceBEq, Nat.reduceAdd]
    refine caN (by exact awake_spec) ?_; rintro v6 h6 s6 rfl
    simp (maxSteps := 999999) (disch := omega) only [go_sem, Nat.reduceBEq, Nat.reduceAdd]
  | true =>
    rw [eH] at kH
    simp only [Bool.and_eq_true, Bool.not_eq_true', decide_eq_false_iff_not] at eH
    obtain ⟨⟨g1, g3⟩, hq⟩ := eH
    obtain ⟨ex, el, er⟩ := cut_sets hq
    obtain ⟨g4, g5⟩ := RI.small g1
    have gl : (⟨x1.n1, x1.a1, x1.d1, neg, nn, nd, x1.l, false⟩ : RI).big = false := by simp [RI.big, g4, g3]
    have gr : (⟨neg, nn, nd, x1.n2, x1.a2, x1.d2, false, x1.u⟩ : RI).big = false := by simp [RI.big, g5, g3]
    cases oW : opO k x1 x2 n q with
    | error e =>
      have he := fW.2 e oW
      rw [oW] at kW
      refine Spec.go [] Tryz.func4 rfl rfl (by kernel_rfl) fun C _ => ?_
      simp (maxSteps := 999999) (disch := omega) only [go_sem, Nat.reduceBEq, Nat.reduceAdd]
      refine caN (by exact kH) ?_; rintro v5 h5 s5 rfl
      simp (maxSteps := 999999) (disch := omega) only [go_sem, Nat.reduceBEq, Nat.reduceAdd, ew]
      refine caN (by exact kW) ?_; rintro v6 h6 s6 q6; obtain rfl := q6.ea
      simp (maxSteps := 999999) (disch := omega) only [go_sem, Nat.reduceBEq, Nat.reduceAdd, ew]
      refine caN (by exact kL) ?_; rintro _ h7 _ q7; obtain ⟨_, _, _, _, _, _, _, _, _, _, _, _, _, _, _, _, _, rfl, q7⟩ := q7.sa
      simp (maxSteps := 999999) (disch := omega) only [go_sem, Nat.reduceBEq, Nat.reduceAdd, ew]
      refine caN (by exact kR) ?_; rintro _ h8 _ q8; obtain ⟨_, _, _, _, _, _, _, _, _, _, _, _, _, _, _, _, _, rfl, q8⟩ := q8.sa
      simp (maxSteps := 999999) (disch := omega) only [go_sem, Nat.reduceBEq, Nat.reduceAdd]
      refine caN (by exact awake_spec) ?_; rintro v9 h9 s9 rfl
      simp (maxSteps := 999999) (disch := omega) only [go_sem, Nat.reduceBEq, Nat.reduceAdd]
    | ok W =>
      rw [oW] at kW
      rcases cut_op gq hk g1 gl gr (opO_big oW) ex el er (by rw [ex] at hq; exact hq) oW with ⟨oL | ⟨S, oL, lS, oR | ⟨T, oR, lT, eW⟩⟩, tR⟩
      · rw [oL] at kL
        rcases tR with oR | ⟨T, oR⟩
        all_goals
          rw [oR] at kR
          refine Spec.go [] Tryz.func4 rfl rfl (by kernel_rfl) fun C _ => ?_
          simp (maxSteps := 999999) (disch := omega) only [go_sem, Nat.reduceBEq, Nat.reduceAdd]
          refine caN (by exact kH) ?_; rintro v5 h5 s5 rfl
          simp (maxSteps := 999999) (disch := omega) only [go_sem, Nat.reduceBEq, Nat.reduceAdd, ew]
          refine caN (by exact kW) ?_; rintro v6 h6 s6 q6
          obtain ⟨_, _, _, _, _, _, _, _, _, _, _, _, _, _, _, _, rfl, c6⟩ := q6.oa
          simp (maxSteps := 999999) (disch := omega) only [go_sem, Nat.reduceBEq, Nat.reduceAdd, ew]
          refine caN (by exact kL) ?_; rintro v7 h7 s7 q7
          obtain rfl := q7.ea
          simp (maxSteps := 999999) (disch := omega) only [go_sem, Nat.reduceBEq, Nat.reduceAdd, ew]
          refine caN (by exact kR) ?_; rintro v8 h8 s8 q8
        · obtain rfl := q8.ea
          simp (maxSteps := 999999) (disch := omega) only [go_sem, Nat.reduceBEq, Nat.reduceAdd]
          refine caN (by exact awake_spec) ?_; rintro v9 h9 s9 rfl
          simp (maxSteps := 999999) (disch := omega) only [go_sem, Nat.reduceBEq, Nat.reduceAdd]
        · obtain ⟨_, _, _, _, _, _, _, _, _, _, _, _, _, _, _, _, rfl, c8⟩ := q8.oa
          simp (maxSteps := 999999) (disch := omega) only [go_sem, Nat.reduceBEq, Nat.reduceAdd]
          refine caN (by exact awake_spec) ?_; rintro v9 h9 s9 rfl
          simp (maxSteps := 999999) (disch := omega) only [go_sem, Nat.reduceBEq, Nat.reduceAdd]
      · rw [oL] at kL
        rw [oR] at kR
        refine Spec.go [] Tryz.func4 rfl rfl (by kernel_rfl) fun C _ => ?_
        simp (maxSteps := 999999) (disch := omega) only [go_sem, Nat.reduceBEq, Nat.reduceAdd]
        refine caN (by exact kH) ?_; rintro v5 h5 s5 rfl
        simp (maxSteps := 999999) (disch := omega) only [go_sem, Nat.reduceBEq, Nat.reduceAdd, ew]
        refine caN (by exact kW) ?_; rintro v6 h6 s6 q6
        obtain ⟨_, _, _, _, _, _, _, _, _, _, _, _, _, _, _, _, rfl, c6⟩ := q6.oa
        simp (maxSteps := 999999) (disch := omega) only [go_sem, Nat.reduceBEq, Nat.reduceAdd, ew]
        refine caN (by exact kL) ?_; rintro v7 h7 s7 q7
        obtain ⟨_, _, _, _, _, _, _, _, _, _, _, _, _, _, _, _, rfl, c7⟩ := q7.oa
        simp (maxSteps := 999999) (disch := omega) only [go_sem, Nat.reduceBEq, Nat.reduceAdd, ew]
        refine caN (by exact kR) ?_; rintro v8 h8 s8 q8
        obtain rfl := q8.ea
        simp (maxSteps := 999999) (disch := omega) only [go_sem, Nat.reduceBEq, Nat.reduceAdd]
        refine caN (by exact awake_spec) ?_; rintro v9 h9 s9 rfl
        simp (maxSteps := 999999) (disch := omega) only [go_sem, Nat.reduceBEq, Nat.reduceAdd]
      · obtain ⟨kS1, kS2⟩ := fL.1 S oL
        obtain ⟨kT1, kT2⟩ := fR.1 T oR
        obtain ⟨kW1, kW2⟩ := fW.1 W oW
        rw [oL] at kL
        rw [oR] at kR
        refine Spec.go [] Tryz.func4 rfl rfl (by kernel_rfl) fun C _ => ?_
        simp (maxSteps := 999999) (disch := omega) only [go_sem, Nat.reduceBEq, Nat.reduceAdd]
        refine caN (by exact kH) ?_; rintro v5 h5 s5 rfl
        simp (maxSteps := 999999) (disch := omega) only [go_sem, Nat.reduceBEq, Nat.reduceAdd, ew]
        refine caN (by exact kW) ?_; rintro v6 h6 s6 q6
        obtain ⟨_, _, _, _, _, _, _, _, _, _, _, _, _, _, _, _, rfl, c6⟩ := q6.oa
        simp (maxSteps := 999999) (disch := omega) only [go_sem, Nat.reduceBEq, Nat.reduceAdd, ew]
        refine caN (by exact kL) ?_; rintro v7 h7 s7 q7
        obtain ⟨_, _, _, _, _, _, _, _, _, _, _, _, _, _, _, _, rfl, c7⟩ := q7.oa
        simp (maxSteps := 999999) (disch := omega) only [go_sem, Nat.reduceBEq, Nat.reduceAdd, ew]
        refine caN (by exact kR) ?_; rintro v8 h8 s8 q8
        obtain ⟨_, _, _, _, _, _, _, _, _, _, _, _, _, _, _, _, rfl, c8⟩ := q8.oa
        simp (maxSteps := 999999) (disch := omega) only [go_sem, Nat.reduceBEq, Nat.reduceAdd]
        refine caN (by exact Hull_ok ((c7.iv kS2).to (h' := h8)) (c8.iv kT2) (NS.ri_big kS2) (NS.ri_big kT2)) ?_; rintro v9 h9 s9 q9
        rw [NS.ri_set kS1, NS.ri_set kT1, eW] at q9
        obtain ⟨_, _, _, _, _, _, _, _, _, _, _, _, _, _, _, _, rfl, c9⟩ := q9.oa
        simp (maxSteps := 999999) (disch := omega) only [go_sem, Nat.reduceBEq, Nat.reduceAdd]
        refine caN (by exact Is_spec rfl rfl c9.ir (c6.to (h' := h9)).ir (fun x e => by cases e; exact ⟨kW1, kW2⟩) (fun e k => by cases k)) ?_; rintro v10 h10 s10 rfl
        simp (maxSteps := 999999) (disch := omega) only [go_sem, Nat.reduceBEq, Nat.reduceAdd]
        refine caN (by exact awake_spec) ?_; rintro v11 h11 s11 rfl
        simp (maxSteps := 999999) (disch := omega) only [go_sem, Nat.reduceBEq, Nat.reduceAdd]
end Go.Q
