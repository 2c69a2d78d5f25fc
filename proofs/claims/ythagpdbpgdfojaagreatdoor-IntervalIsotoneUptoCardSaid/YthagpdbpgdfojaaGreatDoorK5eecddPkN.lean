/-
  Contracts of package number and package interval: roots. Conditions: the values are numbers (Cn), sets (Sd), intervals (Iv).
  The eight operations of the statements on two intervals: what each ends in; a part of the operands gives a part of the result, plain. Conditions: the precision is allowed, no number is large.
  The statements' own choice of an operation (apply): what it ends in. Conditions: the arguments are intervals.
  Contracts of the reference's intervals: canonical intervals, points, the whole line. Conditions: the values are intervals (Iv) and numbers (Rw).
  Contracts of the reference's intervals: two arguments; opposite, lesser and greater intervals. Conditions: the values are intervals (Iv) and sets (Rr).
  Contracts of the reference: products of numbers, of ends of sets. Conditions: the values denote the numbers and ends named, of at most 2^30 binary digits.
  Contracts of the reference's intervals: the product of two sets. Conditions: the values denote the sets named (Rr), their ends of at most 2048 binary digits. (Printed by a program.)
  Contracts of the reference's intervals: sums and differences. Conditions: the values are intervals (Iv) and sets (Rr).
  Contracts of the reference's intervals: numbers in a set. Conditions: the values are intervals (Iv), sets (Rr) and numbers (Rw, Qr).
  Contracts of the reference's intervals: inverses, products, quotients. Conditions: the values are intervals (Iv) and sets (Rr).
  What Mul and Div return. Conditions: the arguments are intervals.
  Contracts of the reference's intervals: signs, absolute values, opposites. Conditions: the values are intervals (Iv) and sets (Rr).
  Contracts of the reference's intervals: powers. Conditions: the values are intervals (Iv) and sets (Rr).
  What Pow returns. Conditions: the argument is an interval.
  Contracts of the reference's intervals: roots. Conditions: the values are intervals (Iv).
  What Root returns. Conditions: the argument is an interval.
  Operations are isotone. Conditions: the arguments are intervals.
-/
import Derived.Test.YthagpdbpgdfojaaGreatDoorK8c26a1PkD
import Derived.Test.YthagpdbpgdfojaaGreatDoorK74c410PkM
import Derived.Test.YthagpdbpgdfojaaGreatDoorK44c0f3PkH
import Derived.Test.YthagpdbpgdfojaaGreatDoorK21b233PkJ
import Derived.Test.YthagpdbpgdfojaaGreatDoorK37a596PkL
import Derived.Test.YthagpdbpgdfojaaGreatDoorKf928a6PkK
set_option linter.unusedVariables false
set_option linter.unusedSimpArgs false
namespace Go.Q
open Go.Proofs
set_option maxRecDepth 100000
set_option maxHeartbeats 8000000
@[go_sem] theorem void_at_e' : NS.void .e = true := rfl
@[go_sem] theorem void_at_i' (a b : Option Rat) : NS.void (.i a b) = false := rfl
theorem pub_on {h h' : PH} [l : Le h h'] {b : Nat} {cs : Array Value} (hb : h b = some cs) : h' b = some cs := l.sub _ _ hb
theorem root_any {h0 h : PH} [Le h0 h] {v : Value} {neg : Bool} {a d n p : Nat} {u : Bool} (hv : Rw h0 v neg a d) (hl : ¬ lg neg a d) (hn : 2 ≤ n) (hn8 : n ≤ 8) (hp : p ≤ 256) (hd : ¬ ((qof neg a d).num < 0 ∧ n % 2 = 0)) :
    Spec mach 96 #[v, .int .i64 n, .int .i64 p, .bool u] h (fun r h' => ∃ w, r = .tuple #[w, .int .i64 0] ∧ Cn h' w (rootg u (qof neg a d) n p)) NP := by
  cases en : decide ((qof neg a d).num < 0) with
  | false => exact root_pos hv hl hn hn8 hp hd en
  | true => exact root_neg hv hl hn hn8 hp hd en
theorem RootDown_cn {h0 h : PH} [Le h0 h] {v : Value} {x : Rat} {n p : Nat} (hv : Cn h0 v x) (hs : sz x ≤ 2048) (hn : 2 ≤ n) (hn8 : n ≤ 8) (hp : p ≤ 256) (hd : ¬ (x < 0 ∧ n % 2 = 0)) : Spec mach 39 #[v, .int .i64 n, .int .i64 p] h (fun r h' => ∃ w, r = .tuple #[w, .int .i64 0] ∧ Cn h' w (rootg false x n p)) NP := by
  have hw := hv.rw (Nat.le_trans hs (by decide))
  have hl : ¬ lg (decide (x.num < 0)) x.num.natAbs (if x.den = 1 then 0 else x.den) := by rw [lg_cn]; omega
  have hq := qof_cn x
  have kR := fun {h} [Le h0 h] => root_any (h := h) (u := false) (p := p) hw hl hn hn8 hp (by rw [hq, num_neg]; exact hd)
  rw [hq] at kR
  clear hw hl hq
  obtain ⟨_, _, _, _, _, _, _, rfl, _⟩ := hv.sa
  refine Spec.go [] Tryz.func39 rfl rfl (by kernel_rfl) fun C _ => ?_
  try simp (maxSteps := 999999) (disch := omega) only [go_sem, Nat.reduceBEq, Nat.reduceAdd]
  refine caN (by exact kR) ?_; rintro v1 h1 s1 ⟨w, rfl, hw1⟩; obtain ⟨_, _, _, _, _, _, _, rfl, hw2⟩ := hw1.sa
  try simp (maxSteps := 999999) (disch := omega) only [go_sem, Nat.reduceBEq, Nat.reduceAdd]
  exact ⟨_, rfl, hw2⟩
theorem RootUp_cn {h0 h : PH} [Le h0 h] {v : Value} {x : Rat} {n p : Nat} (hv : Cn h0 v x) (hs : sz x ≤ 2048) (hn : 2 ≤ n) (hn8 : n ≤ 8) (hp : p ≤ 256) (hd : ¬ (x < 0 ∧ n % 2 = 0)) : Spec mach 40 #[v, .int .i64 n, .int .i64 p] h (fun r h' => ∃ w, r = .tuple #[w, .int .i64 0] ∧ Cn h' w (rootg true x n p)) NP := by
  have hw := hv.rw (Nat.le_trans hs (by decide))
  have hl : ¬ lg (decide (x.num < 0)) x.num.natAbs (if x.den = 1 then 0 else x.den) := by rw [lg_cn]; omega
  have hq := qof_cn x
  have kR := fun {h} [Le h0 h] => root_any (h := h) (u := true) (p := p) hw hl hn hn8 hp (by rw [hq, num_neg]; exact hd)
  rw [hq] at kR
  clear hw hl hq
  obtain ⟨_, _, _, _, _, _, _, rfl, _⟩ := hv.sa
  refine Spec.go [] Tryz.func40 rfl rfl (by kernel_rfl) fun C _ => ?_
  try simp (maxSteps := 999999) (disch := omega) only [go_sem, Nat.reduceBEq, Nat.reduceAdd]
  refine caN (by exact kR) ?_; rintro v1 h1 s1 ⟨w, rfl, hw1⟩; obtain ⟨_, _, _, _, _, _, _, rfl, hw2⟩ := hw1.sa
  try simp (maxSteps := 999999) (disch := omega) only [go_sem, Nat.reduceBEq, Nat.reduceAdd]
  exact ⟨_, rfl, hw2⟩
theorem number_cn {h0 h : PH} [Le h0 h] {v : Value} {x : Rat} (hv : Cn h0 v x) (hs : sz x ≤ 2048) : Spec mach 70 #[v] h (fun v h' => Fr h' v x) NP := by
  have hl : ¬ lg (decide (x.num < 0)) x.num.natAbs (if x.den = 1 then 0 else x.den) := by rw [lg_cn]; omega
  have := number_ok (h := h) (hv.rw (Nat.le_trans hs (by decide))) hl
  rwa [qof_cn] at this
def NS.rootS (n p : Nat) : NS → NS
  | .e => .e
  | .i a b => .i (a.map (rootg false · n p)) (b.map (rootg true · n p))
def badr (n : Int) : Bool := decide (n < 2) || decide (8 < n)
theorem badr_no {n : Int} (h : badr n = false) : 2 ≤ n ∧ n ≤ 8 := by
  unfold badr at h
  simp only [Bool.or_eq_false_iff, decide_eq_false_iff_not] at h
  omega
theorem badr_yes {n : Int} (h : badr n = true) : n < 2 ∨ 8 < n := by
  unfold badr at h
  simpa using h
def rootO (n p : Int) (x : NS) : Out := bif x.void then .ok .e else if n % 2 = 0 ∧ x.slo < 0 then .error 5 else .ok (x.rootS n.toNat p.toNat)
def rootR (n p : Int) (x : NS) : Out := bif badr n then .error 2 else Out.prec p (rootO n p x)
theorem dom_low {a b : Option Rat} {m : Nat} (hd : ¬ ((m : Int) % 2 = 0 ∧ (NS.i a b).slo < 0)) : ∀ q, a = some q → ¬ (q < 0 ∧ m % 2 = 0) := by
  intro q e k
  subst e
  have : sgn3 q = -1 := by unfold sgn3; rw [if_pos k.1]
  exact hd ⟨by omega, by show sgn3 q < 0; omega⟩
theorem dom_high {a b : Option Rat} {m : Nat} (hx : (NS.i a b).ok) (hd : ¬ ((m : Int) % 2 = 0 ∧ (NS.i a b).slo < 0)) : ∀ q, b = some q → ¬ (q < 0 ∧ m % 2 = 0) := by
  intro q e k
  subst e
  cases a with
  | none => exact hd ⟨by omega, by show (-1 : Int) < 0; decide⟩
  | some a =>
    have h1 : ¬ q < a := by simpa [NS.ok, ordO] using hx
    exact dom_low hd a rfl ⟨by grind, k.2⟩
theorem Root1 {h0 h : PH} [Le h0 h] {s : Value} {x : NS} {n p : Int} {b1 b2 : Nat} (hs : Sd h0 s x) (hx : x.ok) (lx : x.le 2048) (hb1 : h b1 = some #[.int .i64 n]) (hb2 : h b2 = some #[.int .i64 p]) : Does 68 #[s, .pointer (some ⟨b1, 0, none⟩), .pointer (some ⟨b2, 0, none⟩)] h (rootR n p x) := by
  have hs0 := hs.sn
  cases gn : badr n with
  | true =>
    have e0 : rootR n p x = .error 2 := by unfold rootR; rw [gn]; rfl
    rw [e0]
    obtain ⟨_, _, _, _, _, _, _, _, _, _, _, _, _, _, _, _, rfl, hs⟩ := hs.sa
    show Spec _ _ _ _ NR (fail 2)
    refine Spec.go [(9, .o [0, 1, 6, 7, 2, 3, 4, 5, 8, 9, 10, 11, 12, 13, 14]), (11, .o [0, 1, 6, 7, 2, 3, 4, 5, 8, 9, 10, 11, 12, 13, 14])] Tryz.func68 rfl rfl (by kernel_rfl) fun C _ => ?_
    try simp (maxSteps := 999999) (disch := omega) only [go_sem, Nat.reduceBEq, Nat.reduceAdd]
    refine ld1_of (at_one hb1) ?_
    try simp (maxSteps := 999999) (disch := omega) only [go_sem, Nat.reduceBEq, Nat.reduceAdd]
    exact caF (by exact precise_fail (badr_yes gn)) (fun _ _ h => h)
  | false =>
    have hn := badr_no gn
    cases gp : bad p with
    | true =>
      have e0 : rootR n p x = .error 2 := by unfold rootR Out.prec; rw [gn, gp]; rfl
      rw [e0]
      obtain ⟨_, _, _, _, _, _, _, _, _, _, _, _, _, _, _, _, rfl, hs⟩ := hs.sa
      show Spec _ _ _ _ NR (fail 2)
      refine Spec.go [(9, .o [0, 1, 6, 7, 2, 3, 4, 5, 8, 9, 10, 11, 12, 13, 14]), (11, .o [0, 1, 6, 7, 2, 3, 4, 5, 8, 9, 10, 11, 12, 13, 14])] Tryz.func68 rfl rfl (by kernel_rfl) fun C _ => ?_
      try simp (maxSteps := 999999) (disch := omega) only [go_sem, Nat.reduceBEq, Nat.reduceAdd]
      refine ld1_of (at_one hb1) ?_
      try simp (maxSteps := 999999) (disch := omega) only [go_sem, Nat.reduceBEq, Nat.reduceAdd]
      refine caN (by exact precise_ok hn.1 hn.2) ?_; rintro v1 h1 st1 _
      try simp (maxSteps := 999999) (disch := omega) only [go_sem, Nat.reduceBEq, Nat.reduceAdd]
      refine ld1_of (at_one (pub_on hb2)) ?_
      try simp (maxSteps := 999999) (disch := omega) only [go_sem, Nat.reduceBEq, Nat.reduceAdd]
      exact caF (by exact precise_fail (bad_yes gp)) (fun _ _ h => h)
    | false =>
      have hp := bad_no gp
      have e0 : rootR n p x = rootO n p x := by unfold rootR Out.prec; rw [gn, gp]; rfl
      rw [e0]
      clear e0
      cases x with
      | e =>
        show Spec _ _ _ _ (fun v h' => Sn h' v .e) NP
        have kS := fun {h} [Le h0 h] => signs_void (h := h) hs0
        obtain ⟨_, _, _, _, _, _, _, _, _, _, _, _, _, _, _, _, rfl, hs⟩ := hs.sa
        refine Spec.go [(9, .o [0, 1, 6, 7, 2, 3, 4, 5, 8, 9, 10, 11, 12, 13, 14]), (11, .o [0, 1, 6, 7, 2, 3, 4, 5, 8, 9, 10, 11, 12, 13, 14])] Tryz.func68 rfl rfl (by kernel_rfl) fun C _ => ?_
        try simp (maxSteps := 999999) (disch := omega) only [go_sem, Nat.reduceBEq, Nat.reduceAdd]
        refine ld1_of (at_one hb1) ?_
        try simp (maxSteps := 999999) (disch := omega) only [go_sem, Nat.reduceBEq, Nat.reduceAdd]
        refine caN (by exact precise_ok hn.1 hn.2) ?_; rintro v1 h1 st1 _
        try simp (maxSteps := 999999) (disch := omega) only [go_sem, Nat.reduceBEq, Nat.reduceAdd]
        refine ld1_of (at_one (pub_on hb2)) ?_
        try simp (maxSteps := 999999) (disch := omega) only [go_sem, Nat.reduceBEq, Nat.reduceAdd]
        refine caN (by exact precise_ok hp.1 hp.2) ?_; rintro v2 h2 st2 _
        try simp (maxSteps := 999999) (disch := omega) only [go_sem, Nat.reduceBEq, Nat.reduceAdd]
        refine caN (by exact kS) ?_; rintro v3 h3 st3 ⟨m1, m2, rfl⟩
        try simp (maxSteps := 999999) (disch := omega) only [go_sem, Nat.reduceBEq, Nat.reduceAdd]
        exact hs0.to
      | i a b =>
        have kS := fun {h} [Le h0 h] => signs_set (h := h) hs0
        rw [NS.le_i] at lx
        obtain ⟨B1, A1, M1, C1, A2, M2, C2, B2, A3, M3, C3, A4, M4, C4, rfl, e1, e2⟩ := hs0.ie
        obtain ⟨m, rfl⟩ : ∃ m : Nat, n = (m : Int) := ⟨n.toNat, by omega⟩
        obtain ⟨r, rfl⟩ : ∃ r : Nat, p = (r : Int) := ⟨p.toNat, by omega⟩
        have hm2 : 2 ≤ m := by omega
        have hm8 : m ≤ 8 := by omega
        have hp2 : r ≤ 256 := by omega
        by_cases hd : (m : Int) % 2 = 0 ∧ (NS.i a b).slo < 0
        · have e0 : rootO m r (.i a b) = .error 5 := by
            show (if _ then _ else _) = _
            rw [if_pos hd]
          rw [e0]
          obtain ⟨hd1, hd2⟩ := hd
          have hm : m % 2 = 0 := by omega
          generalize (NS.i a b).slo = sl at *
          generalize (NS.i a b).shi = sh at *
          show Spec _ _ _ _ NR (fail 5)
          refine Spec.go [(9, .o [0, 1, 6, 7, 2, 3, 4, 5, 8, 9, 10, 11, 12, 13, 14]), (11, .o [0, 1, 6, 7, 2, 3, 4, 5, 8, 9, 10, 11, 12, 13, 14])] Tryz.func68 rfl rfl (by kernel_rfl) fun C _ => ?_
          try simp (maxSteps := 999999) (disch := omega) only [go_sem, Nat.reduceBEq, Nat.reduceAdd]
          refine ld1_of (at_one hb1) ?_
          try simp (maxSteps := 999999) (disch := omega) only [go_sem, Nat.reduceBEq, Nat.reduceAdd]
          refine caN (by exact precise_ok hn.1 hn.2) ?_; rintro v1 h1 st1 _
          try simp (maxSteps := 999999) (disch := omega) only [go_sem, Nat.reduceBEq, Nat.reduceAdd]
          refine ld1_of (at_one (pub_on hb2)) ?_
          try simp (maxSteps := 999999) (disch := omega) only [go_sem, Nat.reduceBEq, Nat.reduceAdd]
          refine caN (by exact precise_ok hp.1 hp.2) ?_; rintro v2 h2 st2 _
          try simp (maxSteps := 999999) (disch := omega) only [go_sem, Nat.reduceBEq, Nat.reduceAdd]
          refine caN (by exact kS) ?_; rintro v3 h3 st3 rfl
          try simp (maxSteps := 999999) (disch := omega) only [go_sem, Nat.reduceBEq, Nat.reduceAdd]
          refine ld1_of (at_one (pub_on hb1)) ?_
          try simp (maxSteps := 999999) (disch := omega) only [go_sem, Nat.reduceBEq, Nat.reduceAdd]
          exact caF (by exact must_fail (by decide)) (fun _ _ h => h)
        · have e0 : rootO m r (.i a b) = .ok ((NS.i a b).rootS m r) := by
            show (if _ then _ else _) = _
            rw [if_neg hd]
            rfl
          rw [e0]
          have d1 := dom_low hd
          have d2 := dom_high hx hd
          have hd : ¬ (m % 2 = 0 ∧ (NS.i a b).slo < 0) := fun k => hd ⟨by omega, k.2⟩
          generalize (NS.i a b).slo = sl at *
          generalize (NS.i a b).shi = sh at *
          show Spec _ _ _ _ (fun v h' => Sn h' v (.i (a.map (rootg false · m r)) (b.map (rootg true · m r)))) NP
          have hcase : m % 2 = 1 ∨ (m % 2 = 0 ∧ ¬ sl < 0) := by
            rcases (show m % 2 = 1 ∨ m % 2 = 0 by omega) with k | k
            · exact .inl k
            · exact .inr ⟨k, fun j => hd ⟨k, j⟩⟩
          clear hd
          cases a with
          | none =>
            cases b with
            | none =>
              dsimp only [Option.isNone] at *
              rcases hcase with hm | ⟨hm, hl⟩ <;>
              · refine Spec.go [(9, .o [0, 1, 6, 7, 2, 3, 4, 5, 8, 9, 10, 11, 12, 13, 14]), (11, .o [0, 1, 6, 7, 2, 3, 4, 5, 8, 9, 10, 11, 12, 13, 14])] Tryz.func68 rfl rfl (by kernel_rfl) fun C _ => ?_
                try simp (maxSteps := 999999) (disch := omega) only [go_sem, Nat.reduceBEq, Nat.reduceAdd]
                refine ld1_of (at_one hb1) ?_
                try simp (maxSteps := 999999) (disch := omega) only [go_sem, Nat.reduceBEq, Nat.reduceAdd]
                refine caN (by exact precise_ok hn.1 hn.2) ?_; rintro v1 h1 st1 _
                try simp (maxSteps := 999999) (disch := omega) only [go_sem, Nat.reduceBEq, Nat.reduceAdd]
                refine ld1_of (at_one (pub_on hb2)) ?_
                try simp (maxSteps := 999999) (disch := omega) only [go_sem, Nat.reduceBEq, Nat.reduceAdd]
                refine caN (by exact precise_ok hp.1 hp.2) ?_; rintro v2 h2 st2 _
                try simp (maxSteps := 999999) (disch := omega) only [go_sem, Nat.reduceBEq, Nat.reduceAdd]
                refine caN (by exact kS) ?_; rintro v3 h3 st3 rfl
                try simp (maxSteps := 999999) (disch := omega) only [go_sem, Nat.reduceBEq, Nat.reduceAdd]
                refine ld1_of (at_one (pub_on hb1)) ?_
                try simp (maxSteps := 999999) (disch := omega) only [go_sem, Nat.reduceBEq, Nat.reduceAdd]
                exact ⟨_, _, _, _, _, _, rfl, e1.to, e2.to⟩
            | some b =>
              have l2 := lx.2 _ rfl
              dsimp only [Option.isNone] at *
              rcases hcase with hm | ⟨hm, hl⟩ <;>
              · refine Spec.go [(9, .o [0, 1, 6, 7, 2, 3, 4, 5, 8, 9, 10, 11, 12, 13, 14]), (11, .o [0, 1, 6, 7, 2, 3, 4, 5, 8, 9, 10, 11, 12, 13, 14])] Tryz.func68 rfl rfl (by kernel_rfl) fun C _ => ?_
                try simp (maxSteps := 999999) (disch := omega) only [go_sem, Nat.reduceBEq, Nat.reduceAdd]
                refine ld1_of (at_one hb1) ?_
                try simp (maxSteps := 999999) (disch := omega) only [go_sem, Nat.reduceBEq, Nat.reduceAdd]
                refine caN (by exact precise_ok hn.1 hn.2) ?_; rintro v1 h1 st1 _
                try simp (maxSteps := 999999) (disch := omega) only [go_sem, Nat.reduceBEq, Nat.reduceAdd]
                refine ld1_of (at_one (pub_on hb2)) ?_
                try simp (maxSteps := 999999) (disch := omega) only [go_sem, Nat.reduceBEq, Nat.reduceAdd]
                refine caN (by exact precise_ok hp.1 hp.2) ?_; rintro v2 h2 st2 _
                try simp (maxSteps := 999999) (disch := omega) only [go_sem, Nat.reduceBEq, Nat.reduceAdd]
                refine caN (by exact kS) ?_; rintro v3 h3 st3 rfl
                try simp (maxSteps := 999999) (disch := omega) only [go_sem, Nat.reduceBEq, Nat.reduceAdd]
                refine ld1_of (at_one (pub_on hb1)) ?_
                try simp (maxSteps := 999999) (disch := omega) only [go_sem, Nat.reduceBEq, Nat.reduceAdd]
                refine ld1_of (at_one (pub_on hb1)) ?_
                try simp (maxSteps := 999999) (disch := omega) only [go_sem, Nat.reduceBEq, Nat.reduceAdd]
                refine ld1_of (at_one (pub_on hb2)) ?_
                try simp (maxSteps := 999999) (disch := omega) only [go_sem, Nat.reduceBEq, Nat.reduceAdd]
                refine caN (by exact Give_ok (e2.num.to (h' := h3)) l2) ?_; rintro y1 k1 x1 ⟨u1, rfl, q1⟩; obtain ⟨_, _, _, _, _, _, _, rfl, q1⟩ := q1.sa
                try simp (maxSteps := 999999) (disch := omega) only [go_sem, Nat.reduceBEq, Nat.reduceAdd]
                refine caN (by exact have_ok q1) ?_; rintro y2 k2 x2 rfl
                try simp (maxSteps := 999999) (disch := omega) only [go_sem, Nat.reduceBEq, Nat.reduceAdd]
                refine caN (by exact RootUp_cn (q1.to (h' := k2)) l2 hm2 hm8 hp2 (d2 _ rfl)) ?_; rintro y3 k3 x3 ⟨u3, rfl, q3⟩; obtain ⟨_, _, _, _, _, _, _, rfl, q3⟩ := q3.sa
                try simp (maxSteps := 999999) (disch := omega) only [go_sem, Nat.reduceBEq, Nat.reduceAdd]
                refine caN (by exact have_ok q3) ?_; rintro y4 k4 x4 rfl
                try simp (maxSteps := 999999) (disch := omega) only [go_sem, Nat.reduceBEq, Nat.reduceAdd]
                refine caN (by exact number_cn (q3.to (h' := k4)) (rootg_sz l2 hm2 hp2)) ?_; rintro _ k5 _ r5; obtain ⟨_, _, _, _, _, _, _, rfl, r5⟩ := r5.sa
                try simp (maxSteps := 999999) (disch := omega) only [go_sem, Nat.reduceBEq, Nat.reduceAdd]
                exact ⟨_, _, _, _, _, _, rfl, e1.to, (En.of r5).to⟩
          | some a =>
            have l1 := lx.1 _ rfl
            cases b with
            | none =>
              dsimp only [Option.isNone] at *
              rcases hcase with hm | ⟨hm, hl⟩ <;>
              · refine Spec.go [(9, .o [0, 1, 6, 7, 2, 3, 4, 5, 8, 9, 10, 11, 12, 13, 14]), (11, .o [0, 1, 6, 7, 2, 3, 4, 5, 8, 9, 10, 11, 12, 13, 14])] Tryz.func68 rfl rfl (by kernel_rfl) fun C _ => ?_
                try simp (maxSteps := 999999) (disch := omega) only [go_sem, Nat.reduceBEq, Nat.reduceAdd]
                refine ld1_of (at_one hb1) ?_
                try simp (maxSteps := 999999) (disch := omega) only [go_sem, Nat.reduceBEq, Nat.reduceAdd]
                refine caN (by exact precise_ok hn.1 hn.2) ?_; rintro v1 h1 st1 _
                try simp (maxSteps := 999999) (disch := omega) only [go_sem, Nat.reduceBEq, Nat.reduceAdd]
                refine ld1_of (at_one (pub_on hb2)) ?_
                try simp (maxSteps := 999999) (disch := omega) only [go_sem, Nat.reduceBEq, Nat.reduceAdd]
                refine caN (by exact precise_ok hp.1 hp.2) ?_; rintro v2 h2 st2 _
                try simp (maxSteps := 999999) (disch := omega) only [go_sem, Nat.reduceBEq, Nat.reduceAdd]
                refine caN (by exact kS) ?_; rintro v3 h3 st3 rfl
                try simp (maxSteps := 999999) (disch := omega) only [go_sem, Nat.reduceBEq, Nat.reduceAdd]
                refine ld1_of (at_one (pub_on hb1)) ?_
                try simp (maxSteps := 999999) (disch := omega) only [go_sem, Nat.reduceBEq, Nat.reduceAdd]
                refine ld1_of (at_one (pub_on hb1)) ?_
                try simp (maxSteps := 999999) (disch := omega) only [go_sem, Nat.reduceBEq, Nat.reduceAdd]
                refine ld1_of (at_one (pub_on hb2)) ?_
                try simp (maxSteps := 999999) (disch := omega) only [go_sem, Nat.reduceBEq, Nat.reduceAdd]
                refine caN (by exact Give_ok e1.num l1) ?_; rintro w1 g1 t1 ⟨z1, rfl, c1⟩; obtain ⟨_, _, _, _, _, _, _, rfl, c1⟩ := c1.sa
                try simp (maxSteps := 999999) (disch := omega) only [go_sem, Nat.reduceBEq, Nat.reduceAdd]
                refine caN (by exact have_ok c1) ?_; rintro w2 g2 t2 rfl
                try simp (maxSteps := 999999) (disch := omega) only [go_sem, Nat.reduceBEq, Nat.reduceAdd]
                refine caN (by exact RootDown_cn (c1.to (h' := g2)) l1 hm2 hm8 hp2 (d1 _ rfl)) ?_; rintro w3 g3 t3 ⟨z3, rfl, c3⟩; obtain ⟨_, _, _, _, _, _, _, rfl, c3⟩ := c3.sa
                try simp (maxSteps := 999999) (disch := omega) only [go_sem, Nat.reduceBEq, Nat.reduceAdd]
                refine caN (by exact have_ok c3) ?_; rintro w4 g4 t4 rfl
                try simp (maxSteps := 999999) (disch := omega) only [go_sem, Nat.reduceBEq, Nat.reduceAdd]
                refine caN (by exact number_cn (c3.to (h' := g4)) (rootg_sz l1 hm2 hp2)) ?_; rintro _ g5 _ f5; obtain ⟨_, _, _, _, _, _, _, rfl, f5⟩ := f5.sa
                try simp (maxSteps := 999999) (disch := omega) only [go_sem, Nat.reduceBEq, Nat.reduceAdd]
                exact ⟨_, _, _, _, _, _, rfl, (En.of f5).to, e2.to⟩
            | some b =>
              have l2 := lx.2 _ rfl
              dsimp only [Option.isNone] at *
              rcases hcase with hm | ⟨hm, hl⟩ <;>
              · refine Spec.go [(9, .o [0, 1, 6, 7, 2, 3, 4, 5, 8, 9, 10, 11, 12, 13, 14]), (11, .o [0, 1, 6, 7, 2, 3, 4, 5, 8, 9, 10, 11, 12, 13, 14])] Tryz.func68 rfl rfl (by kernel_rfl) fun C _ => ?_
                try simp (maxSteps := 999999) (disch := omega) only [go_sem, Nat.reduceBEq, Nat.reduceAdd]
                refine ld1_of (at_one hb1) ?_
                try simp (maxSteps := 999999) (disch := omega) only [go_sem, Nat.reduceBEq, Nat.reduceAdd]
                refine caN (by exact precise_ok hn.1 hn.2) ?_; rintro v1 h1 st1 _
                try simp (maxSteps := 999999) (disch := omega) only [go_sem, Nat.reduceBEq, Nat.reduceAdd]
                refine ld1_of (at_one (pub_on hb2)) ?_
                try simp (maxSteps := 999999) (disch := omega) only [go_sem, Nat.reduceBEq, Nat.reduceAdd]
                refine caN (by exact precise_ok hp.1 hp.2) ?_; rintro v2 h2 st2 _
                try simp (maxSteps := 999999) (disch := omega) only [go_sem, Nat.reduceBEq, Nat.reduceAdd]
                refine caN (by exact kS) ?_; rintro v3 h3 st3 rfl
                try simp (maxSteps := 999999) (disch := omega) only [go_sem, Nat.reduceBEq, Nat.reduceAdd]
                refine ld1_of (at_one (pub_on hb1)) ?_
                try simp (maxSteps := 999999) (disch := omega) only [go_sem, Nat.reduceBEq, Nat.reduceAdd]
                refine ld1_of (at_one (pub_on hb1)) ?_
                try simp (maxSteps := 999999) (disch := omega) only [go_sem, Nat.reduceBEq, Nat.reduceAdd]
                refine ld1_of (at_one (pub_on hb2)) ?_
                try simp (maxSteps := 999999) (disch := omega) only [go_sem, Nat.reduceBEq, Nat.reduceAdd]
                refine caN (by exact Give_ok e1.num l1) ?_; rintro w1 g1 t1 ⟨z1, rfl, c1⟩; obtain ⟨_, _, _, _, _, _, _, rfl, c1⟩ := c1.sa
                try simp (maxSteps := 999999) (disch := omega) only [go_sem, Nat.reduceBEq, Nat.reduceAdd]
                refine caN (by exact have_ok c1) ?_; rintro w2 g2 t2 rfl
                try simp (maxSteps := 999999) (disch := omega) only [go_sem, Nat.reduceBEq, Nat.reduceAdd]
                refine caN (by exact RootDown_cn (c1.to (h' := g2)) l1 hm2 hm8 hp2 (d1 _ rfl)) ?_; rintro w3 g3 t3 ⟨z3, rfl, c3⟩; obtain ⟨_, _, _, _, _, _, _, rfl, c3⟩ := c3.sa
                try simp (maxSteps := 999999) (disch := omega) only [go_sem, Nat.reduceBEq, Nat.reduceAdd]
                refine caN (by exact have_ok c3) ?_; rintro w4 g4 t4 rfl
                try simp (maxSteps := 999999) (disch := omega) only [go_sem, Nat.reduceBEq, Nat.reduceAdd]
                refine caN (by exact number_cn (c3.to (h' := g4)) (rootg_sz l1 hm2 hp2)) ?_; rintro _ g5 _ f5; obtain ⟨_, _, _, _, _, _, _, rfl, f5⟩ := f5.sa
                try simp (maxSteps := 999999) (disch := omega) only [go_sem, Nat.reduceBEq, Nat.reduceAdd]
                refine ld1_of (at_one (pub_on hb1)) ?_
                try simp (maxSteps := 999999) (disch := omega) only [go_sem, Nat.reduceBEq, Nat.reduceAdd]
                refine ld1_of (at_one (pub_on hb2)) ?_
                try simp (maxSteps := 999999) (disch := omega) only [go_sem, Nat.reduceBEq, Nat.reduceAdd]
                refine caN (by exact Give_ok (e2.num.to (h' := g5)) l2) ?_; rintro y1 k1 x1 ⟨u1, rfl, q1⟩; obtain ⟨_, _, _, _, _, _, _, rfl, q1⟩ := q1.sa
                try simp (maxSteps := 999999) (disch := omega) only [go_sem, Nat.reduceBEq, Nat.reduceAdd]
                refine caN (by exact have_ok q1) ?_; rintro y2 k2 x2 rfl
                try simp (maxSteps := 999999) (disch := omega) only [go_sem, Nat.reduceBEq, Nat.reduceAdd]
                refine caN (by exact RootUp_cn (q1.to (h' := k2)) l2 hm2 hm8 hp2 (d2 _ rfl)) ?_; rintro y3 k3 x3 ⟨u3, rfl, q3⟩; obtain ⟨_, _, _, _, _, _, _, rfl, q3⟩ := q3.sa
                try simp (maxSteps := 999999) (disch := omega) only [go_sem, Nat.reduceBEq, Nat.reduceAdd]
                refine caN (by exact have_ok q3) ?_; rintro y4 k4 x4 rfl
                try simp (maxSteps := 999999) (disch := omega) only [go_sem, Nat.reduceBEq, Nat.reduceAdd]
                refine caN (by exact number_cn (q3.to (h' := k4)) (rootg_sz l2 hm2 hp2)) ?_; rintro _ k5 _ r5; obtain ⟨_, _, _, _, _, _, _, rfl, r5⟩ := r5.sa
                try simp (maxSteps := 999999) (disch := omega) only [go_sem, Nat.reduceBEq, Nat.reduceAdd]
                exact ⟨_, _, _, _, _, _, rfl, (En.of f5).to, (En.of r5).to⟩
theorem RootI_spec {h0 h : PH} [Le h0 h] {v : Value} {x : RI} {n p : Int} (hv : Iv h0 v x) : Spec mach 26 #[v, .int .i64 n, .int .i64 p] h (fun r h' => Ir h' r (x.fin (rootR n p x.set))) NP := by
  have hv0 := hv
  obtain ⟨a1, m1, c1, a2, m2, c2, a3, m3, c3, a4, m4, c4, rfl, _, _⟩ := hv.sa
  refine Spec.go [(1, .t (.p 1 (.p 2 (.s [0, 1, 2, 3, 4, 5, 6] .d))))] Tryz.func26 rfl rfl (by kernel_rfl) fun C _ => ?_
  try simp (maxSteps := 999999) (disch := omega) only [go_sem, Nat.reduceBEq, Nat.reduceAdd]
  intro b h1 st1 hb
  try simp (maxSteps := 999999) (disch := omega) only [go_sem, Nat.reduceBEq, Nat.reduceAdd]
  have hb := hb (by simp)
  intro b' h2 st2 hb'
  try simp (maxSteps := 999999) (disch := omega) only [go_sem, Nat.reduceBEq, Nat.reduceAdd]
  have hb' := hb' (by simp)
  refine caN (by exact unary_spec (hv0.to (h' := h2)) (fun g h' i s hs => Root1 hs (RI.set_ok x) (RI.le g) (i.sub _ _ (st2.sub _ _ hb)) (i.sub _ _ hb'))) ?_; rintro r3 h3 st3 hr3; obtain ⟨_, _, _, _, _, _, _, _, _, _, _, _, _, _, _, _, _, rfl, hr3⟩ := hr3.sa
  try simp (maxSteps := 999999) (disch := omega) only [go_sem, Nat.reduceBEq, Nat.reduceAdd]
  exact hr3
end Go.Q
namespace Go.Q
theorem rootS_iso {x y : NS} {n p : Nat} (hn : n ≠ 0) (h : x.within y = true) : (x.rootS n p).within (y.rootS n p) = true := by
  cases x with
  | e => rfl
  | i a b =>
    cases y with
    | e => cases h
    | i c d =>
      rw [within_i, low_iff, high_iff] at h
      show (NS.i (a.map (rootg false · n p)) (b.map (rootg true · n p))).within (.i (c.map (rootg false · n p)) (d.map (rootg true · n p))) = true
      rw [within_i, low_iff, high_iff]
      refine ⟨fun z e => ?_, fun z e => ?_⟩
      · cases c with
        | none => cases e
        | some c => obtain ⟨w, ew, kw⟩ := h.1 c rfl; subst ew; cases e; exact ⟨_, rfl, root_dn_mono kw hn p⟩
      · cases d with
        | none => cases e
        | some d => obtain ⟨w, ew, kw⟩ := h.2 d rfl; subst ew; cases e; exact ⟨_, rfl, root_up_mono kw hn p⟩
def opO (op : Nat) (x y : RI) (n p : Int) : Out :=
  match op with
  | 0 => x.fin2 y (rnd p x.set y.set (.ok (x.set.sum y.set)))
  | 1 => x.fin2 y (rnd p x.set y.set (.ok (x.set.sum y.set.minus)))
  | 2 => x.fin2 y (rnd p x.set y.set (.ok (x.set.prod y.set)))
  | 3 => x.fin2 y (rnd p x.set y.set (divO x.set y.set))
  | 4 => x.fin2 y (.ok (x.set.lesser y.set))
  | 5 => x.fin2 y (.ok (x.set.minus.lesser y.set.minus).minus)
  | 6 => x.fin (powR n p x.set)
  | _ => x.fin (rootR n p x.set)
def isoO (o o' : Out) : Prop := ∀ L, o' = .ok L → ∃ S, o = .ok S ∧ S.within L = true
theorem fin_out (z : NS) : Out.fin (.ok z) = .ok z ∨ Out.fin (.ok z) = .error 1 := by
  unfold Out.fin
  by_cases h : z.le 2048
  · exact .inl (by simp only [h, decide_true, cond_true])
  · exact .inr (by simp only [h, decide_false, cond_false])
theorem isoO.fin {o o' : Out} (h : isoO o o') {L : NS} (hL : o'.fin = .ok L) : o.fin = .error 1 ∨ ∃ S, o.fin = .ok S ∧ S.within L = true := by
  cases o' with
  | error e => cases hL
  | ok z =>
    rcases fin_out z with e | e <;> rw [e] at hL <;> cases hL
    obtain ⟨S, rfl, hS⟩ := h _ rfl
    rcases fin_out S with e | e
    · exact .inr ⟨S, e, hS⟩
    · exact .inl e
theorem void_iso {x y : NS} (h : x.within y = true) (hv : x.void = false) : y.void = false := by
  cases x with
  | e => cases hv
  | i a b => cases y with
    | e => cases h
    | i c d => rfl
theorem within_e {y : NS} : NS.e.within y = true := by cases y <;> rfl
theorem rnd_iso {x y x' y' : NS} {p : Int} {o o' : Out} (gp : bad p = false) (h1 : x.within x' = true) (h2 : y.within y' = true) (h : x.void = false → y.void = false → isoO o o') : isoO (rnd p x y o) (rnd p x' y' o') := by
  intro L hL
  unfold rnd Out.prec at *
  rw [gp] at *
  cases hx : x.void with
  | true => exact ⟨.e, rfl, within_e⟩
  | false =>
    cases hy : y.void with
    | true => exact ⟨.e, rfl, within_e⟩
    | false =>
      rw [void_iso h1 hx, void_iso h2 hy] at hL
      cases o' with
      | error e => cases hL
      | ok z =>
        obtain ⟨S, rfl, hS⟩ := h hx hy z rfl
        cases hL
        exact ⟨_, rfl, NS.hull_mono hS⟩
theorem iso_ok {x y : NS} (h : x.within y = true) : isoO (.ok x) (.ok y) := fun L e => by cases e; exact ⟨x, rfl, h⟩
theorem div_iso {x y x' y' : NS} (ox : x.ok) (oy : y.ok) (oy' : y'.ok) (h1 : x.within x' = true) (h2 : y.within y' = true) : isoO (divO x y) (divO x' y') := by
  intro L hL
  unfold divO at *
  cases hz : y'.zero with
  | true => rw [hz] at hL; cases hL
  | false =>
    rw [hz] at hL
    cases hL
    rw [zero_iso oy h2 hz]
    have oi : y.inv.ok := by
      cases y with
      | e => trivial
      | i a b =>
        show ordO _ _ = true
        have := inv_ord (zero_iso oy h2 hz) oy
        simp [ordO]; grind
    exact ⟨_, rfl, prod_iso ox oi h1 (inv_iso oy oy' h2 hz)⟩
theorem powR_iso {x x' : NS} {n p : Int} (ox : x.ok) (ox' : x'.ok) (h : x.within x' = true) : isoO (powR n p x) (powR n p x') := by
  intro L hL
  unfold powR Out.prec at *
  cases gn : badn n with
  | true => rw [gn] at hL; cases hL
  | false =>
    rw [gn] at hL
    cases gp : bad p with
    | true => rw [gp] at hL; cases hL
    | false =>
      rw [gp] at hL
      have hL : hullO p.toNat (powO n x') = .ok L := hL
      show ∃ S, hullO p.toNat (powO n x) = .ok S ∧ _
      by_cases hn : n < 0
      · cases hz : x'.zero with
        | true => rw [powO_zero hn hz] at hL; cases hL
        | false =>
          rw [powO_neg hn hz] at hL
          cases hL
          rw [powO_neg hn (zero_iso ox h hz)]
          exact ⟨_, rfl, NS.hull_mono (pow_iso _ (inv_ok (zero_iso ox h hz) ox) (inv_ok hz ox') (inv_iso ox ox' h hz))⟩
      · rw [powO_pos hn] at hL
        cases hL
        rw [powO_pos hn]
        exact ⟨_, rfl, NS.hull_mono (pow_iso _ ox ox' h)⟩
theorem slo_iso {x y : NS} (hx : x.void = false) (h : x.within y = true) (hs : ¬ y.slo < 0) : ¬ x.slo < 0 := by
  cases x with
  | e => cases hx
  | i a b =>
    cases y with
    | e => cases h
    | i c d =>
      rw [within_i, low_iff, high_iff] at h
      cases c with
      | none => exact absurd (show (-1 : Int) < 0 by decide) hs
      | some c =>
        obtain ⟨w, ew, kw⟩ := h.1 c rfl
        subst ew
        have h1 : 0 ≤ c := sg_nn.1 (by have : ¬ sgn3 c < 0 := hs; omega)
        have h2 := sg_nn.2 (show 0 ≤ w by grind)
        show ¬ sgn3 w < 0
        omega
theorem rootR_iso {x x' : NS} {n p : Int} (h : x.within x' = true) : isoO (rootR n p x) (rootR n p x') := by
  intro L hL
  unfold rootR Out.prec at *
  cases gn : badr n with
  | true => rw [gn] at hL; cases hL
  | false =>
    rw [gn] at hL
    cases gp : bad p with
    | true => rw [gp] at hL; cases hL
    | false =>
      rw [gp] at hL
      have hL : rootO n p x' = .ok L := hL
      show ∃ S, rootO n p x = .ok S ∧ _
      unfold rootO at *
      cases hv : x.void with
      | true => exact ⟨.e, rfl, within_e⟩
      | false =>
        rw [void_iso h hv] at hL
        have hL : (if n % 2 = 0 ∧ x'.slo < 0 then .error 5 else .ok (x'.rootS n.toNat p.toNat) : Out) = .ok L := hL
        show ∃ S, (if n % 2 = 0 ∧ x.slo < 0 then .error 5 else .ok (x.rootS n.toNat p.toNat) : Out) = .ok S ∧ _
        by_cases hc : n % 2 = 0 ∧ x'.slo < 0
        · rw [if_pos hc] at hL; cases hL
        · rw [if_neg hc] at hL
          cases hL
          have : ¬ (n % 2 = 0 ∧ x.slo < 0) := fun k => slo_iso hv h (fun j => hc ⟨k.1, j⟩) k.2
          rw [if_neg this]
          have hb := badr_no gn
          exact ⟨_, rfl, rootS_iso (by omega) h⟩
theorem op_iso {op : Nat} {x x' y y' : RI} {n p : Int} (gp : bad p = false) (gx : x.big = false) (gx' : x'.big = false) (hx : x.set.within x'.set = true) (hy : op < 6 → y.big = false ∧ y'.big = false ∧ y.set.within y'.set = true) (ho : op < 8)
    {L : NS} (hL : opO op x' y' n p = .ok L) : opO op x y n p = .error 1 ∨ ∃ S, opO op x y n p = .ok S ∧ S.within L = true := by
  have ox := RI.set_ok x
  have ox' := RI.set_ok x'
  have oy := RI.set_ok y
  have oy' := RI.set_ok y'
  have two : ∀ {o o' : Out}, op < 6 → isoO o o' → x'.fin2 y' o' = .ok L → x.fin2 y o = .error 1 ∨ ∃ S, x.fin2 y o = .ok S ∧ S.within L = true := by
    intro o o' h6 hi hl
    obtain ⟨gy, gy', _⟩ := hy h6
    unfold RI.fin2 at *
    rw [gx, gy]
    rw [gx', gy'] at hl
    exact hi.fin hl
  have one : ∀ {o o' : Out}, isoO o o' → x'.fin o' = .ok L → x.fin o = .error 1 ∨ ∃ S, x.fin o = .ok S ∧ S.within L = true := by
    intro o o' hi hl
    unfold RI.fin at *
    rw [gx]
    rw [gx'] at hl
    exact hi.fin hl
  match op, ho with
  | 0, _ => exact two (by decide) (rnd_iso gp hx (hy (by decide)).2.2 fun _ _ => iso_ok (sum_iso hx (hy (by decide)).2.2)) hL
  | 1, _ => exact two (by decide) (rnd_iso gp hx (hy (by decide)).2.2 fun _ _ => iso_ok (sum_iso hx (minus_iso (hy (by decide)).2.2))) hL
  | 2, _ => exact two (by decide) (rnd_iso gp hx (hy (by decide)).2.2 fun _ _ => iso_ok (prod_iso ox oy hx (hy (by decide)).2.2)) hL
  | 3, _ => exact two (by decide) (rnd_iso gp hx (hy (by decide)).2.2 fun _ _ => div_iso ox oy oy' hx (hy (by decide)).2.2) hL
  | 4, _ => exact two (by decide) (iso_ok (lesser_iso hx (hy (by decide)).2.2)) hL
  | 5, _ => exact two (by decide) (iso_ok (minus_iso (lesser_iso (minus_iso hx) (minus_iso (hy (by decide)).2.2)))) hL
  | 6, _ => exact one (powR_iso ox ox' hx) hL
  | 7, _ => exact one (rootR_iso hx) hL
end Go.Q
namespace Go.Q
open Go.Proofs
set_option maxRecDepth 100000
set_option maxHeartbeats 8000000
theorem Apply_spec {h0 h : PH} [Le h0 h] {v w : Value} {x y : RI} {op n p : Int} {k : Nat} (hv : Iv h0 v x) (hw : Iv h0 w y) (em : op.tmod 8 = (k : Int)) (hk : k < 8) :
    Spec mach 8 #[.int .u8 op, v, w, .int .i64 n, .int .i64 p] h (fun r h' => Ir h' r (opO k x y n p)) NP := by
  have hv0 := hv
  have hw0 := hw
  obtain ⟨a1, m1, c1, a2, m2, c2, a3, m3, c3, a4, m4, c4, rfl, _, _⟩ := hv.sa
  obtain ⟨a1', m1', c1', a2', m2', c2', a3', m3', c3', a4', m4', c4', rfl, _, _⟩ := hw.sa
  match k, hk with
  | 0, _ =>
    refine Spec.go [] Tryz.func8 rfl rfl (by kernel_rfl) fun C _ => ?_
    simp (disch := omega) only [go_sem, Nat.reduceBEq, Nat.reduceAdd, em]
    refine caN (by exact AddI_spec (p := p) hv0 hw0) ?_; rintro _ h1 _ q1; obtain ⟨_, _, _, _, _, _, _, _, _, _, _, _, _, _, _, _, _, rfl, q1⟩ := q1.sa
    simp (disch := omega) only [go_sem, Nat.reduceBEq, Nat.reduceAdd]
    exact q1
  | 1, _ =>
    refine Spec.go [] Tryz.func8 rfl rfl (by kernel_rfl) fun C _ => ?_
    simp (disch := omega) only [go_sem, Nat.reduceBEq, Nat.reduceAdd, em]
    refine caN (by exact SubI_spec (p := p) hv0 hw0) ?_; rintro _ h1 _ q1; obtain ⟨_, _, _, _, _, _, _, _, _, _, _, _, _, _, _, _, _, rfl, q1⟩ := q1.sa
    simp (disch := omega) only [go_sem, Nat.reduceBEq, Nat.reduceAdd]
    exact q1
  | 2, _ =>
    refine Spec.go [] Tryz.func8 rfl rfl (by kernel_rfl) fun C _ => ?_
    simp (disch := omega) only [go_sem, Nat.reduceBEq, Nat.reduceAdd, em]
    refine caN (by exact MulI_spec (p := p) hv0 hw0) ?_; rintro _ h1 _ q1; obtain ⟨_, _, _, _, _, _, _, _, _, _, _, _, _, _, _, _, _, rfl, q1⟩ := q1.sa
    simp (disch := omega) only [go_sem, Nat.reduceBEq, Nat.reduceAdd]
    exact q1
  | 3, _ =>
    refine Spec.go [] Tryz.func8 rfl rfl (by kernel_rfl) fun C _ => ?_
    simp (disch := omega) only [go_sem, Nat.reduceBEq, Nat.reduceAdd, em]
    refine caN (by exact DivI_spec (p := p) hv0 hw0) ?_; rintro _ h1 _ q1; obtain ⟨_, _, _, _, _, _, _, _, _, _, _, _, _, _, _, _, _, rfl, q1⟩ := q1.sa
    simp (disch := omega) only [go_sem, Nat.reduceBEq, Nat.reduceAdd]
    exact q1
  | 4, _ =>
    refine Spec.go [] Tryz.func8 rfl rfl (by kernel_rfl) fun C _ => ?_
    simp (disch := omega) only [go_sem, Nat.reduceBEq, Nat.reduceAdd, em]
    refine caN (by exact Min_spec hv0 hw0) ?_; rintro _ h1 _ q1; obtain ⟨_, _, _, _, _, _, _, _, _, _, _, _, _, _, _, _, _, rfl, q1⟩ := q1.sa
    simp (disch := omega) only [go_sem, Nat.reduceBEq, Nat.reduceAdd]
    exact q1
  | 5, _ =>
    refine Spec.go [] Tryz.func8 rfl rfl (by kernel_rfl) fun C _ => ?_
    simp (disch := omega) only [go_sem, Nat.reduceBEq, Nat.reduceAdd, em]
    refine caN (by exact Max_spec hv0 hw0) ?_; rintro _ h1 _ q1; obtain ⟨_, _, _, _, _, _, _, _, _, _, _, _, _, _, _, _, _, rfl, q1⟩ := q1.sa
    simp (disch := omega) only [go_sem, Nat.reduceBEq, Nat.reduceAdd]
    exact q1
  | 6, _ =>
    refine Spec.go [] Tryz.func8 rfl rfl (by kernel_rfl) fun C _ => ?_
    simp (disch := omega) only [go_sem, Nat.reduceBEq, Nat.reduceAdd, em]
    refine caN (by exact PowI_spec (n := n) (p := p) hv0) ?_; rintro _ h1 _ q1; obtain ⟨_, _, _, _, _, _, _, _, _, _, _, _, _, _, _, _, _, rfl, q1⟩ := q1.sa
    simp (disch := omega) only [go_sem, Nat.reduceBEq, Nat.reduceAdd]
    exact q1
  | 7, _ =>
    refine Spec.go [] Tryz.func8 rfl rfl (by kernel_rfl) fun C _ => ?_
    simp (disch := omega) only [go_sem, Nat.reduceBEq, Nat.reduceAdd, em]
    refine caN (by exact RootI_spec (n := n) (p := p) hv0) ?_; rintro _ h1 _ q1; obtain ⟨_, _, _, _, _, _, _, _, _, _, _, _, _, _, _, _, _, rfl, q1⟩ := q1.sa
    simp (disch := omega) only [go_sem, Nat.reduceBEq, Nat.reduceAdd]
    exact q1
end Go.Q
namespace Go.Q
open Go.Proofs
set_option maxRecDepth 100000
set_option maxHeartbeats 4000000
end Go.Q
namespace Go.Q
open Go.Proofs
set_option maxRecDepth 100000
set_option maxHeartbeats 4000000
theorem NS.le.lesser {x y : NS} {k : Nat} (hx : x.le k) (hy : y.le k) : (x.lesser y).le k := by
  cases x with
  | e => rfl
  | i a b =>
    cases y with
    | e => rfl
    | i c d =>
      rw [NS.le_i] at hx hy
      show NS.le k (.i (jmin a c) (omin b d))
      rw [NS.le_i]
      refine ⟨fun q e => ?_, fun q e => ?_⟩
      · cases a with
        | none => cases e
        | some a =>
          cases c with
          | none => cases e
          | some c => cases e; exact sz_min (hx.1 _ rfl) (hy.1 _ rfl)
      · cases b with
        | none => exact hy.2 _ e
        | some b =>
          cases d with
          | none => exact hx.2 _ e
          | some d => cases e; exact sz_min (hx.2 _ rfl) (hy.2 _ rfl)
end Go.Q
namespace Go.Q
open Go.Proofs
set_option maxRecDepth 100000
set_option maxHeartbeats 8000000
@[reducible] def Pt.val : Pt → Rat
  | .fin q => q
  | .inf _ => 0
def Pt.sg : Pt → Int
  | .fin q => sgn3 q
  | .inf u => if u = true then 1 else -1
theorem Pt.mul_zero {x y : Pt} (h : x.sg = 0 ∨ y.sg = 0) : x.mul y = .fin 0 := by
  cases x with
  | fin p => cases y with
    | fin q =>
      show Pt.fin (p * q) = _
      rcases h with h | h
      · have := sgn3_zero.1 (show sgn3 p = 0 from h); subst this; rw [Rat.zero_mul]
      · have := sgn3_zero.1 (show sgn3 q = 0 from h); subst this; rw [Rat.mul_zero]
    | inf u =>
      have := sgn3_zero.1 (show sgn3 p = 0 from h.resolve_right (by cases u <;> simp [Pt.sg])); subst this; simp [Pt.mul]
  | inf u => cases y with
    | fin q =>
      have := sgn3_zero.1 (show sgn3 q = 0 from h.resolve_left (by cases u <;> simp [Pt.sg])); subst this; simp [Pt.mul]
    | inf w => rcases h with h | h <;> (revert h; cases u <;> cases w <;> simp [Pt.sg])
end Go.Q
namespace Go.Q
open Go.Proofs
set_option maxRecDepth 100000
set_option maxHeartbeats 16000000
end Go.Q
namespace Go.Q
open Go.Proofs
set_option maxRecDepth 100000
set_option maxHeartbeats 4000000
end Go.Q
namespace Go.Q
open Go.Proofs
set_option maxRecDepth 100000
set_option maxHeartbeats 4000000
theorem Br.u {r r' : Value} {o : Except Int Bool} (h : Br r o) (h' : Br r' o) : r' = r := by
  cases o with
  | ok b => cases (h : r = _); exact h'
  | error e => cases (h : r = _); exact h'
end Go.Q
namespace Go.Q
open Go.Proofs
set_option maxRecDepth 100000
set_option maxHeartbeats 8000000
end Go.Q
namespace Go.Q
open Go.Proofs
set_option maxRecDepth 100000
set_option maxHeartbeats 4000000
theorem mul_fitp {x y : RI} {p : Int} : Fit (x.fin2 y (rnd p x.set y.set (.ok (x.set.prod y.set)))) := by
  cases g : x.big || y.big with
  | true => unfold RI.fin2; rw [g]; exact .err (by decide)
  | false =>
    obtain ⟨g1, g2⟩ := Bool.or_eq_false_iff.1 g
    refine Fit.two ?_
    unfold rnd Out.prec
    cases bad p with
    | true => exact .err (by decide)
    | false =>
      cases (x.set.void || y.set.void) with
      | true => exact Fit.of (z := .e) trivial
      | false => exact Fit.of (NS.ok_hull (prod_ok (RI.le g1) (RI.le g2)).1)
theorem div_fitp {x y : RI} {p : Int} : Fit (x.fin2 y (rnd p x.set y.set (divO x.set y.set))) := by
  cases g : (x.big || y.big) with
  | true => unfold RI.fin2; rw [g]; exact .err (by decide)
  | false =>
    obtain ⟨g1, g2⟩ := Bool.or_eq_false_iff.1 g
    refine Fit.two ?_
    unfold rnd Out.prec divO
    cases bad p with
    | true => exact .err (by decide)
    | false =>
      cases (x.set.void || y.set.void) with
      | true => exact Fit.of (z := .e) trivial
      | false =>
        cases y.set.zero with
        | true => exact .err (by decide)
        | false => exact Fit.of (NS.ok_hull (prod_ok (RI.le g1) (inv_le (RI.le g2) (by decide))).1)
end Go.Q
namespace Go.Q
open Go.Proofs
set_option maxRecDepth 100000
set_option maxHeartbeats 4000000
end Go.Q
namespace Go.Q
open Go.Proofs
set_option maxRecDepth 100000
set_option maxHeartbeats 8000000
end Go.Q
namespace Go.Q
open Go.Proofs
set_option maxRecDepth 100000
set_option maxHeartbeats 4000000
theorem pow_fit {x : RI} {n p : Int} : Fit (x.fin (powR n p x.set)) := by
  refine Fit.one ?_
  have ox := RI.set_ok x
  generalize x.set = s at *
  unfold powR Out.prec
  cases badn n with
  | true => exact .err (by decide)
  | false =>
    cases bad p with
    | true => exact .err (by decide)
    | false =>
      show Fit (Out.fin (hullO _ (powO n s)))
      by_cases hn : n < 0
      · cases hz : s.zero with
        | true => rw [powO_zero hn hz]; exact .err (by decide)
        | false => rw [powO_neg hn hz]; exact Fit.of (NS.ok_hull (NS.ok_pow (inv_ok hz ox)))
      · rw [powO_pos hn]; exact Fit.of (NS.ok_hull (NS.ok_pow ox))
end Go.Q
namespace Go.Q
open Go.Proofs
set_option maxRecDepth 100000
set_option maxHeartbeats 8000000
end Go.Q
namespace Go.Q
open Go.Proofs
set_option maxRecDepth 100000
set_option maxHeartbeats 4000000
theorem rootS_ok {x : NS} (hx : x.ok) {n : Nat} (hn : n ≠ 0) (p : Nat) : (x.rootS n p).ok := by
  cases x with
  | e => trivial
  | i a b =>
    show ordO _ _ = true
    cases a with
    | none => rfl
    | some a => cases b with
      | none => rfl
      | some b =>
        have h0 : ¬ b < a := by simpa [NS.ok, ordO] using hx
        have h1 := root_mono (show a ≤ b by grind) hn p
        have h2 : ¬ rootg true b n p < rootg false a n p := by grind
        simp [ordO, h2]
theorem root_fit {x : RI} {n p : Int} : Fit (x.fin (rootR n p x.set)) := by
  refine Fit.one ?_
  have ox := RI.set_ok x
  generalize x.set = s at *
  unfold rootR Out.prec
  cases gn : badr n with
  | true => exact .err (by decide)
  | false =>
    cases bad p with
    | true => exact .err (by decide)
    | false =>
      show Fit (Out.fin (rootO n p s))
      unfold rootO
      cases hv : s.void with
      | true => exact Fit.of (z := .e) trivial
      | false =>
        show Fit (Out.fin (if _ then _ else _))
        split
        · exact .err (by decide)
        · have := badr_no gn
          exact Fit.of (rootS_ok ox (by omega) _)
end Go.Q
namespace Go.Q
open Go.Proofs
set_option maxRecDepth 100000
set_option maxHeartbeats 8000000
theorem rnd_fitq {x y z : NS} {p : Int} (hz : z.ok) : Fit (Out.fin (rnd p x y (.ok z))) := by
  unfold rnd Out.prec
  cases bad p with
  | true => exact .err (by decide)
  | false =>
    cases (x.void || y.void) with
    | true => exact Fit.of (z := .e) trivial
    | false => exact Fit.of (NS.ok_hull hz)
theorem op_fit {x y : RI} {n p : Int} : ∀ {k : Nat}, k < 8 → Fit (opO k x y n p)
  | 0, _ => Fit.two (rnd_fitq (NS.ok_sum (RI.set_ok x) (RI.set_ok y)))
  | 1, _ => Fit.two (rnd_fitq (NS.ok_sum (RI.set_ok x) (NS.ok_minus (RI.set_ok y))))
  | 2, _ => mul_fitp
  | 3, _ => div_fitp
  | 4, _ => Fit.two (Fit.of (NS.ok_lesser (RI.set_ok x) (RI.set_ok y)))
  | 5, _ => Fit.two (Fit.of (NS.ok_minus (NS.ok_lesser (NS.ok_minus (RI.set_ok x)) (NS.ok_minus (RI.set_ok y)))))
  | 6, _ => pow_fit
  | 7, _ => root_fit
def insR (x y : RI) : Bool := bif x.big || y.big then false else x.set.within y.set
theorem inside_any {h0 h : PH} [Le h0 h] {v w : Value} {x y : RI} (hv : Iv h0 v x) (hw : Iv h0 w y) : Spec mach 6 #[v, w] h (fun r _ => r = .bool (insR x y)) NP := by
  unfold insR
  cases g : x.big || y.big with
  | false =>
    obtain ⟨g1, g2⟩ := Bool.or_eq_false_iff.1 g
    exact inside_law hv hw g1 g2
  | true =>
    have kH := fun {h} [Le h0 h] => InsideI_spec (h := h) hv hw
    obtain ⟨a1, m1, c1, a2, m2, c2, a3, m3, c3, a4, m4, c4, rfl, _, _⟩ := hv.sa
    obtain ⟨a1', m1', c1', a2', m2', c2', a3', m3', c3', a4', m4', c4', rfl, _, _⟩ := hw.sa
    unfold RI.bo2 at kH
    rw [g] at kH
    refine Spec.go [] Tryz.func6 rfl rfl (by kernel_rfl) fun C _ => ?_
    simp (disch := omega) only [go_sem, Nat.reduceBEq, Nat.reduceAdd]
    refine caN (by exact kH) ?_; rintro v1 h1 s1 q1; obtain rfl : v1 = .tuple #[.bool false, .int .i64 1] := q1
    simp (disch := omega) only [go_sem, Nat.reduceBEq, Nat.reduceAdd]
theorem insR_of {x y : RI} (h : insR x y = true) : x.big = false ∧ y.big = false ∧ x.set.within y.set = true := by
  unfold insR at h
  cases g : x.big || y.big with
  | true => rw [g] at h; cases h
  | false =>
    rw [g] at h
    obtain ⟨g1, g2⟩ := Bool.or_eq_false_iff.1 g
    exact ⟨g1, g2, h⟩
theorem Isotone_law {h0 h : PH} [Le h0 h] {v1 v2 v3 v4 : Value} {x1 x2 x3 x4 : RI} {op n p : Int} (ho : 0 ≤ op ∧ op ≤ 255) (hv1 : Iv h0 v1 x1) (hv2 : Iv h0 v2 x2) (hv3 : Iv h0 v3 x3) (hv4 : Iv h0 v4 x4) (hp : 0 ≤ p ∧ p ≤ 255) : Spec mach 3 #[.int .u8 op, v1, v2, v3, v4, .int .i64 n, .int .u8 p] h (fun r _ => r = .bool true) NP := by
  obtain ⟨q, ew, hq0, hq1⟩ : ∃ q, IntKind.i64.wrap (p.tmod 64) = q ∧ 0 ≤ q ∧ q ≤ 63 := by
    refine ⟨p % 64, ?_, by omega, by omega⟩
    rw [Int.tmod_eq_emod_of_nonneg hp.1]
    exact wi64 (by omega) (by omega)
  have gq : bad q = false := by
    cases e : bad q with
    | false => rfl
    | true => have := bad_yes e; omega
  obtain ⟨k, hk, em⟩ : ∃ k : Nat, k < 8 ∧ op.tmod 8 = (k : Int) := ⟨(op % 8).toNat, by omega, by rw [Int.tmod_eq_emod_of_nonneg ho.1]; omega⟩
  have kA := fun {h} [Le h0 h] => inside_any (h := h) hv1 hv2
  have kB := fun {h} [Le h0 h] => inside_any (h := h) hv3 hv4
  have kL := fun {h} [Le h0 h] => Apply_spec (h := h) (n := n) (p := q) hv2 hv4 em hk
  have kS := fun {h} [Le h0 h] => Apply_spec (h := h) (n := n) (p := q) hv1 hv3 em hk
  have fL : Fit (opO k x2 x4 n q) := op_fit hk
  have fS : Fit (opO k x1 x3 n q) := op_fit hk
  have iso := fun (h1 : insR x1 x2 = true) (h2 : k < 6 → insR x3 x4 = true) {L : NS} (hL : opO k x2 x4 n q = .ok L) =>
    op_iso (n := n) (op := k) gq (insR_of h1).1 (insR_of h1).2.1 (insR_of h1).2.2 (fun h => insR_of (h2 h)) hk hL
  obtain ⟨_, _, _, _, _, _, _, _, _, _, _, _, rfl, _, _⟩ := hv1.sa
  obtain ⟨_, _, _, _, _, _, _, _, _, _, _, _, rfl, _, _⟩ := hv2.sa
  obtain ⟨_, _, _, _, _, _, _, _, _, _, _, _, rfl, _, _⟩ := hv3.sa
  obtain ⟨_, _, _, _, _, _, _, _, _, _, _, _, rfl, _, _⟩ := hv4.sa
  clear hv1 hv2 hv3 hv4
  cases eA : insR x1 x2 with
  | false =>
    rw [eA] at kA
    refine Spec.go [] Tryz.func3 rfl rfl (by kernel_rfl) fun C _ => ?_
    simp (disch := omega) only [go_sem, Nat.reduceBEq, Nat.reduceAdd]
    refine caN (by exact kA) ?_; rintro v5 h5 s5 rfl
    simp (disch := omega) only [go_sem, Nat.reduceBEq, Nat.reduceAdd, em]
    refine caN (by exact awake_spec) ?_; rintro v6 h6 s6 rfl
    simp (disch := omega) only [go_sem, Nat.reduceBEq, Nat.reduceAdd]
  | true =>
    rw [eA] at kA iso
    by_cases hb : k < 6 → insR x3 x4 = true
    · cases oL : opO k x2 x4 n q with
      | error e =>
        have he := fL.2 e oL
        rw [oL] at kL
        rcases Nat.lt_or_ge k 6 with g6 | g6
        all_goals
          try rw [hb g6] at kB
          refine Spec.go [] Tryz.func3 rfl rfl (by kernel_rfl) fun C _ => ?_
          simp (disch := omega) only [go_sem, Nat.reduceBEq, Nat.reduceAdd]
          refine caN (by exact kA) ?_; rintro v5 h5 s5 rfl
          simp (disch := omega) only [go_sem, Nat.reduceBEq, Nat.reduceAdd, em, ew]
          try (refine caN (by exact kB) ?_; rintro v6 h6 s6 rfl; simp (disch := omega) only [go_sem, Nat.reduceBEq, Nat.reduceAdd, ew])
          refine caN (by exact kL) ?_; rintro v7 h7 s7 q7
          obtain rfl := q7.ea
          simp (disch := omega) only [go_sem, Nat.reduceBEq, Nat.reduceAdd]
          refine caN (by exact awake_spec) ?_; rintro v8 h8 s8 rfl
          simp (disch := omega) only [go_sem, Nat.reduceBEq, Nat.reduceAdd]
      | ok L =>
        obtain ⟨kL1, kL2⟩ := fL.1 L oL
        rw [oL] at kL
        rcases iso rfl hb oL with oS | ⟨S, oS, hS⟩
        · rw [oS] at kS
          rcases Nat.lt_or_ge k 6 with g6 | g6
          all_goals
            try rw [hb g6] at kB
            refine Spec.go [] Tryz.func3 rfl rfl (by kernel_rfl) fun C _ => ?_
            simp (disch := omega) only [go_sem, Nat.reduceBEq, Nat.reduceAdd]
            refine caN (by exact kA) ?_; rintro v5 h5 s5 rfl
            simp (disch := omega) only [go_sem, Nat.reduceBEq, Nat.reduceAdd, em, ew]
            try (refine caN (by exact kB) ?_; rintro v6 h6 s6 rfl; simp (disch := omega) only [go_sem, Nat.reduceBEq, Nat.reduceAdd, ew])
            refine caN (by exact kL) ?_; rintro v7 h7 s7 q7
            obtain ⟨_, _, _, _, _, _, _, _, _, _, _, _, _, _, _, _, rfl, _⟩ := q7.oa
            simp (disch := omega) only [go_sem, Nat.reduceBEq, Nat.reduceAdd, ew]
            refine caN (by exact kS) ?_; rintro v8 h8 s8 q8
            obtain rfl := q8.ea
            simp (disch := omega) only [go_sem, Nat.reduceBEq, Nat.reduceAdd]
            refine caN (by exact awake_spec) ?_; rintro v9 h9 s9 rfl
            simp (disch := omega) only [go_sem, Nat.reduceBEq, Nat.reduceAdd]
        · obtain ⟨kS1, kS2⟩ := fS.1 S oS
          rw [oS] at kS
          rcases Nat.lt_or_ge k 6 with g6 | g6
          all_goals
            try rw [hb g6] at kB
            refine Spec.go [] Tryz.func3 rfl rfl (by kernel_rfl) fun C _ => ?_
            simp (disch := omega) only [go_sem, Nat.reduceBEq, Nat.reduceAdd]
            refine caN (by exact kA) ?_; rintro v5 h5 s5 rfl
            simp (disch := omega) only [go_sem, Nat.reduceBEq, Nat.reduceAdd, em, ew]
            try (refine caN (by exact kB) ?_; rintro v6 h6 s6 rfl; simp (disch := omega) only [go_sem, Nat.reduceBEq, Nat.reduceAdd, ew])
            refine caN (by exact kL) ?_; rintro v7 h7 s7 q7
            obtain ⟨_, _, _, _, _, _, _, _, _, _, _, _, _, _, _, _, rfl, c7⟩ := q7.oa
            simp (disch := omega) only [go_sem, Nat.reduceBEq, Nat.reduceAdd, ew]
            refine caN (by exact kS) ?_; rintro v8 h8 s8 q8
            obtain ⟨_, _, _, _, _, _, _, _, _, _, _, _, _, _, _, _, rfl, c8⟩ := q8.oa
            simp (disch := omega) only [go_sem, Nat.reduceBEq, Nat.reduceAdd]
            refine caN (by exact inside_law (c8.iv kS2) ((c7.iv kL2).to (h' := h8)) (NS.ri_big kS2) (NS.ri_big kL2)) ?_; rintro v9 h9 s9 rfl
            rw [NS.ri_set kS1, NS.ri_set kL1, hS]
            simp (disch := omega) only [go_sem, Nat.reduceBEq, Nat.reduceAdd]
            refine caN (by exact awake_spec) ?_; rintro v10 h10 s10 rfl
            simp (disch := omega) only [go_sem, Nat.reduceBEq, Nat.reduceAdd]
    · obtain ⟨g6, eB⟩ : k < 6 ∧ insR x3 x4 = false := by
        rcases Nat.lt_or_ge k 6 with g6 | g6
        · exact ⟨g6, by cases e : insR x3 x4 with | false => rfl | true => exact (hb fun _ => e).elim⟩
        · exact (hb fun g => by omega).elim
      rw [eB] at kB
      refine Spec.go [] Tryz.func3 rfl rfl (by kernel_rfl) fun C _ => ?_
      simp (disch := omega) only [go_sem, Nat.reduceBEq, Nat.reduceAdd]
      refine caN (by exact kA) ?_; rintro v5 h5 s5 rfl
      simp (disch := omega) only [go_sem, Nat.reduceBEq, Nat.reduceAdd, em]
      refine caN (by exact kB) ?_; rintro v6 h6 s6 rfl
      simp (disch := omega) only [go_sem, Nat.reduceBEq, Nat.reduceAdd]
      refine caN (by exact awake_spec) ?_; rintro v7 h7 s7 rfl
      simp (disch := omega) only [go_sem, Nat.reduceBEq, Nat.reduceAdd]
end Go.Q
