/-
  Contracts of package interval: signs, single numbers, the lesser and the greater of two numbers. Conditions: the values denote the intervals named, their ends of at most 2^30 binary digits.
  Contracts of package interval: hulls, meets, lesser sets, sums of two sets. Conditions: the values denote the intervals named, their ends of at most 2^30 binary digits. (Printed by a program, a case for each of the ends that are infinite.)
  Contracts of package interval: an operation on one set, or on two, that may be ended (unary, exact). Conditions: the operation's contract on the sets that were read.
  Contracts of package interval's exported functions: canonical values, rounding, opposites, sums. Conditions: the values are intervals (Iv).
  Contracts of the reference's intervals: beginning, giving, rounding. Conditions: the values are intervals (Iv).
  Plain laws of intervals: membership, meets, hulls, grids. Conditions: ends in order (ok).
  The statements' own comparisons: canonical intervals, equal intervals, results as they are asked for. Conditions: the values are canonical intervals (Cv) of sets in order.
  Contracts of package interval's exported functions: sums and differences. Conditions: the values are intervals (Iv).
  The statements' sanity check; what Round returns. Conditions: the argument is an interval.
  Outcomes of operations on intervals: what is given back, opened. Conditions: none.
  The same of another type of result: truth values. Conditions: the closure's contract. (Printed by a program out of the text for intervals.)
-/
import Derived.Test.YthagpdbpgdfojaaGreatDoorK8c26a1PkD
import Derived.Test.YthagpdbpgdfojaaGreatDoorK87e41bPkI
import Derived.Test.YthagpdbpgdfojaaGreatDoorK287db8PkC
set_option linter.unusedVariables false
set_option linter.unusedSimpArgs false
namespace Go.Q
open Go.Proofs
set_option maxRecDepth 100000
set_option maxHeartbeats 4000000
theorem signs_set {h0 h : PH} [Le h0 h] {v : Value} {a b : Option Rat} (hv : Sn h0 v (.i a b)) :
    Spec mach 69 #[v] h (fun r _ => r = .tuple #[.int .i64 (NS.i a b).slo, .int .i64 (NS.i a b).shi]) NP := by
  obtain ⟨b1, a1, m1, c1, a2, m2, c2, b2, a3, m3, c3, a4, m4, c4, rfl, h1, h2⟩ := hv.ie
  cases a with
  | none =>
    cases b with
    | none =>
      dsimp only [Option.isNone]
      refine Spec.go [] Tryz.func69 rfl rfl (by kernel_rfl) fun C _ => ?_
      try simp (maxSteps := 999999) (disch := omega) only [go_sem, Nat.reduceBEq, Nat.reduceAdd]
      all_goals rfl
    | some b =>
      dsimp only [Option.isNone]
      refine Spec.go [] Tryz.func69 rfl rfl (by kernel_rfl) fun C _ => ?_
      try simp (maxSteps := 999999) (disch := omega) only [go_sem, Nat.reduceBEq, Nat.reduceAdd]
      refine caN (by exact Sign_spec h2.num) ?_; rintro v1 h1 s1 rfl
      try simp (maxSteps := 999999) (disch := omega) only [go_sem, Nat.reduceBEq, Nat.reduceAdd]
      all_goals rfl
  | some a =>
    cases b with
    | none =>
      dsimp only [Option.isNone]
      refine Spec.go [] Tryz.func69 rfl rfl (by kernel_rfl) fun C _ => ?_
      try simp (maxSteps := 999999) (disch := omega) only [go_sem, Nat.reduceBEq, Nat.reduceAdd]
      refine caN (by exact Sign_spec h1.num) ?_; rintro v1 h1 s1 rfl
      try simp (maxSteps := 999999) (disch := omega) only [go_sem, Nat.reduceBEq, Nat.reduceAdd]
      all_goals rfl
    | some b =>
      dsimp only [Option.isNone]
      refine Spec.go [] Tryz.func69 rfl rfl (by kernel_rfl) fun C _ => ?_
      try simp (maxSteps := 999999) (disch := omega) only [go_sem, Nat.reduceBEq, Nat.reduceAdd]
      refine caN (by exact Sign_spec h1.num) ?_; rintro v1 h1 s1 rfl
      try simp (maxSteps := 999999) (disch := omega) only [go_sem, Nat.reduceBEq, Nat.reduceAdd]
      refine caN (by exact Sign_spec h2.num) ?_; rintro v2 h2 s2 rfl
      try simp (maxSteps := 999999) (disch := omega) only [go_sem, Nat.reduceBEq, Nat.reduceAdd]
      all_goals rfl
theorem signs_void {h0 h : PH} [Le h0 h] {v : Value} (hv : Sn h0 v .e) :
    Spec mach 69 #[v] h (fun r _ => ∃ m n, r = .tuple #[.int .i64 m, .int .i64 n]) NP := by
  obtain ⟨b1, a1, m1, c1, a2, m2, c2, b2, a3, m3, c3, a4, m4, c4, l, u, rfl, h1, h2⟩ := hv.ee
  obtain ⟨n1, d1, j1⟩ := h1.jk
  obtain ⟨n2, d2, j2⟩ := h2.jk
  cases l <;> cases u
  · refine Spec.go [] Tryz.func69 rfl rfl (by kernel_rfl) fun C _ => ?_
    try simp (maxSteps := 999999) (disch := omega) only [go_sem, Nat.reduceBEq, Nat.reduceAdd]
    refine caN (by exact Sign_raw j1) ?_; rintro v1 h1 s1 rfl
    try simp (maxSteps := 999999) (disch := omega) only [go_sem, Nat.reduceBEq, Nat.reduceAdd]
    refine caN (by exact Sign_raw j2) ?_; rintro v2 h2 s2 rfl
    try simp (maxSteps := 999999) (disch := omega) only [go_sem, Nat.reduceBEq, Nat.reduceAdd]
    exact ⟨_, _, rfl⟩
  · refine Spec.go [] Tryz.func69 rfl rfl (by kernel_rfl) fun C _ => ?_
    try simp (maxSteps := 999999) (disch := omega) only [go_sem, Nat.reduceBEq, Nat.reduceAdd]
    refine caN (by exact Sign_raw j1) ?_; rintro v1 h1 s1 rfl
    try simp (maxSteps := 999999) (disch := omega) only [go_sem, Nat.reduceBEq, Nat.reduceAdd]
    exact ⟨_, _, rfl⟩
  · refine Spec.go [] Tryz.func69 rfl rfl (by kernel_rfl) fun C _ => ?_
    try simp (maxSteps := 999999) (disch := omega) only [go_sem, Nat.reduceBEq, Nat.reduceAdd]
    refine caN (by exact Sign_raw j2) ?_; rintro v2 h2 s2 rfl
    try simp (maxSteps := 999999) (disch := omega) only [go_sem, Nat.reduceBEq, Nat.reduceAdd]
    exact ⟨_, _, rfl⟩
  · refine Spec.go [] Tryz.func69 rfl rfl (by kernel_rfl) fun C _ => ?_
    try simp (maxSteps := 999999) (disch := omega) only [go_sem, Nat.reduceBEq, Nat.reduceAdd]
    exact ⟨_, _, rfl⟩
theorem one_set {h0 h : PH} [Le h0 h] {v : Value} {q : Rat} (hv : Fr h0 v q) : Spec mach 74 #[v] h (fun v h' => Sn h' v (.i (some q) (some q))) NP := by
  obtain ⟨_, _, _, _, _, _, _, rfl, hv⟩ := hv.sa
  refine Spec.go [] Tryz.func74 rfl rfl (by kernel_rfl) fun C _ => ?_
  try simp (maxSteps := 999999) (disch := omega) only [go_sem, Nat.reduceBEq, Nat.reduceAdd]
  exact ⟨_, _, _, _, _, _, rfl, (En.of hv).to, (En.of hv).to⟩
theorem least_spec {h0 h : PH} [Le h0 h] {v w : Value} {x y : Rat} (hx : Fr h0 v x) (hy : Fr h0 w y) (bx : sz x ≤ 2 ^ 36) (by_ : sz y ≤ 2 ^ 36) :
    Spec mach 78 #[v, w] h (fun v h' => Fr h' v (min x y)) NP := by
  obtain ⟨_, _, _, _, _, _, _, rfl, hx⟩ := hx.sa
  obtain ⟨_, _, _, _, _, _, _, rfl, hy⟩ := hy.sa
  refine Spec.go [] Tryz.func78 rfl rfl (by kernel_rfl) fun C _ => ?_
  try simp (maxSteps := 999999) (disch := omega) only [go_sem, Nat.reduceBEq, Nat.reduceAdd]
  refine caN (by exact Cmp_frac hy hx by_ bx) ?_; rintro v1 h1 s1 rfl
  try simp (maxSteps := 999999) (disch := omega) only [go_sem, Nat.reduceBEq, Nat.reduceAdd]
  by_cases hc : y < x
  · have e1 : cmpQ y x < 0 := by simp [cmpQ, hc]
    try simp (maxSteps := 999999) (disch := omega) only [go_sem, Nat.reduceBEq, Nat.reduceAdd]
    have : min x y = y := by grind
    rw [this]; exact hy.to
  · have e1 : ¬ cmpQ y x < 0 := by unfold cmpQ; rw [if_neg hc]; split <;> decide
    try simp (maxSteps := 999999) (disch := omega) only [go_sem, Nat.reduceBEq, Nat.reduceAdd]
    have : min x y = x := by grind
    rw [this]; exact hx.to
theorem greatest_spec {h0 h : PH} [Le h0 h] {v w : Value} {x y : Rat} (hx : Fr h0 v x) (hy : Fr h0 w y) (bx : sz x ≤ 2 ^ 36) (by_ : sz y ≤ 2 ^ 36) :
    Spec mach 79 #[v, w] h (fun v h' => Fr h' v (max x y)) NP := by
  obtain ⟨_, _, _, _, _, _, _, rfl, hx⟩ := hx.sa
  obtain ⟨_, _, _, _, _, _, _, rfl, hy⟩ := hy.sa
  refine Spec.go [] Tryz.func79 rfl rfl (by kernel_rfl) fun C _ => ?_
  try simp (maxSteps := 999999) (disch := omega) only [go_sem, Nat.reduceBEq, Nat.reduceAdd]
  refine caN (by exact Cmp_frac hy hx by_ bx) ?_; rintro v1 h1 s1 rfl
  try simp (maxSteps := 999999) (disch := omega) only [go_sem, Nat.reduceBEq, Nat.reduceAdd]
  by_cases hc : x < y
  · have e1 : 0 < cmpQ y x := by unfold cmpQ; grind
    try simp (maxSteps := 999999) (disch := omega) only [go_sem, Nat.reduceBEq, Nat.reduceAdd]
    have : max x y = y := by grind
    rw [this]; exact hy.to
  · have e1 : ¬ 0 < cmpQ y x := by unfold cmpQ; grind
    try simp (maxSteps := 999999) (disch := omega) only [go_sem, Nat.reduceBEq, Nat.reduceAdd]
    have : max x y = x := by grind
    rw [this]; exact hx.to
theorem zero_set {h0 h : PH} [Le h0 h] {v : Value} {x : NS} (hv : Sn h0 v x) : Spec mach 58 #[v] h (fun r _ => r = .bool x.zero) NP := by
  obtain ⟨b1, a1, m1, c1, a2, m2, c2, b2, a3, m3, c3, a4, m4, c4, l, u, rfl, hv⟩ := hv.sa
  refine Spec.go [] Tryz.func58 rfl rfl (by kernel_rfl) fun C _ => ?_
  try simp (maxSteps := 999999) (disch := omega) only [go_sem, Nat.reduceBEq, Nat.reduceAdd]
  cases x with
  | e =>
    dsimp only [NS.void] at hv ⊢
    try simp (maxSteps := 999999) (disch := omega) only [go_sem, Nat.reduceBEq, Nat.reduceAdd]
    refine caN (by exact signs_void hv) ?_; rintro v1 h1 s1 ⟨m, n, rfl⟩
    try simp (maxSteps := 999999) (disch := omega) only [go_sem, Nat.reduceBEq, Nat.reduceAdd]
    all_goals rfl
  | i a b =>
    dsimp only [NS.void] at hv ⊢
    try simp (maxSteps := 999999) (disch := omega) only [go_sem, Nat.reduceBEq, Nat.reduceAdd]
    refine caN (by exact signs_set hv) ?_; rintro v1 h1 s1 rfl
    try simp (maxSteps := 999999) (disch := omega) only [go_sem, Nat.reduceBEq, Nat.reduceAdd]
    by_cases g1 : (NS.i a b).slo ≤ 0
    · by_cases g2 : 0 ≤ (NS.i a b).shi
      · have : (NS.i a b).zero = true := by simp [NS.zero, NS.void, g1, g2]
        rw [this]
        try simp (maxSteps := 999999) (disch := omega) only [go_sem, Nat.reduceBEq, Nat.reduceAdd]
      · have : (NS.i a b).zero = false := by simp [NS.zero, g2]
        rw [this]
        try simp (maxSteps := 999999) (disch := omega) only [go_sem, Nat.reduceBEq, Nat.reduceAdd]
    · have : (NS.i a b).zero = false := by simp [NS.zero, g1]
      rw [this]
      try simp (maxSteps := 999999) (disch := omega) only [go_sem, Nat.reduceBEq, Nat.reduceAdd]
end Go.Q
namespace Go.Q
open Go.Proofs
set_option maxRecDepth 100000
set_option maxHeartbeats 4000000
theorem sz_max {x y : Rat} {k : Nat} (hx : sz x ≤ k) (hy : sz y ≤ k) : sz (max x y) ≤ k := by
  by_cases h : x < y
  · rw [show max x y = y by grind]; exact hy
  · rw [show max x y = x by grind]; exact hx
theorem sz_min {x y : Rat} {k : Nat} (hx : sz x ≤ k) (hy : sz y ≤ k) : sz (min x y) ≤ k := by
  by_cases h : y < x
  · rw [show min x y = y by grind]; exact hy
  · rw [show min x y = x by grind]; exact hx
theorem up36 {n : Nat} (h : n ≤ 2 ^ 30) : n ≤ 2 ^ 36 := by omega
def Sd (h : PH) (v : Value) : NS → Prop
  | .e => ∃ b1 x1 y1 b2 x2 y2 p q, v = .agg #[.bool b1, x1, y1, .bool b2, x2, y2, .bool false, .bool false, .bool true] ∧ En h b1 x1 y1 (some p) ∧ En h b2 x2 y2 (some q) ∧ sz p ≤ 2 ^ 30 ∧ sz q ≤ 2 ^ 30
  | .i a b => Sn h v (.i a b)
theorem Sd.sn {h : PH} {v : Value} {x : NS} (r : Sd h v x) : Sn h v x := by
  cases x with
  | i a b => exact r
  | e => obtain ⟨b1, x1, y1, b2, x2, y2, p, q, rfl, h1, h2, _⟩ := r; exact ⟨_, _, _, _, _, _, _, _, rfl, h1.junk, h2.junk⟩
theorem Sd.to {h h' : PH} {v : Value} {x : NS} (r : Sd h v x) [Le h h'] : Sd h' v x := by
  cases x with
  | i a b => exact Sn.to (x := .i a b) r
  | e => obtain ⟨b1, x1, y1, b2, x2, y2, p, q, hv, h1, h2, k⟩ := r; exact ⟨b1, x1, y1, b2, x2, y2, p, q, hv, h1.to, h2.to, k⟩
theorem Sd.ee {h : PH} {v : Value} (r : Sd h v .e) : ∃ b1 a1 m1 c1 a2 m2 c2 b2 a3 m3 c3 a4 m4 c4 p q, v = .agg #[.bool b1, .slice a1 m1 c1, .slice a2 m2 c2, .bool b2, .slice a3 m3 c3, .slice a4 m4 c4, .bool false, .bool false, .bool true] ∧
    En h b1 (.slice a1 m1 c1) (.slice a2 m2 c2) (some p) ∧ En h b2 (.slice a3 m3 c3) (.slice a4 m4 c4) (some q) ∧ sz p ≤ 2 ^ 30 ∧ sz q ≤ 2 ^ 30 := by
  obtain ⟨b1, x1, y1, b2, x2, y2, p, q, rfl, h1, h2, k⟩ := r
  obtain ⟨_, _, _, _, _, _, rfl, rfl⟩ := h1.sl
  obtain ⟨_, _, _, _, _, _, rfl, rfl⟩ := h2.sl
  exact ⟨_, _, _, _, _, _, _, _, _, _, _, _, _, _, _, _, rfl, h1, h2, k⟩
theorem Read_set {h0 h : PH} [Le h0 h] {v : Value} {x : RI} (hv : Iv h0 v x) (g : x.big = false) : Spec mach 45 #[v] h (fun v h' => Sd h' v x.set) NP := by
  obtain ⟨g1, g2⟩ := RI.small g
  refine (read_ok hv g1 g2).mono (fun v h' _ r => ?_) (fun _ _ _ e => e)
  rw [← RI.set_eq]
  have z1 : sz (qof x.n1 x.a1 x.d1) ≤ 2 ^ 30 := by unfold Go.Q.lg at g1; omega
  have z2 : sz (qof x.n2 x.a2 x.d2) ≤ 2 ^ 30 := by unfold Go.Q.lg at g2; omega
  obtain ⟨b1, x1, y1, b2, x2, y2, rfl, h1, h2⟩ := r
  unfold rdS PS.n at *
  dsimp only at *
  cases hl : x.l with
  | true => exact ⟨b1, x1, y1, b2, x2, y2, by cases x.u <;> rfl, (En.of h1).junk, by cases x.u with
    | true => exact (En.of h2).junk
    | false => exact En.of h2⟩
  | false =>
    cases hu : x.u with
    | true => exact ⟨b1, x1, y1, b2, x2, y2, rfl, En.of h1, (En.of h2).junk⟩
    | false =>
      by_cases hc : qof x.n2 x.a2 x.d2 < qof x.n1 x.a1 x.d1
      · simp only [hc, decide_true, Bool.not_false, Bool.and_true, cond_true]
        exact ⟨b1, x1, y1, b2, x2, y2, _, _, rfl, En.of h1, En.of h2, z1, z2⟩
      · simp only [hc, decide_false, Bool.and_false, cond_false]
        exact ⟨b1, x1, y1, b2, x2, y2, rfl, En.of h1, En.of h2⟩
theorem sum_set {h0 h : PH} [Le h0 h] {v w : Value} {a b c d : Option Rat} (hs : Sn h0 v (.i a b)) (ht : Sn h0 w (.i c d)) (ls : (NS.i a b).le (2 ^ 30)) (lt : (NS.i c d).le (2 ^ 30)) :
    Spec mach 53 #[v, w] h (fun v h' => Sn h' v (NS.sum (.i a b) (.i c d))) NP := by
  obtain ⟨b1, a1, m1, c1, a2, m2, c2, b2, a3, m3, c3, a4, m4, c4, rfl, h1, h2⟩ := hs.ie
  obtain ⟨b1', a1', m1', c1', a2', m2', c2', b2', a3', m3', c3', a4', m4', c4', rfl, h3, h4⟩ := ht.ie
  rw [NS.le_i] at ls lt
  cases a <;> cases c <;> cases b <;> cases d <;>
  · dsimp only [Option.isNone]
    refine Spec.go [] Tryz.func53 rfl rfl (by kernel_rfl) fun C _ => ?_
    try simp (maxSteps := 999999) (disch := omega) only [go_sem, Nat.reduceBEq, Nat.reduceAdd]
    try (refine caN (by exact Add_frac h1.num h3.num (up36 (ls.1 _ rfl)) (up36 (lt.1 _ rfl))) ?_; rintro _ g1 _ f1; obtain ⟨_, _, _, _, _, _, _, rfl, f1⟩ := f1.sa; (try simp (maxSteps := 999999) (disch := omega) only [go_sem, Nat.reduceBEq, Nat.reduceAdd]))
    try (refine caN (by exact Add_frac h2.num h4.num (up36 (ls.2 _ rfl)) (up36 (lt.2 _ rfl))) ?_; rintro _ g2 _ f2; obtain ⟨_, _, _, _, _, _, _, rfl, f2⟩ := f2.sa; (try simp (maxSteps := 999999) (disch := omega) only [go_sem, Nat.reduceBEq, Nat.reduceAdd]))
    try simp (maxSteps := 999999) (disch := omega) only [go_sem, Nat.reduceBEq, Nat.reduceAdd]
    exact ⟨_, _, _, _, _, _, rfl, by first | exact (En.of f1).to | exact En.nil _, by first | exact (En.of f2).to | exact En.nil _⟩
theorem joined_set {h0 h : PH} [Le h0 h] {v w : Value} {a b c d : Option Rat} (hs : Sn h0 v (.i a b)) (ht : Sn h0 w (.i c d)) (ls : (NS.i a b).le (2 ^ 30)) (lt : (NS.i c d).le (2 ^ 30)) :
    Spec mach 29 #[v, w] h (fun v h' => Sn h' v (NS.joined (.i a b) (.i c d))) NP := by
  obtain ⟨b1, a1, m1, c1, a2, m2, c2, b2, a3, m3, c3, a4, m4, c4, rfl, h1, h2⟩ := hs.ie
  obtain ⟨b1', a1', m1', c1', a2', m2', c2', b2', a3', m3', c3', a4', m4', c4', rfl, h3, h4⟩ := ht.ie
  rw [NS.le_i] at ls lt
  cases a <;> cases c <;> cases b <;> cases d <;>
  · dsimp only [Option.isNone]
    refine Spec.go [] Tryz.func29 rfl rfl (by kernel_rfl) fun C _ => ?_
    try simp (maxSteps := 999999) (disch := omega) only [go_sem, Nat.reduceBEq, Nat.reduceAdd]
    try (refine caN (by exact least_spec h1.num h3.num (up36 (ls.1 _ rfl)) (up36 (lt.1 _ rfl))) ?_; rintro _ g1 _ f1; obtain ⟨_, _, _, _, _, _, _, rfl, f1⟩ := f1.sa; (try simp (maxSteps := 999999) (disch := omega) only [go_sem, Nat.reduceBEq, Nat.reduceAdd]))
    try (refine caN (by exact greatest_spec h2.num h4.num (up36 (ls.2 _ rfl)) (up36 (lt.2 _ rfl))) ?_; rintro _ g2 _ f2; obtain ⟨_, _, _, _, _, _, _, rfl, f2⟩ := f2.sa; (try simp (maxSteps := 999999) (disch := omega) only [go_sem, Nat.reduceBEq, Nat.reduceAdd]))
    try simp (maxSteps := 999999) (disch := omega) only [go_sem, Nat.reduceBEq, Nat.reduceAdd]
    exact ⟨_, _, _, _, _, _, rfl, by first | exact (En.of f1).to | exact En.nil _, by first | exact (En.of f2).to | exact En.nil _⟩
theorem lesser_set {h0 h : PH} [Le h0 h] {v w : Value} {a b c d : Option Rat} (hs : Sn h0 v (.i a b)) (ht : Sn h0 w (.i c d)) (ls : (NS.i a b).le (2 ^ 30)) (lt : (NS.i c d).le (2 ^ 30)) :
    Spec mach 61 #[v, w] h (fun v h' => Sn h' v (NS.lesser (.i a b) (.i c d))) NP := by
  obtain ⟨b1, a1, m1, c1, a2, m2, c2, b2, a3, m3, c3, a4, m4, c4, rfl, h1, h2⟩ := hs.ie
  obtain ⟨b1', a1', m1', c1', a2', m2', c2', b2', a3', m3', c3', a4', m4', c4', rfl, h3, h4⟩ := ht.ie
  rw [NS.le_i] at ls lt
  cases a <;> cases c <;> cases b <;> cases d <;>
  · dsimp only [Option.isNone]
    refine Spec.go [] Tryz.func61 rfl rfl (by kernel_rfl) fun C _ => ?_
    try simp (maxSteps := 999999) (disch := omega) only [go_sem, Nat.reduceBEq, Nat.reduceAdd]
    try (refine caN (by exact least_spec h1.num h3.num (up36 (ls.1 _ rfl)) (up36 (lt.1 _ rfl))) ?_; rintro _ g1 _ f1; obtain ⟨_, _, _, _, _, _, _, rfl, f1⟩ := f1.sa; (try simp (maxSteps := 999999) (disch := omega) only [go_sem, Nat.reduceBEq, Nat.reduceAdd]))
    try (refine caN (by exact least_spec h2.num h4.num (up36 (ls.2 _ rfl)) (up36 (lt.2 _ rfl))) ?_; rintro _ g2 _ f2; obtain ⟨_, _, _, _, _, _, _, rfl, f2⟩ := f2.sa; (try simp (maxSteps := 999999) (disch := omega) only [go_sem, Nat.reduceBEq, Nat.reduceAdd]))
    try simp (maxSteps := 999999) (disch := omega) only [go_sem, Nat.reduceBEq, Nat.reduceAdd]
    exact ⟨_, _, _, _, _, _, rfl, by first | exact (En.of f1).to | exact En.nil _, by first | exact (En.of f2).to | exact h4.to | exact h2.to⟩
theorem joined_e1 {h0 h : PH} [Le h0 h] {v w : Value} {y : NS} (hs : Sn h0 v .e) (ht : Sn h0 w y) : Spec mach 29 #[v, w] h (fun v h' => Sn h' v y) NP := by
  obtain ⟨b1, a1, m1, c1, a2, m2, c2, b2, a3, m3, c3, a4, m4, c4, l, u, rfl, h1, h2⟩ := hs.ee
  obtain ⟨b1', a1', m1', c1', a2', m2', c2', b2', a3', m3', c3', a4', m4', c4', l', u', rfl, ht⟩ := ht.sa
  refine Spec.go [] Tryz.func29 rfl rfl (by kernel_rfl) fun C _ => ?_
  try simp (maxSteps := 999999) (disch := omega) only [go_sem, Nat.reduceBEq, Nat.reduceAdd]
  exact ht.to
theorem joined_e2 {h0 h : PH} [Le h0 h] {v w : Value} {a b : Option Rat} (hs : Sn h0 v (.i a b)) (ht : Sn h0 w .e) : Spec mach 29 #[v, w] h (fun v h' => Sn h' v (.i a b)) NP := by
  obtain ⟨b1, a1, m1, c1, a2, m2, c2, b2, a3, m3, c3, a4, m4, c4, l, u, rfl, hs⟩ := hs.sa
  obtain ⟨b1', a1', m1', c1', a2', m2', c2', b2', a3', m3', c3', a4', m4', c4', l', u', rfl, h3, h4⟩ := ht.ee
  dsimp only [NS.void] at hs ⊢
  refine Spec.go [] Tryz.func29 rfl rfl (by kernel_rfl) fun C _ => ?_
  try simp (maxSteps := 999999) (disch := omega) only [go_sem, Nat.reduceBEq, Nat.reduceAdd]
  exact hs.to
theorem lesser_e1 {h0 h : PH} [Le h0 h] {v w : Value} {y : NS} (hs : Sn h0 v .e) (ht : Sn h0 w y) : Spec mach 61 #[v, w] h (fun v h' => Sn h' v .e) NP := by
  obtain ⟨b1, a1, m1, c1, a2, m2, c2, b2, a3, m3, c3, a4, m4, c4, l, u, rfl, h1, h2⟩ := hs.ee
  obtain ⟨b1', a1', m1', c1', a2', m2', c2', b2', a3', m3', c3', a4', m4', c4', l', u', rfl, ht⟩ := ht.sa
  refine Spec.go [] Tryz.func61 rfl rfl (by kernel_rfl) fun C _ => ?_
  try simp (maxSteps := 999999) (disch := omega) only [go_sem, Nat.reduceBEq, Nat.reduceAdd]
  exact ⟨_, _, _, _, _, _, _, _, rfl, En.nil _, En.nil _⟩
theorem lesser_e2 {h0 h : PH} [Le h0 h] {v w : Value} {a b : Option Rat} (hs : Sn h0 v (.i a b)) (ht : Sn h0 w .e) : Spec mach 61 #[v, w] h (fun v h' => Sn h' v .e) NP := by
  obtain ⟨b1, a1, m1, c1, a2, m2, c2, b2, a3, m3, c3, a4, m4, c4, l, u, rfl, hs⟩ := hs.sa
  obtain ⟨b1', a1', m1', c1', a2', m2', c2', b2', a3', m3', c3', a4', m4', c4', l', u', rfl, h3, h4⟩ := ht.ee
  dsimp only [NS.void] at hs ⊢
  refine Spec.go [] Tryz.func61 rfl rfl (by kernel_rfl) fun C _ => ?_
  try simp (maxSteps := 999999) (disch := omega) only [go_sem, Nat.reduceBEq, Nat.reduceAdd]
  exact ⟨_, _, _, _, _, _, _, _, rfl, En.nil _, En.nil _⟩
theorem Joined_set {h0 h : PH} [Le h0 h] {v w : Value} {x y : NS} (hs : Sn h0 v x) (ht : Sn h0 w y) (ls : x.le (2 ^ 30)) (lt : y.le (2 ^ 30)) : Spec mach 29 #[v, w] h (fun v h' => Sn h' v (x.joined y)) NP := by
  cases x with
  | e => exact joined_e1 hs ht
  | i a b => cases y with
    | e => exact joined_e2 hs ht
    | i c d => exact joined_set hs ht ls lt
theorem Lesser_set {h0 h : PH} [Le h0 h] {v w : Value} {x y : NS} (hs : Sn h0 v x) (ht : Sn h0 w y) (ls : x.le (2 ^ 30)) (lt : y.le (2 ^ 30)) : Spec mach 61 #[v, w] h (fun v h' => Sn h' v (x.lesser y)) NP := by
  cases x with
  | e => exact lesser_e1 hs ht
  | i a b => cases y with
    | e => exact lesser_e2 hs ht
    | i c d => exact lesser_set hs ht ls lt
end Go.Q
namespace Go.Q
open Go.Proofs
set_option maxRecDepth 100000
set_option maxHeartbeats 4000000
theorem Le.tr {a b c : PH} (x : Le a b) (y : Le b c) : Le a c := ⟨x.sub.trans y.sub⟩
theorem at_row {h : PH} {b : Nat} {cs : List Value} (hb : h b = some cs.toArray) (j : Nat) (v : Value) (hj : cs[j]? = some v) : h.at ⟨b, j, none⟩ = some v := by
  simp [PH.at, hb, hj]
theorem at_rowA {h : PH} {b : Nat} {cs : List Value} (hb : h b = some cs.toArray) (j : Nat) (v : Value) (hj : cs[j]? = some v) : h.at ((⟨b, 0, none⟩ : Addr).add j) = some v := by
  cases j <;> simp [PH.at, Addr.add, hb, hj]
theorem at_one {h : PH} {b : Nat} {v : Value} (hb : h b = some #[v]) : h.at ⟨b, 0, none⟩ = some v := by
  simp [PH.at, hb]
def zIv : Value := .agg #[.bool false, .slice none 0 0, .slice none 0 0, .bool false, .slice none 0 0, .slice none 0 0, .bool false, .bool false]
theorem Cv.sa {h : PH} {v : Value} {x : NS} (r : Cv h v x) : ∃ b1 a1 m1 c1 a2 m2 c2 b2 a3 m3 c3 a4 m4 c4 l u, v = .agg #[.bool b1, .slice a1 m1 c1, .slice a2 m2 c2, .bool b2, .slice a3 m3 c3, .slice a4 m4 c4, .bool l, .bool u] ∧
    Cv h (.agg #[.bool b1, .slice a1 m1 c1, .slice a2 m2 c2, .bool b2, .slice a3 m3 c3, .slice a4 m4 c4, .bool l, .bool u]) x := by
  have r0 := r
  obtain ⟨b1, x1, y1, b2, x2, y2, rfl, h1, h2⟩ := r
  obtain ⟨_, _, _, _, _, _, _, e1, _⟩ := h1.sa
  obtain ⟨_, _, _, _, _, _, _, e2, _⟩ := h2.sa
  simp only [Value.agg.injEq, Array.mk.injEq, List.cons.injEq, and_true] at e1 e2
  obtain ⟨_, rfl, rfl⟩ := e1
  obtain ⟨_, rfl, rfl⟩ := e2
  exact ⟨_, _, _, _, _, _, _, _, _, _, _, _, _, _, _, _, rfl, r0⟩
theorem Cv.eight {h : PH} {v : Value} {x : NS} (r : Cv h v x) : ∃ r0 r1 r2 r3 r4 r5 r6 r7, v = .agg #[r0, r1, r2, r3, r4, r5, r6, r7] ∧ [r0, r1, r2, r3, r4, r5, r6, r7].all Value.oneCell' = true := by
  obtain ⟨_, _, _, _, _, _, _, _, _, _, _, _, _, _, _, _, rfl, _⟩ := r.sa
  exact ⟨_, _, _, _, _, _, _, _, rfl, rfl⟩
def Ir (h : PH) (r : Value) : Out → Prop
  | .error e => r = .tuple #[zIv, .int .i64 e]
  | .ok x => ∃ u, r = .tuple #[u, .int .i64 0] ∧ Cv h u x
theorem Ir.to {h h' : PH} {r : Value} {o : Out} (k : Ir h r o) [Le h h'] : Ir h' r o := by
  cases o with
  | error e => exact k
  | ok x => obtain ⟨u, e, c⟩ := k; exact ⟨u, e, c.to⟩
theorem Ir.sa {h : PH} {r : Value} {o : Out} (k : Ir h r o) : ∃ b1 a1 m1 c1 a2 m2 c2 b2 a3 m3 c3 a4 m4 c4 l u e, r = .tuple #[.agg #[.bool b1, .slice a1 m1 c1, .slice a2 m2 c2, .bool b2, .slice a3 m3 c3, .slice a4 m4 c4, .bool l, .bool u], .int .i64 e] ∧
    Ir h (.tuple #[.agg #[.bool b1, .slice a1 m1 c1, .slice a2 m2 c2, .bool b2, .slice a3 m3 c3, .slice a4 m4 c4, .bool l, .bool u], .int .i64 e]) o := by
  cases o with
  | error e => cases (k : r = _); exact ⟨_, _, _, _, _, _, _, _, _, _, _, _, _, _, _, _, _, rfl, rfl⟩
  | ok x =>
    obtain ⟨u, rfl, c⟩ := k
    obtain ⟨_, _, _, _, _, _, _, _, _, _, _, _, _, _, _, _, rfl, c⟩ := c.sa
    exact ⟨_, _, _, _, _, _, _, _, _, _, _, _, _, _, _, _, _, rfl, _, rfl, c⟩
theorem Sd.sa {h : PH} {v : Value} {x : NS} (r : Sd h v x) : ∃ b1 a1 m1 c1 a2 m2 c2 b2 a3 m3 c3 a4 m4 c4 l u, v = .agg #[.bool b1, .slice a1 m1 c1, .slice a2 m2 c2, .bool b2, .slice a3 m3 c3, .slice a4 m4 c4, .bool l, .bool u, .bool x.void] ∧
    Sd h (.agg #[.bool b1, .slice a1 m1 c1, .slice a2 m2 c2, .bool b2, .slice a3 m3 c3, .slice a4 m4 c4, .bool l, .bool u, .bool x.void]) x := by
  cases x with
  | e => obtain ⟨_, _, _, _, _, _, _, _, _, _, _, _, _, _, p, q, rfl, h1, h2, k⟩ := r.ee; exact ⟨_, _, _, _, _, _, _, _, _, _, _, _, _, _, _, _, rfl, _, _, _, _, _, _, p, q, rfl, h1, h2, k⟩
  | i a b => obtain ⟨_, _, _, _, _, _, _, _, _, _, _, _, _, _, rfl, h1, h2⟩ := Sn.ie r; exact ⟨_, _, _, _, _, _, _, _, _, _, _, _, _, _, _, _, rfl, _, _, _, _, _, _, rfl, h1, h2⟩
def Does (f : FuncId) (args : Array Value) (h : PH) : Out → Prop
  | .ok x => Spec mach f args h (fun v h' => Sn h' v x) NP
  | .error e => Spec mach f args h NR (fail e)
def Gives (f : FuncId) (args : Array Value) (h : PH) : Out → Prop
  | .ok x => Spec mach f args h (fun v h' => Cv h' v x) NP
  | .error e => Spec mach f args h NR (fail e)
theorem Does.ok {f : FuncId} {args : Array Value} {h : PH} {x : NS} (d : Does f args h (.ok x)) : Spec mach f args h (fun v h' => Sn h' v x) NP := d
theorem Does.err {f : FuncId} {args : Array Value} {h : PH} {e : Int} (d : Does f args h (.error e)) : Spec mach f args h NR (fail e) := d
def RI.fin (x : RI) (o : Out) : Out := bif x.big then .error 1 else o.fin
def RI.fin2 (x y : RI) (o : Out) : Out := bif x.big || y.big then .error 1 else o.fin
theorem try_any {h : PH} {f : FuncId} {cap : Array Value} {o : Out} (g : Gives f cap h o) : Spec mach 75 #[.func (.func f) #[] cap] h (fun r h' => Ir h' r o) NP := by
  cases o with
  | ok x => exact tryIv_ok g (fun v h' _ r => ⟨r.eight, v, rfl, r⟩)
  | error e => exact tryIv_fail g (fun _ _ => rfl)
theorem unary1_spec {h0 h : PH} [Le h0 h] {v : Value} {x : RI} {f : FuncId} {cap : Array Value} {b1 b2 : Nat} {cs : List Value} {o : Out} (hv : Iv h0 v x) (hb1 : h b1 = some #[.func (.func f) #[] cap]) (hc : v = .agg cs.toArray) (hl : cs.length = 8) (hb2 : h b2 = some cs.toArray)
    (hd : x.big = false → ∀ (h' : PH) [Le h h'] (s : Value), Sd h' s x.set → Does f (s :: cap.toList).toArray h' o) :
    Gives 108 #[.pointer (some ⟨b1, 0, none⟩), .pointer (some ⟨b2, 0, none⟩)] h (x.fin o) := by
  subst hc
  unfold RI.fin
  cases g : x.big with
  | true =>
    refine Spec.go [] Tryz.func108 rfl rfl (by kernel_rfl) fun C _ => ?_
    try simp (maxSteps := 999999) (disch := omega) only [go_sem, Nat.reduceBEq, Nat.reduceAdd]
    refine ld1_of (at_one hb1) ?_
    try simp (maxSteps := 999999) (disch := omega) only [go_sem, Nat.reduceBEq, Nat.reduceAdd]
    refine ldm_of cs hl (at_rowA hb2) ?_
    try simp (maxSteps := 999999) (disch := omega) only [go_sem, Nat.reduceBEq, Nat.reduceAdd]
    exact caF (by exact Read_fail' hv g) (fun _ _ h => h)
  | false =>
    have hd := hd g
    dsimp only [cond_false]
    cases o with
    | error e =>
      refine Spec.go [] Tryz.func108 rfl rfl (by kernel_rfl) fun C _ => ?_
      try simp (maxSteps := 999999) (disch := omega) only [go_sem, Nat.reduceBEq, Nat.reduceAdd]
      refine ld1_of (at_one hb1) ?_
      try simp (maxSteps := 999999) (disch := omega) only [go_sem, Nat.reduceBEq, Nat.reduceAdd]
      refine ldm_of cs hl (at_rowA hb2) ?_
      try simp (maxSteps := 999999) (disch := omega) only [go_sem, Nat.reduceBEq, Nat.reduceAdd]
      refine caN (by exact Read_set hv g) ?_; rintro s1 h1 st1 hs1
      try simp (maxSteps := 999999) (disch := omega) only [go_sem, Nat.reduceBEq, Nat.reduceAdd]
      exact caF (by exact (hd _ s1 hs1).err) (fun _ _ h => h)
    | ok y =>
      dsimp only [Out.fin]
      by_cases hy : y.le 2048
      · rw [decide_eq_true hy, cond_true]
        refine Spec.go [] Tryz.func108 rfl rfl (by kernel_rfl) fun C _ => ?_
        try simp (maxSteps := 999999) (disch := omega) only [go_sem, Nat.reduceBEq, Nat.reduceAdd]
        refine ld1_of (at_one hb1) ?_
        try simp (maxSteps := 999999) (disch := omega) only [go_sem, Nat.reduceBEq, Nat.reduceAdd]
        refine ldm_of cs hl (at_rowA hb2) ?_
        try simp (maxSteps := 999999) (disch := omega) only [go_sem, Nat.reduceBEq, Nat.reduceAdd]
        refine caN (by exact Read_set hv g) ?_; rintro s1 h1 st1 hs1
        try simp (maxSteps := 999999) (disch := omega) only [go_sem, Nat.reduceBEq, Nat.reduceAdd]
        refine caN (by exact (hd _ s1 hs1).ok) ?_; rintro s2 h2 st2 hs2
        try simp (maxSteps := 999999) (disch := omega) only [go_sem, Nat.reduceBEq, Nat.reduceAdd]
        refine caN (by exact Give_set hs2 hy) ?_; rintro v3 h3 st3 hv3; obtain ⟨_, _, _, _, _, _, _, _, _, _, _, _, _, _, _, _, rfl, hv3⟩ := hv3.sa
        try simp (maxSteps := 999999) (disch := omega) only [go_sem, Nat.reduceBEq, Nat.reduceAdd]
        exact hv3
      · rw [decide_eq_false hy, cond_false]
        refine Spec.go [] Tryz.func108 rfl rfl (by kernel_rfl) fun C _ => ?_
        try simp (maxSteps := 999999) (disch := omega) only [go_sem, Nat.reduceBEq, Nat.reduceAdd]
        refine ld1_of (at_one hb1) ?_
        try simp (maxSteps := 999999) (disch := omega) only [go_sem, Nat.reduceBEq, Nat.reduceAdd]
        refine ldm_of cs hl (at_rowA hb2) ?_
        try simp (maxSteps := 999999) (disch := omega) only [go_sem, Nat.reduceBEq, Nat.reduceAdd]
        refine caN (by exact Read_set hv g) ?_; rintro s1 h1 st1 hs1
        try simp (maxSteps := 999999) (disch := omega) only [go_sem, Nat.reduceBEq, Nat.reduceAdd]
        refine caN (by exact (hd _ s1 hs1).ok) ?_; rintro s2 h2 st2 hs2
        try simp (maxSteps := 999999) (disch := omega) only [go_sem, Nat.reduceBEq, Nat.reduceAdd]
        exact caF (by exact Give_fail hs2 hy) (fun _ _ h => h)
theorem unary_spec {h0 h : PH} [Le h0 h] {v : Value} {x : RI} {f : FuncId} {cap : Array Value} {o : Out} (hv : Iv h0 v x)
    (hd : x.big = false → ∀ (h' : PH) [Le h h'] (s : Value), Sd h' s x.set → Does f (s :: cap.toList).toArray h' o) :
    Spec mach 63 #[v, .func (.func f) #[] cap] h (fun r h' => Ir h' r (x.fin o)) NP := by
  have hv0 := hv
  obtain ⟨a1, m1, c1, a2, m2, c2, a3, m3, c3, a4, m4, c4, rfl, _, _⟩ := hv.sa
  refine Spec.go [(1, .t (.p 0 (.p 1 (.s [0, 1, 2, 3, 4, 5] .d))))] Tryz.func63 rfl rfl (by kernel_rfl) fun C _ => ?_
  try simp (maxSteps := 999999) (disch := omega) only [go_sem, Nat.reduceBEq, Nat.reduceAdd]
  intro b2 h2 st2 hb2
  try simp (maxSteps := 999999) (disch := omega) only [go_sem, Nat.reduceBEq, Nat.reduceAdd]
  intro b1 h1 st1 hb1
  try simp (maxSteps := 999999) (disch := omega) only [go_sem, Nat.reduceBEq, Nat.reduceAdd]
  have hb1 := hb1 (by simp)
  have hb2 := st1.sub _ _ (hb2 (by simp))
  refine caN (by exact try_any (unary1_spec (hv0.to (h' := h1)) hb1 rfl rfl hb2 (fun g h' i s hs => @hd g h' (Le.tr inferInstance i) s hs))) ?_; rintro r3 h3 st3 hr3; obtain ⟨_, _, _, _, _, _, _, _, _, _, _, _, _, _, _, _, _, rfl, hr3⟩ := hr3.sa
  try simp (maxSteps := 999999) (disch := omega) only [go_sem, Nat.reduceBEq, Nat.reduceAdd]
  exact hr3
theorem exact1_spec {h0 h : PH} [Le h0 h] {v w : Value} {x y : RI} {f : FuncId} {cap : Array Value} {b1 b2 b3 : Nat} {cs ds : List Value} {o : Out} (hv : Iv h0 v x) (hw : Iv h0 w y) (hc : v = .agg cs.toArray) (hl : cs.length = 8) (hb1 : h b1 = some cs.toArray) (hb2 : h b2 = some #[.func (.func f) #[] cap]) (hc' : w = .agg ds.toArray) (hl' : ds.length = 8) (hb3 : h b3 = some ds.toArray)
    (hd : x.big = false → y.big = false → ∀ (h' : PH) [Le h h'] (s t : Value), Sd h' s x.set → Sd h' t y.set → Does f (s :: t :: cap.toList).toArray h' o) :
    Gives 76 #[.pointer (some ⟨b1, 0, none⟩), .pointer (some ⟨b2, 0, none⟩), .pointer (some ⟨b3, 0, none⟩)] h (x.fin2 y o) := by
  subst hc
  subst hc'
  unfold RI.fin2
  cases g : x.big with
  | true =>
    refine Spec.go [] Tryz.func76 rfl rfl (by kernel_rfl) fun C _ => ?_
    try simp (maxSteps := 999999) (disch := omega) only [go_sem, Nat.reduceBEq, Nat.reduceAdd]
    refine ldm_of cs hl (at_rowA hb1) ?_
    try simp (maxSteps := 999999) (disch := omega) only [go_sem, Nat.reduceBEq, Nat.reduceAdd]
    exact caF (by exact Read_fail' hv g) (fun _ _ h => h)
  | false =>
    cases g' : y.big with
    | true =>
      refine Spec.go [] Tryz.func76 rfl rfl (by kernel_rfl) fun C _ => ?_
      try simp (maxSteps := 999999) (disch := omega) only [go_sem, Nat.reduceBEq, Nat.reduceAdd]
      refine ldm_of cs hl (at_rowA hb1) ?_
      try simp (maxSteps := 999999) (disch := omega) only [go_sem, Nat.reduceBEq, Nat.reduceAdd]
      refine caN (by exact Read_set hv g) ?_; rintro s1 h1 st1 hs1; obtain ⟨_, _, _, _, _, _, _, _, _, _, _, _, _, _, _, _, rfl, hs1⟩ := hs1.sa
      try simp (maxSteps := 999999) (disch := omega) only [go_sem, Nat.reduceBEq, Nat.reduceAdd]
      refine ld1_of (at_one (st1.sub _ _ hb2)) ?_
      try simp (maxSteps := 999999) (disch := omega) only [go_sem, Nat.reduceBEq, Nat.reduceAdd]
      refine ldm_of ds hl' (at_rowA (st1.sub _ _ hb3)) ?_
      try simp (maxSteps := 999999) (disch := omega) only [go_sem, Nat.reduceBEq, Nat.reduceAdd]
      exact caF (by exact Read_fail' hw g') (fun _ _ h => h)
    | false =>
      have hd := hd g g'
      show Gives _ _ _ o.fin
      cases o with
      | error e =>
        refine Spec.go [] Tryz.func76 rfl rfl (by kernel_rfl) fun C _ => ?_
        try simp (maxSteps := 999999) (disch := omega) only [go_sem, Nat.reduceBEq, Nat.reduceAdd]
        refine ldm_of cs hl (at_rowA hb1) ?_
        try simp (maxSteps := 999999) (disch := omega) only [go_sem, Nat.reduceBEq, Nat.reduceAdd]
        refine caN (by exact Read_set hv g) ?_; rintro s1 h1 st1 hs1; obtain ⟨_, _, _, _, _, _, _, _, _, _, _, _, _, _, _, _, rfl, hs1⟩ := hs1.sa
        try simp (maxSteps := 999999) (disch := omega) only [go_sem, Nat.reduceBEq, Nat.reduceAdd]
        refine ld1_of (at_one (st1.sub _ _ hb2)) ?_
        try simp (maxSteps := 999999) (disch := omega) only [go_sem, Nat.reduceBEq, Nat.reduceAdd]
        refine ldm_of ds hl' (at_rowA (st1.sub _ _ hb3)) ?_
        try simp (maxSteps := 999999) (disch := omega) only [go_sem, Nat.reduceBEq, Nat.reduceAdd]
        refine caN (by exact Read_set hw g') ?_; rintro s2 h2 st2 hs2
        try simp (maxSteps := 999999) (disch := omega) only [go_sem, Nat.reduceBEq, Nat.reduceAdd]
        exact caF (by exact (hd _ _ s2 hs1.to hs2).err) (fun _ _ h => h)
      | ok z =>
        dsimp only [Out.fin]
        by_cases hy : z.le 2048
        · rw [decide_eq_true hy, cond_true]
          refine Spec.go [] Tryz.func76 rfl rfl (by kernel_rfl) fun C _ => ?_
          try simp (maxSteps := 999999) (disch := omega) only [go_sem, Nat.reduceBEq, Nat.reduceAdd]
          refine ldm_of cs hl (at_rowA hb1) ?_
          try simp (maxSteps := 999999) (disch := omega) only [go_sem, Nat.reduceBEq, Nat.reduceAdd]
          refine caN (by exact Read_set hv g) ?_; rintro s1 h1 st1 hs1; obtain ⟨_, _, _, _, _, _, _, _, _, _, _, _, _, _, _, _, rfl, hs1⟩ := hs1.sa
          try simp (maxSteps := 999999) (disch := omega) only [go_sem, Nat.reduceBEq, Nat.reduceAdd]
          refine ld1_of (at_one (st1.sub _ _ hb2)) ?_
          try simp (maxSteps := 999999) (disch := omega) only [go_sem, Nat.reduceBEq, Nat.reduceAdd]
          refine ldm_of ds hl' (at_rowA (st1.sub _ _ hb3)) ?_
          try simp (maxSteps := 999999) (disch := omega) only [go_sem, Nat.reduceBEq, Nat.reduceAdd]
          refine caN (by exact Read_set hw g') ?_; rintro s2 h2 st2 hs2
          try simp (maxSteps := 999999) (disch := omega) only [go_sem, Nat.reduceBEq, Nat.reduceAdd]
          refine caN (by exact (hd _ _ s2 hs1.to hs2).ok) ?_; rintro s3 h3 st3 hs3
          try simp (maxSteps := 999999) (disch := omega) only [go_sem, Nat.reduceBEq, Nat.reduceAdd]
          refine caN (by exact Give_set hs3 hy) ?_; rintro v4 h4 st4 hv4; obtain ⟨_, _, _, _, _, _, _, _, _, _, _, _, _, _, _, _, rfl, hv4⟩ := hv4.sa
          try simp (maxSteps := 999999) (disch := omega) only [go_sem, Nat.reduceBEq, Nat.reduceAdd]
          exact hv4
        · rw [decide_eq_false hy, cond_false]
          refine Spec.go [] Tryz.func76 rfl rfl (by kernel_rfl) fun C _ => ?_
          try simp (maxSteps := 999999) (disch := omega) only [go_sem, Nat.reduceBEq, Nat.reduceAdd]
          refine ldm_of cs hl (at_rowA hb1) ?_
          try simp (maxSteps := 999999) (disch := omega) only [go_sem, Nat.reduceBEq, Nat.reduceAdd]
          refine caN (by exact Read_set hv g) ?_; rintro s1 h1 st1 hs1; obtain ⟨_, _, _, _, _, _, _, _, _, _, _, _, _, _, _, _, rfl, hs1⟩ := hs1.sa
          try simp (maxSteps := 999999) (disch := omega) only [go_sem, Nat.reduceBEq, Nat.reduceAdd]
          refine ld1_of (at_one (st1.sub _ _ hb2)) ?_
          try simp (maxSteps := 999999) (disch := omega) only [go_sem, Nat.reduceBEq, Nat.reduceAdd]
          refine ldm_of ds hl' (at_rowA (st1.sub _ _ hb3)) ?_
          try simp (maxSteps := 999999) (disch := omega) only [go_sem, Nat.reduceBEq, Nat.reduceAdd]
          refine caN (by exact Read_set hw g') ?_; rintro s2 h2 st2 hs2
          try simp (maxSteps := 999999) (disch := omega) only [go_sem, Nat.reduceBEq, Nat.reduceAdd]
          refine caN (by exact (hd _ _ s2 hs1.to hs2).ok) ?_; rintro s3 h3 st3 hs3
          try simp (maxSteps := 999999) (disch := omega) only [go_sem, Nat.reduceBEq, Nat.reduceAdd]
          exact caF (by exact Give_fail hs3 hy) (fun _ _ h => h)
theorem exact_spec {h0 h : PH} [Le h0 h] {v w : Value} {x y : RI} {f : FuncId} {cap : Array Value} {o : Out} (hv : Iv h0 v x) (hw : Iv h0 w y)
    (hd : x.big = false → y.big = false → ∀ (h' : PH) [Le h h'] (s t : Value), Sd h' s x.set → Sd h' t y.set → Does f (s :: t :: cap.toList).toArray h' o) :
    Spec mach 28 #[v, w, .func (.func f) #[] cap] h (fun r h' => Ir h' r (x.fin2 y o)) NP := by
  have hv0 := hv
  have hw0 := hw
  obtain ⟨a1, m1, c1, a2, m2, c2, a3, m3, c3, a4, m4, c4, rfl, _, _⟩ := hv.sa
  obtain ⟨a1', m1', c1', a2', m2', c2', a3', m3', c3', a4', m4', c4', rfl, _, _⟩ := hw.sa
  refine Spec.go [(1, .t (.p 0 (.p 1 (.p 2 (.s [0, 1, 2, 3, 4, 5] .d)))))] Tryz.func28 rfl rfl (by kernel_rfl) fun C _ => ?_
  try simp (maxSteps := 999999) (disch := omega) only [go_sem, Nat.reduceBEq, Nat.reduceAdd]
  intro b1 h1 st1 hb1
  try simp (maxSteps := 999999) (disch := omega) only [go_sem, Nat.reduceBEq, Nat.reduceAdd]
  intro b3 h2 st2 hb3
  try simp (maxSteps := 999999) (disch := omega) only [go_sem, Nat.reduceBEq, Nat.reduceAdd]
  intro b2 h3 st3 hb2
  try simp (maxSteps := 999999) (disch := omega) only [go_sem, Nat.reduceBEq, Nat.reduceAdd]
  have hb2 := hb2 (by simp)
  have hb3 := st3.sub _ _ (hb3 (by simp))
  have hb1 := st3.sub _ _ (st2.sub _ _ (hb1 (by simp)))
  refine caN (by exact try_any (exact1_spec (hv0.to (h' := h3)) (hw0.to (h' := h3)) rfl rfl hb1 hb2 rfl rfl hb3 (fun g g' h' i s t hs ht => @hd g g' h' (Le.tr inferInstance i) s t hs ht))) ?_; rintro r4 h4 st4 hr4; obtain ⟨_, _, _, _, _, _, _, _, _, _, _, _, _, _, _, _, _, rfl, hr4⟩ := hr4.sa
  try simp (maxSteps := 999999) (disch := omega) only [go_sem, Nat.reduceBEq, Nat.reduceAdd]
  exact hr4
end Go.Q
namespace Go.Q
open Go.Proofs
set_option maxRecDepth 100000
set_option maxHeartbeats 4000000
def bad (p : Int) : Bool := decide (p < 0) || decide (128 < p)
theorem bad_no {p : Int} (h : bad p = false) : 0 ≤ p ∧ p ≤ 128 := by
  unfold bad at h
  simp only [Bool.or_eq_false_iff, decide_eq_false_iff_not] at h
  omega
theorem bad_yes {p : Int} (h : bad p = true) : p < 0 ∨ 128 < p := by
  unfold bad at h
  simpa using h
def Out.prec (p : Int) (o : Out) : Out := bif bad p then .error 2 else o
theorem NS.le30 {x : NS} (h : x.le 2048) : x.le (2 ^ 30) := h.up (by decide)
theorem RI.le30 {x : RI} (h : x.big = false) : x.set.le (2 ^ 30) := NS.le30 (RI.le h)
theorem Hull_p {h0 h : PH} [Le h0 h] {v : Value} {x : NS} {p : Int} (hv : Sn h0 v x) (hf : x.le (2 ^ 30)) (hp : 0 ≤ p ∧ p ≤ 128) :
    Spec mach 67 #[v, .int .i64 p] h (fun v h' => Sn h' v (x.hull p.toNat)) NP := by
  have := Hull_set (h := h) (p := p.toNat) hv hf (by omega)
  rwa [show ((p.toNat : Nat) : Int) = p by omega] at this
theorem Does.mk {f : FuncId} {args : Array Value} {h : PH} {x : NS} (s : Spec mach f args h (fun v h' => Sn h' v x) NP) : Does f args h (.ok x) := s
theorem Canon1 {h0 h : PH} [Le h0 h] {s : Value} {x : NS} (hs : Sd h0 s x) : Does 97 #[s] h (.ok x) := by
  obtain ⟨_, _, _, _, _, _, _, _, _, _, _, _, _, _, _, _, rfl, hs⟩ := hs.sa
  refine Spec.go [] Tryz.func97 rfl rfl (by kernel_rfl) fun C _ => ?_
  try simp (maxSteps := 999999) (disch := omega) only [go_sem, Nat.reduceBEq, Nat.reduceAdd]
  exact hs.sn.to
theorem Canon_spec {h0 h : PH} [Le h0 h] {v : Value} {x : RI} (hv : Iv h0 v x) : Spec mach 41 #[v] h (fun r h' => Ir h' r (x.fin (.ok x.set))) NP := by
  have hv0 := hv
  obtain ⟨a1, m1, c1, a2, m2, c2, a3, m3, c3, a4, m4, c4, rfl, _, _⟩ := hv.sa
  refine Spec.go [] Tryz.func41 rfl rfl (by kernel_rfl) fun C _ => ?_
  try simp (maxSteps := 999999) (disch := omega) only [go_sem, Nat.reduceBEq, Nat.reduceAdd]
  refine caN (by exact unary_spec hv0 (fun _ h' _ s hs => Canon1 hs)) ?_; rintro r3 h3 st3 hr3; obtain ⟨_, _, _, _, _, _, _, _, _, _, _, _, _, _, _, _, _, rfl, hr3⟩ := hr3.sa
  try simp (maxSteps := 999999) (disch := omega) only [go_sem, Nat.reduceBEq, Nat.reduceAdd]
  exact hr3
theorem Iv.mk {h : PH} {b b' : Bool} {x y x' y' : Value} {n1 n2 : Bool} {a1 d1 a2 d2 : Nat} (hv : Rw h (.agg #[.bool b, x, y]) n1 a1 d1) (hw : Rw h (.agg #[.bool b', x', y']) n2 a2 d2) (l u : Bool) : Iv h (.agg #[.bool b, x, y, .bool b', x', y', .bool l, .bool u]) ⟨n1, a1, d1, n2, a2, d2, l, u⟩ := by
  have e1 := hv
  have e2 := hw
  obtain ⟨_, _, _, _, _, _, e1, _⟩ := e1
  obtain ⟨_, _, _, _, _, _, e2, _⟩ := e2
  simp only [Value.agg.injEq, Array.mk.injEq, List.cons.injEq, and_true, Value.bool.injEq] at e1 e2
  obtain ⟨rfl, _, _⟩ := e1
  obtain ⟨rfl, _, _⟩ := e2
  exact ⟨_, _, _, _, rfl, hv, hw⟩
theorem Between_spec {h0 h : PH} [Le h0 h] {v w : Value} {n1 n2 : Bool} {a1 d1 a2 d2 : Nat} (hv : Rw h0 v n1 a1 d1) (hw : Rw h0 w n2 a2 d2) :
    Spec mach 13 #[v, w] h (fun r h' => Ir h' r (RI.fin ⟨n1, a1, d1, n2, a2, d2, false, false⟩ (.ok (RI.set ⟨n1, a1, d1, n2, a2, d2, false, false⟩)))) NP := by
  obtain ⟨_, _, _, _, _, _, _, rfl, hv⟩ := hv.sa
  obtain ⟨_, _, _, _, _, _, _, rfl, hw⟩ := hw.sa
  refine Spec.go [] Tryz.func13 rfl rfl (by kernel_rfl) fun C _ => ?_
  try simp (maxSteps := 999999) (disch := omega) only [go_sem, Nat.reduceBEq, Nat.reduceAdd]
  refine caN (by exact Canon_spec (Iv.mk hv hw false false)) ?_; rintro _ h3 _ hr3; obtain ⟨_, _, _, _, _, _, _, _, _, _, _, _, _, _, _, _, _, rfl, hr3⟩ := hr3.sa
  try simp (maxSteps := 999999) (disch := omega) only [go_sem, Nat.reduceBEq, Nat.reduceAdd]
  exact hr3
theorem Min_spec {h0 h : PH} [Le h0 h] {v w : Value} {x y : RI} (hv : Iv h0 v x) (hw : Iv h0 w y) : Spec mach 23 #[v, w] h (fun r h' => Ir h' r (x.fin2 y (.ok (x.set.lesser y.set)))) NP := by
  have hv0 := hv
  have hw0 := hw
  obtain ⟨a1, m1, c1, a2, m2, c2, a3, m3, c3, a4, m4, c4, rfl, _, _⟩ := hv.sa
  obtain ⟨a1', m1', c1', a2', m2', c2', a3', m3', c3', a4', m4', c4', rfl, _, _⟩ := hw.sa
  refine Spec.go [] Tryz.func23 rfl rfl (by kernel_rfl) fun C _ => ?_
  try simp (maxSteps := 999999) (disch := omega) only [go_sem, Nat.reduceBEq, Nat.reduceAdd]
  refine caN (by exact exact_spec hv0 hw0 (fun g g' h' _ s t hs ht => Does.mk (Lesser_set hs.sn ht.sn (RI.le30 g) (RI.le30 g')))) ?_; rintro _ h3 _ hr3; obtain ⟨_, _, _, _, _, _, _, _, _, _, _, _, _, _, _, _, _, rfl, hr3⟩ := hr3.sa
  try simp (maxSteps := 999999) (disch := omega) only [go_sem, Nat.reduceBEq, Nat.reduceAdd]
  exact hr3
theorem NS.le.minus {x : NS} {k : Nat} (h : x.le k) : x.minus.le k := by
  cases x with
  | e => exact h
  | i a b =>
    rw [NS.le_i] at h
    show NS.le k (.i (b.map (-·)) (a.map (-·)))
    rw [NS.le_i]
    refine ⟨fun q e => ?_, fun q e => ?_⟩
    · cases b with
      | none => cases e
      | some b => cases e; rw [sz_neg]; exact h.2 _ rfl
    · cases a with
      | none => cases e
      | some a => cases e; rw [sz_neg]; exact h.1 _ rfl
theorem Max1 {h0 h : PH} [Le h0 h] {s t : Value} {x y : NS} (hs : Sn h0 s x) (ht : Sn h0 t y) (lx : x.le (2 ^ 30)) (ly : y.le (2 ^ 30)) : Spec mach 62 #[s, t] h (fun v h' => Sn h' v (x.minus.lesser y.minus).minus) NP := by
  obtain ⟨_, _, _, _, _, _, _, _, _, _, _, _, _, _, _, _, rfl, hs⟩ := hs.sa
  obtain ⟨_, _, _, _, _, _, _, _, _, _, _, _, _, _, _, _, rfl, ht⟩ := ht.sa
  refine Spec.go [(1, .o [0, 2, 1, 3, 4, 5, 6])] Tryz.func62 rfl rfl (by kernel_rfl) fun C _ => ?_
  try simp (maxSteps := 999999) (disch := omega) only [go_sem, Nat.reduceBEq, Nat.reduceAdd]
  refine caN (by exact Minus_set hs) ?_; rintro v1 h1 st1 hv1
  try simp (maxSteps := 999999) (disch := omega) only [go_sem, Nat.reduceBEq, Nat.reduceAdd]
  refine caN (by exact Minus_set ht) ?_; rintro v2 h2 st2 hv2
  try simp (maxSteps := 999999) (disch := omega) only [go_sem, Nat.reduceBEq, Nat.reduceAdd]
  refine caN (by exact Lesser_set (hv1.to (h' := h2)) hv2 lx.minus ly.minus) ?_; rintro v3 h3 st3 hv3
  try simp (maxSteps := 999999) (disch := omega) only [go_sem, Nat.reduceBEq, Nat.reduceAdd]
  refine caN (by exact Minus_set hv3) ?_; rintro _ h4 _ hv4; obtain ⟨_, _, _, _, _, _, _, _, _, _, _, _, _, _, _, _, rfl, hv4⟩ := hv4.sa
  try simp (maxSteps := 999999) (disch := omega) only [go_sem, Nat.reduceBEq, Nat.reduceAdd]
  exact hv4
theorem Max_spec {h0 h : PH} [Le h0 h] {v w : Value} {x y : RI} (hv : Iv h0 v x) (hw : Iv h0 w y) : Spec mach 24 #[v, w] h (fun r h' => Ir h' r (x.fin2 y (.ok (x.set.minus.lesser y.set.minus).minus))) NP := by
  have hv0 := hv
  have hw0 := hw
  obtain ⟨a1, m1, c1, a2, m2, c2, a3, m3, c3, a4, m4, c4, rfl, _, _⟩ := hv.sa
  obtain ⟨a1', m1', c1', a2', m2', c2', a3', m3', c3', a4', m4', c4', rfl, _, _⟩ := hw.sa
  refine Spec.go [] Tryz.func24 rfl rfl (by kernel_rfl) fun C _ => ?_
  try simp (maxSteps := 999999) (disch := omega) only [go_sem, Nat.reduceBEq, Nat.reduceAdd]
  refine caN (by exact exact_spec hv0 hw0 (fun g g' h' _ s t hs ht => Does.mk (Max1 hs.sn ht.sn (RI.le30 g) (RI.le30 g')))) ?_; rintro _ h3 _ hr3; obtain ⟨_, _, _, _, _, _, _, _, _, _, _, _, _, _, _, _, _, rfl, hr3⟩ := hr3.sa
  try simp (maxSteps := 999999) (disch := omega) only [go_sem, Nat.reduceBEq, Nat.reduceAdd]
  exact hr3
def rnd (p : Int) (x y : NS) (o : Out) : Out := Out.prec p (bif x.void || y.void then .ok .e else match o with | .error e => .error e | .ok z => .ok (z.hull p.toNat))
theorem rounded1_spec {h0 h : PH} [Le h0 h] {s t : Value} {x y : NS} {p : Int} {f : FuncId} {cap : Array Value} {b1 b2 : Nat} {o : Out} (hs : Sd h0 s x) (ht : Sd h0 t y) (hb1 : h b1 = some #[.int .i64 p]) (hb2 : h b2 = some #[.func (.func f) #[] cap])
    (hd : x.void = false → y.void = false → ∀ (h' : PH) [Le h h'] (s t : Value), Sd h' s x → Sd h' t y → Does f (s :: t :: cap.toList).toArray h' o) (hl : ∀ z, o = .ok z → z.le (2 ^ 30)) :
    Does 104 #[s, t, .pointer (some ⟨b1, 0, none⟩), .pointer (some ⟨b2, 0, none⟩)] h (rnd p x y o) := by
  obtain ⟨_, _, _, _, _, _, _, _, _, _, _, _, _, _, _, _, rfl, hs⟩ := hs.sa
  obtain ⟨_, _, _, _, _, _, _, _, _, _, _, _, _, _, _, _, rfl, ht⟩ := ht.sa
  unfold rnd Out.prec
  cases g : bad p with
  | true =>
    show Spec _ _ _ _ NR (fail 2)
    refine Spec.go [(4, .o [0, 1, 2, 4, 3, 5, 6])] Tryz.func104 rfl rfl (by kernel_rfl) fun C _ => ?_
    try simp (maxSteps := 999999) (disch := omega) only [go_sem, Nat.reduceBEq, Nat.reduceAdd]
    refine ld1_of (at_one hb1) ?_
    try simp (maxSteps := 999999) (disch := omega) only [go_sem, Nat.reduceBEq, Nat.reduceAdd]
    exact caF (by exact precise_fail (bad_yes g)) (fun _ _ h => h)
  | false =>
    have hp := bad_no g
    dsimp only [cond_false]
    cases gx : x.void with
    | true =>
      rw [gx] at hs
      show Spec _ _ _ _ _ NP
      refine Spec.go [(4, .o [0, 1, 2, 4, 3, 5, 6])] Tryz.func104 rfl rfl (by kernel_rfl) fun C _ => ?_
      try simp (maxSteps := 999999) (disch := omega) only [go_sem, Nat.reduceBEq, Nat.reduceAdd]
      refine ld1_of (at_one hb1) ?_
      try simp (maxSteps := 999999) (disch := omega) only [go_sem, Nat.reduceBEq, Nat.reduceAdd]
      refine caN (by exact precise_ok hp.1 hp.2) ?_; rintro v1 h1 st1 _
      try simp (maxSteps := 999999) (disch := omega) only [go_sem, Nat.reduceBEq, Nat.reduceAdd]
      exact ⟨_, _, _, _, _, _, _, _, rfl, En.nil _, En.nil _⟩
    | false =>
      rw [gx] at hs
      cases gy : y.void with
      | true =>
        rw [gy] at ht
        show Spec _ _ _ _ _ NP
        refine Spec.go [(4, .o [0, 1, 2, 4, 3, 5, 6])] Tryz.func104 rfl rfl (by kernel_rfl) fun C _ => ?_
        try simp (maxSteps := 999999) (disch := omega) only [go_sem, Nat.reduceBEq, Nat.reduceAdd]
        refine ld1_of (at_one hb1) ?_
        try simp (maxSteps := 999999) (disch := omega) only [go_sem, Nat.reduceBEq, Nat.reduceAdd]
        refine caN (by exact precise_ok hp.1 hp.2) ?_; rintro v1 h1 st1 _
        try simp (maxSteps := 999999) (disch := omega) only [go_sem, Nat.reduceBEq, Nat.reduceAdd]
        exact ⟨_, _, _, _, _, _, _, _, rfl, En.nil _, En.nil _⟩
      | false =>
        rw [gy] at ht
        have hd := hd gx gy
        cases o with
        | error e =>
          show Spec _ _ _ _ NR (fail e)
          refine Spec.go [(4, .o [0, 1, 2, 4, 3, 5, 6])] Tryz.func104 rfl rfl (by kernel_rfl) fun C _ => ?_
          try simp (maxSteps := 999999) (disch := omega) only [go_sem, Nat.reduceBEq, Nat.reduceAdd]
          refine ld1_of (at_one hb1) ?_
          try simp (maxSteps := 999999) (disch := omega) only [go_sem, Nat.reduceBEq, Nat.reduceAdd]
          refine caN (by exact precise_ok hp.1 hp.2) ?_; rintro v1 h1 st1 _
          try simp (maxSteps := 999999) (disch := omega) only [go_sem, Nat.reduceBEq, Nat.reduceAdd]
          refine ld1_of (at_one (st1.sub _ _ hb2)) ?_
          try simp (maxSteps := 999999) (disch := omega) only [go_sem, Nat.reduceBEq, Nat.reduceAdd]
          refine ld1_of (at_one (st1.sub _ _ hb1)) ?_
          try simp (maxSteps := 999999) (disch := omega) only [go_sem, Nat.reduceBEq, Nat.reduceAdd]
          exact caF (by exact (hd _ _ _ hs.to ht.to).err) (fun _ _ h => h)
        | ok z =>
          show Spec _ _ _ _ _ NP
          refine Spec.go [(4, .o [0, 1, 2, 4, 3, 5, 6])] Tryz.func104 rfl rfl (by kernel_rfl) fun C _ => ?_
          try simp (maxSteps := 999999) (disch := omega) only [go_sem, Nat.reduceBEq, Nat.reduceAdd]
          refine ld1_of (at_one hb1) ?_
          try simp (maxSteps := 999999) (disch := omega) only [go_sem, Nat.reduceBEq, Nat.reduceAdd]
          refine caN (by exact precise_ok hp.1 hp.2) ?_; rintro v1 h1 st1 _
          try simp (maxSteps := 999999) (disch := omega) only [go_sem, Nat.reduceBEq, Nat.reduceAdd]
          refine ld1_of (at_one (st1.sub _ _ hb2)) ?_
          try simp (maxSteps := 999999) (disch := omega) only [go_sem, Nat.reduceBEq, Nat.reduceAdd]
          refine ld1_of (at_one (st1.sub _ _ hb1)) ?_
          try simp (maxSteps := 999999) (disch := omega) only [go_sem, Nat.reduceBEq, Nat.reduceAdd]
          refine caN (by exact (hd _ _ _ hs.to ht.to).ok) ?_; rintro v2 h2 st2 hv2
          try simp (maxSteps := 999999) (disch := omega) only [go_sem, Nat.reduceBEq, Nat.reduceAdd]
          refine caN (by exact Hull_p hv2 (hl _ rfl) hp) ?_; rintro _ h3 _ hv3; obtain ⟨_, _, _, _, _, _, _, _, _, _, _, _, _, _, _, _, rfl, hv3⟩ := hv3.sa
          try simp (maxSteps := 999999) (disch := omega) only [go_sem, Nat.reduceBEq, Nat.reduceAdd]
          exact hv3
theorem rounded_spec {h0 h : PH} [Le h0 h] {v w : Value} {x y : RI} {p : Int} {f : FuncId} {cap : Array Value} {o : Out} (hv : Iv h0 v x) (hw : Iv h0 w y)
    (hd : x.big = false → y.big = false → x.set.void = false → y.set.void = false → ∀ (h' : PH) [Le h h'] (s t : Value), Sd h' s x.set → Sd h' t y.set → Does f (s :: t :: cap.toList).toArray h' o) (hl : x.big = false → y.big = false → ∀ z, o = .ok z → z.le (2 ^ 30)) :
    Spec mach 52 #[v, w, .int .i64 p, .func (.func f) #[] cap] h (fun r h' => Ir h' r (x.fin2 y (rnd p x.set y.set o))) NP := by
  have hv0 := hv
  have hw0 := hw
  obtain ⟨a1, m1, c1, a2, m2, c2, a3, m3, c3, a4, m4, c4, rfl, _, _⟩ := hv.sa
  obtain ⟨a1', m1', c1', a2', m2', c2', a3', m3', c3', a4', m4', c4', rfl, _, _⟩ := hw.sa
  refine Spec.go [(1, .t (.p 2 (.p 3 (.s [0, 1, 2, 3, 4, 5, 6, 7] .d))))] Tryz.func52 rfl rfl (by kernel_rfl) fun C _ => ?_
  try simp (maxSteps := 999999) (disch := omega) only [go_sem, Nat.reduceBEq, Nat.reduceAdd]
  intro b1 h1 st1 hb1
  try simp (maxSteps := 999999) (disch := omega) only [go_sem, Nat.reduceBEq, Nat.reduceAdd]
  intro b2 h2 st2 hb2
  try simp (maxSteps := 999999) (disch := omega) only [go_sem, Nat.reduceBEq, Nat.reduceAdd]
  have hb2 := hb2 (by simp)
  have hb1 := st2.sub _ _ (hb1 (by simp))
  refine caN (by exact exact_spec (hv0.to (h' := h2)) (hw0.to (h' := h2)) (fun g g' h' i s t hs ht => rounded1_spec hs ht (i.sub _ _ hb1) (i.sub _ _ hb2) (fun k k' h'' i' s t hs ht => @hd g g' k k' h'' (Le.tr (Le.tr inferInstance i) i') s t hs ht) (hl g g'))) ?_; rintro _ h4 _ hr4; obtain ⟨_, _, _, _, _, _, _, _, _, _, _, _, _, _, _, _, _, rfl, hr4⟩ := hr4.sa
  try simp (maxSteps := 999999) (disch := omega) only [go_sem, Nat.reduceBEq, Nat.reduceAdd]
  exact hr4
end Go.Q
namespace Go.Q
open Go.Proofs
set_option maxRecDepth 100000
set_option maxHeartbeats 4000000
end Go.Q
namespace Go.Q
namespace NS
theorem has_i {a b : Option Rat} {q : Rat} : (NS.i a b).has q = true ↔ (∀ x, a = some x → x ≤ q) ∧ (∀ x, b = some x → q ≤ x) := by
  cases a <;> cases b <;> simp [has] <;> grind
theorem ne_has {a b : Option Rat} (h : ordO a b = true) : ∃ q, (NS.i a b).has q = true := by
  cases a with
  | none => cases b with
    | none => exact ⟨0, by simp [has]⟩
    | some b => exact ⟨b, by simp [has] <;> grind⟩
  | some a => cases b with
    | none => exact ⟨a, by simp [has] <;> grind⟩
    | some b => exact ⟨a, by simp [ordO] at h; simp [has]; grind⟩
theorem low_has {b : Option Rat} (c : Rat) : ∃ q, q < c ∧ (NS.i none b).has q = true := by
  cases b with
  | none => exact ⟨c - 1, by grind, by simp [has]⟩
  | some b => exact ⟨min (c - 1) b, by grind, by simp [has] <;> grind⟩
theorem high_has {a : Option Rat} (c : Rat) : ∃ q, c < q ∧ (NS.i a none).has q = true := by
  cases a with
  | none => exact ⟨c + 1, by grind, by simp [has]⟩
  | some a => exact ⟨max (c + 1) a, by grind, by simp [has] <;> grind⟩
theorem lo_has {a : Rat} {b : Option Rat} (h : ordO (some a) b = true) : (NS.i (some a) b).has a = true := by
  cases b with
  | none => simp [has] <;> grind
  | some b => simp [ordO] at h; simp [has]; grind
theorem hi_has {a : Option Rat} {b : Rat} (h : ordO a (some b) = true) : (NS.i a (some b)).has b = true := by
  cases a with
  | none => simp [has] <;> grind
  | some a => simp [ordO] at h; simp [has]; grind
theorem within_iff {x y : NS} (hx : x.ok) : x.within y = true ↔ ∀ q, x.has q = true → y.has q = true := by
  cases x with
  | e => simp [within, has]
  | i a b =>
    cases y with
    | e =>
      obtain ⟨q, hq⟩ := ne_has hx
      simp only [within, has, Bool.false_eq_true, false_iff]
      exact fun h => h q hq
    | i c d =>
      constructor
      · intro h q hq
        rw [has_i] at hq ⊢
        cases a <;> cases b <;> cases c <;> cases d <;> simp [within, lowIn, highIn] at h hq ⊢ <;> grind
      · intro h
        have h1 : lowIn c a = true := by
          cases c with
          | none => rfl
          | some c => cases a with
            | none =>
              obtain ⟨q, hc, hq⟩ := low_has (b := b) c
              have := has_i.1 (h q hq)
              have := this.1 c rfl
              grind
            | some a =>
              have := has_i.1 (h a (lo_has hx))
              have := this.1 c rfl
              simp [lowIn, highIn]; grind
        have h2 : highIn d b = true := by
          cases d with
          | none => rfl
          | some d => cases b with
            | none =>
              obtain ⟨q, hc, hq⟩ := high_has (a := a) d
              have := has_i.1 (h q hq)
              have := this.2 d rfl
              grind
            | some b =>
              have := has_i.1 (h b (hi_has hx))
              have := this.2 d rfl
              simp [lowIn, highIn]; grind
        simp only [within, h1, h2, Bool.and_self]
theorem anti {x y : NS} (hx : x.ok) (hy : y.ok) (h1 : x.within y = true) (h2 : y.within x = true) : x = y := by
  cases x with
  | e => cases y with
    | e => rfl
    | i c d => cases h2
  | i a b => cases y with
    | e => cases h1
    | i c d =>
      cases a <;> cases b <;> cases c <;> cases d <;> simp [within, lowIn, highIn] at h1 h2 ⊢ <;> grind
theorem ext {x y : NS} (hx : x.ok) (hy : y.ok) (h : ∀ q, x.has q = y.has q) : x = y :=
  anti hx hy ((within_iff hx).2 fun q k => by rw [← h]; exact k) ((within_iff hy).2 fun q k => by rw [h]; exact k)
theorem ok_mk {a b : Option Rat} : (mk' a b).ok := by
  unfold mk'
  cases h : ordO a b with
  | true => exact h
  | false => trivial
theorem has_mk {a b : Option Rat} {q : Rat} : (mk' a b).has q = (NS.i a b).has q := by
  unfold mk'
  cases h : ordO a b with
  | true => rfl
  | false =>
    cases a <;> cases b <;> simp [ordO] at h
    simp only [has, cond_false]
    symm
    simp [has]; grind
theorem has_met {x y : NS} {q : Rat} : (met x y).has q = (x.has q && y.has q) := by
  cases x with
  | e => cases y <;> simp [met, has]
  | i a b => cases y with
    | e => simp [met, has]
    | i c d =>
      simp only [met, has_mk]
      rw [Bool.eq_iff_iff, Bool.and_eq_true]
      cases a <;> cases b <;> cases c <;> cases d <;> simp [has, omax, omin] <;> grind
theorem ok_met {x y : NS} : (met x y).ok := by
  cases x <;> cases y <;> first | trivial | exact ok_mk
theorem ok_joined {x y : NS} (hx : x.ok) (hy : y.ok) : (joined x y).ok := by
  cases x with
  | e => exact hy
  | i a b => cases y with
    | e => exact hx
    | i c d => cases a <;> cases b <;> cases c <;> cases d <;> simp [ok, ordO, joined, jmin, jmax] at hx hy ⊢ <;> grind
theorem joined_comm (x y : NS) : joined x y = joined y x := by
  cases x with
  | e => cases y <;> rfl
  | i a b => cases y with
    | e => rfl
    | i c d => cases a <;> cases b <;> cases c <;> cases d <;> simp [joined, jmin, jmax] <;> grind
end NS
theorem pow2_pos (p : Nat) : (0 : Rat) < 2 ^ p := Rat.pow_pos (by decide)
theorem div_le' {a b c : Rat} (hb : 0 < b) : a / b ≤ c ↔ a ≤ c * b := by
  have := Rat.lt_div_iff (a := c) (b := a) hb
  grind
theorem gdown_le (x : Rat) (p : Nat) : gdown x p ≤ x := by
  unfold gdown
  have h := Rat.floor_le (x * 2 ^ p)
  rw [div_le' (pow2_pos p)]
  exact h
theorem gup_neg (x : Rat) (p : Nat) : gup (-x) p = -gdown x p := by
  unfold gup gdown
  rw [Rat.neg_mul, Rat.ceil_eq_neg_floor_neg, Rat.neg_neg, Rat.intCast_neg, Rat.div_def, Rat.neg_mul, ← Rat.div_def]
theorem gdown_neg (x : Rat) (p : Nat) : gdown (-x) p = -gup x p := by
  have := gup_neg (-x) p
  rw [Rat.neg_neg] at this
  rw [this, Rat.neg_neg]
theorem gup_eq (x : Rat) (p : Nat) : gup x p = -gdown (-x) p := by rw [gdown_neg, Rat.neg_neg]
theorem le_gup (x : Rat) (p : Nat) : x ≤ gup x p := by
  have := gdown_le (-x) p
  rw [gup_eq]; grind
namespace NS
theorem ok_hull {x : NS} {p : Nat} (hx : x.ok) : (hull p x).ok := by
  cases x with
  | e => trivial
  | i a b =>
    cases a <;> cases b <;> simp [ok, ordO, hull] at hx ⊢
    rename_i a b
    have := gdown_le a p
    have := le_gup b p
    grind
theorem within_hull {x : NS} {p : Nat} : x.within (hull p x) = true := by
  cases x with
  | e => rfl
  | i a b =>
    cases a with
    | none => cases b with
      | none => rfl
      | some b => have := le_gup b p; simp [hull, within, lowIn, highIn]; grind
    | some a => cases b with
      | none => have := gdown_le a p; simp [hull, within, lowIn, highIn]; grind
      | some b => have := gdown_le a p; have := le_gup b p; simp [hull, within, lowIn, highIn]; grind
theorem ok_minus {x : NS} (hx : x.ok) : (minus x).ok := by
  cases x with
  | e => trivial
  | i a b => cases a <;> cases b <;> simp [ok, ordO, minus] at hx ⊢; grind
theorem ok_sum {x y : NS} (hx : x.ok) (hy : y.ok) : (sum x y).ok := by
  cases x with
  | e => trivial
  | i a b => cases y with
    | e => trivial
    | i c d => cases a <;> cases b <;> cases c <;> cases d <;> simp [ok, ordO, sum, oadd] at hx hy ⊢; grind
theorem ok_lesser {x y : NS} (hx : x.ok) (hy : y.ok) : (lesser x y).ok := by
  cases x with
  | e => trivial
  | i a b => cases y with
    | e => trivial
    | i c d => cases a <;> cases b <;> cases c <;> cases d <;> simp [ok, ordO, lesser, jmin, omin] at hx hy ⊢ <;> grind
end NS
end Go.Q
namespace Go.Q
open Go.Proofs
set_option maxRecDepth 100000
set_option maxHeartbeats 4000000
namespace NS
def clo : NS → Rat
  | .e => 1
  | .i a _ => a.getD 0
def chi : NS → Rat
  | .e => 0
  | .i _ b => b.getD 0
theorem le_c {k : Nat} {x : NS} (hk : 1 ≤ k) (h : x.le k) : sz x.clo ≤ k ∧ sz x.chi ≤ k := by
  have h0 : sz 0 ≤ k := Nat.le_trans sz_zero hk
  have h1 : sz 1 ≤ k := Nat.le_trans (by decide) hk
  cases x with
  | e => exact ⟨h1, h0⟩
  | i a b =>
    rw [le_i] at h
    refine ⟨?_, ?_⟩
    · cases a with
      | none => exact h0
      | some a => exact h.1 _ rfl
    · cases b with
      | none => exact h0
      | some b => exact h.2 _ rfl
end NS
theorem Cv.fl {h : PH} {v : Value} {x : NS} (r : Cv h v x) : ∃ b1 a1 m1 c1 a2 m2 c2 b2 a3 m3 c3 a4 m4 c4, v = .agg #[.bool b1, .slice a1 m1 c1, .slice a2 m2 c2, .bool b2, .slice a3 m3 c3, .slice a4 m4 c4, .bool x.loN, .bool x.hiN] ∧
    Cn h (.agg #[.bool b1, .slice a1 m1 c1, .slice a2 m2 c2]) x.clo ∧ Cn h (.agg #[.bool b2, .slice a3 m3 c3, .slice a4 m4 c4]) x.chi := by
  have r0 := r
  obtain ⟨b1, x1, y1, b2, x2, y2, rfl, h1, h2⟩ := r
  obtain ⟨_, _, _, _, _, _, _, e1, _⟩ := h1.sa
  obtain ⟨_, _, _, _, _, _, _, e2, _⟩ := h2.sa
  simp only [Value.agg.injEq, Array.mk.injEq, List.cons.injEq, and_true] at e1 e2
  obtain ⟨_, rfl, rfl⟩ := e1
  obtain ⟨_, rfl, rfl⟩ := e2
  cases x with
  | e => exact ⟨_, _, _, _, _, _, _, _, _, _, _, _, _, _, rfl, h1, h2⟩
  | i a b => exact ⟨_, _, _, _, _, _, _, _, _, _, _, _, _, _, rfl, h1, h2⟩
def NS.ri (x : NS) : RI := ⟨decide (x.clo.num < 0), x.clo.num.natAbs, if x.clo.den = 1 then 0 else x.clo.den, decide (x.chi.num < 0), x.chi.num.natAbs, if x.chi.den = 1 then 0 else x.chi.den, x.loN, x.hiN⟩
theorem Cv.iv {h : PH} {v : Value} {x : NS} (r : Cv h v x) (hf : x.le 2048) : Iv h v x.ri := by
  obtain ⟨b1, a1, m1, c1, a2, m2, c2, b2, a3, m3, c3, a4, m4, c4, rfl, h1, h2⟩ := r.fl
  have hs := NS.le_c (by decide) hf
  exact Iv.mk (h1.rw (Nat.le_trans hs.1 (by decide))) (h2.rw (Nat.le_trans hs.2 (by decide))) _ _
theorem NS.ri_big {x : NS} (hf : x.le 2048) : x.ri.big = false := by
  have hs := NS.le_c (by decide) hf
  unfold RI.big NS.ri
  dsimp only
  have h1 : ¬ lg (decide (x.clo.num < 0)) x.clo.num.natAbs (if x.clo.den = 1 then 0 else x.clo.den) := by rw [lg_cn]; omega
  have h2 : ¬ lg (decide (x.chi.num < 0)) x.chi.num.natAbs (if x.chi.den = 1 then 0 else x.chi.den) := by rw [lg_cn]; omega
  simp only [h1, h2, decide_false, Bool.or_self]
theorem NS.ri_set {x : NS} (hx : x.ok) : x.ri.set = x := by
  unfold RI.set RI.lo RI.hi NS.ri
  dsimp only
  rw [qof_cn, qof_cn]
  cases x with
  | e => simp [NS.loN, NS.hiN, NS.clo, NS.chi, NS.mk', ordO, show decide ((0 : Rat) < 1) = true by decide]
  | i a b => cases a <;> cases b <;> simp [NS.loN, NS.hiN, NS.clo, NS.chi, NS.mk'] <;> simp [NS.ok] at hx <;> simp [hx] <;> rfl
end Go.Q
namespace Go.Q
open Go.Proofs
set_option maxRecDepth 100000
set_option maxHeartbeats 4000000
theorem NS.le.sum {x y : NS} (hx : x.le 2048) (hy : y.le 2048) : (x.sum y).le (2 ^ 30) := by
  cases x with
  | e => rfl
  | i a b => cases y with
    | e => rfl
    | i c d =>
      rw [NS.le_i] at hx hy
      show NS.le _ (.i (oadd a c) (oadd b d))
      rw [NS.le_i]
      refine ⟨fun q e => ?_, fun q e => ?_⟩
      · cases a with
        | none => cases e
        | some a => cases c with
          | none => cases e
          | some c =>
            cases e
            have := sz_add a c
            have := hx.1 _ rfl
            have := hy.1 _ rfl
            omega
      · cases b with
        | none => cases e
        | some b => cases d with
          | none => cases e
          | some d =>
            cases e
            have := sz_add b d
            have := hx.2 _ rfl
            have := hy.2 _ rfl
            omega
theorem Sum1 {h0 h : PH} [Le h0 h] {s t : Value} {x y : NS} (hs : Sn h0 s x) (ht : Sn h0 t y) (gx : x.void = false) (gy : y.void = false) (lx : x.le (2 ^ 30)) (ly : y.le (2 ^ 30)) : Spec mach 53 #[s, t] h (fun v h' => Sn h' v (x.sum y)) NP := by
  cases x with
  | e => cases gx
  | i a b => cases y with
    | e => cases gy
    | i c d => exact sum_set hs ht lx ly
theorem void_minus (x : NS) : x.minus.void = x.void := by cases x <;> rfl
theorem Sub1 {h0 h : PH} [Le h0 h] {s t : Value} {x y : NS} (hs : Sn h0 s x) (ht : Sn h0 t y) (gx : x.void = false) (gy : y.void = false) (lx : x.le (2 ^ 30)) (ly : y.le (2 ^ 30)) : Spec mach 54 #[s, t] h (fun v h' => Sn h' v (x.sum y.minus)) NP := by
  obtain ⟨_, _, _, _, _, _, _, _, _, _, _, _, _, _, _, _, rfl, hs⟩ := hs.sa
  obtain ⟨_, _, _, _, _, _, _, _, _, _, _, _, _, _, _, _, rfl, ht⟩ := ht.sa
  refine Spec.go [] Tryz.func54 rfl rfl (by kernel_rfl) fun C _ => ?_
  try simp (maxSteps := 999999) (disch := omega) only [go_sem, Nat.reduceBEq, Nat.reduceAdd]
  refine caN (by exact Minus_set ht) ?_; rintro v1 h1 st1 hv1
  try simp (maxSteps := 999999) (disch := omega) only [go_sem, Nat.reduceBEq, Nat.reduceAdd]
  refine caN (by exact Sum1 (hs.to (h' := h1)) hv1 gx (by rw [void_minus]; exact gy) lx ly.minus) ?_; rintro _ h2 _ hv2; obtain ⟨_, _, _, _, _, _, _, _, _, _, _, _, _, _, _, _, rfl, hv2⟩ := hv2.sa
  try simp (maxSteps := 999999) (disch := omega) only [go_sem, Nat.reduceBEq, Nat.reduceAdd]
  exact hv2
theorem AddI_spec {h0 h : PH} [Le h0 h] {v w : Value} {x y : RI} {p : Int} (hv : Iv h0 v x) (hw : Iv h0 w y) : Spec mach 19 #[v, w, .int .i64 p] h (fun r h' => Ir h' r (x.fin2 y (rnd p x.set y.set (.ok (x.set.sum y.set))))) NP := by
  have hv0 := hv
  have hw0 := hw
  obtain ⟨a1, m1, c1, a2, m2, c2, a3, m3, c3, a4, m4, c4, rfl, _, _⟩ := hv.sa
  obtain ⟨a1', m1', c1', a2', m2', c2', a3', m3', c3', a4', m4', c4', rfl, _, _⟩ := hw.sa
  refine Spec.go [] Tryz.func19 rfl rfl (by kernel_rfl) fun C _ => ?_
  try simp (maxSteps := 999999) (disch := omega) only [go_sem, Nat.reduceBEq, Nat.reduceAdd]
  refine caN (by exact rounded_spec hv0 hw0 (fun g g' k k' h' _ s t hs ht => Does.mk (Sum1 hs.sn ht.sn k k' (RI.le30 g) (RI.le30 g'))) (fun g g' z e => by cases e; exact NS.le.sum (RI.le g) (RI.le g'))) ?_; rintro _ h3 _ hr3; obtain ⟨_, _, _, _, _, _, _, _, _, _, _, _, _, _, _, _, _, rfl, hr3⟩ := hr3.sa
  try simp (maxSteps := 999999) (disch := omega) only [go_sem, Nat.reduceBEq, Nat.reduceAdd]
  exact hr3
theorem SubI_spec {h0 h : PH} [Le h0 h] {v w : Value} {x y : RI} {p : Int} (hv : Iv h0 v x) (hw : Iv h0 w y) : Spec mach 20 #[v, w, .int .i64 p] h (fun r h' => Ir h' r (x.fin2 y (rnd p x.set y.set (.ok (x.set.sum y.set.minus))))) NP := by
  have hv0 := hv
  have hw0 := hw
  obtain ⟨a1, m1, c1, a2, m2, c2, a3, m3, c3, a4, m4, c4, rfl, _, _⟩ := hv.sa
  obtain ⟨a1', m1', c1', a2', m2', c2', a3', m3', c3', a4', m4', c4', rfl, _, _⟩ := hw.sa
  refine Spec.go [] Tryz.func20 rfl rfl (by kernel_rfl) fun C _ => ?_
  try simp (maxSteps := 999999) (disch := omega) only [go_sem, Nat.reduceBEq, Nat.reduceAdd]
  refine caN (by exact rounded_spec hv0 hw0 (fun g g' k k' h' _ s t hs ht => Does.mk (Sub1 hs.sn ht.sn k k' (RI.le30 g) (RI.le30 g'))) (fun g g' z e => by cases e; exact NS.le.sum (RI.le g) (NS.le.minus (RI.le g')))) ?_; rintro _ h3 _ hr3; obtain ⟨_, _, _, _, _, _, _, _, _, _, _, _, _, _, _, _, _, rfl, hr3⟩ := hr3.sa
  try simp (maxSteps := 999999) (disch := omega) only [go_sem, Nat.reduceBEq, Nat.reduceAdd]
  exact hr3
end Go.Q
namespace Go.Q
open Go.Proofs
set_option maxRecDepth 100000
set_option maxHeartbeats 4000000
theorem gdown_int (n : Int) (p : Nat) : gdown (n : Rat) 0 = n := by
  unfold gdown
  rw [show (2 : Rat) ^ 0 = 1 by rfl, Rat.mul_one, Rat.floor_intCast]
  grind
theorem gup_int (n : Int) (p : Nat) : gup (n : Rat) 0 = n := by
  unfold gup
  rw [show (2 : Rat) ^ 0 = 1 by rfl, Rat.mul_one, Rat.ceil_intCast]
  grind
theorem awake_out : RI.fin2 (NS.i (some 1) (some 2)).ri (NS.i (some 3) (some 4)).ri (rnd 0 (NS.i (some 1) (some 2)).ri.set (NS.i (some 3) (some 4)).ri.set (.ok ((NS.i (some 1) (some 2)).ri.set.sum (NS.i (some 3) (some 4)).ri.set))) = .ok (.i (some 4) (some 6)) := by
  have l1 : (NS.i (some 1) (some 2)).le 2048 := by decide
  have l2 : (NS.i (some 3) (some 4)).le 2048 := by decide
  have o1 : (NS.i (some 1) (some 2)).ok := by unfold NS.ok ordO; decide
  have o2 : (NS.i (some 3) (some 4)).ok := by unfold NS.ok ordO; decide
  rw [NS.ri_set o1, NS.ri_set o2]
  unfold RI.fin2 rnd Out.prec
  rw [NS.ri_big l1, NS.ri_big l2]
  have e0 : (1 : Rat) + 3 = 4 := by grind
  have e0' : (2 : Rat) + 4 = 6 := by grind
  have e1 : gdown (1 + 3) 0 = 4 := by
    have := gdown_int 4 0
    rw [e0]; simpa using this
  have e2 : gup (2 + 4) 0 = 6 := by
    have := gup_int 6 0
    rw [e0']; simpa using this
  have e3 : decide (NS.le 2048 (NS.i (some 4) (some 6))) = true := by decide
  simp [NS.sum, oadd, NS.void, bad, NS.hull, Out.fin, e1, e2, e3]
theorem digit_one {h : PH} {a : Option Addr} {m c n : Nat} (r : N32 h (.slice a m c) n) (h0 : n ≠ 0) (h1 : n < 4294967296) : m = 1 ∧ ∃ ad, a = some ad ∧ h.at ad = some (.int .u32 n) := by
  have hW : W 4294967296 n = [n] := by
    rw [W_pos (by decide) h0, Nat.mod_eq_of_lt h1, Nat.div_eq_of_lt h1, W_zero]
  obtain ⟨a', c', e, A⟩ := r
  rw [hW] at e A
  simp only [Value.slice.injEq, List.length_cons, List.length_nil] at e
  obtain ⟨rfl, rfl, rfl⟩ := e
  obtain ⟨ad, e1, e2⟩ := A.at_ 0 n rfl
  refine ⟨rfl, ad, e1, ?_⟩
  simpa [Addr.add] using e2
theorem digit_none {h : PH} {a : Option Addr} {m c : Nat} (r : N32 h (.slice a m c) 0) : m = 0 := by
  obtain ⟨a', c', e, A⟩ := r
  rw [W_zero] at e
  simp only [Value.slice.injEq, List.length_nil] at e
  exact e.2.1
theorem awake_spec {h : PH} : Spec mach 7 #[] h (fun r _ => r = .bool true) NP := by
  refine Spec.enter (args := []) (n := 74) Tryz.func7 rfl (by kernel_rfl) rfl (by simp) [.tmp 0] rfl (fun C _ => ?_)
  repeat (first | (refine wo rfl (fun k hk => ?_); simp (disch := omega) only [go_sem, Nat.reduceBEq, Nat.reduceAdd]; refine hk _ _ ?_; clear hk k) | refine wkt rfl ?_ | refine wk0 ?_ | refine rg rfl rfl (fun K hK => ?_) | ((first | refine AWP_exit ?_ | refine AWP_skip ?_); simp (disch := decide) only [qs, qb, if_true, if_false, reduceIte]) | refine AWP_sq rfl (fun K hK => ?_) | refine ct rfl ?_ | ((try simp (disch := omega) only [go_sem, Nat.reduceBEq, Nat.reduceAdd]); (first | apply hK | (clear hK; apply hK) | (clear hK; clear hK; apply hK)); clear hK; (try clear K); (try dsimp only [behind, qs, qb])))
  refine cN rfl rfl rfl rfl (by exact QInt_spec (n := 1) (by decide) (by decide)) ?_; rintro v1 h1 _ f1; obtain ⟨v1_0, v1_1, v1_2, v1_3, v1_4, v1_5, v1_6, rfl, f1⟩ := f1.sa; (repeat (first | (refine wo rfl (fun k hk => ?_); simp (disch := omega) only [go_sem, Nat.reduceBEq, Nat.reduceAdd]; refine hk _ _ ?_; clear hk k) | refine wkt rfl ?_)); (try refine wk0 ?_)
  refine cN rfl rfl rfl rfl (by exact QRat_spec f1 (by decide)) ?_; rintro v2 h2 _ f2; obtain ⟨v2_0, v2_1, v2_2, v2_3, v2_4, v2_5, v2_6, rfl, f2⟩ := f2.sa; (repeat (first | (refine wo rfl (fun k hk => ?_); simp (disch := omega) only [go_sem, Nat.reduceBEq, Nat.reduceAdd]; refine hk _ _ ?_; clear hk k) | refine wkt rfl ?_)); (try refine wk0 ?_)
  refine cN rfl rfl rfl rfl (by exact QInt_spec (n := 2) (by decide) (by decide)) ?_; rintro v3 h3 _ f3; obtain ⟨v3_0, v3_1, v3_2, v3_3, v3_4, v3_5, v3_6, rfl, f3⟩ := f3.sa; (repeat (first | (refine wo rfl (fun k hk => ?_); simp (disch := omega) only [go_sem, Nat.reduceBEq, Nat.reduceAdd]; refine hk _ _ ?_; clear hk k) | refine wkt rfl ?_)); (try refine wk0 ?_)
  refine cN rfl rfl rfl rfl (by exact QRat_spec f3 (by decide)) ?_; rintro v4 h4 _ f4; obtain ⟨v4_0, v4_1, v4_2, v4_3, v4_4, v4_5, v4_6, rfl, f4⟩ := f4.sa; (repeat (first | (refine wo rfl (fun k hk => ?_); simp (disch := omega) only [go_sem, Nat.reduceBEq, Nat.reduceAdd]; refine hk _ _ ?_; clear hk k) | refine wkt rfl ?_)); (try refine wk0 ?_)
  refine cN rfl rfl rfl rfl (by exact QInt_spec (n := 3) (by decide) (by decide)) ?_; rintro v5 h5 _ f5; obtain ⟨v5_0, v5_1, v5_2, v5_3, v5_4, v5_5, v5_6, rfl, f5⟩ := f5.sa; (repeat (first | (refine wo rfl (fun k hk => ?_); simp (disch := omega) only [go_sem, Nat.reduceBEq, Nat.reduceAdd]; refine hk _ _ ?_; clear hk k) | refine wkt rfl ?_)); (try refine wk0 ?_)
  refine cN rfl rfl rfl rfl (by exact QRat_spec f5 (by decide)) ?_; rintro v6 h6 _ f6; obtain ⟨v6_0, v6_1, v6_2, v6_3, v6_4, v6_5, v6_6, rfl, f6⟩ := f6.sa; (repeat (first | (refine wo rfl (fun k hk => ?_); simp (disch := omega) only [go_sem, Nat.reduceBEq, Nat.reduceAdd]; refine hk _ _ ?_; clear hk k) | refine wkt rfl ?_)); (try refine wk0 ?_)
  refine cN rfl rfl rfl rfl (by exact QInt_spec (n := 4) (by decide) (by decide)) ?_; rintro v7 h7 _ f7; obtain ⟨v7_0, v7_1, v7_2, v7_3, v7_4, v7_5, v7_6, rfl, f7⟩ := f7.sa; (repeat (first | (refine wo rfl (fun k hk => ?_); simp (disch := omega) only [go_sem, Nat.reduceBEq, Nat.reduceAdd]; refine hk _ _ ?_; clear hk k) | refine wkt rfl ?_)); (try refine wk0 ?_)
  refine cN rfl rfl rfl rfl (by exact QRat_spec f7 (by decide)) ?_; rintro v8 h8 _ f8; obtain ⟨v8_0, v8_1, v8_2, v8_3, v8_4, v8_5, v8_6, rfl, f8⟩ := f8.sa; (repeat (first | (refine wo rfl (fun k hk => ?_); simp (disch := omega) only [go_sem, Nat.reduceBEq, Nat.reduceAdd]; refine hk _ _ ?_; clear hk k) | refine wkt rfl ?_)); (try refine wk0 ?_)
  (try (simp (disch := omega) only [go_sem, Nat.reduceBEq, Nat.reduceAdd])); refine hK _ _ ?_; clear hK; (try clear K); (try dsimp only [behind, qs])
  refine rg rfl rfl (fun K hK => ?_); (repeat (first | (refine wo rfl (fun k hk => ?_); simp (disch := omega) only [go_sem, Nat.reduceBEq, Nat.reduceAdd]; refine hk _ _ ?_; clear hk k) | refine wkt rfl ?_)); (try refine wk0 ?_)
  have c1 : Cv h8 (.agg #[.bool v2_0, .slice v2_1 v2_2 v2_3, .slice v2_4 v2_5 v2_6, .bool v4_0, .slice v4_1 v4_2 v4_3, .slice v4_4 v4_5 v4_6, .bool false, .bool false]) (.i (some 1) (some 2)) := ⟨_, _, _, _, _, _, rfl, by simpa using f2.to (h' := h8), by simpa using f4.to (h' := h8)⟩
  have c2 : Cv h8 (.agg #[.bool v6_0, .slice v6_1 v6_2 v6_3, .slice v6_4 v6_5 v6_6, .bool v8_0, .slice v8_1 v8_2 v8_3, .slice v8_4 v8_5 v8_6, .bool false, .bool false]) (.i (some 3) (some 4)) := ⟨_, _, _, _, _, _, rfl, by simpa using f6.to (h' := h8), by simpa using f8⟩
  have kA := AddI_spec (h := h8) (p := 0) (c1.iv (by decide)) (c2.iv (by decide))
  rw [awake_out] at kA
  refine cN rfl rfl rfl rfl (by exact kA) ?_; rintro r h9 st9 r9; obtain ⟨u, rfl, c9⟩ := r9; obtain ⟨d1, w1, w2, w3, w4, w5, w6, d2, w7, w8, w9, w10, w11, w12, rfl, p1, p2⟩ := c9.fl; (repeat (first | (refine wo rfl (fun k hk => ?_); simp (disch := omega) only [go_sem, Nat.reduceBEq, Nat.reduceAdd]; refine hk _ _ ?_; clear hk k) | refine wkt rfl ?_)); (try refine wk0 ?_)
  have p1 : Cn h9 _ 4 := p1
  have p2 : Cn h9 _ 6 := p2
  obtain ⟨sn, sd, e1, n1, n2⟩ := p1
  obtain ⟨sn', sd', e2, n3, n4⟩ := p2
  simp only [Value.agg.injEq, Array.mk.injEq, List.cons.injEq, and_true] at e1 e2
  obtain ⟨_, rfl, rfl⟩ := e1
  obtain ⟨_, rfl, rfl⟩ := e2
  obtain ⟨rfl, ad, rfl, t1⟩ := digit_one (n := 4) n1 (by decide) (by decide)
  obtain ⟨rfl, ad', rfl, t2⟩ := digit_one (n := 6) n3 (by decide) (by decide)
  have := digit_none (by simpa using n4)
  subst this
  (try (simp (disch := omega) only [go_sem, Nat.reduceBEq, Nat.reduceAdd])); refine hK _ _ ?_; clear hK; (try clear K); (try dsimp only [behind, qs])
  refine rg rfl rfl (fun K hK => ?_); (repeat (first | (refine wo rfl (fun k hk => ?_); simp (disch := omega) only [go_sem, Nat.reduceBEq, Nat.reduceAdd]; refine hk _ _ ?_; clear hk k) | refine wkt rfl ?_)); (try refine wk0 ?_)
  refine wo rfl (fun k hk => ?_); simp (disch := omega) only [go_sem, Nat.reduceBEq, Nat.reduceAdd]; refine ⟨_, t1, ?_⟩; refine hk _ _ ?_; clear hk k; (repeat (first | (refine wo rfl (fun k hk => ?_); simp (disch := omega) only [go_sem, Nat.reduceBEq, Nat.reduceAdd]; refine hk _ _ ?_; clear hk k) | refine wkt rfl ?_)); (try refine wk0 ?_)
  refine wo rfl (fun k hk => ?_); simp (disch := omega) only [go_sem, Nat.reduceBEq, Nat.reduceAdd]; refine ⟨_, t2, ?_⟩; refine hk _ _ ?_; clear hk k; (repeat (first | (refine wo rfl (fun k hk => ?_); simp (disch := omega) only [go_sem, Nat.reduceBEq, Nat.reduceAdd]; refine hk _ _ ?_; clear hk k) | refine wkt rfl ?_)); (try refine wk0 ?_)
  (try (simp (disch := omega) only [go_sem, Nat.reduceBEq, Nat.reduceAdd])); refine hK _ _ ?_; clear hK; (try clear K); (try dsimp only [behind, qs])
  refine AWP_ret ?_; simp (disch := omega) only [go_sem, Nat.reduceBEq, Nat.reduceAdd]
  all_goals exact rfl
def Fit (o : Out) : Prop := (∀ x, o = .ok x → x.ok ∧ x.le 2048) ∧ ∀ e, o = .error e → e ≠ 0
theorem Fit.fin {o : Out} (h1 : ∀ x, o = .ok x → x.ok) (h2 : ∀ e, o = .error e → e ≠ 0) : Fit o.fin := by
  cases o with
  | error e => exact ⟨fun x k => (by cases k), fun e' k => h2 e' k⟩
  | ok z =>
    unfold Out.fin
    by_cases hz : z.le 2048
    · simp only [hz, decide_true, cond_true]
      exact ⟨fun x k => by cases k; exact ⟨h1 _ rfl, hz⟩, fun e k => (by cases k)⟩
    · simp only [hz, decide_false, cond_false]
      exact ⟨fun x k => (by cases k), fun e k => by cases k; decide⟩
theorem Fit.err {e : Int} (h : e ≠ 0) : Fit (.error e) := ⟨fun x k => (by cases k), fun e' k => by cases k; exact h⟩
theorem Fit.one {x : RI} {o : Out} (h : Fit o.fin) : Fit (x.fin o) := by
  unfold RI.fin
  cases x.big with
  | true => exact .err (by decide)
  | false => exact h
theorem Fit.two {x y : RI} {o : Out} (h : Fit o.fin) : Fit (x.fin2 y o) := by
  unfold RI.fin2
  cases x.big || y.big with
  | true => exact .err (by decide)
  | false => exact h
theorem Fit.prec {p : Int} {z : NS} (hz : z.ok) : Fit (Out.fin (Out.prec p (.ok z))) := by
  unfold Out.prec
  cases bad p with
  | true => exact .err (by decide)
  | false => exact Fit.fin (fun x k => by cases k; exact hz) (fun e k => (by cases k))
theorem Fit.of {z : NS} (hz : z.ok) : Fit (Out.fin (.ok z)) := Fit.fin (fun x k => by cases k; exact hz) (fun e k => (by cases k))
end Go.Q
namespace Go.Q
open Go.Proofs
set_option maxRecDepth 100000
set_option maxHeartbeats 4000000
theorem Ir.ea {h : PH} {r : Value} {e : Int} (k : Ir h r (.error e)) : r = .tuple #[.agg #[.bool false, .slice none 0 0, .slice none 0 0, .bool false, .slice none 0 0, .slice none 0 0, .bool false, .bool false], .int .i64 e] := k
theorem Ir.oa {h : PH} {r : Value} {x : NS} (k : Ir h r (.ok x)) : ∃ b1 a1 m1 c1 a2 m2 c2 b2 a3 m3 c3 a4 m4 c4 l u, r = .tuple #[.agg #[.bool b1, .slice a1 m1 c1, .slice a2 m2 c2, .bool b2, .slice a3 m3 c3, .slice a4 m4 c4, .bool l, .bool u], .int .i64 0] ∧
    Cv h (.agg #[.bool b1, .slice a1 m1 c1, .slice a2 m2 c2, .bool b2, .slice a3 m3 c3, .slice a4 m4 c4, .bool l, .bool u]) x := by
  obtain ⟨u, rfl, c⟩ := k
  obtain ⟨_, _, _, _, _, _, _, _, _, _, _, _, _, _, _, _, rfl, c⟩ := c.sa
  exact ⟨_, _, _, _, _, _, _, _, _, _, _, _, _, _, _, _, rfl, c⟩
theorem Fit.ok {x : NS} (h1 : x.ok) (h2 : x.le 2048) : Fit (.ok x) := ⟨fun z k => (by cases k; exact ⟨h1, h2⟩), fun e k => (by cases k)⟩
theorem Out.fin_ok {o : Out} {z : NS} (h : o.fin = .ok z) : o = .ok z ∧ z.le 2048 := by
  cases o with
  | error e => cases h
  | ok x =>
    unfold Out.fin at h
    by_cases hx : x.le 2048
    · simp only [hx, decide_true, cond_true] at h; cases h; exact ⟨rfl, hx⟩
    · simp only [hx, decide_false, cond_false] at h; cases h
theorem Out.fin_le {z : NS} (h : z.le 2048) : Out.fin (.ok z) = .ok z := by
  unfold Out.fin
  simp only [h, decide_true, cond_true]
end Go.Q
namespace Go.Q
open Go.Proofs
open Go.RowKit (Below)
set_option maxRecDepth 100000
set_option maxHeartbeats 4000000
theorem idle_Bo (p q : Value) (w : World) : CallsD mach.P 98 #[p, q] .returning w fun e u' w' => e = .returned (.tuple #[]) ∧ u' = .returning ∧ w' = w := by
  refine callsD_of_wpS Tryz.func98 rfl fun c₀ cs hu => ?_
  apply wpS_seq
  apply wpS_region
  simp [wpOpsS, go_sem, recoverD, hu, Exit.thenS]
  have hnil : ∀ w : World, (binOp BinOp.eql 20 .nilIface .nilIface).run mach.P w = .ok (.bool true) w := fun _ => by kernel_rfl
  refine wpS_of_wp (wp_block (wp_seq_k fun K hK => ?_))
  apply wp_region
  simp [wpOps, go_sem, hnil, Oper.upon, Exit.then]
  refine .inl (hK _ _ ?_)
  clear hK K
  refine wp_cond_true ?_ ?_
  · simp [Act.eval]
  apply wp_region
  simp [wpOps, go_sem]
  cases c₀
  simp_all [bodyPostS, results, Tryz.results98, Exit.inBlock]
theorem caught_Bo {C : Ctx} {h : PH} {β : Nat → Nat} {w : World} {rv re : List Value} {e : Int} (hf : Fine mach C h w) (hr : Rows C h w β [rv, re]) (h8 : rv.length = 1) (h1 : re.length = 1) :
    CallsD mach.P 98 #[.pointer (some ⟨β 0, 0, none⟩), .pointer (some ⟨β 1, 0, none⟩)] (.panicking [{ v := .iface 108 (.agg #[.int .i64 e]), recovered := false }]) w fun en u' w' =>
      en = .returned (.tuple #[]) ∧ u' = .panicking [{ v := .iface 108 (.agg #[.int .i64 e]), recovered := true }] ∧
      Fine mach C h w' ∧ Rows C h w' β [[.bool false], [.int .i64 e]] := by
  have hnil : ∀ w : World, (binOp BinOp.eql 20 (.iface 108 (.agg #[.int .i64 e])) .nilIface).run mach.P w = .ok (.bool false) w := fun _ => by kernel_rfl
  have has : ∀ w : World, (Instr.typeAssert (.iface 108 (.agg #[.int .i64 e])) 20 108 true).run mach.P w = .ok (.tuple #[.agg #[.int .i64 e], .bool true]) w := fun _ => by kernel_rfl
  refine callsD_of_wpS Tryz.func98 rfl fun c₀ cs hu => ?_
  apply wpS_seq
  apply wpS_region
  simp [wpOpsS, go_sem, recoverD, hu, Exit.thenS]
  refine wpS_of_wp (wp_block (wp_seq_k fun K hK => ?_))
  apply wp_region
  simp [wpOps, go_sem, hnil, Oper.upon, Exit.then]
  refine .inl (hK _ _ ?_)
  clear hK K
  refine wp_cond_false ?_ ?_
  · simp [Act.eval]
  refine wp_seq_k fun K hK => ?_
  apply wp_region
  simp [wpOps, go_sem, has, Oper.upon, Exit.then]
  repeat refine Or.inl ?_
  refine hK _ _ ?_
  clear hK K
  refine wp_cond_true ?_ ?_
  · simp [Act.eval]
  match rv, re, h8, h1 with
  | [r0], [q0], _, _ =>
  refine wp_mono (AWP_use (M := mach) (n := 15) (C := ⟨C.w0, C.h0, [β 0, β 1], []⟩) (S := ⟨[(0, .p 0 0), (1, .p 1 0), (11, .v (.agg #[.int .i64 e]))], [[r0], [q0]]⟩) (h := h) (β := β) (E := NP)
    (Q := fun en S h' => en = .normal ∧ h' = h ∧ 2 ≤ S.bx.length ∧ S.box 0 = [.bool false] ∧ S.box 1 = [.int .i64 e]) ?_ ?_) ?_
  · refine ⟨by simp, rfl, hf.re rfl rfl, fun i cs hi hc => (hr.at_ i cs hi hc).re rfl, hr.inj, fun t => ?_, fun t i hi => ?_, by simp, fun i hi => ?_⟩
    · simp only [lk]
      by_cases h0 : t = 0
      · subst h0; exact .inr rfl
      · by_cases h1 : t = 1
        · subst h1; exact .inr rfl
        · by_cases h2 : t = 11
          · subst h2; exact .inr rfl
          · refine .inl ?_
            have e0 : (0 == t) = false := by simp; omega
            have e1 : (1 == t) = false := by simp; omega
            have e2 : (11 == t) = false := by simp; omega
            simp [e0, e1, e2]
    · simp only [lk] at hi
      by_cases h0 : t = 0
      · subst h0; simp [AV.ix] at hi; subst hi; simp
      · by_cases h1 : t = 1
        · subst h1; simp [AV.ix] at hi; subst hi; simp
        · have e0 : (0 == t) = false := by simp; omega
          have e1 : (1 == t) = false := by simp; omega
          rw [e0, e1] at hi
          cases hx : (11 == t) <;> rw [hx] at hi <;> cases hi
    · simp only [List.length_cons, List.length_nil] at hi
      match i, hi with
      | 0, _ => rfl
      | 1, _ => rfl
  · repeat (first | (refine rg rfl rfl (fun K hK => ?_); (repeat (first | (refine wo rfl (fun k hk => ?_); simp (disch := omega) only [go_sem, Nat.reduceBEq, Nat.reduceAdd]; refine hk _ _ ?_; clear hk k) | refine wkt rfl ?_)); (try refine wk0 ?_); refine hK _ _ ?_; clear hK K; (try dsimp only [behind, qs, qb])) | ((first | refine AWP_exit ?_ | refine AWP_skip ?_); simp (disch := decide) only [qs, qb, if_true, if_false, reduceIte]) | refine AWP_sq rfl (fun K hK => ?_) | refine ct rfl ?_ | ((first | refine hK _ _ ?_ | (clear hK; refine hK _ _ ?_) | (clear hK; clear hK; refine hK _ _ ?_)); clear hK; (try clear K)))
    refine AWP_yk (.alt 0 (.alt 1 (.alt 2 (.alt 3 (.alt 4 .done .no) .no) (.alt 3 (.alt 2 (.alt 4 .done .no) .no) .no)) (.alt 3 (.alt 1 (.alt 2 (.alt 4 .done .no) .no) .no) .no)) (.alt 1 (.alt 0 (.alt 2 (.alt 3 (.alt 4 .done .no) .no) (.alt 3 (.alt 2 (.alt 4 .done .no) .no) .no)) (.alt 2 (.alt 0 (.alt 3 (.alt 4 .done .no) .no) .no) .no)) .no)) (by decide +kernel) rfl (fun K hK => ?_)
    have fin : ∀ S h', h' = h → S.box 0 = [.bool false] → S.box 1 = [.int .i64 e] → 2 ≤ S.bx.length → K S h' := fun S h' e0 e1 e2 e3 => hK _ _ ⟨rfl, e0, e3, e1, e2⟩
    clear hK
    repeat' (first | exact wt_no | exact wt_done (fin _ _ rfl rfl rfl (by simp)) | refine wt_alt ?_ ?_ | (refine wk (fun k hk => ?_); simp (disch := omega) only [go_sem, Nat.reduceBEq, Nat.reduceAdd]; refine hk _ _ ?_; clear hk k; with_reducible refine wk0 ?_))
  · intro en a' w' hq
    cases en with
    | normal =>
      obtain ⟨S', h', β', g', _, rfl, hl, hb0, hb1⟩ := hq
      have e0 : β' 0 = β 0 := g'.pin.2 0 (by simp)
      have e1 : β' 1 = β 1 := g'.pin.2 1 (by simp)
      have x0 := g'.boxes 0 _ (box_get hl) (by rw [hb0]; simp)
      have x1 := g'.boxes 1 _ (box_get hl) (by rw [hb1]; simp)
      have ne := g'.inj 0 1 _ _ (box_get hl) (box_get hl) (by rw [hb0]; simp) (by rw [hb1]; simp)
      rw [e0, hb0] at x0
      rw [e1, hb1] at x1
      rw [e0, e1] at ne
      cases c₀
      simp only [Exit.inBlock, bodyPostS]
      refine ⟨g'.defers, _, rfl, _, results_none rfl _ _ _, rfl, rfl, g'.fine.re rfl rfl, rows_two (x0.re rfl) (x1.re rfl) (fun e => by simpa using ne e)⟩
    | panic ch => obtain ⟨_, _, _, hq⟩ := hq; exact (hq : False).elim
    | outgrown => exact (hq : False).elim
    | _ => obtain ⟨_, _, _, _, hq, _⟩ := hq; cases hq
def offBo (β : Nat → Nat) : Deferred := { target := .fn (.func 98) #[.pointer (some ⟨β 0, 0, none⟩), .pointer (some ⟨β 1, 0, none⟩)], args := #[] }
theorem try_Bo {h : PH} {f : FuncId} {cap : Array Value} {w : World} (hw : Has w h) (hg : Sub mach.gl h) (hc : callable mach.P f = true) {Y : Ending → World → Prop}
    (hk : ∀ (w1 : World), Has w1 h → Calls mach.P f cap w1 fun e w2 => ∃ h3, Below w1.heap.size w1 w2 ∧ Has w2 h3 ∧ Sub h h3 ∧ New w1.heap.size h h3 ∧ match e with
        | .returned v => (∃ r0, v = Value.bool r0 ∧ [Value.bool r0].all Value.oneCell' = true) ∧ ∀ w3, Fine mach ⟨w, h, [], []⟩ h3 w3 → Y (.returned (.tuple #[v, .int .i64 0])) w3
        | .panicked ch => ∃ e, ch = [{ v := .iface 108 (.agg #[.int .i64 e]), recovered := false }] ∧ ∀ w3, Fine mach ⟨w, h, [], []⟩ h3 w3 → Y (.returned (.tuple #[.bool false, .int .i64 e])) w3
        | .outgrown => False) : Calls mach.P 43 #[.func (.func f) #[] cap] w Y := by
  refine calls_of_wp_defers Tryz.func43 rfl ?_
  refine wp_seq (wp_mono (AWP_use (E := NP) (Q := fun e S h' => e = .normal ∧ h' = h ∧ S = ⟨[(3, .p 1 0), (2, .p 0 0), (0, .v (.func (.func f) #[] cap))], [[.bool false], [.int .i64 0]]⟩) (G.start (M := mach) (n := 7) (args := [(.func (.func f) #[] cap)]) [] rfl (by simp) hw hg) ?_) ?_)
  · refine AWP_s rfl ?_
    (repeat (first | (refine wo rfl (fun k hk => ?_); simp (disch := omega) only [go_sem, Nat.reduceBEq, Nat.reduceAdd]; refine hk _ _ ?_; clear hk k) | refine wkt rfl ?_)); (try refine wk0 ?_)
    exact ⟨rfl, rfl, rfl⟩
  · intro en a w1 hq
    cases en with
    | normal =>
      obtain ⟨S', h', β, g, _, rfl, rfl⟩ := hq
      refine wp_seq (wp_region_s ?_)
      show RWc _ _ _ [0, 1] _ _
      refine RWc_r (.func (.func 98) #[] #[.pointer (some ⟨β 0, 0, none⟩), .pointer (some ⟨β 1, 0, none⟩)]) rfl rfl rfl (fun w' hb => ?_) ?_
      · simp [execOp, Instr.makeFunc, (g.below hb).ev_p (x := .tmp 2) rfl, (g.below hb).ev_p (x := .tmp 3) rfl]
      · have g4 := g.put (d := some 4) (fun k hk => by cases hk; decide) (x := .top) (v := (.func (.func 98) #[] #[.pointer (some ⟨β 0, 0, none⟩), .pointer (some ⟨β 1, 0, none⟩)])) (.inl rfl) (fun i hi => by cases hi)
        have e4 : (a.put (some 4) (.func (.func 98) #[] #[.pointer (some ⟨β 0, 0, none⟩), .pointer (some ⟨β 1, 0, none⟩)])).eval (.tmp 4) = (.func (.func 98) #[] #[.pointer (some ⟨β 0, 0, none⟩), .pointer (some ⟨β 1, 0, none⟩)]) := by
          have := g.size
          simp [Act.eval, Act.put, this]
        refine RWc_i rfl (by decide) rfl (wp_off (offBo β) ?_ ⟨.inr (Below.refl _ _), ?_⟩)
        · simp [execOp, offBo, resolve, Deferred.ofValue, e4]
        · refine RWc_then (a' := { a.put (some 4) (.func (.func 98) #[] #[.pointer (some ⟨β 0, 0, none⟩), .pointer (some ⟨β 1, 0, none⟩)]) with defers := [offBo β] }) ?_ ?_
          · simp [Act.put, show a.defers = [] from g.defers]
          · have g5 := g4.re (C' := ⟨w, h', [β 0, β 1], [offBo β]⟩) rfl rfl [offBo β] rfl ⟨by simp [AS.put], fun i hi => by
              match i, hi with
              | 0, _ => rfl
              | 1, _ => rfl⟩
            generalize ({ a.put (some 4) (.func (.func 98) #[] #[.pointer (some ⟨β 0, 0, none⟩), .pointer (some ⟨β 1, 0, none⟩)]) with defers := [offBo β] } : Act) = a5 at g5 ⊢
            clear e4 g4 g
            simp only [AS.put, st, Nat.reduceBEq, cond_false] at g5
            refine wp_seq (wp_region_s ?_)
            show RWc _ _ _ [0, 1, 2, 3] _ _
            refine RWc_r (.func (.func f) #[] cap) rfl rfl rfl (fun w' hb => ?_) ?_
            · simp [execOp, (g5.below hb).ev_v (x := .tmp 0) rfl]
            · have g6 := g5.put (d := some 5) (fun k hk => by cases hk; decide) (x := .v (.func (.func f) #[] cap)) (v := (.func (.func f) #[] cap)) (.inr rfl) (fun i hi => by cases hi)
              refine RWc_i rfl (by decide) rfl (wp_enter (f := f) (args := cap) ?_ ?_)
              · exact run_fv g6 (t := 5) rfl rfl hc
              · refine (hk w1 g6.fine.has).mono fun en w2 hp => ?_
                obtain ⟨h3, hb, hh, hs, hn, hp⟩ := hp
                cases en with
                | outgrown => exact hp
                | returned v =>
                  obtain ⟨⟨r0, rfl, hone⟩, hY⟩ := hp
                  refine ⟨.inr hb, ?_⟩
                  have g7 := (g6.grow hb hh hs hn).put (d := some 6) (fun k hk => by cases hk; decide) (x := .v (Value.bool r0)) (v := Value.bool r0) (.inr rfl) (fun i hi => by cases hi)
                  refine RWc_to (Q := LQ mach 7 ⟨w, h', [β 0, β 1], [offBo β]⟩ (fun e S h'' => e = .normal ∧ h'' = h3 ∧ 2 ≤ S.bx.length ∧ lk S.sl 2 = .p 0 0 ∧ lk S.sl 3 = .p 1 0 ∧ S.box 0 = [Value.bool r0] ∧ S.box 1 = [.int .i64 0]) NP) ?_ ?_ ?_ [2, 3] _ _ (RWc_of_walk [.o 2, .o 3] _ _ _ _ _ _ rfl ?_ g7)
                  · rintro a8 w3 ⟨S8, h8, β8, g8, _, rfl, hl, l2, l3, b0, b1⟩
                    refine wp_ret ?_
                    show Leaves mach.P _ a8.tmps Y a8.defers .returning w3
                    rw [show a8.defers = [offBo β] from g8.defers]
                    refine leaves_cons (f := 98) (args := #[.pointer (some ⟨β 0, 0, none⟩), .pointer (some ⟨β 1, 0, none⟩)]) (by simp) (by simp [go_sem]; exact run_call (by kernel_rfl) _ _) ?_
                    refine (idle_Bo _ _ _).mono ?_
                    rintro e u' w'' ⟨rfl, rfl, rfl⟩
                    simp only [settle, Leaves]
                    refine ⟨_, res_run g8 (v := .tuple #[Value.bool r0, .int .i64 0]) ?_, hY _ (g8.fine.re rfl rfl)⟩
                    show resA mach.P S8 [.cell 2 4, .cell 3 29] = _
                    have b0' : S8.bx.getD 0 [] = _ := b0
                    have b1' : S8.bx.getD 1 [] = _ := b1
                    simp only [resA, resL, res1, l2, l3, ldb, b0', b1', go_sem]
                    all_goals rfl
                  · rintro ch a w ⟨_, _, _, hq⟩; exact (hq : False).elim
                  · intro a w hq; exact (hq : False).elim
                  · simp only [AS.put, st, Nat.reduceBEq, cond_false]
                    refine wk (fun k hk => ?_)
                    simp (disch := omega) only [go_sem, Nat.reduceBEq, Nat.reduceAdd]
                    (first | refine ⟨by simpa [Value.oneCell'] using hone, hk _ _ ?_⟩ | refine hk _ _ ?_)
                    clear hk k
                    (repeat (first | (refine wo rfl (fun k hk => ?_); simp (disch := omega) only [go_sem, Nat.reduceBEq, Nat.reduceAdd]; refine hk _ _ ?_; clear hk k) | refine wkt rfl ?_)); (try refine wk0 ?_)
                    exact ⟨trivial, rfl, by simp, rfl, rfl, rfl, rfl⟩
                | panicked ch =>
                  obtain ⟨e, rfl, hY⟩ := hp
                  have g7 := g6.grow hb hh hs hn
                  show Leaves mach.P _ (a5.put (some 5) (.func (.func f) #[] cap)).tmps Y (a5.put (some 5) (.func (.func f) #[] cap)).defers (.panicking _) w2
                  rw [show (a5.put (some 5) (.func (.func f) #[] cap)).defers = [offBo β] from g7.defers]
                  refine leaves_cons (f := 98) (args := #[.pointer (some ⟨β 0, 0, none⟩), .pointer (some ⟨β 1, 0, none⟩)]) (by simp) (by simp [go_sem]; exact run_call (by kernel_rfl) _ _) ?_
                  refine (caught_Bo g7.fine ⟨g7.boxes, g7.inj⟩ rfl rfl).mono ?_
                  rintro en u' w'' ⟨rfl, rfl, hf, hr⟩
                  simp only [settle, Leaves, List.dropWhile_nil]
                  have g9 : G mach ⟨w, h', [β 0, β 1], [offBo β]⟩ 7 ⟨_, [[.bool false], [.int .i64 e]]⟩ h3 β (a5.put (some 5) (.func (.func f) #[] cap)) w'' := ⟨g7.size, g7.defers, hf, hr.at_, hr.inj, g7.slots, g7.wf, g7.pin⟩
                  refine ⟨_, res_run g9 (v := .tuple #[.bool false, .int .i64 e]) ?_, hY _ (hf.re rfl rfl)⟩
                  show resA mach.P _ [.cell 2 4, .cell 3 29] = _
                  simp only [resA, resL, res1, ldb, go_sem]
                  all_goals rfl
    | panic ch => obtain ⟨_, _, _, hq⟩ := hq; exact (hq : False).elim
    | outgrown => exact (hq : False).elim
    | _ => obtain ⟨_, _, _, _, hq, _⟩ := hq; cases hq
theorem tryBo_ok {h : PH} {f : FuncId} {cap : Array Value} {R R' : Value → PH → Prop} (s : Spec mach f cap h R NP) (hR : ∀ v h', Sub h h' → R v h' → (∃ r0, v = Value.bool r0 ∧ [Value.bool r0].all Value.oneCell' = true) ∧ R' (.tuple #[v, .int .i64 0]) h') :
    Spec mach 43 #[.func (.func f) #[] cap] h R' NP := ⟨by kernel_rfl, fun w hw hg => try_Bo hw hg s.ok fun w1 hw1 => (s.run w1 hw1 hg).mono fun e w2 hp => by
  cases e with
  | outgrown => exact (hp : False).elim
  | panicked ch => obtain ⟨_, _, _, _, _, hp⟩ := hp; exact (hp : False).elim
  | returned v =>
    obtain ⟨h3, hb, hh, hs, hn, hr⟩ := hp
    obtain ⟨hv, hr⟩ := hR v h3 hs hr
    exact ⟨h3, hb, hh, hs, hn, hv, fun w3 hf => ⟨h3, hf.below, hf.has, hf.sub, hf.new, hr⟩⟩⟩
theorem tryBo_fail {h : PH} {f : FuncId} {cap : Array Value} {e : Int} {R' : Value → PH → Prop} (s : Spec mach f cap h NR (fail e)) (hR : ∀ h', Sub h h' → R' (.tuple #[.bool false, .int .i64 e]) h') :
    Spec mach 43 #[.func (.func f) #[] cap] h R' NP := ⟨by kernel_rfl, fun w hw hg => try_Bo hw hg s.ok fun w1 hw1 => (s.run w1 hw1 hg).mono fun en w2 hp => by
  cases en with
  | outgrown => exact (hp : False).elim
  | returned v => obtain ⟨_, _, _, _, _, hp⟩ := hp; exact (hp : False).elim
  | panicked ch =>
    obtain ⟨h3, hb, hh, hs, hn, hr⟩ := hp
    exact ⟨h3, hb, hh, hs, hn, e, hr, fun w3 hf => ⟨h3, hf.below, hf.has, hf.sub, hf.new, hR h3 hs⟩⟩⟩
end Go.Q
