/-
  Contracts of package interval: meets of two sets. Conditions: the values denote the intervals named, their ends of at most 2^30 binary digits. (Printed by a program, a case for each of the ends that are infinite.)
  Contracts of package interval: what Has and Inside answer. Conditions: the values are intervals and numbers.
  Contracts of package interval: what Inside answers. Conditions: the values are intervals.
  Contracts of package interval: ends of sets, products of ends. Conditions: the values denote the ends named, numbers of at most 2^30 binary digits.
  Contracts of package interval: products of sets. Conditions: the values denote the intervals named, their ends of at most 2048 binary digits.
  Contracts of package interval: the product of two sets; what Mul returns. Conditions: the values denote the intervals named, their ends of at most 2048 binary digits.
-/
import Derived.Test.YthagpdbpgdfojaaGreatDoorK8c26a1PkD
import Derived.Test.YthagpdbpgdfojaaGreatDoorK1d3f91PkJ
set_option linter.unusedVariables false
set_option linter.unusedSimpArgs false
namespace Go.Q
open Go.Proofs
set_option maxRecDepth 100000
set_option maxHeartbeats 4000000
theorem met_end {a b : Rat} {p : Prop} (h1 : b < a → p) (h2 : ¬ b < a → p) : p := by
  by_cases h : b < a
  · exact h1 h
  · exact h2 h
theorem met_1 {h0 h : PH} [Le h0 h] {v w : Value} (hs : Sd h0 v (.i none none)) (ht : Sd h0 w (.i none none)) (ls : NS.le (2 ^ 30) (.i none none)) (lt : NS.le (2 ^ 30) (.i none none)) :
    Spec mach 42 #[v, w] h (fun v h' => Sn h' v (NS.met (.i none none) (.i none none))) NP := by
  obtain ⟨b1, a1, m1, c1, a2, m2, c2, b2, a3, m3, c3, a4, m4, c4, rfl, h1, h2⟩ := Sn.ie hs
  rw [NS.le_i] at ls
  obtain ⟨b1', a1', m1', c1', a2', m2', c2', b2', a3', m3', c3', a4', m4', c4', rfl, h3, h4⟩ := Sn.ie ht
  rw [NS.le_i] at lt
  try dsimp only [Option.isNone]
  refine Spec.go [] Tryz.func42 rfl rfl (by kernel_rfl) fun C _ => ?_
  try simp (maxSteps := 999999) (disch := omega) only [go_sem, Nat.reduceBEq, Nat.reduceAdd]
  exact ⟨_, _, _, _, _, _, rfl, h3.to, h4.to⟩
theorem met_2 {h0 h : PH} [Le h0 h] {v w : Value} {d : Rat} (hs : Sd h0 v (.i none none)) (ht : Sd h0 w (.i none (some d))) (ls : NS.le (2 ^ 30) (.i none none)) (lt : NS.le (2 ^ 30) (.i none (some d))) :
    Spec mach 42 #[v, w] h (fun v h' => Sn h' v (NS.met (.i none none) (.i none (some d)))) NP := by
  obtain ⟨b1, a1, m1, c1, a2, m2, c2, b2, a3, m3, c3, a4, m4, c4, rfl, h1, h2⟩ := Sn.ie hs
  rw [NS.le_i] at ls
  obtain ⟨b1', a1', m1', c1', a2', m2', c2', b2', a3', m3', c3', a4', m4', c4', rfl, h3, h4⟩ := Sn.ie ht
  rw [NS.le_i] at lt
  have z4 := lt.2 _ rfl
  try dsimp only [Option.isNone]
  refine Spec.go [] Tryz.func42 rfl rfl (by kernel_rfl) fun C _ => ?_
  try simp (maxSteps := 999999) (disch := omega) only [go_sem, Nat.reduceBEq, Nat.reduceAdd]
  exact ⟨_, _, _, _, _, _, rfl, h3.to, h4.to⟩
theorem met_3 {h0 h : PH} [Le h0 h] {v w : Value} {c : Rat} (hs : Sd h0 v (.i none none)) (ht : Sd h0 w (.i (some c) none)) (ls : NS.le (2 ^ 30) (.i none none)) (lt : NS.le (2 ^ 30) (.i (some c) none)) :
    Spec mach 42 #[v, w] h (fun v h' => Sn h' v (NS.met (.i none none) (.i (some c) none))) NP := by
  obtain ⟨b1, a1, m1, c1, a2, m2, c2, b2, a3, m3, c3, a4, m4, c4, rfl, h1, h2⟩ := Sn.ie hs
  rw [NS.le_i] at ls
  obtain ⟨b1', a1', m1', c1', a2', m2', c2', b2', a3', m3', c3', a4', m4', c4', rfl, h3, h4⟩ := Sn.ie ht
  rw [NS.le_i] at lt
  have z3 := lt.1 _ rfl
  try dsimp only [Option.isNone]
  refine Spec.go [] Tryz.func42 rfl rfl (by kernel_rfl) fun C _ => ?_
  try simp (maxSteps := 999999) (disch := omega) only [go_sem, Nat.reduceBEq, Nat.reduceAdd]
  exact ⟨_, _, _, _, _, _, rfl, h3.to, h4.to⟩
theorem met_4 {h0 h : PH} [Le h0 h] {v w : Value} {c d : Rat} (hs : Sd h0 v (.i none none)) (ht : Sd h0 w (.i (some c) (some d))) (ls : NS.le (2 ^ 30) (.i none none)) (lt : NS.le (2 ^ 30) (.i (some c) (some d))) :
    Spec mach 42 #[v, w] h (fun v h' => Sn h' v (NS.met (.i none none) (.i (some c) (some d)))) NP := by
  obtain ⟨b1, a1, m1, c1, a2, m2, c2, b2, a3, m3, c3, a4, m4, c4, rfl, h1, h2⟩ := Sn.ie hs
  rw [NS.le_i] at ls
  obtain ⟨b1', a1', m1', c1', a2', m2', c2', b2', a3', m3', c3', a4', m4', c4', rfl, h3, h4⟩ := Sn.ie ht
  rw [NS.le_i] at lt
  have z3 := lt.1 _ rfl
  have z4 := lt.2 _ rfl
  try dsimp only [Option.isNone]
  refine Spec.go [] Tryz.func42 rfl rfl (by kernel_rfl) fun C _ => ?_
  try simp (maxSteps := 999999) (disch := omega) only [go_sem, Nat.reduceBEq, Nat.reduceAdd]
  refine caN (by exact Cmp_frac h3.num h4.num (up36 (z3)) (up36 (z4))) ?_; rintro vc hc sc rfl
  try simp (maxSteps := 999999) (disch := omega) only [go_sem, Nat.reduceBEq, Nat.reduceAdd]
  refine met_end (a := c) (b := d) (fun hlt => ?_) (fun hle => ?_)
  · have e1 : 0 < cmpQ c d := by unfold cmpQ; grind
    try simp (maxSteps := 999999) (disch := omega) only [go_sem, Nat.reduceBEq, Nat.reduceAdd]
    have eq : NS.met (.i none none) (.i (some c) (some d)) = .e := by simp [NS.met, omax, omin, NS.mk', ordO, hlt]
    rw [eq]
    exact ⟨_, _, _, _, _, _, _, _, rfl, h3.junk.to, h4.junk.to⟩
  · have e1 : ¬ 0 < cmpQ c d := by unfold cmpQ; grind
    try simp (maxSteps := 999999) (disch := omega) only [go_sem, Nat.reduceBEq, Nat.reduceAdd]
    have eq : NS.met (.i none none) (.i (some c) (some d)) = .i (some c) (some d) := by simp [NS.met, omax, omin, NS.mk', ordO, hle]
    rw [eq]
    exact ⟨_, _, _, _, _, _, rfl, h3.to, h4.to⟩
theorem met_5 {h0 h : PH} [Le h0 h] {v w : Value} (hs : Sd h0 v (.i none none)) (ht : Sd h0 w .e) (ls : NS.le (2 ^ 30) (.i none none)) (lt : NS.le (2 ^ 30) .e) :
    Spec mach 42 #[v, w] h (fun v h' => Sn h' v (NS.met (.i none none) .e)) NP := by
  obtain ⟨b1, a1, m1, c1, a2, m2, c2, b2, a3, m3, c3, a4, m4, c4, rfl, h1, h2⟩ := Sn.ie hs
  rw [NS.le_i] at ls
  obtain ⟨b1', a1', m1', c1', a2', m2', c2', b2', a3', m3', c3', a4', m4', c4', c, d, rfl, h3, h4, z3, z4⟩ := ht.ee
  try dsimp only [Option.isNone]
  refine Spec.go [] Tryz.func42 rfl rfl (by kernel_rfl) fun C _ => ?_
  try simp (maxSteps := 999999) (disch := omega) only [go_sem, Nat.reduceBEq, Nat.reduceAdd]
  exact ⟨_, _, _, _, _, _, _, _, rfl, h3.junk.to, h4.junk.to⟩
theorem met_6 {h0 h : PH} [Le h0 h] {v w : Value} {b : Rat} (hs : Sd h0 v (.i none (some b))) (ht : Sd h0 w (.i none none)) (ls : NS.le (2 ^ 30) (.i none (some b))) (lt : NS.le (2 ^ 30) (.i none none)) :
    Spec mach 42 #[v, w] h (fun v h' => Sn h' v (NS.met (.i none (some b)) (.i none none))) NP := by
  obtain ⟨b1, a1, m1, c1, a2, m2, c2, b2, a3, m3, c3, a4, m4, c4, rfl, h1, h2⟩ := Sn.ie hs
  rw [NS.le_i] at ls
  have z2 := ls.2 _ rfl
  obtain ⟨b1', a1', m1', c1', a2', m2', c2', b2', a3', m3', c3', a4', m4', c4', rfl, h3, h4⟩ := Sn.ie ht
  rw [NS.le_i] at lt
  try dsimp only [Option.isNone]
  refine Spec.go [] Tryz.func42 rfl rfl (by kernel_rfl) fun C _ => ?_
  try simp (maxSteps := 999999) (disch := omega) only [go_sem, Nat.reduceBEq, Nat.reduceAdd]
  exact ⟨_, _, _, _, _, _, rfl, h3.to, h2.to⟩
theorem met_7 {h0 h : PH} [Le h0 h] {v w : Value} {b d : Rat} (hs : Sd h0 v (.i none (some b))) (ht : Sd h0 w (.i none (some d))) (ls : NS.le (2 ^ 30) (.i none (some b))) (lt : NS.le (2 ^ 30) (.i none (some d))) :
    Spec mach 42 #[v, w] h (fun v h' => Sn h' v (NS.met (.i none (some b)) (.i none (some d)))) NP := by
  obtain ⟨b1, a1, m1, c1, a2, m2, c2, b2, a3, m3, c3, a4, m4, c4, rfl, h1, h2⟩ := Sn.ie hs
  rw [NS.le_i] at ls
  have z2 := ls.2 _ rfl
  obtain ⟨b1', a1', m1', c1', a2', m2', c2', b2', a3', m3', c3', a4', m4', c4', rfl, h3, h4⟩ := Sn.ie ht
  rw [NS.le_i] at lt
  have z4 := lt.2 _ rfl
  try dsimp only [Option.isNone]
  refine Spec.go [] Tryz.func42 rfl rfl (by kernel_rfl) fun C _ => ?_
  try simp (maxSteps := 999999) (disch := omega) only [go_sem, Nat.reduceBEq, Nat.reduceAdd]
  refine caN (by exact least_spec h2.num h4.num (up36 z2) (up36 z4)) ?_; rintro _ g2 _ f2; obtain ⟨_, _, _, _, _, _, _, rfl, f2⟩ := f2.sa
  try simp (maxSteps := 999999) (disch := omega) only [go_sem, Nat.reduceBEq, Nat.reduceAdd]
  exact ⟨_, _, _, _, _, _, rfl, h3.to, (En.of f2).to⟩
theorem met_8 {h0 h : PH} [Le h0 h] {v w : Value} {b c : Rat} (hs : Sd h0 v (.i none (some b))) (ht : Sd h0 w (.i (some c) none)) (ls : NS.le (2 ^ 30) (.i none (some b))) (lt : NS.le (2 ^ 30) (.i (some c) none)) :
    Spec mach 42 #[v, w] h (fun v h' => Sn h' v (NS.met (.i none (some b)) (.i (some c) none))) NP := by
  obtain ⟨b1, a1, m1, c1, a2, m2, c2, b2, a3, m3, c3, a4, m4, c4, rfl, h1, h2⟩ := Sn.ie hs
  rw [NS.le_i] at ls
  have z2 := ls.2 _ rfl
  obtain ⟨b1', a1', m1', c1', a2', m2', c2', b2', a3', m3', c3', a4', m4', c4', rfl, h3, h4⟩ := Sn.ie ht
  rw [NS.le_i] at lt
  have z3 := lt.1 _ rfl
  try dsimp only [Option.isNone]
  refine Spec.go [] Tryz.func42 rfl rfl (by kernel_rfl) fun C _ => ?_
  try simp (maxSteps := 999999) (disch := omega) only [go_sem, Nat.reduceBEq, Nat.reduceAdd]
  refine caN (by exact Cmp_frac h3.num h2.num (up36 (z3)) (up36 (z2))) ?_; rintro vc hc sc rfl
  try simp (maxSteps := 999999) (disch := omega) only [go_sem, Nat.reduceBEq, Nat.reduceAdd]
  refine met_end (a := c) (b := b) (fun hlt => ?_) (fun hle => ?_)
  · have e1 : 0 < cmpQ c b := by unfold cmpQ; grind
    try simp (maxSteps := 999999) (disch := omega) only [go_sem, Nat.reduceBEq, Nat.reduceAdd]
    have eq : NS.met (.i none (some b)) (.i (some c) none) = .e := by simp [NS.met, omax, omin, NS.mk', ordO, hlt]
    rw [eq]
    exact ⟨_, _, _, _, _, _, _, _, rfl, h3.junk.to, h2.junk.to⟩
  · have e1 : ¬ 0 < cmpQ c b := by unfold cmpQ; grind
    try simp (maxSteps := 999999) (disch := omega) only [go_sem, Nat.reduceBEq, Nat.reduceAdd]
    have eq : NS.met (.i none (some b)) (.i (some c) none) = .i (some c) (some b) := by simp [NS.met, omax, omin, NS.mk', ordO, hle]
    rw [eq]
    exact ⟨_, _, _, _, _, _, rfl, h3.to, h2.to⟩
theorem met_9 {h0 h : PH} [Le h0 h] {v w : Value} {b c d : Rat} (hs : Sd h0 v (.i none (some b))) (ht : Sd h0 w (.i (some c) (some d))) (ls : NS.le (2 ^ 30) (.i none (some b))) (lt : NS.le (2 ^ 30) (.i (some c) (some d))) :
    Spec mach 42 #[v, w] h (fun v h' => Sn h' v (NS.met (.i none (some b)) (.i (some c) (some d)))) NP := by
  obtain ⟨b1, a1, m1, c1, a2, m2, c2, b2, a3, m3, c3, a4, m4, c4, rfl, h1, h2⟩ := Sn.ie hs
  rw [NS.le_i] at ls
  have z2 := ls.2 _ rfl
  obtain ⟨b1', a1', m1', c1', a2', m2', c2', b2', a3', m3', c3', a4', m4', c4', rfl, h3, h4⟩ := Sn.ie ht
  rw [NS.le_i] at lt
  have z3 := lt.1 _ rfl
  have z4 := lt.2 _ rfl
  try dsimp only [Option.isNone]
  refine Spec.go [] Tryz.func42 rfl rfl (by kernel_rfl) fun C _ => ?_
  try simp (maxSteps := 999999) (disch := omega) only [go_sem, Nat.reduceBEq, Nat.reduceAdd]
  refine caN (by exact least_spec h2.num h4.num (up36 z2) (up36 z4)) ?_; rintro _ g2 _ f2; obtain ⟨_, _, _, _, _, _, _, rfl, f2⟩ := f2.sa
  try simp (maxSteps := 999999) (disch := omega) only [go_sem, Nat.reduceBEq, Nat.reduceAdd]
  refine caN (by exact Cmp_frac (h3.num.to (h' := g2)) ((En.of f2).num.to (h' := g2)) (up36 (z3)) (up36 (sz_min z2 z4))) ?_; rintro vc hc sc rfl
  try simp (maxSteps := 999999) (disch := omega) only [go_sem, Nat.reduceBEq, Nat.reduceAdd]
  refine met_end (a := c) (b := (min b d)) (fun hlt => ?_) (fun hle => ?_)
  · have e1 : 0 < cmpQ c (min b d) := by unfold cmpQ; grind
    try simp (maxSteps := 999999) (disch := omega) only [go_sem, Nat.reduceBEq, Nat.reduceAdd]
    have eq : NS.met (.i none (some b)) (.i (some c) (some d)) = .e := by simp [NS.met, omax, omin, NS.mk', ordO, hlt]
    rw [eq]
    exact ⟨_, _, _, _, _, _, _, _, rfl, h3.junk.to, (En.of f2).junk.to⟩
  · have e1 : ¬ 0 < cmpQ c (min b d) := by unfold cmpQ; grind
    try simp (maxSteps := 999999) (disch := omega) only [go_sem, Nat.reduceBEq, Nat.reduceAdd]
    have eq : NS.met (.i none (some b)) (.i (some c) (some d)) = .i (some c) (some (min b d)) := by simp [NS.met, omax, omin, NS.mk', ordO, hle]
    rw [eq]
    exact ⟨_, _, _, _, _, _, rfl, h3.to, (En.of f2).to⟩
theorem met_10 {h0 h : PH} [Le h0 h] {v w : Value} {b : Rat} (hs : Sd h0 v (.i none (some b))) (ht : Sd h0 w .e) (ls : NS.le (2 ^ 30) (.i none (some b))) (lt : NS.le (2 ^ 30) .e) :
    Spec mach 42 #[v, w] h (fun v h' => Sn h' v (NS.met (.i none (some b)) .e)) NP := by
  obtain ⟨b1, a1, m1, c1, a2, m2, c2, b2, a3, m3, c3, a4, m4, c4, rfl, h1, h2⟩ := Sn.ie hs
  rw [NS.le_i] at ls
  have z2 := ls.2 _ rfl
  obtain ⟨b1', a1', m1', c1', a2', m2', c2', b2', a3', m3', c3', a4', m4', c4', c, d, rfl, h3, h4, z3, z4⟩ := ht.ee
  try dsimp only [Option.isNone]
  refine Spec.go [] Tryz.func42 rfl rfl (by kernel_rfl) fun C _ => ?_
  try simp (maxSteps := 999999) (disch := omega) only [go_sem, Nat.reduceBEq, Nat.reduceAdd]
  refine caN (by exact least_spec h2.num h4.num (up36 z2) (up36 z4)) ?_; rintro _ g2 _ f2; obtain ⟨_, _, _, _, _, _, _, rfl, f2⟩ := f2.sa
  try simp (maxSteps := 999999) (disch := omega) only [go_sem, Nat.reduceBEq, Nat.reduceAdd]
  exact ⟨_, _, _, _, _, _, _, _, rfl, h3.junk.to, (En.of f2).junk.to⟩
theorem met_11 {h0 h : PH} [Le h0 h] {v w : Value} {a : Rat} (hs : Sd h0 v (.i (some a) none)) (ht : Sd h0 w (.i none none)) (ls : NS.le (2 ^ 30) (.i (some a) none)) (lt : NS.le (2 ^ 30) (.i none none)) :
    Spec mach 42 #[v, w] h (fun v h' => Sn h' v (NS.met (.i (some a) none) (.i none none))) NP := by
  obtain ⟨b1, a1, m1, c1, a2, m2, c2, b2, a3, m3, c3, a4, m4, c4, rfl, h1, h2⟩ := Sn.ie hs
  rw [NS.le_i] at ls
  have z1 := ls.1 _ rfl
  obtain ⟨b1', a1', m1', c1', a2', m2', c2', b2', a3', m3', c3', a4', m4', c4', rfl, h3, h4⟩ := Sn.ie ht
  rw [NS.le_i] at lt
  try dsimp only [Option.isNone]
  refine Spec.go [] Tryz.func42 rfl rfl (by kernel_rfl) fun C _ => ?_
  try simp (maxSteps := 999999) (disch := omega) only [go_sem, Nat.reduceBEq, Nat.reduceAdd]
  exact ⟨_, _, _, _, _, _, rfl, h1.to, h4.to⟩
theorem met_12 {h0 h : PH} [Le h0 h] {v w : Value} {a d : Rat} (hs : Sd h0 v (.i (some a) none)) (ht : Sd h0 w (.i none (some d))) (ls : NS.le (2 ^ 30) (.i (some a) none)) (lt : NS.le (2 ^ 30) (.i none (some d))) :
    Spec mach 42 #[v, w] h (fun v h' => Sn h' v (NS.met (.i (some a) none) (.i none (some d)))) NP := by
  obtain ⟨b1, a1, m1, c1, a2, m2, c2, b2, a3, m3, c3, a4, m4, c4, rfl, h1, h2⟩ := Sn.ie hs
  rw [NS.le_i] at ls
  have z1 := ls.1 _ rfl
  obtain ⟨b1', a1', m1', c1', a2', m2', c2', b2', a3', m3', c3', a4', m4', c4', rfl, h3, h4⟩ := Sn.ie ht
  rw [NS.le_i] at lt
  have z4 := lt.2 _ rfl
  try dsimp only [Option.isNone]
  refine Spec.go [] Tryz.func42 rfl rfl (by kernel_rfl) fun C _ => ?_
  try simp (maxSteps := 999999) (disch := omega) only [go_sem, Nat.reduceBEq, Nat.reduceAdd]
  refine caN (by exact Cmp_frac h1.num h4.num (up36 (z1)) (up36 (z4))) ?_; rintro vc hc sc rfl
  try simp (maxSteps := 999999) (disch := omega) only [go_sem, Nat.reduceBEq, Nat.reduceAdd]
  refine met_end (a := a) (b := d) (fun hlt => ?_) (fun hle => ?_)
  · have e1 : 0 < cmpQ a d := by unfold cmpQ; grind
    try simp (maxSteps := 999999) (disch := omega) only [go_sem, Nat.reduceBEq, Nat.reduceAdd]
    have eq : NS.met (.i (some a) none) (.i none (some d)) = .e := by simp [NS.met, omax, omin, NS.mk', ordO, hlt]
    rw [eq]
    exact ⟨_, _, _, _, _, _, _, _, rfl, h1.junk.to, h4.junk.to⟩
  · have e1 : ¬ 0 < cmpQ a d := by unfold cmpQ; grind
    try simp (maxSteps := 999999) (disch := omega) only [go_sem, Nat.reduceBEq, Nat.reduceAdd]
    have eq : NS.met (.i (some a) none) (.i none (some d)) = .i (some a) (some d) := by simp [NS.met, omax, omin, NS.mk', ordO, hle]
    rw [eq]
    exact ⟨_, _, _, _, _, _, rfl, h1.to, h4.to⟩
theorem met_13 {h0 h : PH} [Le h0 h] {v w : Value} {a c : Rat} (hs : Sd h0 v (.i (some a) none)) (ht : Sd h0 w (.i (some c) none)) (ls : NS.le (2 ^ 30) (.i (some a) none)) (lt : NS.le (2 ^ 30) (.i (some c) none)) :
    Spec mach 42 #[v, w] h (fun v h' => Sn h' v (NS.met (.i (some a) none) (.i (some c) none))) NP := by
  obtain ⟨b1, a1, m1, c1, a2, m2, c2, b2, a3, m3, c3, a4, m4, c4, rfl, h1, h2⟩ := Sn.ie hs
  rw [NS.le_i] at ls
  have z1 := ls.1 _ rfl
  obtain ⟨b1', a1', m1', c1', a2', m2', c2', b2', a3', m3', c3', a4', m4', c4', rfl, h3, h4⟩ := Sn.ie ht
  rw [NS.le_i] at lt
  have z3 := lt.1 _ rfl
  try dsimp only [Option.isNone]
  refine Spec.go [] Tryz.func42 rfl rfl (by kernel_rfl) fun C _ => ?_
  try simp (maxSteps := 999999) (disch := omega) only [go_sem, Nat.reduceBEq, Nat.reduceAdd]
  refine caN (by exact greatest_spec h1.num h3.num (up36 z1) (up36 z3)) ?_; rintro _ g1 _ f1; obtain ⟨_, _, _, _, _, _, _, rfl, f1⟩ := f1.sa
  try simp (maxSteps := 999999) (disch := omega) only [go_sem, Nat.reduceBEq, Nat.reduceAdd]
  exact ⟨_, _, _, _, _, _, rfl, (En.of f1).to, h4.to⟩
theorem met_14 {h0 h : PH} [Le h0 h] {v w : Value} {a c d : Rat} (hs : Sd h0 v (.i (some a) none)) (ht : Sd h0 w (.i (some c) (some d))) (ls : NS.le (2 ^ 30) (.i (some a) none)) (lt : NS.le (2 ^ 30) (.i (some c) (some d))) :
    Spec mach 42 #[v, w] h (fun v h' => Sn h' v (NS.met (.i (some a) none) (.i (some c) (some d)))) NP := by
  obtain ⟨b1, a1, m1, c1, a2, m2, c2, b2, a3, m3, c3, a4, m4, c4, rfl, h1, h2⟩ := Sn.ie hs
  rw [NS.le_i] at ls
  have z1 := ls.1 _ rfl
  obtain ⟨b1', a1', m1', c1', a2', m2', c2', b2', a3', m3', c3', a4', m4', c4', rfl, h3, h4⟩ := Sn.ie ht
  rw [NS.le_i] at lt
  have z3 := lt.1 _ rfl
  have z4 := lt.2 _ rfl
  try dsimp only [Option.isNone]
  refine Spec.go [] Tryz.func42 rfl rfl (by kernel_rfl) fun C _ => ?_
  try simp (maxSteps := 999999) (disch := omega) only [go_sem, Nat.reduceBEq, Nat.reduceAdd]
  refine caN (by exact greatest_spec h1.num h3.num (up36 z1) (up36 z3)) ?_; rintro _ g1 _ f1; obtain ⟨_, _, _, _, _, _, _, rfl, f1⟩ := f1.sa
  try simp (maxSteps := 999999) (disch := omega) only [go_sem, Nat.reduceBEq, Nat.reduceAdd]
  refine caN (by exact Cmp_frac ((En.of f1).num.to (h' := g1)) (h4.num.to (h' := g1)) (up36 (sz_max z1 z3)) (up36 (z4))) ?_; rintro vc hc sc rfl
  try simp (maxSteps := 999999) (disch := omega) only [go_sem, Nat.reduceBEq, Nat.reduceAdd]
  refine met_end (a := (max a c)) (b := d) (fun hlt => ?_) (fun hle => ?_)
  · have e1 : 0 < cmpQ (max a c) d := by unfold cmpQ; grind
    try simp (maxSteps := 999999) (disch := omega) only [go_sem, Nat.reduceBEq, Nat.reduceAdd]
    have eq : NS.met (.i (some a) none) (.i (some c) (some d)) = .e := by simp [NS.met, omax, omin, NS.mk', ordO, hlt]
    rw [eq]
    exact ⟨_, _, _, _, _, _, _, _, rfl, (En.of f1).junk.to, h4.junk.to⟩
  · have e1 : ¬ 0 < cmpQ (max a c) d := by unfold cmpQ; grind
    try simp (maxSteps := 999999) (disch := omega) only [go_sem, Nat.reduceBEq, Nat.reduceAdd]
    have eq : NS.met (.i (some a) none) (.i (some c) (some d)) = .i (some (max a c)) (some d) := by simp [NS.met, omax, omin, NS.mk', ordO, hle]
    rw [eq]
    exact ⟨_, _, _, _, _, _, rfl, (En.of f1).to, h4.to⟩
theorem met_15 {h0 h : PH} [Le h0 h] {v w : Value} {a : Rat} (hs : Sd h0 v (.i (some a) none)) (ht : Sd h0 w .e) (ls : NS.le (2 ^ 30) (.i (some a) none)) (lt : NS.le (2 ^ 30) .e) :
    Spec mach 42 #[v, w] h (fun v h' => Sn h' v (NS.met (.i (some a) none) .e)) NP := by
  obtain ⟨b1, a1, m1, c1, a2, m2, c2, b2, a3, m3, c3, a4, m4, c4, rfl, h1, h2⟩ := Sn.ie hs
  rw [NS.le_i] at ls
  have z1 := ls.1 _ rfl
  obtain ⟨b1', a1', m1', c1', a2', m2', c2', b2', a3', m3', c3', a4', m4', c4', c, d, rfl, h3, h4, z3, z4⟩ := ht.ee
  try dsimp only [Option.isNone]
  refine Spec.go [] Tryz.func42 rfl rfl (by kernel_rfl) fun C _ => ?_
  try simp (maxSteps := 999999) (disch := omega) only [go_sem, Nat.reduceBEq, Nat.reduceAdd]
  refine caN (by exact greatest_spec h1.num h3.num (up36 z1) (up36 z3)) ?_; rintro _ g1 _ f1; obtain ⟨_, _, _, _, _, _, _, rfl, f1⟩ := f1.sa
  try simp (maxSteps := 999999) (disch := omega) only [go_sem, Nat.reduceBEq, Nat.reduceAdd]
  exact ⟨_, _, _, _, _, _, _, _, rfl, (En.of f1).junk.to, h4.junk.to⟩
theorem met_16 {h0 h : PH} [Le h0 h] {v w : Value} {a b : Rat} (hs : Sd h0 v (.i (some a) (some b))) (ht : Sd h0 w (.i none none)) (ls : NS.le (2 ^ 30) (.i (some a) (some b))) (lt : NS.le (2 ^ 30) (.i none none)) :
    Spec mach 42 #[v, w] h (fun v h' => Sn h' v (NS.met (.i (some a) (some b)) (.i none none))) NP := by
  obtain ⟨b1, a1, m1, c1, a2, m2, c2, b2, a3, m3, c3, a4, m4, c4, rfl, h1, h2⟩ := Sn.ie hs
  rw [NS.le_i] at ls
  have z1 := ls.1 _ rfl
  have z2 := ls.2 _ rfl
  obtain ⟨b1', a1', m1', c1', a2', m2', c2', b2', a3', m3', c3', a4', m4', c4', rfl, h3, h4⟩ := Sn.ie ht
  rw [NS.le_i] at lt
  try dsimp only [Option.isNone]
  refine Spec.go [] Tryz.func42 rfl rfl (by kernel_rfl) fun C _ => ?_
  try simp (maxSteps := 999999) (disch := omega) only [go_sem, Nat.reduceBEq, Nat.reduceAdd]
  refine caN (by exact Cmp_frac h1.num h2.num (up36 (z1)) (up36 (z2))) ?_; rintro vc hc sc rfl
  try simp (maxSteps := 999999) (disch := omega) only [go_sem, Nat.reduceBEq, Nat.reduceAdd]
  refine met_end (a := a) (b := b) (fun hlt => ?_) (fun hle => ?_)
  · have e1 : 0 < cmpQ a b := by unfold cmpQ; grind
    try simp (maxSteps := 999999) (disch := omega) only [go_sem, Nat.reduceBEq, Nat.reduceAdd]
    have eq : NS.met (.i (some a) (some b)) (.i none none) = .e := by simp [NS.met, omax, omin, NS.mk', ordO, hlt]
    rw [eq]
    exact ⟨_, _, _, _, _, _, _, _, rfl, h1.junk.to, h2.junk.to⟩
  · have e1 : ¬ 0 < cmpQ a b := by unfold cmpQ; grind
    try simp (maxSteps := 999999) (disch := omega) only [go_sem, Nat.reduceBEq, Nat.reduceAdd]
    have eq : NS.met (.i (some a) (some b)) (.i none none) = .i (some a) (some b) := by simp [NS.met, omax, omin, NS.mk', ordO, hle]
    rw [eq]
    exact ⟨_, _, _, _, _, _, rfl, h1.to, h2.to⟩
theorem met_17 {h0 h : PH} [Le h0 h] {v w : Value} {a b d : Rat} (hs : Sd h0 v (.i (some a) (some b))) (ht : Sd h0 w (.i none (some d))) (ls : NS.le (2 ^ 30) (.i (some a) (some b))) (lt : NS.le (2 ^ 30) (.i none (some d))) :
    Spec mach 42 #[v, w] h (fun v h' => Sn h' v (NS.met (.i (some a) (some b)) (.i none (some d)))) NP := by
  obtain ⟨b1, a1, m1, c1, a2, m2, c2, b2, a3, m3, c3, a4, m4, c4, rfl, h1, h2⟩ := Sn.ie hs
  rw [NS.le_i] at ls
  have z1 := ls.1 _ rfl
  have z2 := ls.2 _ rfl
  obtain ⟨b1', a1', m1', c1', a2', m2', c2', b2', a3', m3', c3', a4', m4', c4', rfl, h3, h4⟩ := Sn.ie ht
  rw [NS.le_i] at lt
  have z4 := lt.2 _ rfl
  try dsimp only [Option.isNone]
  refine Spec.go [] Tryz.func42 rfl rfl (by kernel_rfl) fun C _ => ?_
  try simp (maxSteps := 999999) (disch := omega) only [go_sem, Nat.reduceBEq, Nat.reduceAdd]
  refine caN (by exact least_spec h2.num h4.num (up36 z2) (up36 z4)) ?_; rintro _ g2 _ f2; obtain ⟨_, _, _, _, _, _, _, rfl, f2⟩ := f2.sa
  try simp (maxSteps := 999999) (disch := omega) only [go_sem, Nat.reduceBEq, Nat.reduceAdd]
  refine caN (by exact Cmp_frac (h1.num.to (h' := g2)) ((En.of f2).num.to (h' := g2)) (up36 (z1)) (up36 (sz_min z2 z4))) ?_; rintro vc hc sc rfl
  try simp (maxSteps := 999999) (disch := omega) only [go_sem, Nat.reduceBEq, Nat.reduceAdd]
  refine met_end (a := a) (b := (min b d)) (fun hlt => ?_) (fun hle => ?_)
  · have e1 : 0 < cmpQ a (min b d) := by unfold cmpQ; grind
    try simp (maxSteps := 999999) (disch := omega) only [go_sem, Nat.reduceBEq, Nat.reduceAdd]
    have eq : NS.met (.i (some a) (some b)) (.i none (some d)) = .e := by simp [NS.met, omax, omin, NS.mk', ordO, hlt]
    rw [eq]
    exact ⟨_, _, _, _, _, _, _, _, rfl, h1.junk.to, (En.of f2).junk.to⟩
  · have e1 : ¬ 0 < cmpQ a (min b d) := by unfold cmpQ; grind
    try simp (maxSteps := 999999) (disch := omega) only [go_sem, Nat.reduceBEq, Nat.reduceAdd]
    have eq : NS.met (.i (some a) (some b)) (.i none (some d)) = .i (some a) (some (min b d)) := by simp [NS.met, omax, omin, NS.mk', ordO, hle]
    rw [eq]
    exact ⟨_, _, _, _, _, _, rfl, h1.to, (En.of f2).to⟩
theorem met_18 {h0 h : PH} [Le h0 h] {v w : Value} {a b c : Rat} (hs : Sd h0 v (.i (some a) (some b))) (ht : Sd h0 w (.i (some c) none)) (ls : NS.le (2 ^ 30) (.i (some a) (some b))) (lt : NS.le (2 ^ 30) (.i (some c) none)) :
    Spec mach 42 #[v, w] h (fun v h' => Sn h' v (NS.met (.i (some a) (some b)) (.i (some c) none))) NP := by
  obtain ⟨b1, a1, m1, c1, a2, m2, c2, b2, a3, m3, c3, a4, m4, c4, rfl, h1, h2⟩ := Sn.ie hs
  rw [NS.le_i] at ls
  have z1 := ls.1 _ rfl
  have z2 := ls.2 _ rfl
  obtain ⟨b1', a1', m1', c1', a2', m2', c2', b2', a3', m3', c3', a4', m4', c4', rfl, h3, h4⟩ := Sn.ie ht
  rw [NS.le_i] at lt
  have z3 := lt.1 _ rfl
  try dsimp only [Option.isNone]
  refine Spec.go [] Tryz.func42 rfl rfl (by kernel_rfl) fun C _ => ?_
  try simp (maxSteps := 999999) (disch := omega) only [go_sem, Nat.reduceBEq, Nat.reduceAdd]
  refine caN (by exact greatest_spec h1.num h3.num (up36 z1) (up36 z3)) ?_; rintro _ g1 _ f1; obtain ⟨_, _, _, _, _, _, _, rfl, f1⟩ := f1.sa
  try simp (maxSteps := 999999) (disch := omega) only [go_sem, Nat.reduceBEq, Nat.reduceAdd]
  refine caN (by exact Cmp_frac ((En.of f1).num.to (h' := g1)) (h2.num.to (h' := g1)) (up36 (sz_max z1 z3)) (up36 (z2))) ?_; rintro vc hc sc rfl
  try simp (maxSteps := 999999) (disch := omega) only [go_sem, Nat.reduceBEq, Nat.reduceAdd]
  refine met_end (a := (max a c)) (b := b) (fun hlt => ?_) (fun hle => ?_)
  · have e1 : 0 < cmpQ (max a c) b := by unfold cmpQ; grind
    try simp (maxSteps := 999999) (disch := omega) only [go_sem, Nat.reduceBEq, Nat.reduceAdd]
    have eq : NS.met (.i (some a) (some b)) (.i (some c) none) = .e := by simp [NS.met, omax, omin, NS.mk', ordO, hlt]
    rw [eq]
    exact ⟨_, _, _, _, _, _, _, _, rfl, (En.of f1).junk.to, h2.junk.to⟩
  · have e1 : ¬ 0 < cmpQ (max a c) b := by unfold cmpQ; grind
    try simp (maxSteps := 999999) (disch := omega) only [go_sem, Nat.reduceBEq, Nat.reduceAdd]
    have eq : NS.met (.i (some a) (some b)) (.i (some c) none) = .i (some (max a c)) (some b) := by simp [NS.met, omax, omin, NS.mk', ordO, hle]
    rw [eq]
    exact ⟨_, _, _, _, _, _, rfl, (En.of f1).to, h2.to⟩
theorem met_19 {h0 h : PH} [Le h0 h] {v w : Value} {a b c d : Rat} (hs : Sd h0 v (.i (some a) (some b))) (ht : Sd h0 w (.i (some c) (some d))) (ls : NS.le (2 ^ 30) (.i (some a) (some b))) (lt : NS.le (2 ^ 30) (.i (some c) (some d))) :
    Spec mach 42 #[v, w] h (fun v h' => Sn h' v (NS.met (.i (some a) (some b)) (.i (some c) (some d)))) NP := by
  obtain ⟨b1, a1, m1, c1, a2, m2, c2, b2, a3, m3, c3, a4, m4, c4, rfl, h1, h2⟩ := Sn.ie hs
  rw [NS.le_i] at ls
  have z1 := ls.1 _ rfl
  have z2 := ls.2 _ rfl
  obtain ⟨b1', a1', m1', c1', a2', m2', c2', b2', a3', m3', c3', a4', m4', c4', rfl, h3, h4⟩ := Sn.ie ht
  rw [NS.le_i] at lt
  have z3 := lt.1 _ rfl
  have z4 := lt.2 _ rfl
  try dsimp only [Option.isNone]
  refine Spec.go [] Tryz.func42 rfl rfl (by kernel_rfl) fun C _ => ?_
  try simp (maxSteps := 999999) (disch := omega) only [go_sem, Nat.reduceBEq, Nat.reduceAdd]
  refine caN (by exact greatest_spec h1.num h3.num (up36 z1) (up36 z3)) ?_; rintro _ g1 _ f1; obtain ⟨_, _, _, _, _, _, _, rfl, f1⟩ := f1.sa
  try simp (maxSteps := 999999) (disch := omega) only [go_sem, Nat.reduceBEq, Nat.reduceAdd]
  refine caN (by exact least_spec h2.num h4.num (up36 z2) (up36 z4)) ?_; rintro _ g2 _ f2; obtain ⟨_, _, _, _, _, _, _, rfl, f2⟩ := f2.sa
  try simp (maxSteps := 999999) (disch := omega) only [go_sem, Nat.reduceBEq, Nat.reduceAdd]
  refine caN (by exact Cmp_frac ((En.of f1).num.to (h' := g2)) ((En.of f2).num.to (h' := g2)) (up36 (sz_max z1 z3)) (up36 (sz_min z2 z4))) ?_; rintro vc hc sc rfl
  try simp (maxSteps := 999999) (disch := omega) only [go_sem, Nat.reduceBEq, Nat.reduceAdd]
  refine met_end (a := (max a c)) (b := (min b d)) (fun hlt => ?_) (fun hle => ?_)
  · have e1 : 0 < cmpQ (max a c) (min b d) := by unfold cmpQ; grind
    try simp (maxSteps := 999999) (disch := omega) only [go_sem, Nat.reduceBEq, Nat.reduceAdd]
    have eq : NS.met (.i (some a) (some b)) (.i (some c) (some d)) = .e := by simp [NS.met, omax, omin, NS.mk', ordO, hlt]
    rw [eq]
    exact ⟨_, _, _, _, _, _, _, _, rfl, (En.of f1).junk.to, (En.of f2).junk.to⟩
  · have e1 : ¬ 0 < cmpQ (max a c) (min b d) := by unfold cmpQ; grind
    try simp (maxSteps := 999999) (disch := omega) only [go_sem, Nat.reduceBEq, Nat.reduceAdd]
    have eq : NS.met (.i (some a) (some b)) (.i (some c) (some d)) = .i (some (max a c)) (some (min b d)) := by simp [NS.met, omax, omin, NS.mk', ordO, hle]
    rw [eq]
    exact ⟨_, _, _, _, _, _, rfl, (En.of f1).to, (En.of f2).to⟩
theorem met_20 {h0 h : PH} [Le h0 h] {v w : Value} {a b : Rat} (hs : Sd h0 v (.i (some a) (some b))) (ht : Sd h0 w .e) (ls : NS.le (2 ^ 30) (.i (some a) (some b))) (lt : NS.le (2 ^ 30) .e) :
    Spec mach 42 #[v, w] h (fun v h' => Sn h' v (NS.met (.i (some a) (some b)) .e)) NP := by
  obtain ⟨b1, a1, m1, c1, a2, m2, c2, b2, a3, m3, c3, a4, m4, c4, rfl, h1, h2⟩ := Sn.ie hs
  rw [NS.le_i] at ls
  have z1 := ls.1 _ rfl
  have z2 := ls.2 _ rfl
  obtain ⟨b1', a1', m1', c1', a2', m2', c2', b2', a3', m3', c3', a4', m4', c4', c, d, rfl, h3, h4, z3, z4⟩ := ht.ee
  try dsimp only [Option.isNone]
  refine Spec.go [] Tryz.func42 rfl rfl (by kernel_rfl) fun C _ => ?_
  try simp (maxSteps := 999999) (disch := omega) only [go_sem, Nat.reduceBEq, Nat.reduceAdd]
  refine caN (by exact greatest_spec h1.num h3.num (up36 z1) (up36 z3)) ?_; rintro _ g1 _ f1; obtain ⟨_, _, _, _, _, _, _, rfl, f1⟩ := f1.sa
  try simp (maxSteps := 999999) (disch := omega) only [go_sem, Nat.reduceBEq, Nat.reduceAdd]
  refine caN (by exact least_spec h2.num h4.num (up36 z2) (up36 z4)) ?_; rintro _ g2 _ f2; obtain ⟨_, _, _, _, _, _, _, rfl, f2⟩ := f2.sa
  try simp (maxSteps := 999999) (disch := omega) only [go_sem, Nat.reduceBEq, Nat.reduceAdd]
  exact ⟨_, _, _, _, _, _, _, _, rfl, (En.of f1).junk.to, (En.of f2).junk.to⟩
theorem met_21 {h0 h : PH} [Le h0 h] {v w : Value} (hs : Sd h0 v .e) (ht : Sd h0 w (.i none none)) (ls : NS.le (2 ^ 30) .e) (lt : NS.le (2 ^ 30) (.i none none)) :
    Spec mach 42 #[v, w] h (fun v h' => Sn h' v (NS.met .e (.i none none))) NP := by
  obtain ⟨b1, a1, m1, c1, a2, m2, c2, b2, a3, m3, c3, a4, m4, c4, a, b, rfl, h1, h2, z1, z2⟩ := hs.ee
  obtain ⟨b1', a1', m1', c1', a2', m2', c2', b2', a3', m3', c3', a4', m4', c4', rfl, h3, h4⟩ := Sn.ie ht
  rw [NS.le_i] at lt
  try dsimp only [Option.isNone]
  refine Spec.go [] Tryz.func42 rfl rfl (by kernel_rfl) fun C _ => ?_
  try simp (maxSteps := 999999) (disch := omega) only [go_sem, Nat.reduceBEq, Nat.reduceAdd]
  exact ⟨_, _, _, _, _, _, _, _, rfl, h1.junk.to, h2.junk.to⟩
theorem met_22 {h0 h : PH} [Le h0 h] {v w : Value} {d : Rat} (hs : Sd h0 v .e) (ht : Sd h0 w (.i none (some d))) (ls : NS.le (2 ^ 30) .e) (lt : NS.le (2 ^ 30) (.i none (some d))) :
    Spec mach 42 #[v, w] h (fun v h' => Sn h' v (NS.met .e (.i none (some d)))) NP := by
  obtain ⟨b1, a1, m1, c1, a2, m2, c2, b2, a3, m3, c3, a4, m4, c4, a, b, rfl, h1, h2, z1, z2⟩ := hs.ee
  obtain ⟨b1', a1', m1', c1', a2', m2', c2', b2', a3', m3', c3', a4', m4', c4', rfl, h3, h4⟩ := Sn.ie ht
  rw [NS.le_i] at lt
  have z4 := lt.2 _ rfl
  try dsimp only [Option.isNone]
  refine Spec.go [] Tryz.func42 rfl rfl (by kernel_rfl) fun C _ => ?_
  try simp (maxSteps := 999999) (disch := omega) only [go_sem, Nat.reduceBEq, Nat.reduceAdd]
  refine caN (by exact least_spec h2.num h4.num (up36 z2) (up36 z4)) ?_; rintro _ g2 _ f2; obtain ⟨_, _, _, _, _, _, _, rfl, f2⟩ := f2.sa
  try simp (maxSteps := 999999) (disch := omega) only [go_sem, Nat.reduceBEq, Nat.reduceAdd]
  exact ⟨_, _, _, _, _, _, _, _, rfl, h1.junk.to, (En.of f2).junk.to⟩
theorem met_23 {h0 h : PH} [Le h0 h] {v w : Value} {c : Rat} (hs : Sd h0 v .e) (ht : Sd h0 w (.i (some c) none)) (ls : NS.le (2 ^ 30) .e) (lt : NS.le (2 ^ 30) (.i (some c) none)) :
    Spec mach 42 #[v, w] h (fun v h' => Sn h' v (NS.met .e (.i (some c) none))) NP := by
  obtain ⟨b1, a1, m1, c1, a2, m2, c2, b2, a3, m3, c3, a4, m4, c4, a, b, rfl, h1, h2, z1, z2⟩ := hs.ee
  obtain ⟨b1', a1', m1', c1', a2', m2', c2', b2', a3', m3', c3', a4', m4', c4', rfl, h3, h4⟩ := Sn.ie ht
  rw [NS.le_i] at lt
  have z3 := lt.1 _ rfl
  try dsimp only [Option.isNone]
  refine Spec.go [] Tryz.func42 rfl rfl (by kernel_rfl) fun C _ => ?_
  try simp (maxSteps := 999999) (disch := omega) only [go_sem, Nat.reduceBEq, Nat.reduceAdd]
  refine caN (by exact greatest_spec h1.num h3.num (up36 z1) (up36 z3)) ?_; rintro _ g1 _ f1; obtain ⟨_, _, _, _, _, _, _, rfl, f1⟩ := f1.sa
  try simp (maxSteps := 999999) (disch := omega) only [go_sem, Nat.reduceBEq, Nat.reduceAdd]
  exact ⟨_, _, _, _, _, _, _, _, rfl, (En.of f1).junk.to, h2.junk.to⟩
theorem met_24 {h0 h : PH} [Le h0 h] {v w : Value} {c d : Rat} (hs : Sd h0 v .e) (ht : Sd h0 w (.i (some c) (some d))) (ls : NS.le (2 ^ 30) .e) (lt : NS.le (2 ^ 30) (.i (some c) (some d))) :
    Spec mach 42 #[v, w] h (fun v h' => Sn h' v (NS.met .e (.i (some c) (some d)))) NP := by
  obtain ⟨b1, a1, m1, c1, a2, m2, c2, b2, a3, m3, c3, a4, m4, c4, a, b, rfl, h1, h2, z1, z2⟩ := hs.ee
  obtain ⟨b1', a1', m1', c1', a2', m2', c2', b2', a3', m3', c3', a4', m4', c4', rfl, h3, h4⟩ := Sn.ie ht
  rw [NS.le_i] at lt
  have z3 := lt.1 _ rfl
  have z4 := lt.2 _ rfl
  try dsimp only [Option.isNone]
  refine Spec.go [] Tryz.func42 rfl rfl (by kernel_rfl) fun C _ => ?_
  try simp (maxSteps := 999999) (disch := omega) only [go_sem, Nat.reduceBEq, Nat.reduceAdd]
  refine caN (by exact greatest_spec h1.num h3.num (up36 z1) (up36 z3)) ?_; rintro _ g1 _ f1; obtain ⟨_, _, _, _, _, _, _, rfl, f1⟩ := f1.sa
  try simp (maxSteps := 999999) (disch := omega) only [go_sem, Nat.reduceBEq, Nat.reduceAdd]
  refine caN (by exact least_spec h2.num h4.num (up36 z2) (up36 z4)) ?_; rintro _ g2 _ f2; obtain ⟨_, _, _, _, _, _, _, rfl, f2⟩ := f2.sa
  try simp (maxSteps := 999999) (disch := omega) only [go_sem, Nat.reduceBEq, Nat.reduceAdd]
  exact ⟨_, _, _, _, _, _, _, _, rfl, (En.of f1).junk.to, (En.of f2).junk.to⟩
theorem met_25 {h0 h : PH} [Le h0 h] {v w : Value} (hs : Sd h0 v .e) (ht : Sd h0 w .e) (ls : NS.le (2 ^ 30) .e) (lt : NS.le (2 ^ 30) .e) :
    Spec mach 42 #[v, w] h (fun v h' => Sn h' v (NS.met .e .e)) NP := by
  obtain ⟨b1, a1, m1, c1, a2, m2, c2, b2, a3, m3, c3, a4, m4, c4, a, b, rfl, h1, h2, z1, z2⟩ := hs.ee
  obtain ⟨b1', a1', m1', c1', a2', m2', c2', b2', a3', m3', c3', a4', m4', c4', c, d, rfl, h3, h4, z3, z4⟩ := ht.ee
  try dsimp only [Option.isNone]
  refine Spec.go [] Tryz.func42 rfl rfl (by kernel_rfl) fun C _ => ?_
  try simp (maxSteps := 999999) (disch := omega) only [go_sem, Nat.reduceBEq, Nat.reduceAdd]
  refine caN (by exact greatest_spec h1.num h3.num (up36 z1) (up36 z3)) ?_; rintro _ g1 _ f1; obtain ⟨_, _, _, _, _, _, _, rfl, f1⟩ := f1.sa
  try simp (maxSteps := 999999) (disch := omega) only [go_sem, Nat.reduceBEq, Nat.reduceAdd]
  refine caN (by exact least_spec h2.num h4.num (up36 z2) (up36 z4)) ?_; rintro _ g2 _ f2; obtain ⟨_, _, _, _, _, _, _, rfl, f2⟩ := f2.sa
  try simp (maxSteps := 999999) (disch := omega) only [go_sem, Nat.reduceBEq, Nat.reduceAdd]
  exact ⟨_, _, _, _, _, _, _, _, rfl, (En.of f1).junk.to, (En.of f2).junk.to⟩
theorem Met_set {h0 h : PH} [Le h0 h] {v w : Value} {x y : NS} (hs : Sd h0 v x) (ht : Sd h0 w y) (ls : x.le (2 ^ 30)) (lt : y.le (2 ^ 30)) : Spec mach 42 #[v, w] h (fun v h' => Sn h' v (x.met y)) NP := by
  cases x with
  | e =>
    cases y with
    | e => exact met_25 hs ht ls lt
    | i c d =>
      cases c with
      | none => cases d with
        | none => exact met_21 hs ht ls lt
        | some d => exact met_22 hs ht ls lt
      | some c => cases d with
        | none => exact met_23 hs ht ls lt
        | some d => exact met_24 hs ht ls lt
  | i a b =>
    cases a with
    | none => cases b with
      | none =>
        cases y with
        | e => exact met_5 hs ht ls lt
        | i c d =>
          cases c with
          | none => cases d with
            | none => exact met_1 hs ht ls lt
            | some d => exact met_2 hs ht ls lt
          | some c => cases d with
            | none => exact met_3 hs ht ls lt
            | some d => exact met_4 hs ht ls lt
      | some b =>
        cases y with
        | e => exact met_10 hs ht ls lt
        | i c d =>
          cases c with
          | none => cases d with
            | none => exact met_6 hs ht ls lt
            | some d => exact met_7 hs ht ls lt
          | some c => cases d with
            | none => exact met_8 hs ht ls lt
            | some d => exact met_9 hs ht ls lt
    | some a => cases b with
      | none =>
        cases y with
        | e => exact met_15 hs ht ls lt
        | i c d =>
          cases c with
          | none => cases d with
            | none => exact met_11 hs ht ls lt
            | some d => exact met_12 hs ht ls lt
          | some c => cases d with
            | none => exact met_13 hs ht ls lt
            | some d => exact met_14 hs ht ls lt
      | some b =>
        cases y with
        | e => exact met_20 hs ht ls lt
        | i c d =>
          cases c with
          | none => cases d with
            | none => exact met_16 hs ht ls lt
            | some d => exact met_17 hs ht ls lt
          | some c => cases d with
            | none => exact met_18 hs ht ls lt
            | some d => exact met_19 hs ht ls lt
end Go.Q
namespace Go.Q
open Go.Proofs
set_option maxRecDepth 100000
set_option maxHeartbeats 4000000
def Bd (f : FuncId) (args : Array Value) (h : PH) : Except Int Bool → Prop
  | .ok b => Spec mach f args h (fun v _ => v = .bool b) NP
  | .error e => Spec mach f args h NR (fail e)
def Br (r : Value) : Except Int Bool → Prop
  | .ok b => r = .tuple #[.bool b, .int .i64 0]
  | .error e => r = .tuple #[.bool false, .int .i64 e]
theorem Br.sa {r : Value} {o : Except Int Bool} (k : Br r o) : ∃ b e, r = .tuple #[.bool b, .int .i64 e] ∧ Br (.tuple #[.bool b, .int .i64 e]) o := by
  cases o with
  | ok b => exact ⟨_, _, k, rfl⟩
  | error e => exact ⟨_, _, k, rfl⟩
theorem tryB_any {h : PH} {f : FuncId} {cap : Array Value} {o : Except Int Bool} (g : Bd f cap h o) : Spec mach 43 #[.func (.func f) #[] cap] h (fun r _ => Br r o) NP := by
  cases o with
  | ok b => exact tryBo_ok g (fun v h' _ r => by subst r; exact ⟨⟨b, rfl, rfl⟩, rfl⟩)
  | error e => exact tryBo_fail g (fun _ _ => rfl)
theorem Sf.sa {h : PH} {v : Value} {s : PS} (r : Sf h v s) : ∃ b1 a1 m1 c1 a2 m2 c2 b2 a3 m3 c3 a4 m4 c4, v = .agg #[.bool b1, .slice a1 m1 c1, .slice a2 m2 c2, .bool b2, .slice a3 m3 c3, .slice a4 m4 c4, .bool s.l, .bool s.u, .bool s.e] ∧
    Fr h (.agg #[.bool b1, .slice a1 m1 c1, .slice a2 m2 c2]) s.lo ∧ Fr h (.agg #[.bool b2, .slice a3 m3 c3, .slice a4 m4 c4]) s.hi := by
  obtain ⟨b1, x1, y1, b2, x2, y2, rfl, h1, h2⟩ := r
  obtain ⟨_, _, _, _, _, _, _, e1, _⟩ := h1.sa
  obtain ⟨_, _, _, _, _, _, _, e2, _⟩ := h2.sa
  simp only [Value.agg.injEq, Array.mk.injEq, List.cons.injEq, and_true] at e1 e2
  obtain ⟨_, rfl, rfl⟩ := e1
  obtain ⟨_, rfl, rfl⟩ := e2
  exact ⟨_, _, _, _, _, _, _, _, _, _, _, _, _, _, rfl, h1, h2⟩
theorem NS.has_one {x : NS} {q : Rat} (hx : x.ok) : (!(x.met (.i (some q) (some q))).void) = x.has q := by
  have h1 : (x.met (.i (some q) (some q))).has q = x.has q := by rw [NS.has_met]; simp [NS.has]
  have h2 : (x.met (.i (some q) (some q))).ok := NS.ok_met
  generalize hm : x.met (.i (some q) (some q)) = m at *
  cases m with
  | e => rw [← h1]; rfl
  | i a b =>
    obtain ⟨q', hq⟩ := NS.ne_has h2
    have h3 := hq
    rw [← hm, NS.has_met, Bool.and_eq_true, NS.has_i (a := some q)] at h3
    obtain ⟨h3, h4, h5⟩ := h3
    have : q' = q := Rat.le_antisymm (h5 _ rfl) (h4 _ rfl)
    subst this
    rw [h3]; rfl
theorem NS.le_one {q : Rat} {k : Nat} (h : sz q ≤ k) : (NS.i (some q) (some q)).le k := by
  rw [NS.le_i]; exact ⟨fun _ e => by cases e; exact h, fun _ e => by cases e; exact h⟩
def hasO (x : RI) (neg : Bool) (n d : Nat) : Except Int Bool := bif x.big || decide (lg neg n d) then .error 1 else .ok (x.set.has (qof neg n d))
theorem Has1 {h0 h : PH} [Le h0 h] {v w : Value} {x : RI} {neg : Bool} {n d : Nat} {b1 b2 : Nat} {cs ds : List Value} (hv : Iv h0 v x) (hw : Rw h0 w neg n d) (hc : v = .agg cs.toArray) (hl : cs.length = 8) (hb1 : h b1 = some cs.toArray) (hc' : w = .agg ds.toArray) (hl' : ds.length = 3) (hb2 : h b2 = some ds.toArray) :
    Bd 73 #[.pointer (some ⟨b1, 0, none⟩), .pointer (some ⟨b2, 0, none⟩)] h (hasO x neg n d) := by
  subst hc
  subst hc'
  unfold hasO
  cases g : x.big with
  | true =>
    simp only [Bool.true_or, cond_true]
    refine Spec.go [] Tryz.func73 rfl rfl (by kernel_rfl) fun C _ => ?_
    try simp (maxSteps := 999999) (disch := omega) only [go_sem, Nat.reduceBEq, Nat.reduceAdd]
    refine ldm_of cs hl (at_rowA hb1) ?_
    try simp (maxSteps := 999999) (disch := omega) only [go_sem, Nat.reduceBEq, Nat.reduceAdd]
    exact caF (by exact Read_fail' hv g) (fun _ _ h => h)
  | false =>
    by_cases gl : lg neg n d
    · simp only [gl, decide_true, Bool.or_true, cond_true]
      refine Spec.go [] Tryz.func73 rfl rfl (by kernel_rfl) fun C _ => ?_
      try simp (maxSteps := 999999) (disch := omega) only [go_sem, Nat.reduceBEq, Nat.reduceAdd]
      refine ldm_of cs hl (at_rowA hb1) ?_
      try simp (maxSteps := 999999) (disch := omega) only [go_sem, Nat.reduceBEq, Nat.reduceAdd]
      refine caN (by exact Read_set hv g) ?_; rintro s1 h1 st1 hs1; obtain ⟨_, _, _, _, _, _, _, _, _, _, _, _, _, _, _, _, rfl, hs1⟩ := hs1.sa
      try simp (maxSteps := 999999) (disch := omega) only [go_sem, Nat.reduceBEq, Nat.reduceAdd]
      refine ldm_of ds hl' (at_rowA (st1.sub _ _ hb2)) ?_
      try simp (maxSteps := 999999) (disch := omega) only [go_sem, Nat.reduceBEq, Nat.reduceAdd]
      exact caF (by exact number_fail hw gl) (fun _ _ h => h)
    · have z : sz (qof neg n d) ≤ 2 ^ 30 := by unfold lg at gl; omega
      simp only [gl, decide_false, Bool.or_false, cond_false]
      rw [← NS.has_one (RI.set_ok x)]
      refine Spec.go [] Tryz.func73 rfl rfl (by kernel_rfl) fun C _ => ?_
      try simp (maxSteps := 999999) (disch := omega) only [go_sem, Nat.reduceBEq, Nat.reduceAdd]
      refine ldm_of cs hl (at_rowA hb1) ?_
      try simp (maxSteps := 999999) (disch := omega) only [go_sem, Nat.reduceBEq, Nat.reduceAdd]
      refine caN (by exact Read_set hv g) ?_; rintro s1 h1 st1 hs1; obtain ⟨_, _, _, _, _, _, _, _, _, _, _, _, _, _, _, _, rfl, hs1⟩ := hs1.sa
      try simp (maxSteps := 999999) (disch := omega) only [go_sem, Nat.reduceBEq, Nat.reduceAdd]
      refine ldm_of ds hl' (at_rowA (st1.sub _ _ hb2)) ?_
      try simp (maxSteps := 999999) (disch := omega) only [go_sem, Nat.reduceBEq, Nat.reduceAdd]
      refine caN (by exact number_ok hw gl) ?_; rintro _ h2 _ f2; obtain ⟨_, _, _, _, _, _, _, rfl, f2⟩ := f2.sa
      try simp (maxSteps := 999999) (disch := omega) only [go_sem, Nat.reduceBEq, Nat.reduceAdd]
      refine caN (by exact one_set f2) ?_; rintro _ h3 _ hs3; obtain ⟨_, _, _, _, _, _, _, _, _, _, _, _, _, _, _, _, rfl, hs3⟩ := hs3.sa
      try simp (maxSteps := 999999) (disch := omega) only [go_sem, Nat.reduceBEq, Nat.reduceAdd]
      refine caN (by exact Met_set (hs1.to (h' := h3)) (show Sd h3 _ (.i (some _) (some _)) from hs3) (RI.le30 g) (NS.le_one z)) ?_; rintro _ h4 _ hs4; obtain ⟨_, _, _, _, _, _, _, _, _, _, _, _, _, _, _, _, rfl, hs4⟩ := hs4.sa
      try simp (maxSteps := 999999) (disch := omega) only [go_sem, Nat.reduceBEq, Nat.reduceAdd]
theorem Has_spec {h0 h : PH} [Le h0 h] {v w : Value} {x : RI} {neg : Bool} {n d : Nat} (hv : Iv h0 v x) (hw : Rw h0 w neg n d) : Spec mach 27 #[v, w] h (fun r _ => Br r (hasO x neg n d)) NP := by
  have hv0 := hv
  have hw0 := hw
  obtain ⟨a1, m1, c1, a2, m2, c2, a3, m3, c3, a4, m4, c4, rfl, _, _⟩ := hv.sa
  obtain ⟨_, _, _, _, _, _, _, rfl, _⟩ := hw.sa
  refine Spec.go [(1, .t (.p 0 (.p 1 (.s [0, 1, 2, 3, 4, 5] .d))))] Tryz.func27 rfl rfl (by kernel_rfl) fun C _ => ?_
  try simp (maxSteps := 999999) (disch := omega) only [go_sem, Nat.reduceBEq, Nat.reduceAdd]
  intro b1 h1 st1 hb1
  try simp (maxSteps := 999999) (disch := omega) only [go_sem, Nat.reduceBEq, Nat.reduceAdd]
  intro b2 h2 st2 hb2
  try simp (maxSteps := 999999) (disch := omega) only [go_sem, Nat.reduceBEq, Nat.reduceAdd]
  have hb2 := hb2 (by simp)
  have hb1 := st2.sub _ _ (hb1 (by simp))
  refine caN (by exact tryB_any (Has1 (hv0.to (h' := h2)) (hw0.to (h' := h2)) rfl rfl hb1 rfl rfl hb2)) ?_; rintro r3 h3 st3 hr3; obtain ⟨_, _, rfl, hr3⟩ := hr3.sa
  try simp (maxSteps := 999999) (disch := omega) only [go_sem, Nat.reduceBEq, Nat.reduceAdd]
  exact hr3
end Go.Q
namespace Go.Q
open Go.Proofs
set_option maxRecDepth 100000
set_option maxHeartbeats 4000000
end Go.Q
namespace Go.Q
open Go.Proofs
set_option maxRecDepth 100000
set_option maxHeartbeats 4000000
inductive Pt where
  | fin (q : Rat)
  | inf (up : Bool)
def Pt.mul : Pt → Pt → Pt
  | .fin p, .fin q => .fin (p * q)
  | .inf u, .fin q => if q = 0 then .fin 0 else .inf (u == decide (0 < q))
  | .fin p, .inf u => if p = 0 then .fin 0 else .inf (u == decide (0 < p))
  | .inf u, .inf w => .inf (u == w)
def Pt.le (k : Nat) : Pt → Prop
  | .fin q => sz q ≤ k
  | .inf _ => True
def Pt.side : Pt → Int
  | .fin _ => 0
  | .inf u => if u = true then 1 else -1
@[reducible] def Pt.num : Pt → Option Rat
  | .fin q => some q
  | .inf _ => none
def Ev (h : PH) (v : Value) (z : Pt) : Prop := ∃ b x y, v = .agg #[.bool b, x, y, .int .i64 z.side] ∧ En h b x y z.num
theorem Ev.to {h h' : PH} {v : Value} {z : Pt} (r : Ev h v z) [Le h h'] : Ev h' v z := let ⟨a, b, c, h1, h2⟩ := r; ⟨a, b, c, h1, h2.to⟩
theorem Ev.sa {h : PH} {v : Value} {z : Pt} (r : Ev h v z) : ∃ b a1 m1 c1 a2 m2 c2, v = .agg #[.bool b, .slice a1 m1 c1, .slice a2 m2 c2, .int .i64 z.side] ∧ En h b (.slice a1 m1 c1) (.slice a2 m2 c2) z.num := by
  obtain ⟨b, x, y, rfl, h1⟩ := r
  obtain ⟨_, _, _, _, _, _, rfl, rfl⟩ := h1.sl
  exact ⟨_, _, _, _, _, _, _, rfl, h1⟩
theorem sg3_bd {q : Rat} : sgn3 q = -1 ∨ sgn3 q = 0 ∨ sgn3 q = 1 := by unfold sgn3; grind
theorem sgn3_zero {q : Rat} : sgn3 q = 0 ↔ q = 0 := by unfold sgn3; grind
theorem sgn3_pos {q : Rat} : 0 < sgn3 q ↔ 0 < q := by unfold sgn3; grind
theorem Times_spec {h0 h : PH} [Le h0 h] {v w : Value} {x y : Pt} (hv : Ev h0 v x) (hw : Ev h0 w y) (lx : x.le (2 ^ 30)) (ly : y.le (2 ^ 30)) : Spec mach 106 #[v, w] h (fun r h' => Ev h' r (x.mul y)) NP := by
  obtain ⟨b, a1, m1, c1, a2, m2, c2, rfl, e1⟩ := hv.sa
  obtain ⟨b', a1', m1', c1', a2', m2', c2', rfl, e2⟩ := hw.sa
  cases x with
  | fin p =>
    cases y with
    | fin q =>
      show Spec _ _ _ _ (fun r h' => Ev h' r (.fin (p * q))) _
      dsimp only [Pt.side] at *
      have k1 := fun {h} [Le h0 h] => Sign_spec (h := h) e1.num
      have k2 := fun {h} [Le h0 h] => Sign_spec (h := h) e2.num
      by_cases hp : p = 0 ∨ q = 0
      · have e0 : p * q = ((0 : Int) : Rat) := by rcases hp with rfl | rfl <;> simp <;> rfl
        have hs : sgn3 p = 0 ∨ sgn3 q = 0 := by rw [sgn3_zero, sgn3_zero]; exact hp
        rw [e0]
        generalize sgn3 p = m at *
        generalize sgn3 q = n at *
        by_cases hm : m = 0
        · refine Spec.go [] Tryz.func106 rfl rfl (by kernel_rfl) fun C _ => ?_
          simp (disch := omega) only [go_sem, Nat.reduceBEq, Nat.reduceAdd, Int.toNat_one, Nat.zero_mul, Nat.one_mul, Nat.zero_add, List.set_cons_zero, List.set_cons_succ]
          refine caN (by exact k1) ?_; rintro v1 h1 s1 rfl
          simp (disch := omega) only [go_sem, Nat.reduceBEq, Nat.reduceAdd, Int.toNat_one, Nat.zero_mul, Nat.one_mul, Nat.zero_add, List.set_cons_zero, List.set_cons_succ]
          refine caN (by exact k2) ?_; rintro v2 h2 s2 rfl
          simp (disch := omega) only [go_sem, Nat.reduceBEq, Nat.reduceAdd, Int.toNat_one, Nat.zero_mul, Nat.one_mul, Nat.zero_add, List.set_cons_zero, List.set_cons_succ]
          refine caN (by exact Int_spec (n := 0) (by decide) (by decide)) ?_; rintro _ h3 _ f3; obtain ⟨_, _, _, _, _, _, _, rfl, f3⟩ := f3.sa
          simp (disch := omega) only [go_sem, Nat.reduceBEq, Nat.reduceAdd, Int.toNat_one, Nat.zero_mul, Nat.one_mul, Nat.zero_add, List.set_cons_zero, List.set_cons_succ]
          exact ⟨_, _, _, rfl, En.of f3⟩
        · have hn : n = 0 := hs.resolve_left hm
          refine Spec.go [] Tryz.func106 rfl rfl (by kernel_rfl) fun C _ => ?_
          simp (disch := omega) only [go_sem, Nat.reduceBEq, Nat.reduceAdd, Int.toNat_one, Nat.zero_mul, Nat.one_mul, Nat.zero_add, List.set_cons_zero, List.set_cons_succ]
          refine caN (by exact k1) ?_; rintro v1 h1 s1 rfl
          simp (disch := omega) only [go_sem, Nat.reduceBEq, Nat.reduceAdd, Int.toNat_one, Nat.zero_mul, Nat.one_mul, Nat.zero_add, List.set_cons_zero, List.set_cons_succ]
          refine caN (by exact k2) ?_; rintro v2 h2 s2 rfl
          simp (disch := omega) only [go_sem, Nat.reduceBEq, Nat.reduceAdd, Int.toNat_one, Nat.zero_mul, Nat.one_mul, Nat.zero_add, List.set_cons_zero, List.set_cons_succ]
          refine caN (by exact Int_spec (n := 0) (by decide) (by decide)) ?_; rintro _ h3 _ f3; obtain ⟨_, _, _, _, _, _, _, rfl, f3⟩ := f3.sa
          simp (disch := omega) only [go_sem, Nat.reduceBEq, Nat.reduceAdd, Int.toNat_one, Nat.zero_mul, Nat.one_mul, Nat.zero_add, List.set_cons_zero, List.set_cons_succ]
          exact ⟨_, _, _, rfl, En.of f3⟩
      · have hm : ¬ sgn3 p = 0 := by rw [sgn3_zero]; exact fun k => hp (.inl k)
        have hn : ¬ sgn3 q = 0 := by rw [sgn3_zero]; exact fun k => hp (.inr k)
        generalize sgn3 p = m at *
        generalize sgn3 q = n at *
        refine Spec.go [] Tryz.func106 rfl rfl (by kernel_rfl) fun C _ => ?_
        simp (disch := omega) only [go_sem, Nat.reduceBEq, Nat.reduceAdd, Int.toNat_one, Nat.zero_mul, Nat.one_mul, Nat.zero_add, List.set_cons_zero, List.set_cons_succ]
        refine caN (by exact k1) ?_; rintro v1 h1 s1 rfl
        simp (disch := omega) only [go_sem, Nat.reduceBEq, Nat.reduceAdd, Int.toNat_one, Nat.zero_mul, Nat.one_mul, Nat.zero_add, List.set_cons_zero, List.set_cons_succ]
        refine caN (by exact k2) ?_; rintro v2 h2 s2 rfl
        simp (disch := omega) only [go_sem, Nat.reduceBEq, Nat.reduceAdd, Int.toNat_one, Nat.zero_mul, Nat.one_mul, Nat.zero_add, List.set_cons_zero, List.set_cons_succ]
        refine caN (by exact Mul_frac (e1.num.to (h' := h2)) (e2.num.to (h' := h2)) (up36 lx) (up36 ly)) ?_; rintro _ h3 _ f3; obtain ⟨_, _, _, _, _, _, _, rfl, f3⟩ := f3.sa
        simp (disch := omega) only [go_sem, Nat.reduceBEq, Nat.reduceAdd, Int.toNat_one, Nat.zero_mul, Nat.one_mul, Nat.zero_add, List.set_cons_zero, List.set_cons_succ]
        exact ⟨_, _, _, rfl, En.of f3⟩
    | inf u =>
      have k1 := fun {h} [Le h0 h] => Sign_spec (h := h) e1.num
      dsimp only [Pt.mul]
      have hb := sg3_bd (q := p)
      by_cases hp : p = 0
      · have hm := sgn3_zero.2 hp
        rw [if_pos hp]
        rw [hm] at k1
        cases u <;>
        · dsimp only [Pt.side] at *
          simp only [if_true, if_false, Bool.false_eq_true, reduceIte]
          refine Spec.go [] Tryz.func106 rfl rfl (by kernel_rfl) fun C _ => ?_
          simp (disch := omega) only [go_sem, Nat.reduceBEq, Nat.reduceAdd, Int.toNat_one, Nat.zero_mul, Nat.one_mul, Nat.zero_add, List.set_cons_zero, List.set_cons_succ]
          refine caN (by exact k1) ?_; rintro v1 h1 s1 rfl
          simp (disch := omega) only [go_sem, Nat.reduceBEq, Nat.reduceAdd, Int.toNat_one, Nat.zero_mul, Nat.one_mul, Nat.zero_add, List.set_cons_zero, List.set_cons_succ]
          refine caN (by exact Int_spec (n := 0) (by decide) (by decide)) ?_; rintro _ h3 _ f3; obtain ⟨_, _, _, _, _, _, _, rfl, f3⟩ := f3.sa
          simp (disch := omega) only [go_sem, Nat.reduceBEq, Nat.reduceAdd, Int.toNat_one, Nat.zero_mul, Nat.one_mul, Nat.zero_add, List.set_cons_zero, List.set_cons_succ]
          exact ⟨_, _, _, rfl, En.of f3⟩
      · have hm : sgn3 p ≠ 0 := fun k => hp (sgn3_zero.1 k)
        rw [if_neg hp]
        have hpos := sgn3_pos (q := p)
        rcases hb with hb | hb | hb
        · have h2 : decide (0 < p) = false := decide_eq_false (fun k => by have := hpos.2 k; omega)
          rw [h2]
          rw [hb] at k1
          cases u <;>
          · dsimp only [Pt.side] at *
            simp only [if_true, if_false, Bool.false_eq_true, reduceIte]
            refine Spec.go [] Tryz.func106 rfl rfl (by kernel_rfl) fun C _ => ?_
            simp (disch := omega) only [go_sem, Nat.reduceBEq, Nat.reduceAdd, Int.toNat_one, Nat.zero_mul, Nat.one_mul, Nat.zero_add, List.set_cons_zero, List.set_cons_succ]
            refine caN (by exact k1) ?_; rintro v1 h1 s1 rfl
            simp (disch := omega) only [go_sem, Nat.reduceBEq, Nat.reduceAdd, Int.toNat_one, Nat.zero_mul, Nat.one_mul, Nat.zero_add, List.set_cons_zero, List.set_cons_succ]
            exact ⟨_, _, _, rfl, En.nil _⟩
        · exact (hm hb).elim
        · have h2 : decide (0 < p) = true := decide_eq_true (hpos.1 (by omega))
          rw [h2]
          rw [hb] at k1
          cases u <;>
          · dsimp only [Pt.side] at *
            simp only [if_true, if_false, Bool.false_eq_true, reduceIte]
            refine Spec.go [] Tryz.func106 rfl rfl (by kernel_rfl) fun C _ => ?_
            simp (disch := omega) only [go_sem, Nat.reduceBEq, Nat.reduceAdd, Int.toNat_one, Nat.zero_mul, Nat.one_mul, Nat.zero_add, List.set_cons_zero, List.set_cons_succ]
            refine caN (by exact k1) ?_; rintro v1 h1 s1 rfl
            simp (disch := omega) only [go_sem, Nat.reduceBEq, Nat.reduceAdd, Int.toNat_one, Nat.zero_mul, Nat.one_mul, Nat.zero_add, List.set_cons_zero, List.set_cons_succ]
            exact ⟨_, _, _, rfl, En.nil _⟩
  | inf u =>
    cases y with
    | fin p =>
      have k1 := fun {h} [Le h0 h] => Sign_spec (h := h) e2.num
      dsimp only [Pt.mul]
      have hb := sg3_bd (q := p)
      by_cases hp : p = 0
      · have hm := sgn3_zero.2 hp
        rw [if_pos hp]
        rw [hm] at k1
        cases u <;>
        · dsimp only [Pt.side] at *
          simp only [if_true, if_false, Bool.false_eq_true, reduceIte]
          refine Spec.go [] Tryz.func106 rfl rfl (by kernel_rfl) fun C _ => ?_
          simp (disch := omega) only [go_sem, Nat.reduceBEq, Nat.reduceAdd, Int.toNat_one, Nat.zero_mul, Nat.one_mul, Nat.zero_add, List.set_cons_zero, List.set_cons_succ]
          refine caN (by exact k1) ?_; rintro v1 h1 s1 rfl
          simp (disch := omega) only [go_sem, Nat.reduceBEq, Nat.reduceAdd, Int.toNat_one, Nat.zero_mul, Nat.one_mul, Nat.zero_add, List.set_cons_zero, List.set_cons_succ]
          refine caN (by exact Int_spec (n := 0) (by decide) (by decide)) ?_; rintro _ h3 _ f3; obtain ⟨_, _, _, _, _, _, _, rfl, f3⟩ := f3.sa
          simp (disch := omega) only [go_sem, Nat.reduceBEq, Nat.reduceAdd, Int.toNat_one, Nat.zero_mul, Nat.one_mul, Nat.zero_add, List.set_cons_zero, List.set_cons_succ]
          exact ⟨_, _, _, rfl, En.of f3⟩
      · have hm : sgn3 p ≠ 0 := fun k => hp (sgn3_zero.1 k)
        rw [if_neg hp]
        have hpos := sgn3_pos (q := p)
        rcases hb with hb | hb | hb
        · have h2 : decide (0 < p) = false := decide_eq_false (fun k => by have := hpos.2 k; omega)
          rw [h2]
          rw [hb] at k1
          cases u <;>
          · dsimp only [Pt.side] at *
            simp only [if_true, if_false, Bool.false_eq_true, reduceIte]
            refine Spec.go [] Tryz.func106 rfl rfl (by kernel_rfl) fun C _ => ?_
            simp (disch := omega) only [go_sem, Nat.reduceBEq, Nat.reduceAdd, Int.toNat_one, Nat.zero_mul, Nat.one_mul, Nat.zero_add, List.set_cons_zero, List.set_cons_succ]
            refine caN (by exact k1) ?_; rintro v1 h1 s1 rfl
            simp (disch := omega) only [go_sem, Nat.reduceBEq, Nat.reduceAdd, Int.toNat_one, Nat.zero_mul, Nat.one_mul, Nat.zero_add, List.set_cons_zero, List.set_cons_succ]
            exact ⟨_, _, _, rfl, En.nil _⟩
        · exact (hm hb).elim
        · have h2 : decide (0 < p) = true := decide_eq_true (hpos.1 (by omega))
          rw [h2]
          rw [hb] at k1
          cases u <;>
          · dsimp only [Pt.side] at *
            simp only [if_true, if_false, Bool.false_eq_true, reduceIte]
            refine Spec.go [] Tryz.func106 rfl rfl (by kernel_rfl) fun C _ => ?_
            simp (disch := omega) only [go_sem, Nat.reduceBEq, Nat.reduceAdd, Int.toNat_one, Nat.zero_mul, Nat.one_mul, Nat.zero_add, List.set_cons_zero, List.set_cons_succ]
            refine caN (by exact k1) ?_; rintro v1 h1 s1 rfl
            simp (disch := omega) only [go_sem, Nat.reduceBEq, Nat.reduceAdd, Int.toNat_one, Nat.zero_mul, Nat.one_mul, Nat.zero_add, List.set_cons_zero, List.set_cons_succ]
            exact ⟨_, _, _, rfl, En.nil _⟩
    | inf w =>
      dsimp only [Pt.mul]
      cases u <;> cases w <;>
      · dsimp only [Pt.side] at *
        simp only [if_true, if_false, Bool.false_eq_true, reduceIte]
        refine Spec.go [] Tryz.func106 rfl rfl (by kernel_rfl) fun C _ => ?_
        simp (disch := omega) only [go_sem, Nat.reduceBEq, Nat.reduceAdd, Int.toNat_one, Nat.zero_mul, Nat.one_mul, Nat.zero_add, List.set_cons_zero, List.set_cons_succ]
        exact ⟨_, _, _, rfl, En.nil _⟩
def lowP : Option Rat → Pt
  | none => .inf false
  | some q => .fin q
def highP : Option Rat → Pt
  | none => .inf true
  | some q => .fin q
theorem Ends_spec {h0 h : PH} [Le h0 h] {v : Value} {a b : Option Rat} (hv : Sn h0 v (.i a b)) : Spec mach 105 #[v] h (fun r h' => ∃ b1 a1 m1 c1 a2 m2 c2 b2 a3 m3 c3 a4 m4 c4, r = .agg #[.bool b1, .slice a1 m1 c1, .slice a2 m2 c2, .int .i64 (lowP a).side, .bool b2, .slice a3 m3 c3, .slice a4 m4 c4, .int .i64 (highP b).side] ∧
    Ev h' (.agg #[.bool b1, .slice a1 m1 c1, .slice a2 m2 c2, .int .i64 (lowP a).side]) (lowP a) ∧ Ev h' (.agg #[.bool b2, .slice a3 m3 c3, .slice a4 m4 c4, .int .i64 (highP b).side]) (highP b)) NP := by
  obtain ⟨b1, a1, m1, c1, a2, m2, c2, b2, a3, m3, c3, a4, m4, c4, rfl, h1, h2⟩ := hv.ie
  cases a <;> cases b <;>
  · dsimp only [Option.isNone]
    refine Spec.go [] Tryz.func105 rfl rfl (by kernel_rfl) fun C _ => ?_
    simp (disch := omega) only [go_sem, Nat.reduceBEq, Nat.reduceAdd, Int.toNat_one, Nat.zero_mul, Nat.one_mul, Nat.zero_add, List.set_cons_zero, List.set_cons_succ]
    exact ⟨_, _, _, _, _, _, _, _, _, _, _, _, _, _, rfl, ⟨_, _, _, rfl, h1.to⟩, ⟨_, _, _, rfl, h2.to⟩⟩
end Go.Q
namespace Go.Q
open Go.Proofs
set_option maxRecDepth 100000
set_option maxHeartbeats 8000000
def stp (o : NS × Bool × Bool) : Pt → NS × Bool × Bool
  | .fin q => (o.1.joined (.i (some q) (some q)), o.2.1, o.2.2)
  | .inf true => (o.1, o.2.1, true)
  | .inf false => (o.1, true, o.2.2)
def inn (x y1 y2 : Pt) (o : NS × Bool × Bool) : Nat → NS × Bool × Bool
  | 0 => o
  | 1 => stp o (x.mul y1)
  | _ + 2 => stp (stp o (x.mul y1)) (x.mul y2)
def fin3 (o : NS × Bool × Bool) : NS :=
  match o.1 with
  | .e => .i (bif o.2.1 then none else some 0) (bif o.2.2 then none else some 0)
  | .i l h => .i (bif o.2.1 then none else l) (bif o.2.2 then none else h)
def outer (x1 x2 y1 y2 : Pt) : Nat → NS × Bool × Bool
  | 0 => (.e, false, false)
  | 1 => inn x1 y1 y2 (.e, false, false) 2
  | _ + 2 => inn x2 y1 y2 (inn x1 y1 y2 (.e, false, false) 2) 2
def NS.prod : NS → NS → NS
  | .i a b, .i c d => fin3 (outer (lowP a) (highP b) (lowP c) (highP d) 2)
  | _, _ => .e
theorem Pt.mul_comm (x y : Pt) : x.mul y = y.mul x := by
  cases x with
  | fin p => cases y with
    | fin q => show Pt.fin (p * q) = .fin (q * p); rw [Rat.mul_comm]
    | inf u => rfl
  | inf u => cases y with
    | fin q => rfl
    | inf w => show Pt.inf (u == w) = .inf (w == u); cases u <;> cases w <;> rfl
def NS.pts (k : Nat) (o : NS × Bool × Bool) : Prop := o.1.ok ∧ o.1.le k ∧ (o.1 = .e ∨ ∃ a b, o.1 = .i (some a) (some b))
theorem le_pt {q : Rat} {k : Nat} (h : sz q ≤ k) : (NS.i (some q) (some q)).le k := by
  rw [NS.le_i]; exact ⟨fun _ e => by cases e; exact h, fun _ e => by cases e; exact h⟩
theorem le_jn {x y : NS} {k : Nat} (hx : x.le k) (hy : y.le k) : (x.joined y).le k := by
  cases x with
  | e => cases y <;> exact hy
  | i a b =>
    cases y with
    | e => exact hx
    | i c d =>
      rw [NS.le_i] at hx hy
      show NS.le k (.i (jmin a c) (jmax b d))
      rw [NS.le_i]
      refine ⟨fun q e => ?_, fun q e => ?_⟩
      · cases a with
        | none => cases e
        | some a =>
          cases c with
          | none => cases e
          | some c => cases e; exact sz_min (hx.1 _ rfl) (hy.1 _ rfl)
      · cases b with
        | none => cases e
        | some b =>
          cases d with
          | none => cases e
          | some d => cases e; exact sz_max (hx.2 _ rfl) (hy.2 _ rfl)
theorem stp_pts {k : Nat} {o : NS × Bool × Bool} {z : Pt} (ho : NS.pts k o) (hz : z.le k) : NS.pts k (stp o z) := by
  obtain ⟨s, l, u⟩ := o
  cases z with
  | inf u => cases u <;> exact ho
  | fin q =>
    have hq : (NS.i (some q) (some q)).ok := by simp [NS.ok, ordO]
    refine ⟨NS.ok_joined ho.1 hq, le_jn ho.2.1 (le_pt hz), .inr ?_⟩
    rcases ho.2.2 with e | ⟨a, b, e⟩
    · cases (e : s = .e); exact ⟨q, q, rfl⟩
    · cases (e : s = .i _ _); exact ⟨min a q, max b q, rfl⟩
theorem mul_le {k : Nat} {x y : Pt} (hx : x.le k) (hy : y.le k) (hk : 1 ≤ k) : (x.mul y).le (2 * k) := by
  cases x with
  | fin p => cases y with
    | fin q =>
      have := sz_mul p q
      have h1 : sz p ≤ k := hx
      have h2 : sz q ≤ k := hy
      show sz (p * q) ≤ 2 * k
      omega
    | inf u =>
      show Pt.le _ (if p = 0 then .fin 0 else .inf _)
      split
      · exact Nat.le_trans (show sz 0 ≤ 1 by decide) (by omega)
      · trivial
  | inf u => cases y with
    | fin q =>
      show Pt.le _ (if q = 0 then .fin 0 else .inf _)
      split
      · exact Nat.le_trans (show sz 0 ≤ 1 by decide) (by omega)
      · trivial
    | inf w => trivial
theorem outer_e {a b c d : Option Rat} : (outer (lowP a) (highP b) (lowP c) (highP d) 2).1 = .e → (outer (lowP a) (highP b) (lowP c) (highP d) 2).2 = (true, true) := by
  have hj : ∀ (s : NS) (q : Rat), s.joined (.i (some q) (some q)) ≠ .e := fun s q k => by cases s <;> cases k
  have key : ∀ z1 z2 z3 z4 : Pt, (stp (stp (stp (stp (.e, false, false) z1) z2) z3) z4).1 = .e → ∃ u1 u2 u3 u4, z1 = .inf u1 ∧ z2 = .inf u2 ∧ z3 = .inf u3 ∧ z4 = .inf u4 := by
    intro z1 z2 z3 z4 k
    have h4 : ∀ (o : NS × Bool × Bool) (z : Pt), (stp o z).1 = .e → o.1 = .e ∧ ∃ u, z = .inf u := by
      intro o z k
      cases z with
      | fin q => exact (hj _ _ k).elim
      | inf u => refine ⟨?_, u, rfl⟩; cases u <;> exact k
    obtain ⟨k, u4, e4⟩ := h4 _ _ k
    obtain ⟨k, u3, e3⟩ := h4 _ _ k
    obtain ⟨k, u2, e2⟩ := h4 _ _ k
    obtain ⟨k, u1, e1⟩ := h4 _ _ k
    exact ⟨u1, u2, u3, u4, e1, e2, e3, e4⟩
  intro k
  obtain ⟨u1, u2, u3, u4, e1, e2, e3, e4⟩ := key _ _ _ _ k
  show (stp (stp (stp (stp (.e, false, false) ((lowP a).mul (lowP c))) ((lowP a).mul (highP d))) ((highP b).mul (lowP c))) ((highP b).mul (highP d))).2 = _
  rw [e1, e2, e3, e4]
  have m1 : ∀ {p : Rat} {u v : Bool}, Pt.mul (.fin p) (.inf u) = .inf v → v = (u == decide (0 < p)) := by
    intro p u v k
    simp only [Pt.mul] at k
    split at k
    · cases k
    · cases k; rfl
  have m2 : ∀ {p : Rat} {u v : Bool}, Pt.mul (.inf u) (.fin p) = .inf v → v = (u == decide (0 < p)) := by
    intro p u v k
    simp only [Pt.mul] at k
    split at k
    · cases k
    · cases k; rfl
  cases a with
  | some a =>
    cases c with
    | some c => cases e1
    | none => cases d with
      | some d => cases e2
      | none =>
        have := m1 e1; have := m1 e2
        subst u1 u2
        cases decide (0 < a) <;> cases u3 <;> cases u4 <;> rfl
  | none =>
    cases b with
    | some b =>
      cases c with
      | some c => cases e3
      | none => cases d with
        | some d => cases e4
        | none =>
          have := m1 e3; have := m1 e4
          subst u3 u4
          cases decide (0 < b) <;> cases u1 <;> cases u2 <;> rfl
    | none =>
      cases c with
      | some c =>
        have := m2 e1; have := m2 e3
        subst u1 u3
        cases decide (0 < c) <;> cases u2 <;> cases u4 <;> rfl
      | none =>
        have e1' : u1 = true := by cases e1; rfl
        have e3' : u3 = false := by cases e3; rfl
        subst e1' e3'
        cases u2 <;> cases u4 <;> rfl
end Go.Q
namespace Go.Q
open Go.Proofs
set_option maxRecDepth 100000
set_option maxHeartbeats 16000000
theorem NS.le30' {x : NS} (h : x.le 4096) : x.le (2 ^ 30) := h.up (by decide)
theorem Pt.up {z : Pt} {k m : Nat} (h : z.le k) (hm : k ≤ m) : z.le m := by
  cases z with
  | fin q => exact Nat.le_trans h hm
  | inf u => trivial
theorem lowP_le {a : Option Rat} {k : Nat} (h : ∀ q, a = some q → sz q ≤ k) : (lowP a).le k := by
  cases a with
  | none => trivial
  | some q => exact h q rfl
theorem highP_le {a : Option Rat} {k : Nat} (h : ∀ q, a = some q → sz q ≤ k) : (highP a).le k := by
  cases a with
  | none => trivial
  | some q => exact h q rfl
theorem Product_spec {h0 h : PH} [Le h0 h] {v w : Value} {a b c d : Option Rat} (hs : Sn h0 v (.i a b)) (ht : Sn h0 w (.i c d)) (ls : (NS.i a b).le 2048) (lt : (NS.i c d).le 2048) :
    Spec mach 56 #[v, w] h (fun v h' => Sn h' v ((NS.i a b).prod (.i c d))) NP := by
  rw [NS.le_i] at ls lt
  have la0 := lowP_le ls.1
  have lb0 := highP_le ls.2
  have lc0 := lowP_le lt.1
  have ld0 := highP_le lt.2
  have la := Pt.up (m := 2 ^ 30) la0 (by decide)
  have lb := Pt.up (m := 2 ^ 30) lb0 (by decide)
  have lc := Pt.up (m := 2 ^ 30) lc0 (by decide)
  have ld := Pt.up (m := 2 ^ 30) ld0 (by decide)
  have kA := fun {h} [Le h0 h] => Ends_spec (h := h) hs
  have kB := fun {h} [Le h0 h] => Ends_spec (h := h) ht
  have he := outer_e (a := a) (b := b) (c := c) (d := d)
  obtain ⟨b1, a1, m1, c1, a2, m2, c2, b2, a3, m3, c3, a4, m4, c4, rfl, _, _⟩ := hs.ie
  obtain ⟨b1', a1', m1', c1', a2', m2', c2', b2', a3', m3', c3', a4', m4', c4', rfl, _, _⟩ := ht.ie
  show Spec _ _ _ _ (fun v h' => Sn h' v (fin3 (outer (lowP a) (highP b) (lowP c) (highP d) 2))) _
  generalize lowP a = x1 at *
  generalize highP b = x2 at *
  generalize lowP c = y1 at *
  generalize highP d = y2 at *
  refine Spec.go [] Tryz.func56 rfl rfl (by kernel_rfl) fun C _ => ?_
  try simp (maxSteps := 999999) (disch := omega) only [go_sem, Nat.reduceBEq, Nat.reduceAdd, Int.toNat_one, Nat.zero_mul, Nat.one_mul, Nat.zero_add, List.set_cons_zero, List.set_cons_succ]
  refine caN (by exact kA) ?_; rintro w1 h1 s1 zz1; obtain ⟨p1, p2, p3, p4, p5, p6, p7, q1, q2, q3, q4, q5, q6, q7, rfl, ea, eb⟩ := zz1
  try simp (maxSteps := 999999) (disch := omega) only [go_sem, Nat.reduceBEq, Nat.reduceAdd, Int.toNat_one, Nat.zero_mul, Nat.one_mul, Nat.zero_add, List.set_cons_zero, List.set_cons_succ]
  refine lpSl [] (fun x : Nat × List Value × Bool × Bool => ⟨[(3, .p 1 0), (4, .p 2 0), (5, .p 3 0), (6, .v (.bool x.2.2.1)), (7, .v (.bool x.2.2.2)), (15, .v (.agg #[.bool p1, .slice p2 p3 p4, .slice p5 p6 p7, .int .i64 x1.side, .bool q1, .slice q2 q3 q4, .slice q5 q6 q7, .int .i64 x2.side])), (16, .v (.int .i64 x.1))], [[.bool b1, .slice a1 m1 c1, .slice a2 m2 c2, .bool b2, .slice a3 m3 c3, .slice a4 m4 c4, .bool a.isNone, .bool b.isNone, .bool false], [.bool b1', .slice a1' m1' c1', .slice a2' m2' c2', .bool b2', .slice a3' m3' c3', .slice a4' m4' c4', .bool c.isNone, .bool d.isNone, .bool false], [.bool false, .slice none 0 0, .slice none 0 0, .bool false, .slice none 0 0, .slice none 0 0, .bool false, .bool false, .bool false], x.2.1]⟩) (fun x h' => Le h1 h' ∧ x.1 ≤ 2 ∧ ∃ J, Sn h' (.agg x.2.1.toArray) J ∧ NS.pts 4096 (J, x.2.2.1, x.2.2.2) ∧ outer x1 x2 y1 y2 x.1 = (J, x.2.2.1, x.2.2.2)) (fun x => 2 - x.1) (0, [.bool false, .slice none 0 0, .slice none 0 0, .bool false, .slice none 0 0, .slice none 0 0, .bool false, .bool false, .bool true], false, false) [0, 1, 2, 3] ?_ ⟨inferInstance, by decide, .e, ⟨_, _, _, _, _, _, _, _, rfl, En.nil _, En.nil _⟩, ⟨trivial, rfl, .inl rfl⟩, rfl⟩ (by kernel_rfl) ?_
  · try simp (maxSteps := 999999) (disch := omega) only [go_sem, Nat.reduceBEq, Nat.reduceAdd, nodupB, Int.toNat_one, Nat.zero_mul, Nat.one_mul, Nat.zero_add, List.set_cons_zero, List.set_cons_succ]
  rintro ⟨i, cs, lo, hi⟩ h2 ⟨le2, hi2, J, hJ, hpt, hacc⟩
  have leh : Le h0 h2 := Le.tr inferInstance le2
  dsimp only at *
  obtain ⟨g1, g2, g3, g4, g5, g6, g7, g8, g9, ga, gb, gc, gd, ge, gl, gu, gv, rfl⟩ : ∃ g1 g2 g3 g4 g5 g6 g7 g8 g9 ga gb gc gd ge gl gu gv, cs = [.bool g1, .slice g2 g3 g4, .slice g5 g6 g7, .bool g8, .slice g9 ga gb, .slice gc gd ge, .bool gl, .bool gu, .bool gv] := by
    obtain ⟨_, _, _, _, _, _, _, _, _, _, _, _, _, _, _, _, e, _⟩ := hJ.sa
    simp only [Value.agg.injEq, Array.mk.injEq] at e
    exact ⟨_, _, _, _, _, _, _, _, _, _, _, _, _, _, _, _, _, e⟩
  obtain rfl | rfl | rfl : i = 2 ∨ i = 0 ∨ i = 1 := by omega
  · rw [hacc] at he
    try simp (maxSteps := 999999) (disch := omega) only [go_sem, Nat.reduceBEq, Nat.reduceAdd, Int.toNat_one, Nat.zero_mul, Nat.one_mul, Nat.zero_add, List.set_cons_zero, List.set_cons_succ]
    rw [hacc]
    cases J with
    | e =>
      obtain ⟨rfl, rfl⟩ : lo = true ∧ hi = true := by have := he rfl; simpa using this
      obtain ⟨_, _, _, _, _, _, _, _, e, j1, j2⟩ := hJ
      simp only [Value.agg.injEq, Array.mk.injEq, List.cons.injEq, and_true, Value.bool.injEq] at e
      obtain ⟨rfl, rfl, rfl, rfl, rfl, rfl, _⟩ := e
      exact ⟨_, _, _, _, _, _, rfl, j1, j2⟩
    | i l u =>
      obtain ⟨_, _, _, _, _, _, e, j1, j2⟩ := hJ
      simp only [Value.agg.injEq, Array.mk.injEq, List.cons.injEq, and_true, Value.bool.injEq] at e
      obtain ⟨rfl, rfl, rfl, rfl, rfl, rfl, _⟩ := e
      obtain ⟨l, u, e⟩ := hpt.2.2.resolve_left (fun k => by cases k)
      cases e
      cases lo <;> cases hi <;> exact ⟨_, _, _, _, _, _, rfl, by first | exact j1 | exact j1.junk, by first | exact j2 | exact j2.junk⟩
  · try simp (maxSteps := 999999) (disch := omega) only [go_sem, Nat.reduceBEq, Nat.reduceAdd, Int.toNat_one, Nat.zero_mul, Nat.one_mul, Nat.zero_add, List.set_cons_zero, List.set_cons_succ]
    refine caN (by exact kB) ?_; rintro w3 h3 s3 zz3; obtain ⟨r1, r2, r3, r4, r5, r6, r7, t1, t2, t3, t4, t5, t6, t7, rfl, ec, ed⟩ := zz3
    try simp (maxSteps := 999999) (disch := omega) only [go_sem, Nat.reduceBEq, Nat.reduceAdd, Int.toNat_one, Nat.zero_mul, Nat.one_mul, Nat.zero_add, List.set_cons_zero, List.set_cons_succ]
    have eX := ea.to (h' := h3)
    have hO : outer x1 x2 y1 y2 (0 + 1) = inn x1 y1 y2 (J, lo, hi) 2 := by rw [← hacc]; rfl
    have lX : x1.le (2 ^ 30) := la
    have lX0 : x1.le 2048 := la0
    obtain ⟨o, ho⟩ : ∃ o, (J, lo, hi) = o := ⟨_, rfl⟩
    rw [ho] at hO
    refine lpSl [] (fun x : Nat × List Value × Bool × Bool => ⟨[(3, .p 1 0), (4, .p 2 0), (5, .p 3 0), (6, .v (.bool x.2.2.1)), (7, .v (.bool x.2.2.2)), (9, .p 4 0), (15, .v (.agg #[.bool p1, .slice p2 p3 p4, .slice p5 p6 p7, .int .i64 x1.side, .bool q1, .slice q2 q3 q4, .slice q5 q6 q7, .int .i64 x2.side])), (16, .v (.int .i64 0)), (20, .v (.agg #[.bool r1, .slice r2 r3 r4, .slice r5 r6 r7, .int .i64 y1.side, .bool t1, .slice t2 t3 t4, .slice t5 t6 t7, .int .i64 y2.side])), (21, .v (.int .i64 x.1))], [[.bool b1, .slice a1 m1 c1, .slice a2 m2 c2, .bool b2, .slice a3 m3 c3, .slice a4 m4 c4, .bool a.isNone, .bool b.isNone, .bool false], [.bool b1', .slice a1' m1' c1', .slice a2' m2' c2', .bool b2', .slice a3' m3' c3', .slice a4' m4' c4', .bool c.isNone, .bool d.isNone, .bool false], [.bool false, .slice none 0 0, .slice none 0 0, .bool false, .slice none 0 0, .slice none 0 0, .bool false, .bool false, .bool false], x.2.1, [.bool p1, .slice p2 p3 p4, .slice p5 p6 p7, .int .i64 x1.side]]⟩) (fun x h' => Le h3 h' ∧ x.1 ≤ 2 ∧ ∃ J, Sn h' (.agg x.2.1.toArray) J ∧ NS.pts 4096 (J, x.2.2.1, x.2.2.2) ∧ inn x1 y1 y2 o x.1 = (J, x.2.2.1, x.2.2.2)) (fun x => 2 - x.1) (0, _, lo, hi) [0, 1, 2, 3, 4] ?_ ⟨inferInstance, (show 0 ≤ 2 by decide), J, hJ.to (h' := h3), hpt, ho.symm⟩ (by kernel_rfl) ?_
    · try simp (maxSteps := 999999) (disch := omega) only [go_sem, Nat.reduceBEq, Nat.reduceAdd, nodupB, Int.toNat_one, Nat.zero_mul, Nat.one_mul, Nat.zero_add, List.set_cons_zero, List.set_cons_succ]
    clear hJ hpt hacc ho
    rintro ⟨j, cs, lo, hi⟩ h4 ⟨le4, hj, J, hJ, hpt, hacc⟩
    dsimp only at *
    generalize hX : x1 = X at *
    obtain ⟨k1, k2, k3, k4, k5, k6, k7, k8, k9, ka, kb, kc, kd, ke, kl, ku, kv, rfl⟩ : ∃ k1 k2 k3 k4 k5 k6 k7 k8 k9 ka kb kc kd ke kl ku kv, cs = [.bool k1, .slice k2 k3 k4, .slice k5 k6 k7, .bool k8, .slice k9 ka kb, .slice kc kd ke, .bool kl, .bool ku, .bool kv] := by
      obtain ⟨_, _, _, _, _, _, _, _, _, _, _, _, _, _, _, _, e, _⟩ := hJ.sa
      simp only [Value.agg.injEq, Array.mk.injEq] at e
      exact ⟨_, _, _, _, _, _, _, _, _, _, _, _, _, _, _, _, _, e⟩
    obtain rfl | rfl | rfl : j = 2 ∨ j = 0 ∨ j = 1 := by omega
    · try simp (maxSteps := 999999) (disch := omega) only [go_sem, Nat.reduceBEq, Nat.reduceAdd, Int.toNat_one, Nat.zero_mul, Nat.one_mul, Nat.zero_add, List.set_cons_zero, List.set_cons_succ]
      dsimp only [lpS]; refine ⟨(0 + 1, _, lo, hi), [0, 1, 2, 3], ?_, ⟨Le.tr le2 (Le.tr inferInstance le4), (show 0 + 1 ≤ 2 by decide), J, hJ, hpt, by rw [hO]; exact hacc⟩, (show 2 - (0 + 1) < 2 - 0 by decide)⟩
      try simp (maxSteps := 999999) (disch := omega) only [go_sem, Nat.reduceBEq, Nat.reduceAdd, nodupB, Int.toNat_one, Nat.zero_mul, Nat.one_mul, Nat.zero_add, List.set_cons_zero, List.set_cons_succ]
      all_goals rfl
    · try simp (maxSteps := 999999) (disch := omega) only [go_sem, Nat.reduceBEq, Nat.reduceAdd, Int.toNat_one, Nat.zero_mul, Nat.one_mul, Nat.zero_add, List.set_cons_zero, List.set_cons_succ]
      refine caN (by exact Times_spec (eX.to (h' := h4)) (ec.to (h' := h4)) lX lc) ?_; rintro w5 h5 s5 zz5; obtain ⟨f1, f2, f3, f4, f5, f6, f7, rfl, zz5c⟩ := zz5.sa
      try simp (maxSteps := 999999) (disch := omega) only [go_sem, Nat.reduceBEq, Nat.reduceAdd, Int.toNat_one, Nat.zero_mul, Nat.one_mul, Nat.zero_add, List.set_cons_zero, List.set_cons_succ]
      have lz := mul_le lX0 lc0 (by decide)
      have hz : inn X y1 y2 o (0 + 1) = stp (J, lo, hi) (X.mul y1) := by rw [← hacc]; rfl
      generalize X.mul y1 = z at *
      cases z with
      | fin q =>
        dsimp only [Pt.side] at *
        try simp (maxSteps := 999999) (disch := omega) only [go_sem, Nat.reduceBEq, Nat.reduceAdd, Int.toNat_one, Nat.zero_mul, Nat.one_mul, Nat.zero_add, List.set_cons_zero, List.set_cons_succ]
        refine caN (by exact one_set zz5c.num) ?_; rintro _ h6 _ zz6; obtain ⟨_, _, _, _, _, _, _, _, _, _, _, _, _, _, _, _, rfl, zz6⟩ := zz6.sa
        try simp (maxSteps := 999999) (disch := omega) only [go_sem, Nat.reduceBEq, Nat.reduceAdd, Int.toNat_one, Nat.zero_mul, Nat.one_mul, Nat.zero_add, List.set_cons_zero, List.set_cons_succ]
        refine caN (by exact Joined_set (hJ.to (h' := h6)) zz6 (NS.le30' hpt.2.1) (NS.le30' (le_pt lz))) ?_; rintro _ h7 _ zz7; obtain ⟨_, _, _, _, _, _, _, _, _, _, _, _, _, _, _, _, rfl, zz7⟩ := zz7.sa
        try simp (maxSteps := 999999) (disch := omega) only [go_sem, Nat.reduceBEq, Nat.reduceAdd, Int.toNat_one, Nat.zero_mul, Nat.one_mul, Nat.zero_add, List.set_cons_zero, List.set_cons_succ]
        dsimp only [lpS]; refine ⟨(0 + 1, _, lo, hi), [0, 1, 2, 3, 4], ?_, ⟨inferInstance, (show 0 + 1 ≤ 2 by decide), _, zz7, stp_pts (z := .fin q) hpt lz, hz⟩, (show 2 - (0 + 1) < 2 - 0 by decide)⟩
        try simp (maxSteps := 999999) (disch := omega) only [go_sem, Nat.reduceBEq, Nat.reduceAdd, nodupB, Int.toNat_one, Nat.zero_mul, Nat.one_mul, Nat.zero_add, List.set_cons_zero, List.set_cons_succ]
        all_goals rfl
      | inf up =>
        cases up with
        | true =>
          dsimp only [Pt.side] at *
          simp only [if_true, if_false, Bool.false_eq_true, reduceIte] at *
          try simp (maxSteps := 999999) (disch := omega) only [go_sem, Nat.reduceBEq, Nat.reduceAdd, Int.toNat_one, Nat.zero_mul, Nat.one_mul, Nat.zero_add, List.set_cons_zero, List.set_cons_succ]
          dsimp only [lpS]; refine ⟨(0 + 1, _, lo, true), [0, 1, 2, 3, 4], ?_, ⟨inferInstance, (show 0 + 1 ≤ 2 by decide), _, hJ.to (h' := h5), hpt, hz⟩, (show 2 - (0 + 1) < 2 - 0 by decide)⟩
          try simp (maxSteps := 999999) (disch := omega) only [go_sem, Nat.reduceBEq, Nat.reduceAdd, nodupB, Int.toNat_one, Nat.zero_mul, Nat.one_mul, Nat.zero_add, List.set_cons_zero, List.set_cons_succ]
          all_goals rfl
        | false =>
          dsimp only [Pt.side] at *
          simp only [if_true, if_false, Bool.false_eq_true, reduceIte] at *
          try simp (maxSteps := 999999) (disch := omega) only [go_sem, Nat.reduceBEq, Nat.reduceAdd, Int.toNat_one, Nat.zero_mul, Nat.one_mul, Nat.zero_add, List.set_cons_zero, List.set_cons_succ]
          dsimp only [lpS]; refine ⟨(0 + 1, _, true, hi), [0, 1, 2, 3, 4], ?_, ⟨inferInstance, (show 0 + 1 ≤ 2 by decide), _, hJ.to (h' := h5), hpt, hz⟩, (show 2 - (0 + 1) < 2 - 0 by decide)⟩
          try simp (maxSteps := 999999) (disch := omega) only [go_sem, Nat.reduceBEq, Nat.reduceAdd, nodupB, Int.toNat_one, Nat.zero_mul, Nat.one_mul, Nat.zero_add, List.set_cons_zero, List.set_cons_succ]
          all_goals rfl
    · try simp (maxSteps := 999999) (disch := omega) only [go_sem, Nat.reduceBEq, Nat.reduceAdd, Int.toNat_one, Nat.zero_mul, Nat.one_mul, Nat.zero_add, List.set_cons_zero, List.set_cons_succ]
      refine caN (by exact Times_spec (eX.to (h' := h4)) (ed.to (h' := h4)) lX ld) ?_; rintro w5 h5 s5 zz5; obtain ⟨f1, f2, f3, f4, f5, f6, f7, rfl, zz5c⟩ := zz5.sa
      try simp (maxSteps := 999999) (disch := omega) only [go_sem, Nat.reduceBEq, Nat.reduceAdd, Int.toNat_one, Nat.zero_mul, Nat.one_mul, Nat.zero_add, List.set_cons_zero, List.set_cons_succ]
      have lz := mul_le lX0 ld0 (by decide)
      have hz : inn X y1 y2 o (1 + 1) = stp (J, lo, hi) (X.mul y2) := by rw [← hacc]; rfl
      generalize X.mul y2 = z at *
      cases z with
      | fin q =>
        dsimp only [Pt.side] at *
        try simp (maxSteps := 999999) (disch := omega) only [go_sem, Nat.reduceBEq, Nat.reduceAdd, Int.toNat_one, Nat.zero_mul, Nat.one_mul, Nat.zero_add, List.set_cons_zero, List.set_cons_succ]
        refine caN (by exact one_set zz5c.num) ?_; rintro _ h6 _ zz6; obtain ⟨_, _, _, _, _, _, _, _, _, _, _, _, _, _, _, _, rfl, zz6⟩ := zz6.sa
        try simp (maxSteps := 999999) (disch := omega) only [go_sem, Nat.reduceBEq, Nat.reduceAdd, Int.toNat_one, Nat.zero_mul, Nat.one_mul, Nat.zero_add, List.set_cons_zero, List.set_cons_succ]
        refine caN (by exact Joined_set (hJ.to (h' := h6)) zz6 (NS.le30' hpt.2.1) (NS.le30' (le_pt lz))) ?_; rintro _ h7 _ zz7; obtain ⟨_, _, _, _, _, _, _, _, _, _, _, _, _, _, _, _, rfl, zz7⟩ := zz7.sa
        try simp (maxSteps := 999999) (disch := omega) only [go_sem, Nat.reduceBEq, Nat.reduceAdd, Int.toNat_one, Nat.zero_mul, Nat.one_mul, Nat.zero_add, List.set_cons_zero, List.set_cons_succ]
        dsimp only [lpS]; refine ⟨(1 + 1, _, lo, hi), [0, 1, 2, 3, 4], ?_, ⟨inferInstance, (show 1 + 1 ≤ 2 by decide), _, zz7, stp_pts (z := .fin q) hpt lz, hz⟩, (show 2 - (1 + 1) < 2 - 1 by decide)⟩
        try simp (maxSteps := 999999) (disch := omega) only [go_sem, Nat.reduceBEq, Nat.reduceAdd, nodupB, Int.toNat_one, Nat.zero_mul, Nat.one_mul, Nat.zero_add, List.set_cons_zero, List.set_cons_succ]
        all_goals rfl
      | inf up =>
        cases up with
        | true =>
          dsimp only [Pt.side] at *
          simp only [if_true, if_false, Bool.false_eq_true, reduceIte] at *
          try simp (maxSteps := 999999) (disch := omega) only [go_sem, Nat.reduceBEq, Nat.reduceAdd, Int.toNat_one, Nat.zero_mul, Nat.one_mul, Nat.zero_add, List.set_cons_zero, List.set_cons_succ]
          dsimp only [lpS]; refine ⟨(1 + 1, _, lo, true), [0, 1, 2, 3, 4], ?_, ⟨inferInstance, (show 1 + 1 ≤ 2 by decide), _, hJ.to (h' := h5), hpt, hz⟩, (show 2 - (1 + 1) < 2 - 1 by decide)⟩
          try simp (maxSteps := 999999) (disch := omega) only [go_sem, Nat.reduceBEq, Nat.reduceAdd, nodupB, Int.toNat_one, Nat.zero_mul, Nat.one_mul, Nat.zero_add, List.set_cons_zero, List.set_cons_succ]
          all_goals rfl
        | false =>
          dsimp only [Pt.side] at *
          simp only [if_true, if_false, Bool.false_eq_true, reduceIte] at *
          try simp (maxSteps := 999999) (disch := omega) only [go_sem, Nat.reduceBEq, Nat.reduceAdd, Int.toNat_one, Nat.zero_mul, Nat.one_mul, Nat.zero_add, List.set_cons_zero, List.set_cons_succ]
          dsimp only [lpS]; refine ⟨(1 + 1, _, true, hi), [0, 1, 2, 3, 4], ?_, ⟨inferInstance, (show 1 + 1 ≤ 2 by decide), _, hJ.to (h' := h5), hpt, hz⟩, (show 2 - (1 + 1) < 2 - 1 by decide)⟩
          try simp (maxSteps := 999999) (disch := omega) only [go_sem, Nat.reduceBEq, Nat.reduceAdd, nodupB, Int.toNat_one, Nat.zero_mul, Nat.one_mul, Nat.zero_add, List.set_cons_zero, List.set_cons_succ]
          all_goals rfl
  · try simp (maxSteps := 999999) (disch := omega) only [go_sem, Nat.reduceBEq, Nat.reduceAdd, Int.toNat_one, Nat.zero_mul, Nat.one_mul, Nat.zero_add, List.set_cons_zero, List.set_cons_succ]
    refine caN (by exact kB) ?_; rintro w3 h3 s3 zz3; obtain ⟨r1, r2, r3, r4, r5, r6, r7, t1, t2, t3, t4, t5, t6, t7, rfl, ec, ed⟩ := zz3
    try simp (maxSteps := 999999) (disch := omega) only [go_sem, Nat.reduceBEq, Nat.reduceAdd, Int.toNat_one, Nat.zero_mul, Nat.one_mul, Nat.zero_add, List.set_cons_zero, List.set_cons_succ]
    have eX := eb.to (h' := h3)
    have hO : outer x1 x2 y1 y2 (1 + 1) = inn x2 y1 y2 (J, lo, hi) 2 := by rw [← hacc]; rfl
    have lX : x2.le (2 ^ 30) := lb
    have lX0 : x2.le 2048 := lb0
    obtain ⟨o, ho⟩ : ∃ o, (J, lo, hi) = o := ⟨_, rfl⟩
    rw [ho] at hO
    refine lpSl [] (fun x : Nat × List Value × Bool × Bool => ⟨[(3, .p 1 0), (4, .p 2 0), (5, .p 3 0), (6, .v (.bool x.2.2.1)), (7, .v (.bool x.2.2.2)), (9, .p 4 0), (15, .v (.agg #[.bool p1, .slice p2 p3 p4, .slice p5 p6 p7, .int .i64 x1.side, .bool q1, .slice q2 q3 q4, .slice q5 q6 q7, .int .i64 x2.side])), (16, .v (.int .i64 1)), (20, .v (.agg #[.bool r1, .slice r2 r3 r4, .slice r5 r6 r7, .int .i64 y1.side, .bool t1, .slice t2 t3 t4, .slice t5 t6 t7, .int .i64 y2.side])), (21, .v (.int .i64 x.1))], [[.bool b1, .slice a1 m1 c1, .slice a2 m2 c2, .bool b2, .slice a3 m3 c3, .slice a4 m4 c4, .bool a.isNone, .bool b.isNone, .bool false], [.bool b1', .slice a1' m1' c1', .slice a2' m2' c2', .bool b2', .slice a3' m3' c3', .slice a4' m4' c4', .bool c.isNone, .bool d.isNone, .bool false], [.bool false, .slice none 0 0, .slice none 0 0, .bool false, .slice none 0 0, .slice none 0 0, .bool false, .bool false, .bool false], x.2.1, [.bool q1, .slice q2 q3 q4, .slice q5 q6 q7, .int .i64 x2.side]]⟩) (fun x h' => Le h3 h' ∧ x.1 ≤ 2 ∧ ∃ J, Sn h' (.agg x.2.1.toArray) J ∧ NS.pts 4096 (J, x.2.2.1, x.2.2.2) ∧ inn x2 y1 y2 o x.1 = (J, x.2.2.1, x.2.2.2)) (fun x => 2 - x.1) (0, _, lo, hi) [0, 1, 2, 3, 4] ?_ ⟨inferInstance, (show 0 ≤ 2 by decide), J, hJ.to (h' := h3), hpt, ho.symm⟩ (by kernel_rfl) ?_
    · try simp (maxSteps := 999999) (disch := omega) only [go_sem, Nat.reduceBEq, Nat.reduceAdd, nodupB, Int.toNat_one, Nat.zero_mul, Nat.one_mul, Nat.zero_add, List.set_cons_zero, List.set_cons_succ]
    clear hJ hpt hacc ho
    rintro ⟨j, cs, lo, hi⟩ h4 ⟨le4, hj, J, hJ, hpt, hacc⟩
    dsimp only at *
    generalize hX : x2 = X at *
    obtain ⟨k1, k2, k3, k4, k5, k6, k7, k8, k9, ka, kb, kc, kd, ke, kl, ku, kv, rfl⟩ : ∃ k1 k2 k3 k4 k5 k6 k7 k8 k9 ka kb kc kd ke kl ku kv, cs = [.bool k1, .slice k2 k3 k4, .slice k5 k6 k7, .bool k8, .slice k9 ka kb, .slice kc kd ke, .bool kl, .bool ku, .bool kv] := by
      obtain ⟨_, _, _, _, _, _, _, _, _, _, _, _, _, _, _, _, e, _⟩ := hJ.sa
      simp only [Value.agg.injEq, Array.mk.injEq] at e
      exact ⟨_, _, _, _, _, _, _, _, _, _, _, _, _, _, _, _, _, e⟩
    obtain rfl | rfl | rfl : j = 2 ∨ j = 0 ∨ j = 1 := by omega
    · try simp (maxSteps := 999999) (disch := omega) only [go_sem, Nat.reduceBEq, Nat.reduceAdd, Int.toNat_one, Nat.zero_mul, Nat.one_mul, Nat.zero_add, List.set_cons_zero, List.set_cons_succ]
      dsimp only [lpS]; refine ⟨(1 + 1, _, lo, hi), [0, 1, 2, 3], ?_, ⟨Le.tr le2 (Le.tr inferInstance le4), (show 1 + 1 ≤ 2 by decide), J, hJ, hpt, by rw [hO]; exact hacc⟩, (show 2 - (1 + 1) < 2 - 1 by decide)⟩
      try simp (maxSteps := 999999) (disch := omega) only [go_sem, Nat.reduceBEq, Nat.reduceAdd, nodupB, Int.toNat_one, Nat.zero_mul, Nat.one_mul, Nat.zero_add, List.set_cons_zero, List.set_cons_succ]
      all_goals rfl
    · try simp (maxSteps := 999999) (disch := omega) only [go_sem, Nat.reduceBEq, Nat.reduceAdd, Int.toNat_one, Nat.zero_mul, Nat.one_mul, Nat.zero_add, List.set_cons_zero, List.set_cons_succ]
      refine caN (by exact Times_spec (eX.to (h' := h4)) (ec.to (h' := h4)) lX lc) ?_; rintro w5 h5 s5 zz5; obtain ⟨f1, f2, f3, f4, f5, f6, f7, rfl, zz5c⟩ := zz5.sa
      try simp (maxSteps := 999999) (disch := omega) only [go_sem, Nat.reduceBEq, Nat.reduceAdd, Int.toNat_one, Nat.zero_mul, Nat.one_mul, Nat.zero_add, List.set_cons_zero, List.set_cons_succ]
      have lz := mul_le lX0 lc0 (by decide)
      have hz : inn X y1 y2 o (0 + 1) = stp (J, lo, hi) (X.mul y1) := by rw [← hacc]; rfl
      generalize X.mul y1 = z at *
      cases z with
      | fin q =>
        dsimp only [Pt.side] at *
        try simp (maxSteps := 999999) (disch := omega) only [go_sem, Nat.reduceBEq, Nat.reduceAdd, Int.toNat_one, Nat.zero_mul, Nat.one_mul, Nat.zero_add, List.set_cons_zero, List.set_cons_succ]
        refine caN (by exact one_set zz5c.num) ?_; rintro _ h6 _ zz6; obtain ⟨_, _, _, _, _, _, _, _, _, _, _, _, _, _, _, _, rfl, zz6⟩ := zz6.sa
        try simp (maxSteps := 999999) (disch := omega) only [go_sem, Nat.reduceBEq, Nat.reduceAdd, Int.toNat_one, Nat.zero_mul, Nat.one_mul, Nat.zero_add, List.set_cons_zero, List.set_cons_succ]
        refine caN (by exact Joined_set (hJ.to (h' := h6)) zz6 (NS.le30' hpt.2.1) (NS.le30' (le_pt lz))) ?_; rintro _ h7 _ zz7; obtain ⟨_, _, _, _, _, _, _, _, _, _, _, _, _, _, _, _, rfl, zz7⟩ := zz7.sa
        try simp (maxSteps := 999999) (disch := omega) only [go_sem, Nat.reduceBEq, Nat.reduceAdd, Int.toNat_one, Nat.zero_mul, Nat.one_mul, Nat.zero_add, List.set_cons_zero, List.set_cons_succ]
        dsimp only [lpS]; refine ⟨(0 + 1, _, lo, hi), [0, 1, 2, 3, 4], ?_, ⟨inferInstance, (show 0 + 1 ≤ 2 by decide), _, zz7, stp_pts (z := .fin q) hpt lz, hz⟩, (show 2 - (0 + 1) < 2 - 0 by decide)⟩
        try simp (maxSteps := 999999) (disch := omega) only [go_sem, Nat.reduceBEq, Nat.reduceAdd, nodupB, Int.toNat_one, Nat.zero_mul, Nat.one_mul, Nat.zero_add, List.set_cons_zero, List.set_cons_succ]
        all_goals rfl
      | inf up =>
        cases up with
        | true =>
          dsimp only [Pt.side] at *
          simp only [if_true, if_false, Bool.false_eq_true, reduceIte] at *
          try simp (maxSteps := 999999) (disch := omega) only [go_sem, Nat.reduceBEq, Nat.reduceAdd, Int.toNat_one, Nat.zero_mul, Nat.one_mul, Nat.zero_add, List.set_cons_zero, List.set_cons_succ]
          dsimp only [lpS]; refine ⟨(0 + 1, _, lo, true), [0, 1, 2, 3, 4], ?_, ⟨inferInstance, (show 0 + 1 ≤ 2 by decide), _, hJ.to (h' := h5), hpt, hz⟩, (show 2 - (0 + 1) < 2 - 0 by decide)⟩
          try simp (maxSteps := 999999) (disch := omega) only [go_sem, Nat.reduceBEq, Nat.reduceAdd, nodupB, Int.toNat_one, Nat.zero_mul, Nat.one_mul, Nat.zero_add, List.set_cons_zero, List.set_cons_succ]
          all_goals rfl
        | false =>
          dsimp only [Pt.side] at *
          simp only [if_true, if_false, Bool.false_eq_true, reduceIte] at *
          try simp (maxSteps := 999999) (disch := omega) only [go_sem, Nat.reduceBEq, Nat.reduceAdd, Int.toNat_one, Nat.zero_mul, Nat.one_mul, Nat.zero_add, List.set_cons_zero, List.set_cons_succ]
          dsimp only [lpS]; refine ⟨(0 + 1, _, true, hi), [0, 1, 2, 3, 4], ?_, ⟨inferInstance, (show 0 + 1 ≤ 2 by decide), _, hJ.to (h' := h5), hpt, hz⟩, (show 2 - (0 + 1) < 2 - 0 by decide)⟩
          try simp (maxSteps := 999999) (disch := omega) only [go_sem, Nat.reduceBEq, Nat.reduceAdd, nodupB, Int.toNat_one, Nat.zero_mul, Nat.one_mul, Nat.zero_add, List.set_cons_zero, List.set_cons_succ]
          all_goals rfl
    · try simp (maxSteps := 999999) (disch := omega) only [go_sem, Nat.reduceBEq, Nat.reduceAdd, Int.toNat_one, Nat.zero_mul, Nat.one_mul, Nat.zero_add, List.set_cons_zero, List.set_cons_succ]
      refine caN (by exact Times_spec (eX.to (h' := h4)) (ed.to (h' := h4)) lX ld) ?_; rintro w5 h5 s5 zz5; obtain ⟨f1, f2, f3, f4, f5, f6, f7, rfl, zz5c⟩ := zz5.sa
      try simp (maxSteps := 999999) (disch := omega) only [go_sem, Nat.reduceBEq, Nat.reduceAdd, Int.toNat_one, Nat.zero_mul, Nat.one_mul, Nat.zero_add, List.set_cons_zero, List.set_cons_succ]
      have lz := mul_le lX0 ld0 (by decide)
      have hz : inn X y1 y2 o (1 + 1) = stp (J, lo, hi) (X.mul y2) := by rw [← hacc]; rfl
      generalize X.mul y2 = z at *
      cases z with
      | fin q =>
        dsimp only [Pt.side] at *
        try simp (maxSteps := 999999) (disch := omega) only [go_sem, Nat.reduceBEq, Nat.reduceAdd, Int.toNat_one, Nat.zero_mul, Nat.one_mul, Nat.zero_add, List.set_cons_zero, List.set_cons_succ]
        refine caN (by exact one_set zz5c.num) ?_; rintro _ h6 _ zz6; obtain ⟨_, _, _, _, _, _, _, _, _, _, _, _, _, _, _, _, rfl, zz6⟩ := zz6.sa
        try simp (maxSteps := 999999) (disch := omega) only [go_sem, Nat.reduceBEq, Nat.reduceAdd, Int.toNat_one, Nat.zero_mul, Nat.one_mul, Nat.zero_add, List.set_cons_zero, List.set_cons_succ]
        refine caN (by exact Joined_set (hJ.to (h' := h6)) zz6 (NS.le30' hpt.2.1) (NS.le30' (le_pt lz))) ?_; rintro _ h7 _ zz7; obtain ⟨_, _, _, _, _, _, _, _, _, _, _, _, _, _, _, _, rfl, zz7⟩ := zz7.sa
        try simp (maxSteps := 999999) (disch := omega) only [go_sem, Nat.reduceBEq, Nat.reduceAdd, Int.toNat_one, Nat.zero_mul, Nat.one_mul, Nat.zero_add, List.set_cons_zero, List.set_cons_succ]
        dsimp only [lpS]; refine ⟨(1 + 1, _, lo, hi), [0, 1, 2, 3, 4], ?_, ⟨inferInstance, (show 1 + 1 ≤ 2 by decide), _, zz7, stp_pts (z := .fin q) hpt lz, hz⟩, (show 2 - (1 + 1) < 2 - 1 by decide)⟩
        try simp (maxSteps := 999999) (disch := omega) only [go_sem, Nat.reduceBEq, Nat.reduceAdd, nodupB, Int.toNat_one, Nat.zero_mul, Nat.one_mul, Nat.zero_add, List.set_cons_zero, List.set_cons_succ]
        all_goals rfl
      | inf up =>
        cases up with
        | true =>
          dsimp only [Pt.side] at *
          simp only [if_true, if_false, Bool.false_eq_true, reduceIte] at *
          try simp (maxSteps := 999999) (disch := omega) only [go_sem, Nat.reduceBEq, Nat.reduceAdd, Int.toNat_one, Nat.zero_mul, Nat.one_mul, Nat.zero_add, List.set_cons_zero, List.set_cons_succ]
          dsimp only [lpS]; refine ⟨(1 + 1, _, lo, true), [0, 1, 2, 3, 4], ?_, ⟨inferInstance, (show 1 + 1 ≤ 2 by decide), _, hJ.to (h' := h5), hpt, hz⟩, (show 2 - (1 + 1) < 2 - 1 by decide)⟩
          try simp (maxSteps := 999999) (disch := omega) only [go_sem, Nat.reduceBEq, Nat.reduceAdd, nodupB, Int.toNat_one, Nat.zero_mul, Nat.one_mul, Nat.zero_add, List.set_cons_zero, List.set_cons_succ]
          all_goals rfl
        | false =>
          dsimp only [Pt.side] at *
          simp only [if_true, if_false, Bool.false_eq_true, reduceIte] at *
          try simp (maxSteps := 999999) (disch := omega) only [go_sem, Nat.reduceBEq, Nat.reduceAdd, Int.toNat_one, Nat.zero_mul, Nat.one_mul, Nat.zero_add, List.set_cons_zero, List.set_cons_succ]
          dsimp only [lpS]; refine ⟨(1 + 1, _, true, hi), [0, 1, 2, 3, 4], ?_, ⟨inferInstance, (show 1 + 1 ≤ 2 by decide), _, hJ.to (h' := h5), hpt, hz⟩, (show 2 - (1 + 1) < 2 - 1 by decide)⟩
          try simp (maxSteps := 999999) (disch := omega) only [go_sem, Nat.reduceBEq, Nat.reduceAdd, nodupB, Int.toNat_one, Nat.zero_mul, Nat.one_mul, Nat.zero_add, List.set_cons_zero, List.set_cons_succ]
          all_goals rfl
theorem prod_pts {a b c d : Option Rat} (ls : (NS.i a b).le 2048) (lt : (NS.i c d).le 2048) : NS.pts 4096 (outer (lowP a) (highP b) (lowP c) (highP d) 2) := by
  rw [NS.le_i] at ls lt
  have la := lowP_le ls.1
  have lb := highP_le ls.2
  have lc := lowP_le lt.1
  have ld := highP_le lt.2
  exact stp_pts (stp_pts (stp_pts (stp_pts ⟨trivial, rfl, .inl rfl⟩ (mul_le la lc (by decide))) (mul_le la ld (by decide))) (mul_le lb lc (by decide))) (mul_le lb ld (by decide))
theorem fin3_pts {k : Nat} {o : NS × Bool × Bool} (h : NS.pts k o) (hk : 1 ≤ k) : (fin3 o).ok ∧ (fin3 o).le k := by
  obtain ⟨s, l, u⟩ := o
  obtain ⟨h1, h2, h3⟩ := h
  have h0 : sz 0 ≤ k := Nat.le_trans (show sz 0 ≤ 1 by decide) hk
  rcases h3 with e | ⟨a, b, e⟩
  · cases (e : s = .e)
    refine ⟨?_, ?_⟩
    · cases l <;> cases u <;> simp [fin3, NS.ok, ordO]
    · show NS.le k (.i _ _)
      rw [NS.le_i]
      cases l <;> cases u <;> exact ⟨fun _ e => by cases e; try exact h0, fun _ e => by cases e; try exact h0⟩
  · cases (e : s = .i _ _)
    have h2' := (NS.le_i.1 h2)
    refine ⟨?_, ?_⟩
    · cases l <;> cases u <;> first | exact h1 | rfl
    · show NS.le k (.i _ _)
      rw [NS.le_i]
      cases l <;> cases u <;> exact ⟨fun _ e => by cases e; try exact h2'.1 _ rfl, fun _ e => by cases e; try exact h2'.2 _ rfl⟩
theorem prod_ok {x y : NS} (hx : x.le 2048) (hy : y.le 2048) : (x.prod y).ok ∧ (x.prod y).le 4096 := by
  cases x with
  | e => exact ⟨trivial, rfl⟩
  | i a b => cases y with
    | e => exact ⟨trivial, rfl⟩
    | i c d => exact fin3_pts (prod_pts hx hy) (by decide)
theorem Prod1 {h0 h : PH} [Le h0 h] {s t : Value} {x y : NS} (hs : Sn h0 s x) (ht : Sn h0 t y) (gx : x.void = false) (gy : y.void = false) (lx : x.le 2048) (ly : y.le 2048) : Spec mach 56 #[s, t] h (fun v h' => Sn h' v (x.prod y)) NP := by
  cases x with
  | e => cases gx
  | i a b => cases y with
    | e => cases gy
    | i c d => exact Product_spec hs ht lx ly
theorem MulI_spec {h0 h : PH} [Le h0 h] {v w : Value} {x y : RI} {p : Int} (hv : Iv h0 v x) (hw : Iv h0 w y) : Spec mach 21 #[v, w, .int .i64 p] h (fun r h' => Ir h' r (x.fin2 y (rnd p x.set y.set (.ok (x.set.prod y.set))))) NP := by
  have hv0 := hv
  have hw0 := hw
  obtain ⟨a1, m1, c1, a2, m2, c2, a3, m3, c3, a4, m4, c4, rfl, _, _⟩ := hv.sa
  obtain ⟨a1', m1', c1', a2', m2', c2', a3', m3', c3', a4', m4', c4', rfl, _, _⟩ := hw.sa
  refine Spec.go [] Tryz.func21 rfl rfl (by kernel_rfl) fun C _ => ?_
  try simp (maxSteps := 999999) (disch := omega) only [go_sem, Nat.reduceBEq, Nat.reduceAdd, Int.toNat_one, Nat.zero_mul, Nat.one_mul, Nat.zero_add, List.set_cons_zero, List.set_cons_succ]
  refine caN (by exact rounded_spec hv0 hw0 (fun g g' k k' h' _ s t hs ht => Does.mk (Prod1 hs.sn ht.sn k k' (RI.le g) (RI.le g'))) (fun g g' z e => by cases e; exact (prod_ok (RI.le g) (RI.le g')).2.up (by decide))) ?_; rintro _ h3 _ hr3; obtain ⟨_, _, _, _, _, _, _, _, _, _, _, _, _, _, _, _, _, rfl, hr3⟩ := hr3.sa
  try simp (maxSteps := 999999) (disch := omega) only [go_sem, Nat.reduceBEq, Nat.reduceAdd, Int.toNat_one, Nat.zero_mul, Nat.one_mul, Nat.zero_add, List.set_cons_zero, List.set_cons_succ]
  exact hr3
end Go.Q
