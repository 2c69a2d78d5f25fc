/-
  Contracts of package interval: meets of two sets. Conditions: the values denote the intervals named, their ends of at most 2^30 binary digits. (Printed by a program, a case for each of the ends that are infinite.)
-/
import Derived.Test.YtdhnabpejckplaaDoorKb40449Ig
set_option linter.unusedVariables false
set_option linter.unusedSimpArgs false
namespace Go.Q
open Go.Proofs
set_option maxRecDepth 100000
set_option maxHeartbeats 4000000
theorem met_end {a b : Rat} {p : Prop} (h1 : b < a → p) (h2 : ¬ b < a → p) : p := by
  by_cases h : b < a
  · exact h1 h
  · exact h2 h
theorem met_1 {h0 h : PH} [Le h0 h] {v w : Value} (hs : Sd h0 v (.i none none)) (ht : Sd h0 w (.i none none)) (ls : NS.le (2 ^ 30) (.i none none)) (lt : NS.le (2 ^ 30) (.i none none)) :
    Spec mach 75 #[v, w] h (fun v h' => Sn h' v (NS.met (.i none none) (.i none none))) NP := by
  obtain ⟨b1, a1, m1, c1, a2, m2, c2, b2, a3, m3, c3, a4, m4, c4, rfl, h1, h2⟩ := Sn.ie hs
  rw [NS.le_i] at ls
  obtain ⟨b1', a1', m1', c1', a2', m2', c2', b2', a3', m3', c3', a4', m4', c4', rfl, h3, h4⟩ := Sn.ie ht
  rw [NS.le_i] at lt
  try dsimp only [Option.isNone]
  refine Spec.enter (args := [_, _]) (n := 81) Tryd.func75 rfl (by kernel_rfl) rfl (by simp) [.cell 4 66] rfl (fun C _ => ?_)
  repeat (first | (refine rg rfl rfl (fun K hK => ?_); (repeat (first | (refine wo rfl (fun k hk => ?_); simp (disch := omega) only [go_sem, Nat.reduceBEq, Nat.reduceAdd]; refine hk _ _ ?_; clear hk k) | refine wkt rfl ?_)); (try refine wk0 ?_); refine hK _ _ ?_; clear hK K; (try dsimp only [behind, qs, qb])) | ((first | refine AWP_exit ?_ | refine AWP_skip ?_); simp (disch := decide) only [qs, qb, if_true, if_false, reduceIte]) | refine AWP_sq rfl (fun K hK => ?_) | refine ct rfl ?_ | ((first | refine hK _ _ ?_ | (clear hK; refine hK _ _ ?_) | (clear hK; clear hK; refine hK _ _ ?_)); clear hK; (try clear K)))
  refine AWP_ret ?_; simp (disch := omega) only [go_sem, Nat.reduceBEq, Nat.reduceAdd]
  exact ⟨_, _, _, _, _, _, rfl, h3.to, h4.to⟩
theorem met_2 {h0 h : PH} [Le h0 h] {v w : Value} {d : Rat} (hs : Sd h0 v (.i none none)) (ht : Sd h0 w (.i none (some d))) (ls : NS.le (2 ^ 30) (.i none none)) (lt : NS.le (2 ^ 30) (.i none (some d))) :
    Spec mach 75 #[v, w] h (fun v h' => Sn h' v (NS.met (.i none none) (.i none (some d)))) NP := by
  obtain ⟨b1, a1, m1, c1, a2, m2, c2, b2, a3, m3, c3, a4, m4, c4, rfl, h1, h2⟩ := Sn.ie hs
  rw [NS.le_i] at ls
  obtain ⟨b1', a1', m1', c1', a2', m2', c2', b2', a3', m3', c3', a4', m4', c4', rfl, h3, h4⟩ := Sn.ie ht
  rw [NS.le_i] at lt
  have z4 := lt.2 _ rfl
  try dsimp only [Option.isNone]
  refine Spec.enter (args := [_, _]) (n := 81) Tryd.func75 rfl (by kernel_rfl) rfl (by simp) [.cell 4 66] rfl (fun C _ => ?_)
  repeat (first | (refine rg rfl rfl (fun K hK => ?_); (repeat (first | (refine wo rfl (fun k hk => ?_); simp (disch := omega) only [go_sem, Nat.reduceBEq, Nat.reduceAdd]; refine hk _ _ ?_; clear hk k) | refine wkt rfl ?_)); (try refine wk0 ?_); refine hK _ _ ?_; clear hK K; (try dsimp only [behind, qs, qb])) | ((first | refine AWP_exit ?_ | refine AWP_skip ?_); simp (disch := decide) only [qs, qb, if_true, if_false, reduceIte]) | refine AWP_sq rfl (fun K hK => ?_) | refine ct rfl ?_ | ((first | refine hK _ _ ?_ | (clear hK; refine hK _ _ ?_) | (clear hK; clear hK; refine hK _ _ ?_)); clear hK; (try clear K)))
  refine AWP_ret ?_; simp (disch := omega) only [go_sem, Nat.reduceBEq, Nat.reduceAdd]
  exact ⟨_, _, _, _, _, _, rfl, h3.to, h4.to⟩
theorem met_3 {h0 h : PH} [Le h0 h] {v w : Value} {c : Rat} (hs : Sd h0 v (.i none none)) (ht : Sd h0 w (.i (some c) none)) (ls : NS.le (2 ^ 30) (.i none none)) (lt : NS.le (2 ^ 30) (.i (some c) none)) :
    Spec mach 75 #[v, w] h (fun v h' => Sn h' v (NS.met (.i none none) (.i (some c) none))) NP := by
  obtain ⟨b1, a1, m1, c1, a2, m2, c2, b2, a3, m3, c3, a4, m4, c4, rfl, h1, h2⟩ := Sn.ie hs
  rw [NS.le_i] at ls
  obtain ⟨b1', a1', m1', c1', a2', m2', c2', b2', a3', m3', c3', a4', m4', c4', rfl, h3, h4⟩ := Sn.ie ht
  rw [NS.le_i] at lt
  have z3 := lt.1 _ rfl
  try dsimp only [Option.isNone]
  refine Spec.enter (args := [_, _]) (n := 81) Tryd.func75 rfl (by kernel_rfl) rfl (by simp) [.cell 4 66] rfl (fun C _ => ?_)
  repeat (first | (refine rg rfl rfl (fun K hK => ?_); (repeat (first | (refine wo rfl (fun k hk => ?_); simp (disch := omega) only [go_sem, Nat.reduceBEq, Nat.reduceAdd]; refine hk _ _ ?_; clear hk k) | refine wkt rfl ?_)); (try refine wk0 ?_); refine hK _ _ ?_; clear hK K; (try dsimp only [behind, qs, qb])) | ((first | refine AWP_exit ?_ | refine AWP_skip ?_); simp (disch := decide) only [qs, qb, if_true, if_false, reduceIte]) | refine AWP_sq rfl (fun K hK => ?_) | refine ct rfl ?_ | ((first | refine hK _ _ ?_ | (clear hK; refine hK _ _ ?_) | (clear hK; clear hK; refine hK _ _ ?_)); clear hK; (try clear K)))
  refine AWP_ret ?_; simp (disch := omega) only [go_sem, Nat.reduceBEq, Nat.reduceAdd]
  exact ⟨_, _, _, _, _, _, rfl, h3.to, h4.to⟩
theorem met_4 {h0 h : PH} [Le h0 h] {v w : Value} {c d : Rat} (hs : Sd h0 v (.i none none)) (ht : Sd h0 w (.i (some c) (some d))) (ls : NS.le (2 ^ 30) (.i none none)) (lt : NS.le (2 ^ 30) (.i (some c) (some d))) :
    Spec mach 75 #[v, w] h (fun v h' => Sn h' v (NS.met (.i none none) (.i (some c) (some d)))) NP := by
  obtain ⟨b1, a1, m1, c1, a2, m2, c2, b2, a3, m3, c3, a4, m4, c4, rfl, h1, h2⟩ := Sn.ie hs
  rw [NS.le_i] at ls
  obtain ⟨b1', a1', m1', c1', a2', m2', c2', b2', a3', m3', c3', a4', m4', c4', rfl, h3, h4⟩ := Sn.ie ht
  rw [NS.le_i] at lt
  have z3 := lt.1 _ rfl
  have z4 := lt.2 _ rfl
  try dsimp only [Option.isNone]
  refine Spec.enter (args := [_, _]) (n := 81) Tryd.func75 rfl (by kernel_rfl) rfl (by simp) [.cell 4 66] rfl (fun C _ => ?_)
  repeat (first | (refine rg rfl rfl (fun K hK => ?_); (repeat (first | (refine wo rfl (fun k hk => ?_); simp (disch := omega) only [go_sem, Nat.reduceBEq, Nat.reduceAdd]; refine hk _ _ ?_; clear hk k) | refine wkt rfl ?_)); (try refine wk0 ?_); refine hK _ _ ?_; clear hK K; (try dsimp only [behind, qs, qb])) | ((first | refine AWP_exit ?_ | refine AWP_skip ?_); simp (disch := decide) only [qs, qb, if_true, if_false, reduceIte]) | refine AWP_sq rfl (fun K hK => ?_) | refine ct rfl ?_ | ((first | refine hK _ _ ?_ | (clear hK; refine hK _ _ ?_) | (clear hK; clear hK; refine hK _ _ ?_)); clear hK; (try clear K)))
  refine rg rfl rfl (fun K hK => ?_); (repeat (first | (refine wo rfl (fun k hk => ?_); simp (disch := omega) only [go_sem, Nat.reduceBEq, Nat.reduceAdd]; refine hk _ _ ?_; clear hk k) | refine wkt rfl ?_)); (try refine wk0 ?_)
  refine cN rfl rfl rfl rfl (by exact Cmp_frac h3.num h4.num (up36 (z3)) (up36 (z4))) ?_; rintro vc hc sc rfl; (repeat (first | (refine wo rfl (fun k hk => ?_); simp (disch := omega) only [go_sem, Nat.reduceBEq, Nat.reduceAdd]; refine hk _ _ ?_; clear hk k) | refine wkt rfl ?_)); (try refine wk0 ?_)
  refine met_end (a := c) (b := d) (fun hlt => ?_) (fun hle => ?_)
  · have e1 : 0 < cmpQ c d := by unfold cmpQ; grind
    (try (simp (disch := omega) only [go_sem, Nat.reduceBEq, Nat.reduceAdd])); refine hK _ _ ?_; clear hK; (try clear K); (try dsimp only [behind, qs])
    repeat (first | (refine rg rfl rfl (fun K hK => ?_); (repeat (first | (refine wo rfl (fun k hk => ?_); simp (disch := omega) only [go_sem, Nat.reduceBEq, Nat.reduceAdd]; refine hk _ _ ?_; clear hk k) | refine wkt rfl ?_)); (try refine wk0 ?_); refine hK _ _ ?_; clear hK K; (try dsimp only [behind, qs, qb])) | ((first | refine AWP_exit ?_ | refine AWP_skip ?_); simp (disch := decide) only [qs, qb, if_true, if_false, reduceIte]) | refine AWP_sq rfl (fun K hK => ?_) | refine ct rfl ?_ | ((first | refine hK _ _ ?_ | (clear hK; refine hK _ _ ?_) | (clear hK; clear hK; refine hK _ _ ?_)); clear hK; (try clear K)))
    refine AWP_ret ?_; simp (disch := omega) only [go_sem, Nat.reduceBEq, Nat.reduceAdd]
    have eq : NS.met (.i none none) (.i (some c) (some d)) = .e := by simp [NS.met, omax, omin, NS.mk', ordO, hlt]
    rw [eq]
    exact ⟨_, _, _, _, _, _, _, _, rfl, h3.junk.to, h4.junk.to⟩
  · have e1 : ¬ 0 < cmpQ c d := by unfold cmpQ; grind
    (try (simp (disch := omega) only [go_sem, Nat.reduceBEq, Nat.reduceAdd])); refine hK _ _ ?_; clear hK; (try clear K); (try dsimp only [behind, qs])
    repeat (first | (refine rg rfl rfl (fun K hK => ?_); (repeat (first | (refine wo rfl (fun k hk => ?_); simp (disch := omega) only [go_sem, Nat.reduceBEq, Nat.reduceAdd]; refine hk _ _ ?_; clear hk k) | refine wkt rfl ?_)); (try refine wk0 ?_); refine hK _ _ ?_; clear hK K; (try dsimp only [behind, qs, qb])) | ((first | refine AWP_exit ?_ | refine AWP_skip ?_); simp (disch := decide) only [qs, qb, if_true, if_false, reduceIte]) | refine AWP_sq rfl (fun K hK => ?_) | refine ct rfl ?_ | ((first | refine hK _ _ ?_ | (clear hK; refine hK _ _ ?_) | (clear hK; clear hK; refine hK _ _ ?_)); clear hK; (try clear K)))
    refine AWP_ret ?_; simp (disch := omega) only [go_sem, Nat.reduceBEq, Nat.reduceAdd]
    have eq : NS.met (.i none none) (.i (some c) (some d)) = .i (some c) (some d) := by simp [NS.met, omax, omin, NS.mk', ordO, hle]
    rw [eq]
    exact ⟨_, _, _, _, _, _, rfl, h3.to, h4.to⟩
theorem met_5 {h0 h : PH} [Le h0 h] {v w : Value} (hs : Sd h0 v (.i none none)) (ht : Sd h0 w .e) (ls : NS.le (2 ^ 30) (.i none none)) (lt : NS.le (2 ^ 30) .e) :
    Spec mach 75 #[v, w] h (fun v h' => Sn h' v (NS.met (.i none none) .e)) NP := by
  obtain ⟨b1, a1, m1, c1, a2, m2, c2, b2, a3, m3, c3, a4, m4, c4, rfl, h1, h2⟩ := Sn.ie hs
  rw [NS.le_i] at ls
  obtain ⟨b1', a1', m1', c1', a2', m2', c2', b2', a3', m3', c3', a4', m4', c4', c, d, rfl, h3, h4, z3, z4⟩ := ht.ee
  try dsimp only [Option.isNone]
  refine Spec.enter (args := [_, _]) (n := 81) Tryd.func75 rfl (by kernel_rfl) rfl (by simp) [.cell 4 66] rfl (fun C _ => ?_)
  repeat (first | (refine rg rfl rfl (fun K hK => ?_); (repeat (first | (refine wo rfl (fun k hk => ?_); simp (disch := omega) only [go_sem, Nat.reduceBEq, Nat.reduceAdd]; refine hk _ _ ?_; clear hk k) | refine wkt rfl ?_)); (try refine wk0 ?_); refine hK _ _ ?_; clear hK K; (try dsimp only [behind, qs, qb])) | ((first | refine AWP_exit ?_ | refine AWP_skip ?_); simp (disch := decide) only [qs, qb, if_true, if_false, reduceIte]) | refine AWP_sq rfl (fun K hK => ?_) | refine ct rfl ?_ | ((first | refine hK _ _ ?_ | (clear hK; refine hK _ _ ?_) | (clear hK; clear hK; refine hK _ _ ?_)); clear hK; (try clear K)))
  refine AWP_ret ?_; simp (disch := omega) only [go_sem, Nat.reduceBEq, Nat.reduceAdd]
  exact ⟨_, _, _, _, _, _, _, _, rfl, h3.junk.to, h4.junk.to⟩
theorem met_6 {h0 h : PH} [Le h0 h] {v w : Value} {b : Rat} (hs : Sd h0 v (.i none (some b))) (ht : Sd h0 w (.i none none)) (ls : NS.le (2 ^ 30) (.i none (some b))) (lt : NS.le (2 ^ 30) (.i none none)) :
    Spec mach 75 #[v, w] h (fun v h' => Sn h' v (NS.met (.i none (some b)) (.i none none))) NP := by
  obtain ⟨b1, a1, m1, c1, a2, m2, c2, b2, a3, m3, c3, a4, m4, c4, rfl, h1, h2⟩ := Sn.ie hs
  rw [NS.le_i] at ls
  have z2 := ls.2 _ rfl
  obtain ⟨b1', a1', m1', c1', a2', m2', c2', b2', a3', m3', c3', a4', m4', c4', rfl, h3, h4⟩ := Sn.ie ht
  rw [NS.le_i] at lt
  try dsimp only [Option.isNone]
  refine Spec.enter (args := [_, _]) (n := 81) Tryd.func75 rfl (by kernel_rfl) rfl (by simp) [.cell 4 66] rfl (fun C _ => ?_)
  repeat (first | (refine rg rfl rfl (fun K hK => ?_); (repeat (first | (refine wo rfl (fun k hk => ?_); simp (disch := omega) only [go_sem, Nat.reduceBEq, Nat.reduceAdd]; refine hk _ _ ?_; clear hk k) | refine wkt rfl ?_)); (try refine wk0 ?_); refine hK _ _ ?_; clear hK K; (try dsimp only [behind, qs, qb])) | ((first | refine AWP_exit ?_ | refine AWP_skip ?_); simp (disch := decide) only [qs, qb, if_true, if_false, reduceIte]) | refine AWP_sq rfl (fun K hK => ?_) | refine ct rfl ?_ | ((first | refine hK _ _ ?_ | (clear hK; refine hK _ _ ?_) | (clear hK; clear hK; refine hK _ _ ?_)); clear hK; (try clear K)))
  refine AWP_ret ?_; simp (disch := omega) only [go_sem, Nat.reduceBEq, Nat.reduceAdd]
  exact ⟨_, _, _, _, _, _, rfl, h3.to, h2.to⟩
theorem met_7 {h0 h : PH} [Le h0 h] {v w : Value} {b d : Rat} (hs : Sd h0 v (.i none (some b))) (ht : Sd h0 w (.i none (some d))) (ls : NS.le (2 ^ 30) (.i none (some b))) (lt : NS.le (2 ^ 30) (.i none (some d))) :
    Spec mach 75 #[v, w] h (fun v h' => Sn h' v (NS.met (.i none (some b)) (.i none (some d)))) NP := by
  obtain ⟨b1, a1, m1, c1, a2, m2, c2, b2, a3, m3, c3, a4, m4, c4, rfl, h1, h2⟩ := Sn.ie hs
  rw [NS.le_i] at ls
  have z2 := ls.2 _ rfl
  obtain ⟨b1', a1', m1', c1', a2', m2', c2', b2', a3', m3', c3', a4', m4', c4', rfl, h3, h4⟩ := Sn.ie ht
  rw [NS.le_i] at lt
  have z4 := lt.2 _ rfl
  try dsimp only [Option.isNone]
  refine Spec.enter (args := [_, _]) (n := 81) Tryd.func75 rfl (by kernel_rfl) rfl (by simp) [.cell 4 66] rfl (fun C _ => ?_)
  repeat (first | (refine rg rfl rfl (fun K hK => ?_); (repeat (first | (refine wo rfl (fun k hk => ?_); simp (disch := omega) only [go_sem, Nat.reduceBEq, Nat.reduceAdd]; refine hk _ _ ?_; clear hk k) | refine wkt rfl ?_)); (try refine wk0 ?_); refine hK _ _ ?_; clear hK K; (try dsimp only [behind, qs, qb])) | ((first | refine AWP_exit ?_ | refine AWP_skip ?_); simp (disch := decide) only [qs, qb, if_true, if_false, reduceIte]) | refine AWP_sq rfl (fun K hK => ?_) | refine ct rfl ?_ | ((first | refine hK _ _ ?_ | (clear hK; refine hK _ _ ?_) | (clear hK; clear hK; refine hK _ _ ?_)); clear hK; (try clear K)))
  refine rg rfl rfl (fun K hK => ?_); (repeat (first | (refine wo rfl (fun k hk => ?_); simp (disch := omega) only [go_sem, Nat.reduceBEq, Nat.reduceAdd]; refine hk _ _ ?_; clear hk k) | refine wkt rfl ?_)); (try refine wk0 ?_)
  refine cN rfl rfl rfl rfl (by exact least_spec h2.num h4.num (up36 z2) (up36 z4)) ?_; rintro v2 g2 _ f2; obtain ⟨v2_0, v2_1, v2_2, v2_3, v2_4, v2_5, v2_6, rfl, f2⟩ := f2.sa; (repeat (first | (refine wo rfl (fun k hk => ?_); simp (disch := omega) only [go_sem, Nat.reduceBEq, Nat.reduceAdd]; refine hk _ _ ?_; clear hk k) | refine wkt rfl ?_)); (try refine wk0 ?_)
  (try (simp (disch := omega) only [go_sem, Nat.reduceBEq, Nat.reduceAdd])); refine hK _ _ ?_; clear hK; (try clear K); (try dsimp only [behind, qs])
  repeat (first | (refine rg rfl rfl (fun K hK => ?_); (repeat (first | (refine wo rfl (fun k hk => ?_); simp (disch := omega) only [go_sem, Nat.reduceBEq, Nat.reduceAdd]; refine hk _ _ ?_; clear hk k) | refine wkt rfl ?_)); (try refine wk0 ?_); refine hK _ _ ?_; clear hK K; (try dsimp only [behind, qs, qb])) | ((first | refine AWP_exit ?_ | refine AWP_skip ?_); simp (disch := decide) only [qs, qb, if_true, if_false, reduceIte]) | refine AWP_sq rfl (fun K hK => ?_) | refine ct rfl ?_ | ((first | refine hK _ _ ?_ | (clear hK; refine hK _ _ ?_) | (clear hK; clear hK; refine hK _ _ ?_)); clear hK; (try clear K)))
  refine AWP_ret ?_; simp (disch := omega) only [go_sem, Nat.reduceBEq, Nat.reduceAdd]
  exact ⟨_, _, _, _, _, _, rfl, h3.to, (En.of f2).to⟩
theorem met_8 {h0 h : PH} [Le h0 h] {v w : Value} {b c : Rat} (hs : Sd h0 v (.i none (some b))) (ht : Sd h0 w (.i (some c) none)) (ls : NS.le (2 ^ 30) (.i none (some b))) (lt : NS.le (2 ^ 30) (.i (some c) none)) :
    Spec mach 75 #[v, w] h (fun v h' => Sn h' v (NS.met (.i none (some b)) (.i (some c) none))) NP := by
  obtain ⟨b1, a1, m1, c1, a2, m2, c2, b2, a3, m3, c3, a4, m4, c4, rfl, h1, h2⟩ := Sn.ie hs
  rw [NS.le_i] at ls
  have z2 := ls.2 _ rfl
  obtain ⟨b1', a1', m1', c1', a2', m2', c2', b2', a3', m3', c3', a4', m4', c4', rfl, h3, h4⟩ := Sn.ie ht
  rw [NS.le_i] at lt
  have z3 := lt.1 _ rfl
  try dsimp only [Option.isNone]
  refine Spec.enter (args := [_, _]) (n := 81) Tryd.func75 rfl (by kernel_rfl) rfl (by simp) [.cell 4 66] rfl (fun C _ => ?_)
  repeat (first | (refine rg rfl rfl (fun K hK => ?_); (repeat (first | (refine wo rfl (fun k hk => ?_); simp (disch := omega) only [go_sem, Nat.reduceBEq, Nat.reduceAdd]; refine hk _ _ ?_; clear hk k) | refine wkt rfl ?_)); (try refine wk0 ?_); refine hK _ _ ?_; clear hK K; (try dsimp only [behind, qs, qb])) | ((first | refine AWP_exit ?_ | refine AWP_skip ?_); simp (disch := decide) only [qs, qb, if_true, if_false, reduceIte]) | refine AWP_sq rfl (fun K hK => ?_) | refine ct rfl ?_ | ((first | refine hK _ _ ?_ | (clear hK; refine hK _ _ ?_) | (clear hK; clear hK; refine hK _ _ ?_)); clear hK; (try clear K)))
  refine rg rfl rfl (fun K hK => ?_); (repeat (first | (refine wo rfl (fun k hk => ?_); simp (disch := omega) only [go_sem, Nat.reduceBEq, Nat.reduceAdd]; refine hk _ _ ?_; clear hk k) | refine wkt rfl ?_)); (try refine wk0 ?_)
  refine cN rfl rfl rfl rfl (by exact Cmp_frac h3.num h2.num (up36 (z3)) (up36 (z2))) ?_; rintro vc hc sc rfl; (repeat (first | (refine wo rfl (fun k hk => ?_); simp (disch := omega) only [go_sem, Nat.reduceBEq, Nat.reduceAdd]; refine hk _ _ ?_; clear hk k) | refine wkt rfl ?_)); (try refine wk0 ?_)
  refine met_end (a := c) (b := b) (fun hlt => ?_) (fun hle => ?_)
  · have e1 : 0 < cmpQ c b := by unfold cmpQ; grind
    (try (simp (disch := omega) only [go_sem, Nat.reduceBEq, Nat.reduceAdd])); refine hK _ _ ?_; clear hK; (try clear K); (try dsimp only [behind, qs])
    repeat (first | (refine rg rfl rfl (fun K hK => ?_); (repeat (first | (refine wo rfl (fun k hk => ?_); simp (disch := omega) only [go_sem, Nat.reduceBEq, Nat.reduceAdd]; refine hk _ _ ?_; clear hk k) | refine wkt rfl ?_)); (try refine wk0 ?_); refine hK _ _ ?_; clear hK K; (try dsimp only [behind, qs, qb])) | ((first | refine AWP_exit ?_ | refine AWP_skip ?_); simp (disch := decide) only [qs, qb, if_true, if_false, reduceIte]) | refine AWP_sq rfl (fun K hK => ?_) | refine ct rfl ?_ | ((first | refine hK _ _ ?_ | (clear hK; refine hK _ _ ?_) | (clear hK; clear hK; refine hK _ _ ?_)); clear hK; (try clear K)))
    refine AWP_ret ?_; simp (disch := omega) only [go_sem, Nat.reduceBEq, Nat.reduceAdd]
    have eq : NS.met (.i none (some b)) (.i (some c) none) = .e := by simp [NS.met, omax, omin, NS.mk', ordO, hlt]
    rw [eq]
    exact ⟨_, _, _, _, _, _, _, _, rfl, h3.junk.to, h2.junk.to⟩
  · have e1 : ¬ 0 < cmpQ c b := by unfold cmpQ; grind
    (try (simp (disch := omega) only [go_sem, Nat.reduceBEq, Nat.reduceAdd])); refine hK _ _ ?_; clear hK; (try clear K); (try dsimp only [behind, qs])
    repeat (first | (refine rg rfl rfl (fun K hK => ?_); (repeat (first | (refine wo rfl (fun k hk => ?_); simp (disch := omega) only [go_sem, Nat.reduceBEq, Nat.reduceAdd]; refine hk _ _ ?_; clear hk k) | refine wkt rfl ?_)); (try refine wk0 ?_); refine hK _ _ ?_; clear hK K; (try dsimp only [behind, qs, qb])) | ((first | refine AWP_exit ?_ | refine AWP_skip ?_); simp (disch := decide) only [qs, qb, if_true, if_false, reduceIte]) | refine AWP_sq rfl (fun K hK => ?_) | refine ct rfl ?_ | ((first | refine hK _ _ ?_ | (clear hK; refine hK _ _ ?_) | (clear hK; clear hK; refine hK _ _ ?_)); clear hK; (try clear K)))
    refine AWP_ret ?_; simp (disch := omega) only [go_sem, Nat.reduceBEq, Nat.reduceAdd]
    have eq : NS.met (.i none (some b)) (.i (some c) none) = .i (some c) (some b) := by simp [NS.met, omax, omin, NS.mk', ordO, hle]
    rw [eq]
    exact ⟨_, _, _, _, _, _, rfl, h3.to, h2.to⟩
theorem met_9 {h0 h : PH} [Le h0 h] {v w : Value} {b c d : Rat} (hs : Sd h0 v (.i none (some b))) (ht : Sd h0 w (.i (some c) (some d))) (ls : NS.le (2 ^ 30) (.i none (some b))) (lt : NS.le (2 ^ 30) (.i (some c) (some d))) :
    Spec mach 75 #[v, w] h (fun v h' => Sn h' v (NS.met (.i none (some b)) (.i (some c) (some d)))) NP := by
  obtain ⟨b1, a1, m1, c1, a2, m2, c2, b2, a3, m3, c3, a4, m4, c4, rfl, h1, h2⟩ := Sn.ie hs
  rw [NS.le_i] at ls
  have z2 := ls.2 _ rfl
  obtain ⟨b1', a1', m1', c1', a2', m2', c2', b2', a3', m3', c3', a4', m4', c4', rfl, h3, h4⟩ := Sn.ie ht
  rw [NS.le_i] at lt
  have z3 := lt.1 _ rfl
  have z4 := lt.2 _ rfl
  try dsimp only [Option.isNone]
  refine Spec.enter (args := [_, _]) (n := 81) Tryd.func75 rfl (by kernel_rfl) rfl (by simp) [.cell 4 66] rfl (fun C _ => ?_)
  repeat (first | (refine rg rfl rfl (fun K hK => ?_); (repeat (first | (refine wo rfl (fun k hk => ?_); simp (disch := omega) only [go_sem, Nat.reduceBEq, Nat.reduceAdd]; refine hk _ _ ?_; clear hk k) | refine wkt rfl ?_)); (try refine wk0 ?_); refine hK _ _ ?_; clear hK K; (try dsimp only [behind, qs, qb])) | ((first | refine AWP_exit ?_ | refine AWP_skip ?_); simp (disch := decide) only [qs, qb, if_true, if_false, reduceIte]) | refine AWP_sq rfl (fun K hK => ?_) | refine ct rfl ?_ | ((first | refine hK _ _ ?_ | (clear hK; refine hK _ _ ?_) | (clear hK; clear hK; refine hK _ _ ?_)); clear hK; (try clear K)))
  refine rg rfl rfl (fun K hK => ?_); (repeat (first | (refine wo rfl (fun k hk => ?_); simp (disch := omega) only [go_sem, Nat.reduceBEq, Nat.reduceAdd]; refine hk _ _ ?_; clear hk k) | refine wkt rfl ?_)); (try refine wk0 ?_)
  refine cN rfl rfl rfl rfl (by exact least_spec h2.num h4.num (up36 z2) (up36 z4)) ?_; rintro v2 g2 _ f2; obtain ⟨v2_0, v2_1, v2_2, v2_3, v2_4, v2_5, v2_6, rfl, f2⟩ := f2.sa; (repeat (first | (refine wo rfl (fun k hk => ?_); simp (disch := omega) only [go_sem, Nat.reduceBEq, Nat.reduceAdd]; refine hk _ _ ?_; clear hk k) | refine wkt rfl ?_)); (try refine wk0 ?_)
  (try (simp (disch := omega) only [go_sem, Nat.reduceBEq, Nat.reduceAdd])); refine hK _ _ ?_; clear hK; (try clear K); (try dsimp only [behind, qs])
  repeat (first | (refine rg rfl rfl (fun K hK => ?_); (repeat (first | (refine wo rfl (fun k hk => ?_); simp (disch := omega) only [go_sem, Nat.reduceBEq, Nat.reduceAdd]; refine hk _ _ ?_; clear hk k) | refine wkt rfl ?_)); (try refine wk0 ?_); refine hK _ _ ?_; clear hK K; (try dsimp only [behind, qs, qb])) | ((first | refine AWP_exit ?_ | refine AWP_skip ?_); simp (disch := decide) only [qs, qb, if_true, if_false, reduceIte]) | refine AWP_sq rfl (fun K hK => ?_) | refine ct rfl ?_ | ((first | refine hK _ _ ?_ | (clear hK; refine hK _ _ ?_) | (clear hK; clear hK; refine hK _ _ ?_)); clear hK; (try clear K)))
  refine rg rfl rfl (fun K hK => ?_); (repeat (first | (refine wo rfl (fun k hk => ?_); simp (disch := omega) only [go_sem, Nat.reduceBEq, Nat.reduceAdd]; refine hk _ _ ?_; clear hk k) | refine wkt rfl ?_)); (try refine wk0 ?_)
  refine cN rfl rfl rfl rfl (by exact Cmp_frac (h3.num.to (h' := g2)) ((En.of f2).num.to (h' := g2)) (up36 (z3)) (up36 (sz_min z2 z4))) ?_; rintro vc hc sc rfl; (repeat (first | (refine wo rfl (fun k hk => ?_); simp (disch := omega) only [go_sem, Nat.reduceBEq, Nat.reduceAdd]; refine hk _ _ ?_; clear hk k) | refine wkt rfl ?_)); (try refine wk0 ?_)
  refine met_end (a := c) (b := (min b d)) (fun hlt => ?_) (fun hle => ?_)
  · have e1 : 0 < cmpQ c (min b d) := by unfold cmpQ; grind
    (try (simp (disch := omega) only [go_sem, Nat.reduceBEq, Nat.reduceAdd])); refine hK _ _ ?_; clear hK; (try clear K); (try dsimp only [behind, qs])
    repeat (first | (refine rg rfl rfl (fun K hK => ?_); (repeat (first | (refine wo rfl (fun k hk => ?_); simp (disch := omega) only [go_sem, Nat.reduceBEq, Nat.reduceAdd]; refine hk _ _ ?_; clear hk k) | refine wkt rfl ?_)); (try refine wk0 ?_); refine hK _ _ ?_; clear hK K; (try dsimp only [behind, qs, qb])) | ((first | refine AWP_exit ?_ | refine AWP_skip ?_); simp (disch := decide) only [qs, qb, if_true, if_false, reduceIte]) | refine AWP_sq rfl (fun K hK => ?_) | refine ct rfl ?_ | ((first | refine hK _ _ ?_ | (clear hK; refine hK _ _ ?_) | (clear hK; clear hK; refine hK _ _ ?_)); clear hK; (try clear K)))
    refine AWP_ret ?_; simp (disch := omega) only [go_sem, Nat.reduceBEq, Nat.reduceAdd]
    have eq : NS.met (.i none (some b)) (.i (some c) (some d)) = .e := by simp [NS.met, omax, omin, NS.mk', ordO, hlt]
    rw [eq]
    exact ⟨_, _, _, _, _, _, _, _, rfl, h3.junk.to, (En.of f2).junk.to⟩
  · have e1 : ¬ 0 < cmpQ c (min b d) := by unfold cmpQ; grind
    (try (simp (disch := omega) only [go_sem, Nat.reduceBEq, Nat.reduceAdd])); refine hK _ _ ?_; clear hK; (try clear K); (try dsimp only [behind, qs])
    repeat (first | (refine rg rfl rfl (fun K hK => ?_); (repeat (first | (refine wo rfl (fun k hk => ?_); simp (disch := omega) only [go_sem, Nat.reduceBEq, Nat.reduceAdd]; refine hk _ _ ?_; clear hk k) | refine wkt rfl ?_)); (try refine wk0 ?_); refine hK _ _ ?_; clear hK K; (try dsimp only [behind, qs, qb])) | ((first | refine AWP_exit ?_ | refine AWP_skip ?_); simp (disch := decide) only [qs, qb, if_true, if_false, reduceIte]) | refine AWP_sq rfl (fun K hK => ?_) | refine ct rfl ?_ | ((first | refine hK _ _ ?_ | (clear hK; refine hK _ _ ?_) | (clear hK; clear hK; refine hK _ _ ?_)); clear hK; (try clear K)))
    refine AWP_ret ?_; simp (disch := omega) only [go_sem, Nat.reduceBEq, Nat.reduceAdd]
    have eq : NS.met (.i none (some b)) (.i (some c) (some d)) = .i (some c) (some (min b d)) := by simp [NS.met, omax, omin, NS.mk', ordO, hle]
    rw [eq]
    exact ⟨_, _, _, _, _, _, rfl, h3.to, (En.of f2).to⟩
theorem met_10 {h0 h : PH} [Le h0 h] {v w : Value} {b : Rat} (hs : Sd h0 v (.i none (some b))) (ht : Sd h0 w .e) (ls : NS.le (2 ^ 30) (.i none (some b))) (lt : NS.le (2 ^ 30) .e) :
    Spec mach 75 #[v, w] h (fun v h' => Sn h' v (NS.met (.i none (some b)) .e)) NP := by
  obtain ⟨b1, a1, m1, c1, a2, m2, c2, b2, a3, m3, c3, a4, m4, c4, rfl, h1, h2⟩ := Sn.ie hs
  rw [NS.le_i] at ls
  have z2 := ls.2 _ rfl
  obtain ⟨b1', a1', m1', c1', a2', m2', c2', b2', a3', m3', c3', a4', m4', c4', c, d, rfl, h3, h4, z3, z4⟩ := ht.ee
  try dsimp only [Option.isNone]
  refine Spec.enter (args := [_, _]) (n := 81) Tryd.func75 rfl (by kernel_rfl) rfl (by simp) [.cell 4 66] rfl (fun C _ => ?_)
  repeat (first | (refine rg rfl rfl (fun K hK => ?_); (repeat (first | (refine wo rfl (fun k hk => ?_); simp (disch := omega) only [go_sem, Nat.reduceBEq, Nat.reduceAdd]; refine hk _ _ ?_; clear hk k) | refine wkt rfl ?_)); (try refine wk0 ?_); refine hK _ _ ?_; clear hK K; (try dsimp only [behind, qs, qb])) | ((first | refine AWP_exit ?_ | refine AWP_skip ?_); simp (disch := decide) only [qs, qb, if_true, if_false, reduceIte]) | refine AWP_sq rfl (fun K hK => ?_) | refine ct rfl ?_ | ((first | refine hK _ _ ?_ | (clear hK; refine hK _ _ ?_) | (clear hK; clear hK; refine hK _ _ ?_)); clear hK; (try clear K)))
  refine rg rfl rfl (fun K hK => ?_); (repeat (first | (refine wo rfl (fun k hk => ?_); simp (disch := omega) only [go_sem, Nat.reduceBEq, Nat.reduceAdd]; refine hk _ _ ?_; clear hk k) | refine wkt rfl ?_)); (try refine wk0 ?_)
  refine cN rfl rfl rfl rfl (by exact least_spec h2.num h4.num (up36 z2) (up36 z4)) ?_; rintro v2 g2 _ f2; obtain ⟨v2_0, v2_1, v2_2, v2_3, v2_4, v2_5, v2_6, rfl, f2⟩ := f2.sa; (repeat (first | (refine wo rfl (fun k hk => ?_); simp (disch := omega) only [go_sem, Nat.reduceBEq, Nat.reduceAdd]; refine hk _ _ ?_; clear hk k) | refine wkt rfl ?_)); (try refine wk0 ?_)
  (try (simp (disch := omega) only [go_sem, Nat.reduceBEq, Nat.reduceAdd])); refine hK _ _ ?_; clear hK; (try clear K); (try dsimp only [behind, qs])
  repeat (first | (refine rg rfl rfl (fun K hK => ?_); (repeat (first | (refine wo rfl (fun k hk => ?_); simp (disch := omega) only [go_sem, Nat.reduceBEq, Nat.reduceAdd]; refine hk _ _ ?_; clear hk k) | refine wkt rfl ?_)); (try refine wk0 ?_); refine hK _ _ ?_; clear hK K; (try dsimp only [behind, qs, qb])) | ((first | refine AWP_exit ?_ | refine AWP_skip ?_); simp (disch := decide) only [qs, qb, if_true, if_false, reduceIte]) | refine AWP_sq rfl (fun K hK => ?_) | refine ct rfl ?_ | ((first | refine hK _ _ ?_ | (clear hK; refine hK _ _ ?_) | (clear hK; clear hK; refine hK _ _ ?_)); clear hK; (try clear K)))
  refine AWP_ret ?_; simp (disch := omega) only [go_sem, Nat.reduceBEq, Nat.reduceAdd]
  exact ⟨_, _, _, _, _, _, _, _, rfl, h3.junk.to, (En.of f2).junk.to⟩
theorem met_11 {h0 h : PH} [Le h0 h] {v w : Value} {a : Rat} (hs : Sd h0 v (.i (some a) none)) (ht : Sd h0 w (.i none none)) (ls : NS.le (2 ^ 30) (.i (some a) none)) (lt : NS.le (2 ^ 30) (.i none none)) :
    Spec mach 75 #[v, w] h (fun v h' => Sn h' v (NS.met (.i (some a) none) (.i none none))) NP := by
  obtain ⟨b1, a1, m1, c1, a2, m2, c2, b2, a3, m3, c3, a4, m4, c4, rfl, h1, h2⟩ := Sn.ie hs
  rw [NS.le_i] at ls
  have z1 := ls.1 _ rfl
  obtain ⟨b1', a1', m1', c1', a2', m2', c2', b2', a3', m3', c3', a4', m4', c4', rfl, h3, h4⟩ := Sn.ie ht
  rw [NS.le_i] at lt
  try dsimp only [Option.isNone]
  refine Spec.enter (args := [_, _]) (n := 81) Tryd.func75 rfl (by kernel_rfl) rfl (by simp) [.cell 4 66] rfl (fun C _ => ?_)
  repeat (first | (refine rg rfl rfl (fun K hK => ?_); (repeat (first | (refine wo rfl (fun k hk => ?_); simp (disch := omega) only [go_sem, Nat.reduceBEq, Nat.reduceAdd]; refine hk _ _ ?_; clear hk k) | refine wkt rfl ?_)); (try refine wk0 ?_); refine hK _ _ ?_; clear hK K; (try dsimp only [behind, qs, qb])) | ((first | refine AWP_exit ?_ | refine AWP_skip ?_); simp (disch := decide) only [qs, qb, if_true, if_false, reduceIte]) | refine AWP_sq rfl (fun K hK => ?_) | refine ct rfl ?_ | ((first | refine hK _ _ ?_ | (clear hK; refine hK _ _ ?_) | (clear hK; clear hK; refine hK _ _ ?_)); clear hK; (try clear K)))
  refine AWP_ret ?_; simp (disch := omega) only [go_sem, Nat.reduceBEq, Nat.reduceAdd]
  exact ⟨_, _, _, _, _, _, rfl, h1.to, h4.to⟩
theorem met_12 {h0 h : PH} [Le h0 h] {v w : Value} {a d : Rat} (hs : Sd h0 v (.i (some a) none)) (ht : Sd h0 w (.i none (some d))) (ls : NS.le (2 ^ 30) (.i (some a) none)) (lt : NS.le (2 ^ 30) (.i none (some d))) :
    Spec mach 75 #[v, w] h (fun v h' => Sn h' v (NS.met (.i (some a) none) (.i none (some d)))) NP := by
  obtain ⟨b1, a1, m1, c1, a2, m2, c2, b2, a3, m3, c3, a4, m4, c4, rfl, h1, h2⟩ := Sn.ie hs
  rw [NS.le_i] at ls
  have z1 := ls.1 _ rfl
  obtain ⟨b1', a1', m1', c1', a2', m2', c2', b2', a3', m3', c3', a4', m4', c4', rfl, h3, h4⟩ := Sn.ie ht
  rw [NS.le_i] at lt
  have z4 := lt.2 _ rfl
  try dsimp only [Option.isNone]
  refine Spec.enter (args := [_, _]) (n := 81) Tryd.func75 rfl (by kernel_rfl) rfl (by simp) [.cell 4 66] rfl (fun C _ => ?_)
  repeat (first | (refine rg rfl rfl (fun K hK => ?_); (repeat (first | (refine wo rfl (fun k hk => ?_); simp (disch := omega) only [go_sem, Nat.reduceBEq, Nat.reduceAdd]; refine hk _ _ ?_; clear hk k) | refine wkt rfl ?_)); (try refine wk0 ?_); refine hK _ _ ?_; clear hK K; (try dsimp only [behind, qs, qb])) | ((first | refine AWP_exit ?_ | refine AWP_skip ?_); simp (disch := decide) only [qs, qb, if_true, if_false, reduceIte]) | refine AWP_sq rfl (fun K hK => ?_) | refine ct rfl ?_ | ((first | refine hK _ _ ?_ | (clear hK; refine hK _ _ ?_) | (clear hK; clear hK; refine hK _ _ ?_)); clear hK; (try clear K)))
  refine rg rfl rfl (fun K hK => ?_); (repeat (first | (refine wo rfl (fun k hk => ?_); simp (disch := omega) only [go_sem, Nat.reduceBEq, Nat.reduceAdd]; refine hk _ _ ?_; clear hk k) | refine wkt rfl ?_)); (try refine wk0 ?_)
  refine cN rfl rfl rfl rfl (by exact Cmp_frac h1.num h4.num (up36 (z1)) (up36 (z4))) ?_; rintro vc hc sc rfl; (repeat (first | (refine wo rfl (fun k hk => ?_); simp (disch := omega) only [go_sem, Nat.reduceBEq, Nat.reduceAdd]; refine hk _ _ ?_; clear hk k) | refine wkt rfl ?_)); (try refine wk0 ?_)
  refine met_end (a := a) (b := d) (fun hlt => ?_) (fun hle => ?_)
  · have e1 : 0 < cmpQ a d := by unfold cmpQ; grind
    (try (simp (disch := omega) only [go_sem, Nat.reduceBEq, Nat.reduceAdd])); refine hK _ _ ?_; clear hK; (try clear K); (try dsimp only [behind, qs])
    repeat (first | (refine rg rfl rfl (fun K hK => ?_); (repeat (first | (refine wo rfl (fun k hk => ?_); simp (disch := omega) only [go_sem, Nat.reduceBEq, Nat.reduceAdd]; refine hk _ _ ?_; clear hk k) | refine wkt rfl ?_)); (try refine wk0 ?_); refine hK _ _ ?_; clear hK K; (try dsimp only [behind, qs, qb])) | ((first | refine AWP_exit ?_ | refine AWP_skip ?_); simp (disch := decide) only [qs, qb, if_true, if_false, reduceIte]) | refine AWP_sq rfl (fun K hK => ?_) | refine ct rfl ?_ | ((first | refine hK _ _ ?_ | (clear hK; refine hK _ _ ?_) | (clear hK; clear hK; refine hK _ _ ?_)); clear hK; (try clear K)))
    refine AWP_ret ?_; simp (disch := omega) only [go_sem, Nat.reduceBEq, Nat.reduceAdd]
    have eq : NS.met (.i (some a) none) (.i none (some d)) = .e := by simp [NS.met, omax, omin, NS.mk', ordO, hlt]
    rw [eq]
    exact ⟨_, _, _, _, _, _, _, _, rfl, h1.junk.to, h4.junk.to⟩
  · have e1 : ¬ 0 < cmpQ a d := by unfold cmpQ; grind
    (try (simp (disch := omega) only [go_sem, Nat.reduceBEq, Nat.reduceAdd])); refine hK _ _ ?_; clear hK; (try clear K); (try dsimp only [behind, qs])
    repeat (first | (refine rg rfl rfl (fun K hK => ?_); (repeat (first | (refine wo rfl (fun k hk => ?_); simp (disch := omega) only [go_sem, Nat.reduceBEq, Nat.reduceAdd]; refine hk _ _ ?_; clear hk k) | refine wkt rfl ?_)); (try refine wk0 ?_); refine hK _ _ ?_; clear hK K; (try dsimp only [behind, qs, qb])) | ((first | refine AWP_exit ?_ | refine AWP_skip ?_); simp (disch := decide) only [qs, qb, if_true, if_false, reduceIte]) | refine AWP_sq rfl (fun K hK => ?_) | refine ct rfl ?_ | ((first | refine hK _ _ ?_ | (clear hK; refine hK _ _ ?_) | (clear hK; clear hK; refine hK _ _ ?_)); clear hK; (try clear K)))
    refine AWP_ret ?_; simp (disch := omega) only [go_sem, Nat.reduceBEq, Nat.reduceAdd]
    have eq : NS.met (.i (some a) none) (.i none (some d)) = .i (some a) (some d) := by simp [NS.met, omax, omin, NS.mk', ordO, hle]
    rw [eq]
    exact ⟨_, _, _, _, _, _, rfl, h1.to, h4.to⟩
theorem met_13 {h0 h : PH} [Le h0 h] {v w : Value} {a c : Rat} (hs : Sd h0 v (.i (some a) none)) (ht : Sd h0 w (.i (some c) none)) (ls : NS.le (2 ^ 30) (.i (some a) none)) (lt : NS.le (2 ^ 30) (.i (some c) none)) :
    Spec mach 75 #[v, w] h (fun v h' => Sn h' v (NS.met (.i (some a) none) (.i (some c) none))) NP := by
  obtain ⟨b1, a1, m1, c1, a2, m2, c2, b2, a3, m3, c3, a4, m4, c4, rfl, h1, h2⟩ := Sn.ie hs
  rw [NS.le_i] at ls
  have z1 := ls.1 _ rfl
  obtain ⟨b1', a1', m1', c1', a2', m2', c2', b2', a3', m3', c3', a4', m4', c4', rfl, h3, h4⟩ := Sn.ie ht
  rw [NS.le_i] at lt
  have z3 := lt.1 _ rfl
  try dsimp only [Option.isNone]
  refine Spec.enter (args := [_, _]) (n := 81) Tryd.func75 rfl (by kernel_rfl) rfl (by simp) [.cell 4 66] rfl (fun C _ => ?_)
  repeat (first | (refine rg rfl rfl (fun K hK => ?_); (repeat (first | (refine wo rfl (fun k hk => ?_); simp (disch := omega) only [go_sem, Nat.reduceBEq, Nat.reduceAdd]; refine hk _ _ ?_; clear hk k) | refine wkt rfl ?_)); (try refine wk0 ?_); refine hK _ _ ?_; clear hK K; (try dsimp only [behind, qs, qb])) | ((first | refine AWP_exit ?_ | refine AWP_skip ?_); simp (disch := decide) only [qs, qb, if_true, if_false, reduceIte]) | refine AWP_sq rfl (fun K hK => ?_) | refine ct rfl ?_ | ((first | refine hK _ _ ?_ | (clear hK; refine hK _ _ ?_) | (clear hK; clear hK; refine hK _ _ ?_)); clear hK; (try clear K)))
  refine rg rfl rfl (fun K hK => ?_); (repeat (first | (refine wo rfl (fun k hk => ?_); simp (disch := omega) only [go_sem, Nat.reduceBEq, Nat.reduceAdd]; refine hk _ _ ?_; clear hk k) | refine wkt rfl ?_)); (try refine wk0 ?_)
  refine cN rfl rfl rfl rfl (by exact greatest_spec h1.num h3.num (up36 z1) (up36 z3)) ?_; rintro v1 g1 _ f1; obtain ⟨v1_0, v1_1, v1_2, v1_3, v1_4, v1_5, v1_6, rfl, f1⟩ := f1.sa; (repeat (first | (refine wo rfl (fun k hk => ?_); simp (disch := omega) only [go_sem, Nat.reduceBEq, Nat.reduceAdd]; refine hk _ _ ?_; clear hk k) | refine wkt rfl ?_)); (try refine wk0 ?_)
  (try (simp (disch := omega) only [go_sem, Nat.reduceBEq, Nat.reduceAdd])); refine hK _ _ ?_; clear hK; (try clear K); (try dsimp only [behind, qs])
  repeat (first | (refine rg rfl rfl (fun K hK => ?_); (repeat (first | (refine wo rfl (fun k hk => ?_); simp (disch := omega) only [go_sem, Nat.reduceBEq, Nat.reduceAdd]; refine hk _ _ ?_; clear hk k) | refine wkt rfl ?_)); (try refine wk0 ?_); refine hK _ _ ?_; clear hK K; (try dsimp only [behind, qs, qb])) | ((first | refine AWP_exit ?_ | refine AWP_skip ?_); simp (disch := decide) only [qs, qb, if_true, if_false, reduceIte]) | refine AWP_sq rfl (fun K hK => ?_) | refine ct rfl ?_ | ((first | refine hK _ _ ?_ | (clear hK; refine hK _ _ ?_) | (clear hK; clear hK; refine hK _ _ ?_)); clear hK; (try clear K)))
  refine AWP_ret ?_; simp (disch := omega) only [go_sem, Nat.reduceBEq, Nat.reduceAdd]
  exact ⟨_, _, _, _, _, _, rfl, (En.of f1).to, h4.to⟩
theorem met_14 {h0 h : PH} [Le h0 h] {v w : Value} {a c d : Rat} (hs : Sd h0 v (.i (some a) none)) (ht : Sd h0 w (.i (some c) (some d))) (ls : NS.le (2 ^ 30) (.i (some a) none)) (lt : NS.le (2 ^ 30) (.i (some c) (some d))) :
    Spec mach 75 #[v, w] h (fun v h' => Sn h' v (NS.met (.i (some a) none) (.i (some c) (some d)))) NP := by
  obtain ⟨b1, a1, m1, c1, a2, m2, c2, b2, a3, m3, c3, a4, m4, c4, rfl, h1, h2⟩ := Sn.ie hs
  rw [NS.le_i] at ls
  have z1 := ls.1 _ rfl
  obtain ⟨b1', a1', m1', c1', a2', m2', c2', b2', a3', m3', c3', a4', m4', c4', rfl, h3, h4⟩ := Sn.ie ht
  rw [NS.le_i] at lt
  have z3 := lt.1 _ rfl
  have z4 := lt.2 _ rfl
  try dsimp only [Option.isNone]
  refine Spec.enter (args := [_, _]) (n := 81) Tryd.func75 rfl (by kernel_rfl) rfl (by simp) [.cell 4 66] rfl (fun C _ => ?_)
  repeat (first | (refine rg rfl rfl (fun K hK => ?_); (repeat (first | (refine wo rfl (fun k hk => ?_); simp (disch := omega) only [go_sem, Nat.reduceBEq, Nat.reduceAdd]; refine hk _ _ ?_; clear hk k) | refine wkt rfl ?_)); (try refine wk0 ?_); refine hK _ _ ?_; clear hK K; (try dsimp only [behind, qs, qb])) | ((first | refine AWP_exit ?_ | refine AWP_skip ?_); simp (disch := decide) only [qs, qb, if_true, if_false, reduceIte]) | refine AWP_sq rfl (fun K hK => ?_) | refine ct rfl ?_ | ((first | refine hK _ _ ?_ | (clear hK; refine hK _ _ ?_) | (clear hK; clear hK; refine hK _ _ ?_)); clear hK; (try clear K)))
  refine rg rfl rfl (fun K hK => ?_); (repeat (first | (refine wo rfl (fun k hk => ?_); simp (disch := omega) only [go_sem, Nat.reduceBEq, Nat.reduceAdd]; refine hk _ _ ?_; clear hk k) | refine wkt rfl ?_)); (try refine wk0 ?_)
  refine cN rfl rfl rfl rfl (by exact greatest_spec h1.num h3.num (up36 z1) (up36 z3)) ?_; rintro v1 g1 _ f1; obtain ⟨v1_0, v1_1, v1_2, v1_3, v1_4, v1_5, v1_6, rfl, f1⟩ := f1.sa; (repeat (first | (refine wo rfl (fun k hk => ?_); simp (disch := omega) only [go_sem, Nat.reduceBEq, Nat.reduceAdd]; refine hk _ _ ?_; clear hk k) | refine wkt rfl ?_)); (try refine wk0 ?_)
  (try (simp (disch := omega) only [go_sem, Nat.reduceBEq, Nat.reduceAdd])); refine hK _ _ ?_; clear hK; (try clear K); (try dsimp only [behind, qs])
  repeat (first | (refine rg rfl rfl (fun K hK => ?_); (repeat (first | (refine wo rfl (fun k hk => ?_); simp (disch := omega) only [go_sem, Nat.reduceBEq, Nat.reduceAdd]; refine hk _ _ ?_; clear hk k) | refine wkt rfl ?_)); (try refine wk0 ?_); refine hK _ _ ?_; clear hK K; (try dsimp only [behind, qs, qb])) | ((first | refine AWP_exit ?_ | refine AWP_skip ?_); simp (disch := decide) only [qs, qb, if_true, if_false, reduceIte]) | refine AWP_sq rfl (fun K hK => ?_) | refine ct rfl ?_ | ((first | refine hK _ _ ?_ | (clear hK; refine hK _ _ ?_) | (clear hK; clear hK; refine hK _ _ ?_)); clear hK; (try clear K)))
  refine rg rfl rfl (fun K hK => ?_); (repeat (first | (refine wo rfl (fun k hk => ?_); simp (disch := omega) only [go_sem, Nat.reduceBEq, Nat.reduceAdd]; refine hk _ _ ?_; clear hk k) | refine wkt rfl ?_)); (try refine wk0 ?_)
  refine cN rfl rfl rfl rfl (by exact Cmp_frac ((En.of f1).num.to (h' := g1)) (h4.num.to (h' := g1)) (up36 (sz_max z1 z3)) (up36 (z4))) ?_; rintro vc hc sc rfl; (repeat (first | (refine wo rfl (fun k hk => ?_); simp (disch := omega) only [go_sem, Nat.reduceBEq, Nat.reduceAdd]; refine hk _ _ ?_; clear hk k) | refine wkt rfl ?_)); (try refine wk0 ?_)
  refine met_end (a := (max a c)) (b := d) (fun hlt => ?_) (fun hle => ?_)
  · have e1 : 0 < cmpQ (max a c) d := by unfold cmpQ; grind
    (try (simp (disch := omega) only [go_sem, Nat.reduceBEq, Nat.reduceAdd])); refine hK _ _ ?_; clear hK; (try clear K); (try dsimp only [behind, qs])
    repeat (first | (refine rg rfl rfl (fun K hK => ?_); (repeat (first | (refine wo rfl (fun k hk => ?_); simp (disch := omega) only [go_sem, Nat.reduceBEq, Nat.reduceAdd]; refine hk _ _ ?_; clear hk k) | refine wkt rfl ?_)); (try refine wk0 ?_); refine hK _ _ ?_; clear hK K; (try dsimp only [behind, qs, qb])) | ((first | refine AWP_exit ?_ | refine AWP_skip ?_); simp (disch := decide) only [qs, qb, if_true, if_false, reduceIte]) | refine AWP_sq rfl (fun K hK => ?_) | refine ct rfl ?_ | ((first | refine hK _ _ ?_ | (clear hK; refine hK _ _ ?_) | (clear hK; clear hK; refine hK _ _ ?_)); clear hK; (try clear K)))
    refine AWP_ret ?_; simp (disch := omega) only [go_sem, Nat.reduceBEq, Nat.reduceAdd]
    have eq : NS.met (.i (some a) none) (.i (some c) (some d)) = .e := by simp [NS.met, omax, omin, NS.mk', ordO, hlt]
    rw [eq]
    exact ⟨_, _, _, _, _, _, _, _, rfl, (En.of f1).junk.to, h4.junk.to⟩
  · have e1 : ¬ 0 < cmpQ (max a c) d := by unfold cmpQ; grind
    (try (simp (disch := omega) only [go_sem, Nat.reduceBEq, Nat.reduceAdd])); refine hK _ _ ?_; clear hK; (try clear K); (try dsimp only [behind, qs])
    repeat (first | (refine rg rfl rfl (fun K hK => ?_); (repeat (first | (refine wo rfl (fun k hk => ?_); simp (disch := omega) only [go_sem, Nat.reduceBEq, Nat.reduceAdd]; refine hk _ _ ?_; clear hk k) | refine wkt rfl ?_)); (try refine wk0 ?_); refine hK _ _ ?_; clear hK K; (try dsimp only [behind, qs, qb])) | ((first | refine AWP_exit ?_ | refine AWP_skip ?_); simp (disch := decide) only [qs, qb, if_true, if_false, reduceIte]) | refine AWP_sq rfl (fun K hK => ?_) | refine ct rfl ?_ | ((first | refine hK _ _ ?_ | (clear hK; refine hK _ _ ?_) | (clear hK; clear hK; refine hK _ _ ?_)); clear hK; (try clear K)))
    refine AWP_ret ?_; simp (disch := omega) only [go_sem, Nat.reduceBEq, Nat.reduceAdd]
    have eq : NS.met (.i (some a) none) (.i (some c) (some d)) = .i (some (max a c)) (some d) := by simp [NS.met, omax, omin, NS.mk', ordO, hle]
    rw [eq]
    exact ⟨_, _, _, _, _, _, rfl, (En.of f1).to, h4.to⟩
theorem met_15 {h0 h : PH} [Le h0 h] {v w : Value} {a : Rat} (hs : Sd h0 v (.i (some a) none)) (ht : Sd h0 w .e) (ls : NS.le (2 ^ 30) (.i (some a) none)) (lt : NS.le (2 ^ 30) .e) :
    Spec mach 75 #[v, w] h (fun v h' => Sn h' v (NS.met (.i (some a) none) .e)) NP := by
  obtain ⟨b1, a1, m1, c1, a2, m2, c2, b2, a3, m3, c3, a4, m4, c4, rfl, h1, h2⟩ := Sn.ie hs
  rw [NS.le_i] at ls
  have z1 := ls.1 _ rfl
  obtain ⟨b1', a1', m1', c1', a2', m2', c2', b2', a3', m3', c3', a4', m4', c4', c, d, rfl, h3, h4, z3, z4⟩ := ht.ee
  try dsimp only [Option.isNone]
  refine Spec.enter (args := [_, _]) (n := 81) Tryd.func75 rfl (by kernel_rfl) rfl (by simp) [.cell 4 66] rfl (fun C _ => ?_)
  repeat (first | (refine rg rfl rfl (fun K hK => ?_); (repeat (first | (refine wo rfl (fun k hk => ?_); simp (disch := omega) only [go_sem, Nat.reduceBEq, Nat.reduceAdd]; refine hk _ _ ?_; clear hk k) | refine wkt rfl ?_)); (try refine wk0 ?_); refine hK _ _ ?_; clear hK K; (try dsimp only [behind, qs, qb])) | ((first | refine AWP_exit ?_ | refine AWP_skip ?_); simp (disch := decide) only [qs, qb, if_true, if_false, reduceIte]) | refine AWP_sq rfl (fun K hK => ?_) | refine ct rfl ?_ | ((first | refine hK _ _ ?_ | (clear hK; refine hK _ _ ?_) | (clear hK; clear hK; refine hK _ _ ?_)); clear hK; (try clear K)))
  refine rg rfl rfl (fun K hK => ?_); (repeat (first | (refine wo rfl (fun k hk => ?_); simp (disch := omega) only [go_sem, Nat.reduceBEq, Nat.reduceAdd]; refine hk _ _ ?_; clear hk k) | refine wkt rfl ?_)); (try refine wk0 ?_)
  refine cN rfl rfl rfl rfl (by exact greatest_spec h1.num h3.num (up36 z1) (up36 z3)) ?_; rintro v1 g1 _ f1; obtain ⟨v1_0, v1_1, v1_2, v1_3, v1_4, v1_5, v1_6, rfl, f1⟩ := f1.sa; (repeat (first | (refine wo rfl (fun k hk => ?_); simp (disch := omega) only [go_sem, Nat.reduceBEq, Nat.reduceAdd]; refine hk _ _ ?_; clear hk k) | refine wkt rfl ?_)); (try refine wk0 ?_)
  (try (simp (disch := omega) only [go_sem, Nat.reduceBEq, Nat.reduceAdd])); refine hK _ _ ?_; clear hK; (try clear K); (try dsimp only [behind, qs])
  repeat (first | (refine rg rfl rfl (fun K hK => ?_); (repeat (first | (refine wo rfl (fun k hk => ?_); simp (disch := omega) only [go_sem, Nat.reduceBEq, Nat.reduceAdd]; refine hk _ _ ?_; clear hk k) | refine wkt rfl ?_)); (try refine wk0 ?_); refine hK _ _ ?_; clear hK K; (try dsimp only [behind, qs, qb])) | ((first | refine AWP_exit ?_ | refine AWP_skip ?_); simp (disch := decide) only [qs, qb, if_true, if_false, reduceIte]) | refine AWP_sq rfl (fun K hK => ?_) | refine ct rfl ?_ | ((first | refine hK _ _ ?_ | (clear hK; refine hK _ _ ?_) | (clear hK; clear hK; refine hK _ _ ?_)); clear hK; (try clear K)))
  refine AWP_ret ?_; simp (disch := omega) only [go_sem, Nat.reduceBEq, Nat.reduceAdd]
  exact ⟨_, _, _, _, _, _, _, _, rfl, (En.of f1).junk.to, h4.junk.to⟩
theorem met_16 {h0 h : PH} [Le h0 h] {v w : Value} {a b : Rat} (hs : Sd h0 v (.i (some a) (some b))) (ht : Sd h0 w (.i none none)) (ls : NS.le (2 ^ 30) (.i (some a) (some b))) (lt : NS.le (2 ^ 30) (.i none none)) :
    Spec mach 75 #[v, w] h (fun v h' => Sn h' v (NS.met (.i (some a) (some b)) (.i none none))) NP := by
  obtain ⟨b1, a1, m1, c1, a2, m2, c2, b2, a3, m3, c3, a4, m4, c4, rfl, h1, h2⟩ := Sn.ie hs
  rw [NS.le_i] at ls
  have z1 := ls.1 _ rfl
  have z2 := ls.2 _ rfl
  obtain ⟨b1', a1', m1', c1', a2', m2', c2', b2', a3', m3', c3', a4', m4', c4', rfl, h3, h4⟩ := Sn.ie ht
  rw [NS.le_i] at lt
  try dsimp only [Option.isNone]
  refine Spec.enter (args := [_, _]) (n := 81) Tryd.func75 rfl (by kernel_rfl) rfl (by simp) [.cell 4 66] rfl (fun C _ => ?_)
  repeat (first | (refine rg rfl rfl (fun K hK => ?_); (repeat (first | (refine wo rfl (fun k hk => ?_); simp (disch := omega) only [go_sem, Nat.reduceBEq, Nat.reduceAdd]; refine hk _ _ ?_; clear hk k) | refine wkt rfl ?_)); (try refine wk0 ?_); refine hK _ _ ?_; clear hK K; (try dsimp only [behind, qs, qb])) | ((first | refine AWP_exit ?_ | refine AWP_skip ?_); simp (disch := decide) only [qs, qb, if_true, if_false, reduceIte]) | refine AWP_sq rfl (fun K hK => ?_) | refine ct rfl ?_ | ((first | refine hK _ _ ?_ | (clear hK; refine hK _ _ ?_) | (clear hK; clear hK; refine hK _ _ ?_)); clear hK; (try clear K)))
  refine rg rfl rfl (fun K hK => ?_); (repeat (first | (refine wo rfl (fun k hk => ?_); simp (disch := omega) only [go_sem, Nat.reduceBEq, Nat.reduceAdd]; refine hk _ _ ?_; clear hk k) | refine wkt rfl ?_)); (try refine wk0 ?_)
  refine cN rfl rfl rfl rfl (by exact Cmp_frac h1.num h2.num (up36 (z1)) (up36 (z2))) ?_; rintro vc hc sc rfl; (repeat (first | (refine wo rfl (fun k hk => ?_); simp (disch := omega) only [go_sem, Nat.reduceBEq, Nat.reduceAdd]; refine hk _ _ ?_; clear hk k) | refine wkt rfl ?_)); (try refine wk0 ?_)
  refine met_end (a := a) (b := b) (fun hlt => ?_) (fun hle => ?_)
  · have e1 : 0 < cmpQ a b := by unfold cmpQ; grind
    (try (simp (disch := omega) only [go_sem, Nat.reduceBEq, Nat.reduceAdd])); refine hK _ _ ?_; clear hK; (try clear K); (try dsimp only [behind, qs])
    repeat (first | (refine rg rfl rfl (fun K hK => ?_); (repeat (first | (refine wo rfl (fun k hk => ?_); simp (disch := omega) only [go_sem, Nat.reduceBEq, Nat.reduceAdd]; refine hk _ _ ?_; clear hk k) | refine wkt rfl ?_)); (try refine wk0 ?_); refine hK _ _ ?_; clear hK K; (try dsimp only [behind, qs, qb])) | ((first | refine AWP_exit ?_ | refine AWP_skip ?_); simp (disch := decide) only [qs, qb, if_true, if_false, reduceIte]) | refine AWP_sq rfl (fun K hK => ?_) | refine ct rfl ?_ | ((first | refine hK _ _ ?_ | (clear hK; refine hK _ _ ?_) | (clear hK; clear hK; refine hK _ _ ?_)); clear hK; (try clear K)))
    refine AWP_ret ?_; simp (disch := omega) only [go_sem, Nat.reduceBEq, Nat.reduceAdd]
    have eq : NS.met (.i (some a) (some b)) (.i none none) = .e := by simp [NS.met, omax, omin, NS.mk', ordO, hlt]
    rw [eq]
    exact ⟨_, _, _, _, _, _, _, _, rfl, h1.junk.to, h2.junk.to⟩
  · have e1 : ¬ 0 < cmpQ a b := by unfold cmpQ; grind
    (try (simp (disch := omega) only [go_sem, Nat.reduceBEq, Nat.reduceAdd])); refine hK _ _ ?_; clear hK; (try clear K); (try dsimp only [behind, qs])
    repeat (first | (refine rg rfl rfl (fun K hK => ?_); (repeat (first | (refine wo rfl (fun k hk => ?_); simp (disch := omega) only [go_sem, Nat.reduceBEq, Nat.reduceAdd]; refine hk _ _ ?_; clear hk k) | refine wkt rfl ?_)); (try refine wk0 ?_); refine hK _ _ ?_; clear hK K; (try dsimp only [behind, qs, qb])) | ((first | refine AWP_exit ?_ | refine AWP_skip ?_); simp (disch := decide) only [qs, qb, if_true, if_false, reduceIte]) | refine AWP_sq rfl (fun K hK => ?_) | refine ct rfl ?_ | ((first | refine hK _ _ ?_ | (clear hK; refine hK _ _ ?_) | (clear hK; clear hK; refine hK _ _ ?_)); clear hK; (try clear K)))
    refine AWP_ret ?_; simp (disch := omega) only [go_sem, Nat.reduceBEq, Nat.reduceAdd]
    have eq : NS.met (.i (some a) (some b)) (.i none none) = .i (some a) (some b) := by simp [NS.met, omax, omin, NS.mk', ordO, hle]
    rw [eq]
    exact ⟨_, _, _, _, _, _, rfl, h1.to, h2.to⟩
theorem met_17 {h0 h : PH} [Le h0 h] {v w : Value} {a b d : Rat} (hs : Sd h0 v (.i (some a) (some b))) (ht : Sd h0 w (.i none (some d))) (ls : NS.le (2 ^ 30) (.i (some a) (some b))) (lt : NS.le (2 ^ 30) (.i none (some d))) :
    Spec mach 75 #[v, w] h (fun v h' => Sn h' v (NS.met (.i (some a) (some b)) (.i none (some d)))) NP := by
  obtain ⟨b1, a1, m1, c1, a2, m2, c2, b2, a3, m3, c3, a4, m4, c4, rfl, h1, h2⟩ := Sn.ie hs
  rw [NS.le_i] at ls
  have z1 := ls.1 _ rfl
  have z2 := ls.2 _ rfl
  obtain ⟨b1', a1', m1', c1', a2', m2', c2', b2', a3', m3', c3', a4', m4', c4', rfl, h3, h4⟩ := Sn.ie ht
  rw [NS.le_i] at lt
  have z4 := lt.2 _ rfl
  try dsimp only [Option.isNone]
  refine Spec.enter (args := [_, _]) (n := 81) Tryd.func75 rfl (by kernel_rfl) rfl (by simp) [.cell 4 66] rfl (fun C _ => ?_)
  repeat (first | (refine rg rfl rfl (fun K hK => ?_); (repeat (first | (refine wo rfl (fun k hk => ?_); simp (disch := omega) only [go_sem, Nat.reduceBEq, Nat.reduceAdd]; refine hk _ _ ?_; clear hk k) | refine wkt rfl ?_)); (try refine wk0 ?_); refine hK _ _ ?_; clear hK K; (try dsimp only [behind, qs, qb])) | ((first | refine AWP_exit ?_ | refine AWP_skip ?_); simp (disch := decide) only [qs, qb, if_true, if_false, reduceIte]) | refine AWP_sq rfl (fun K hK => ?_) | refine ct rfl ?_ | ((first | refine hK _ _ ?_ | (clear hK; refine hK _ _ ?_) | (clear hK; clear hK; refine hK _ _ ?_)); clear hK; (try clear K)))
  refine rg rfl rfl (fun K hK => ?_); (repeat (first | (refine wo rfl (fun k hk => ?_); simp (disch := omega) only [go_sem, Nat.reduceBEq, Nat.reduceAdd]; refine hk _ _ ?_; clear hk k) | refine wkt rfl ?_)); (try refine wk0 ?_)
  refine cN rfl rfl rfl rfl (by exact least_spec h2.num h4.num (up36 z2) (up36 z4)) ?_; rintro v2 g2 _ f2; obtain ⟨v2_0, v2_1, v2_2, v2_3, v2_4, v2_5, v2_6, rfl, f2⟩ := f2.sa; (repeat (first | (refine wo rfl (fun k hk => ?_); simp (disch := omega) only [go_sem, Nat.reduceBEq, Nat.reduceAdd]; refine hk _ _ ?_; clear hk k) | refine wkt rfl ?_)); (try refine wk0 ?_)
  (try (simp (disch := omega) only [go_sem, Nat.reduceBEq, Nat.reduceAdd])); refine hK _ _ ?_; clear hK; (try clear K); (try dsimp only [behind, qs])
  repeat (first | (refine rg rfl rfl (fun K hK => ?_); (repeat (first | (refine wo rfl (fun k hk => ?_); simp (disch := omega) only [go_sem, Nat.reduceBEq, Nat.reduceAdd]; refine hk _ _ ?_; clear hk k) | refine wkt rfl ?_)); (try refine wk0 ?_); refine hK _ _ ?_; clear hK K; (try dsimp only [behind, qs, qb])) | ((first | refine AWP_exit ?_ | refine AWP_skip ?_); simp (disch := decide) only [qs, qb, if_true, if_false, reduceIte]) | refine AWP_sq rfl (fun K hK => ?_) | refine ct rfl ?_ | ((first | refine hK _ _ ?_ | (clear hK; refine hK _ _ ?_) | (clear hK; clear hK; refine hK _ _ ?_)); clear hK; (try clear K)))
  refine rg rfl rfl (fun K hK => ?_); (repeat (first | (refine wo rfl (fun k hk => ?_); simp (disch := omega) only [go_sem, Nat.reduceBEq, Nat.reduceAdd]; refine hk _ _ ?_; clear hk k) | refine wkt rfl ?_)); (try refine wk0 ?_)
  refine cN rfl rfl rfl rfl (by exact Cmp_frac (h1.num.to (h' := g2)) ((En.of f2).num.to (h' := g2)) (up36 (z1)) (up36 (sz_min z2 z4))) ?_; rintro vc hc sc rfl; (repeat (first | (refine wo rfl (fun k hk => ?_); simp (disch := omega) only [go_sem, Nat.reduceBEq, Nat.reduceAdd]; refine hk _ _ ?_; clear hk k) | refine wkt rfl ?_)); (try refine wk0 ?_)
  refine met_end (a := a) (b := (min b d)) (fun hlt => ?_) (fun hle => ?_)
  · have e1 : 0 < cmpQ a (min b d) := by unfold cmpQ; grind
    (try (simp (disch := omega) only [go_sem, Nat.reduceBEq, Nat.reduceAdd])); refine hK _ _ ?_; clear hK; (try clear K); (try dsimp only [behind, qs])
    repeat (first | (refine rg rfl rfl (fun K hK => ?_); (repeat (first | (refine wo rfl (fun k hk => ?_); simp (disch := omega) only [go_sem, Nat.reduceBEq, Nat.reduceAdd]; refine hk _ _ ?_; clear hk k) | refine wkt rfl ?_)); (try refine wk0 ?_); refine hK _ _ ?_; clear hK K; (try dsimp only [behind, qs, qb])) | ((first | refine AWP_exit ?_ | refine AWP_skip ?_); simp (disch := decide) only [qs, qb, if_true, if_false, reduceIte]) | refine AWP_sq rfl (fun K hK => ?_) | refine ct rfl ?_ | ((first | refine hK _ _ ?_ | (clear hK; refine hK _ _ ?_) | (clear hK; clear hK; refine hK _ _ ?_)); clear hK; (try clear K)))
    refine AWP_ret ?_; simp (disch := omega) only [go_sem, Nat.reduceBEq, Nat.reduceAdd]
    have eq : NS.met (.i (some a) (some b)) (.i none (some d)) = .e := by simp [NS.met, omax, omin, NS.mk', ordO, hlt]
    rw [eq]
    exact ⟨_, _, _, _, _, _, _, _, rfl, h1.junk.to, (En.of f2).junk.to⟩
  · have e1 : ¬ 0 < cmpQ a (min b d) := by unfold cmpQ; grind
    (try (simp (disch := omega) only [go_sem, Nat.reduceBEq, Nat.reduceAdd])); refine hK _ _ ?_; clear hK; (try clear K); (try dsimp only [behind, qs])
    repeat (first | (refine rg rfl rfl (fun K hK => ?_); (repeat (first | (refine wo rfl (fun k hk => ?_); simp (disch := omega) only [go_sem, Nat.reduceBEq, Nat.reduceAdd]; refine hk _ _ ?_; clear hk k) | refine wkt rfl ?_)); (try refine wk0 ?_); refine hK _ _ ?_; clear hK K; (try dsimp only [behind, qs, qb])) | ((first | refine AWP_exit ?_ | refine AWP_skip ?_); simp (disch := decide) only [qs, qb, if_true, if_false, reduceIte]) | refine AWP_sq rfl (fun K hK => ?_) | refine ct rfl ?_ | ((first | refine hK _ _ ?_ | (clear hK; refine hK _ _ ?_) | (clear hK; clear hK; refine hK _ _ ?_)); clear hK; (try clear K)))
    refine AWP_ret ?_; simp (disch := omega) only [go_sem, Nat.reduceBEq, Nat.reduceAdd]
    have eq : NS.met (.i (some a) (some b)) (.i none (some d)) = .i (some a) (some (min b d)) := by simp [NS.met, omax, omin, NS.mk', ordO, hle]
    rw [eq]
    exact ⟨_, _, _, _, _, _, rfl, h1.to, (En.of f2).to⟩
theorem met_18 {h0 h : PH} [Le h0 h] {v w : Value} {a b c : Rat} (hs : Sd h0 v (.i (some a) (some b))) (ht : Sd h0 w (.i (some c) none)) (ls : NS.le (2 ^ 30) (.i (some a) (some b))) (lt : NS.le (2 ^ 30) (.i (some c) none)) :
    Spec mach 75 #[v, w] h (fun v h' => Sn h' v (NS.met (.i (some a) (some b)) (.i (some c) none))) NP := by
  obtain ⟨b1, a1, m1, c1, a2, m2, c2, b2, a3, m3, c3, a4, m4, c4, rfl, h1, h2⟩ := Sn.ie hs
  rw [NS.le_i] at ls
  have z1 := ls.1 _ rfl
  have z2 := ls.2 _ rfl
  obtain ⟨b1', a1', m1', c1', a2', m2', c2', b2', a3', m3', c3', a4', m4', c4', rfl, h3, h4⟩ := Sn.ie ht
  rw [NS.le_i] at lt
  have z3 := lt.1 _ rfl
  try dsimp only [Option.isNone]
  refine Spec.enter (args := [_, _]) (n := 81) Tryd.func75 rfl (by kernel_rfl) rfl (by simp) [.cell 4 66] rfl (fun C _ => ?_)
  repeat (first | (refine rg rfl rfl (fun K hK => ?_); (repeat (first | (refine wo rfl (fun k hk => ?_); simp (disch := omega) only [go_sem, Nat.reduceBEq, Nat.reduceAdd]; refine hk _ _ ?_; clear hk k) | refine wkt rfl ?_)); (try refine wk0 ?_); refine hK _ _ ?_; clear hK K; (try dsimp only [behind, qs, qb])) | ((first | refine AWP_exit ?_ | refine AWP_skip ?_); simp (disch := decide) only [qs, qb, if_true, if_false, reduceIte]) | refine AWP_sq rfl (fun K hK => ?_) | refine ct rfl ?_ | ((first | refine hK _ _ ?_ | (clear hK; refine hK _ _ ?_) | (clear hK; clear hK; refine hK _ _ ?_)); clear hK; (try clear K)))
  refine rg rfl rfl (fun K hK => ?_); (repeat (first | (refine wo rfl (fun k hk => ?_); simp (disch := omega) only [go_sem, Nat.reduceBEq, Nat.reduceAdd]; refine hk _ _ ?_; clear hk k) | refine wkt rfl ?_)); (try refine wk0 ?_)
  refine cN rfl rfl rfl rfl (by exact greatest_spec h1.num h3.num (up36 z1) (up36 z3)) ?_; rintro v1 g1 _ f1; obtain ⟨v1_0, v1_1, v1_2, v1_3, v1_4, v1_5, v1_6, rfl, f1⟩ := f1.sa; (repeat (first | (refine wo rfl (fun k hk => ?_); simp (disch := omega) only [go_sem, Nat.reduceBEq, Nat.reduceAdd]; refine hk _ _ ?_; clear hk k) | refine wkt rfl ?_)); (try refine wk0 ?_)
  (try (simp (disch := omega) only [go_sem, Nat.reduceBEq, Nat.reduceAdd])); refine hK _ _ ?_; clear hK; (try clear K); (try dsimp only [behind, qs])
  repeat (first | (refine rg rfl rfl (fun K hK => ?_); (repeat (first | (refine wo rfl (fun k hk => ?_); simp (disch := omega) only [go_sem, Nat.reduceBEq, Nat.reduceAdd]; refine hk _ _ ?_; clear hk k) | refine wkt rfl ?_)); (try refine wk0 ?_); refine hK _ _ ?_; clear hK K; (try dsimp only [behind, qs, qb])) | ((first | refine AWP_exit ?_ | refine AWP_skip ?_); simp (disch := decide) only [qs, qb, if_true, if_false, reduceIte]) | refine AWP_sq rfl (fun K hK => ?_) | refine ct rfl ?_ | ((first | refine hK _ _ ?_ | (clear hK; refine hK _ _ ?_) | (clear hK; clear hK; refine hK _ _ ?_)); clear hK; (try clear K)))
  refine rg rfl rfl (fun K hK => ?_); (repeat (first | (refine wo rfl (fun k hk => ?_); simp (disch := omega) only [go_sem, Nat.reduceBEq, Nat.reduceAdd]; refine hk _ _ ?_; clear hk k) | refine wkt rfl ?_)); (try refine wk0 ?_)
  refine cN rfl rfl rfl rfl (by exact Cmp_frac ((En.of f1).num.to (h' := g1)) (h2.num.to (h' := g1)) (up36 (sz_max z1 z3)) (up36 (z2))) ?_; rintro vc hc sc rfl; (repeat (first | (refine wo rfl (fun k hk => ?_); simp (disch := omega) only [go_sem, Nat.reduceBEq, Nat.reduceAdd]; refine hk _ _ ?_; clear hk k) | refine wkt rfl ?_)); (try refine wk0 ?_)
  refine met_end (a := (max a c)) (b := b) (fun hlt => ?_) (fun hle => ?_)
  · have e1 : 0 < cmpQ (max a c) b := by unfold cmpQ; grind
    (try (simp (disch := omega) only [go_sem, Nat.reduceBEq, Nat.reduceAdd])); refine hK _ _ ?_; clear hK; (try clear K); (try dsimp only [behind, qs])
    repeat (first | (refine rg rfl rfl (fun K hK => ?_); (repeat (first | (refine wo rfl (fun k hk => ?_); simp (disch := omega) only [go_sem, Nat.reduceBEq, Nat.reduceAdd]; refine hk _ _ ?_; clear hk k) | refine wkt rfl ?_)); (try refine wk0 ?_); refine hK _ _ ?_; clear hK K; (try dsimp only [behind, qs, qb])) | ((first | refine AWP_exit ?_ | refine AWP_skip ?_); simp (disch := decide) only [qs, qb, if_true, if_false, reduceIte]) | refine AWP_sq rfl (fun K hK => ?_) | refine ct rfl ?_ | ((first | refine hK _ _ ?_ | (clear hK; refine hK _ _ ?_) | (clear hK; clear hK; refine hK _ _ ?_)); clear hK; (try clear K)))
    refine AWP_ret ?_; simp (disch := omega) only [go_sem, Nat.reduceBEq, Nat.reduceAdd]
    have eq : NS.met (.i (some a) (some b)) (.i (some c) none) = .e := by simp [NS.met, omax, omin, NS.mk', ordO, hlt]
    rw [eq]
    exact ⟨_, _, _, _, _, _, _, _, rfl, (En.of f1).junk.to, h2.junk.to⟩
  · have e1 : ¬ 0 < cmpQ (max a c) b := by unfold cmpQ; grind
    (try (simp (disch := omega) only [go_sem, Nat.reduceBEq, Nat.reduceAdd])); refine hK _ _ ?_; clear hK; (try clear K); (try dsimp only [behind, qs])
    repeat (first | (refine rg rfl rfl (fun K hK => ?_); (repeat (first | (refine wo rfl (fun k hk => ?_); simp (disch := omega) only [go_sem, Nat.reduceBEq, Nat.reduceAdd]; refine hk _ _ ?_; clear hk k) | refine wkt rfl ?_)); (try refine wk0 ?_); refine hK _ _ ?_; clear hK K; (try dsimp only [behind, qs, qb])) | ((first | refine AWP_exit ?_ | refine AWP_skip ?_); simp (disch := decide) only [qs, qb, if_true, if_false, reduceIte]) | refine AWP_sq rfl (fun K hK => ?_) | refine ct rfl ?_ | ((first | refine hK _ _ ?_ | (clear hK; refine hK _ _ ?_) | (clear hK; clear hK; refine hK _ _ ?_)); clear hK; (try clear K)))
    refine AWP_ret ?_; simp (disch := omega) only [go_sem, Nat.reduceBEq, Nat.reduceAdd]
    have eq : NS.met (.i (some a) (some b)) (.i (some c) none) = .i (some (max a c)) (some b) := by simp [NS.met, omax, omin, NS.mk', ordO, hle]
    rw [eq]
    exact ⟨_, _, _, _, _, _, rfl, (En.of f1).to, h2.to⟩
theorem met_19 {h0 h : PH} [Le h0 h] {v w : Value} {a b c d : Rat} (hs : Sd h0 v (.i (some a) (some b))) (ht : Sd h0 w (.i (some c) (some d))) (ls : NS.le (2 ^ 30) (.i (some a) (some b))) (lt : NS.le (2 ^ 30) (.i (some c) (some d))) :
    Spec mach 75 #[v, w] h (fun v h' => Sn h' v (NS.met (.i (some a) (some b)) (.i (some c) (some d)))) NP := by
  obtain ⟨b1, a1, m1, c1, a2, m2, c2, b2, a3, m3, c3, a4, m4, c4, rfl, h1, h2⟩ := Sn.ie hs
  rw [NS.le_i] at ls
  have z1 := ls.1 _ rfl
  have z2 := ls.2 _ rfl
  obtain ⟨b1', a1', m1', c1', a2', m2', c2', b2', a3', m3', c3', a4', m4', c4', rfl, h3, h4⟩ := Sn.ie ht
  rw [NS.le_i] at lt
  have z3 := lt.1 _ rfl
  have z4 := lt.2 _ rfl
  try dsimp only [Option.isNone]
  refine Spec.enter (args := [_, _]) (n := 81) Tryd.func75 rfl (by kernel_rfl) rfl (by simp) [.cell 4 66] rfl (fun C _ => ?_)
  repeat (first | (refine rg rfl rfl (fun K hK => ?_); (repeat (first | (refine wo rfl (fun k hk => ?_); simp (disch := omega) only [go_sem, Nat.reduceBEq, Nat.reduceAdd]; refine hk _ _ ?_; clear hk k) | refine wkt rfl ?_)); (try refine wk0 ?_); refine hK _ _ ?_; clear hK K; (try dsimp only [behind, qs, qb])) | ((first | refine AWP_exit ?_ | refine AWP_skip ?_); simp (disch := decide) only [qs, qb, if_true, if_false, reduceIte]) | refine AWP_sq rfl (fun K hK => ?_) | refine ct rfl ?_ | ((first | refine hK _ _ ?_ | (clear hK; refine hK _ _ ?_) | (clear hK; clear hK; refine hK _ _ ?_)); clear hK; (try clear K)))
  refine rg rfl rfl (fun K hK => ?_); (repeat (first | (refine wo rfl (fun k hk => ?_); simp (disch := omega) only [go_sem, Nat.reduceBEq, Nat.reduceAdd]; refine hk _ _ ?_; clear hk k) | refine wkt rfl ?_)); (try refine wk0 ?_)
  refine cN rfl rfl rfl rfl (by exact greatest_spec h1.num h3.num (up36 z1) (up36 z3)) ?_; rintro v1 g1 _ f1; obtain ⟨v1_0, v1_1, v1_2, v1_3, v1_4, v1_5, v1_6, rfl, f1⟩ := f1.sa; (repeat (first | (refine wo rfl (fun k hk => ?_); simp (disch := omega) only [go_sem, Nat.reduceBEq, Nat.reduceAdd]; refine hk _ _ ?_; clear hk k) | refine wkt rfl ?_)); (try refine wk0 ?_)
  (try (simp (disch := omega) only [go_sem, Nat.reduceBEq, Nat.reduceAdd])); refine hK _ _ ?_; clear hK; (try clear K); (try dsimp only [behind, qs])
  repeat (first | (refine rg rfl rfl (fun K hK => ?_); (repeat (first | (refine wo rfl (fun k hk => ?_); simp (disch := omega) only [go_sem, Nat.reduceBEq, Nat.reduceAdd]; refine hk _ _ ?_; clear hk k) | refine wkt rfl ?_)); (try refine wk0 ?_); refine hK _ _ ?_; clear hK K; (try dsimp only [behind, qs, qb])) | ((first | refine AWP_exit ?_ | refine AWP_skip ?_); simp (disch := decide) only [qs, qb, if_true, if_false, reduceIte]) | refine AWP_sq rfl (fun K hK => ?_) | refine ct rfl ?_ | ((first | refine hK _ _ ?_ | (clear hK; refine hK _ _ ?_) | (clear hK; clear hK; refine hK _ _ ?_)); clear hK; (try clear K)))
  refine rg rfl rfl (fun K hK => ?_); (repeat (first | (refine wo rfl (fun k hk => ?_); simp (disch := omega) only [go_sem, Nat.reduceBEq, Nat.reduceAdd]; refine hk _ _ ?_; clear hk k) | refine wkt rfl ?_)); (try refine wk0 ?_)
  refine cN rfl rfl rfl rfl (by exact least_spec h2.num h4.num (up36 z2) (up36 z4)) ?_; rintro v2 g2 _ f2; obtain ⟨v2_0, v2_1, v2_2, v2_3, v2_4, v2_5, v2_6, rfl, f2⟩ := f2.sa; (repeat (first | (refine wo rfl (fun k hk => ?_); simp (disch := omega) only [go_sem, Nat.reduceBEq, Nat.reduceAdd]; refine hk _ _ ?_; clear hk k) | refine wkt rfl ?_)); (try refine wk0 ?_)
  (try (simp (disch := omega) only [go_sem, Nat.reduceBEq, Nat.reduceAdd])); refine hK _ _ ?_; clear hK; (try clear K); (try dsimp only [behind, qs])
  repeat (first | (refine rg rfl rfl (fun K hK => ?_); (repeat (first | (refine wo rfl (fun k hk => ?_); simp (disch := omega) only [go_sem, Nat.reduceBEq, Nat.reduceAdd]; refine hk _ _ ?_; clear hk k) | refine wkt rfl ?_)); (try refine wk0 ?_); refine hK _ _ ?_; clear hK K; (try dsimp only [behind, qs, qb])) | ((first | refine AWP_exit ?_ | refine AWP_skip ?_); simp (disch := decide) only [qs, qb, if_true, if_false, reduceIte]) | refine AWP_sq rfl (fun K hK => ?_) | refine ct rfl ?_ | ((first | refine hK _ _ ?_ | (clear hK; refine hK _ _ ?_) | (clear hK; clear hK; refine hK _ _ ?_)); clear hK; (try clear K)))
  refine rg rfl rfl (fun K hK => ?_); (repeat (first | (refine wo rfl (fun k hk => ?_); simp (disch := omega) only [go_sem, Nat.reduceBEq, Nat.reduceAdd]; refine hk _ _ ?_; clear hk k) | refine wkt rfl ?_)); (try refine wk0 ?_)
  refine cN rfl rfl rfl rfl (by exact Cmp_frac ((En.of f1).num.to (h' := g2)) ((En.of f2).num.to (h' := g2)) (up36 (sz_max z1 z3)) (up36 (sz_min z2 z4))) ?_; rintro vc hc sc rfl; (repeat (first | (refine wo rfl (fun k hk => ?_); simp (disch := omega) only [go_sem, Nat.reduceBEq, Nat.reduceAdd]; refine hk _ _ ?_; clear hk k) | refine wkt rfl ?_)); (try refine wk0 ?_)
  refine met_end (a := (max a c)) (b := (min b d)) (fun hlt => ?_) (fun hle => ?_)
  · have e1 : 0 < cmpQ (max a c) (min b d) := by unfold cmpQ; grind
    (try (simp (disch := omega) only [go_sem, Nat.reduceBEq, Nat.reduceAdd])); refine hK _ _ ?_; clear hK; (try clear K); (try dsimp only [behind, qs])
    repeat (first | (refine rg rfl rfl (fun K hK => ?_); (repeat (first | (refine wo rfl (fun k hk => ?_); simp (disch := omega) only [go_sem, Nat.reduceBEq, Nat.reduceAdd]; refine hk _ _ ?_; clear hk k) | refine wkt rfl ?_)); (try refine wk0 ?_); refine hK _ _ ?_; clear hK K; (try dsimp only [behind, qs, qb])) | ((first | refine AWP_exit ?_ | refine AWP_skip ?_); simp (disch := decide) only [qs, qb, if_true, if_false, reduceIte]) | refine AWP_sq rfl (fun K hK => ?_) | refine ct rfl ?_ | ((first | refine hK _ _ ?_ | (clear hK; refine hK _ _ ?_) | (clear hK; clear hK; refine hK _ _ ?_)); clear hK; (try clear K)))
    refine AWP_ret ?_; simp (disch := omega) only [go_sem, Nat.reduceBEq, Nat.reduceAdd]
    have eq : NS.met (.i (some a) (some b)) (.i (some c) (some d)) = .e := by simp [NS.met, omax, omin, NS.mk', ordO, hlt]
    rw [eq]
    exact ⟨_, _, _, _, _, _, _, _, rfl, (En.of f1).junk.to, (En.of f2).junk.to⟩
  · have e1 : ¬ 0 < cmpQ (max a c) (min b d) := by unfold cmpQ; grind
    (try (simp (disch := omega) only [go_sem, Nat.reduceBEq, Nat.reduceAdd])); refine hK _ _ ?_; clear hK; (try clear K); (try dsimp only [behind, qs])
    repeat (first | (refine rg rfl rfl (fun K hK => ?_); (repeat (first | (refine wo rfl (fun k hk => ?_); simp (disch := omega) only [go_sem, Nat.reduceBEq, Nat.reduceAdd]; refine hk _ _ ?_; clear hk k) | refine wkt rfl ?_)); (try refine wk0 ?_); refine hK _ _ ?_; clear hK K; (try dsimp only [behind, qs, qb])) | ((first | refine AWP_exit ?_ | refine AWP_skip ?_); simp (disch := decide) only [qs, qb, if_true, if_false, reduceIte]) | refine AWP_sq rfl (fun K hK => ?_) | refine ct rfl ?_ | ((first | refine hK _ _ ?_ | (clear hK; refine hK _ _ ?_) | (clear hK; clear hK; refine hK _ _ ?_)); clear hK; (try clear K)))
    refine AWP_ret ?_; simp (disch := omega) only [go_sem, Nat.reduceBEq, Nat.reduceAdd]
    have eq : NS.met (.i (some a) (some b)) (.i (some c) (some d)) = .i (some (max a c)) (some (min b d)) := by simp [NS.met, omax, omin, NS.mk', ordO, hle]
    rw [eq]
    exact ⟨_, _, _, _, _, _, rfl, (En.of f1).to, (En.of f2).to⟩
theorem met_20 {h0 h : PH} [Le h0 h] {v w : Value} {a b : Rat} (hs : Sd h0 v (.i (some a) (some b))) (ht : Sd h0 w .e) (ls : NS.le (2 ^ 30) (.i (some a) (some b))) (lt : NS.le (2 ^ 30) .e) :
    Spec mach 75 #[v, w] h (fun v h' => Sn h' v (NS.met (.i (some a) (some b)) .e)) NP := by
  obtain ⟨b1, a1, m1, c1, a2, m2, c2, b2, a3, m3, c3, a4, m4, c4, rfl, h1, h2⟩ := Sn.ie hs
  rw [NS.le_i] at ls
  have z1 := ls.1 _ rfl
  have z2 := ls.2 _ rfl
  obtain ⟨b1', a1', m1', c1', a2', m2', c2', b2', a3', m3', c3', a4', m4', c4', c, d, rfl, h3, h4, z3, z4⟩ := ht.ee
  try dsimp only [Option.isNone]
  refine Spec.enter (args := [_, _]) (n := 81) Tryd.func75 rfl (by kernel_rfl) rfl (by simp) [.cell 4 66] rfl (fun C _ => ?_)
  repeat (first | (refine rg rfl rfl (fun K hK => ?_); (repeat (first | (refine wo rfl (fun k hk => ?_); simp (disch := omega) only [go_sem, Nat.reduceBEq, Nat.reduceAdd]; refine hk _ _ ?_; clear hk k) | refine wkt rfl ?_)); (try refine wk0 ?_); refine hK _ _ ?_; clear hK K; (try dsimp only [behind, qs, qb])) | ((first | refine AWP_exit ?_ | refine AWP_skip ?_); simp (disch := decide) only [qs, qb, if_true, if_false, reduceIte]) | refine AWP_sq rfl (fun K hK => ?_) | refine ct rfl ?_ | ((first | refine hK _ _ ?_ | (clear hK; refine hK _ _ ?_) | (clear hK; clear hK; refine hK _ _ ?_)); clear hK; (try clear K)))
  refine rg rfl rfl (fun K hK => ?_); (repeat (first | (refine wo rfl (fun k hk => ?_); simp (disch := omega) only [go_sem, Nat.reduceBEq, Nat.reduceAdd]; refine hk _ _ ?_; clear hk k) | refine wkt rfl ?_)); (try refine wk0 ?_)
  refine cN rfl rfl rfl rfl (by exact greatest_spec h1.num h3.num (up36 z1) (up36 z3)) ?_; rintro v1 g1 _ f1; obtain ⟨v1_0, v1_1, v1_2, v1_3, v1_4, v1_5, v1_6, rfl, f1⟩ := f1.sa; (repeat (first | (refine wo rfl (fun k hk => ?_); simp (disch := omega) only [go_sem, Nat.reduceBEq, Nat.reduceAdd]; refine hk _ _ ?_; clear hk k) | refine wkt rfl ?_)); (try refine wk0 ?_)
  (try (simp (disch := omega) only [go_sem, Nat.reduceBEq, Nat.reduceAdd])); refine hK _ _ ?_; clear hK; (try clear K); (try dsimp only [behind, qs])
  repeat (first | (refine rg rfl rfl (fun K hK => ?_); (repeat (first | (refine wo rfl (fun k hk => ?_); simp (disch := omega) only [go_sem, Nat.reduceBEq, Nat.reduceAdd]; refine hk _ _ ?_; clear hk k) | refine wkt rfl ?_)); (try refine wk0 ?_); refine hK _ _ ?_; clear hK K; (try dsimp only [behind, qs, qb])) | ((first | refine AWP_exit ?_ | refine AWP_skip ?_); simp (disch := decide) only [qs, qb, if_true, if_false, reduceIte]) | refine AWP_sq rfl (fun K hK => ?_) | refine ct rfl ?_ | ((first | refine hK _ _ ?_ | (clear hK; refine hK _ _ ?_) | (clear hK; clear hK; refine hK _ _ ?_)); clear hK; (try clear K)))
  refine rg rfl rfl (fun K hK => ?_); (repeat (first | (refine wo rfl (fun k hk => ?_); simp (disch := omega) only [go_sem, Nat.reduceBEq, Nat.reduceAdd]; refine hk _ _ ?_; clear hk k) | refine wkt rfl ?_)); (try refine wk0 ?_)
  refine cN rfl rfl rfl rfl (by exact least_spec h2.num h4.num (up36 z2) (up36 z4)) ?_; rintro v2 g2 _ f2; obtain ⟨v2_0, v2_1, v2_2, v2_3, v2_4, v2_5, v2_6, rfl, f2⟩ := f2.sa; (repeat (first | (refine wo rfl (fun k hk => ?_); simp (disch := omega) only [go_sem, Nat.reduceBEq, Nat.reduceAdd]; refine hk _ _ ?_; clear hk k) | refine wkt rfl ?_)); (try refine wk0 ?_)
  (try (simp (disch := omega) only [go_sem, Nat.reduceBEq, Nat.reduceAdd])); refine hK _ _ ?_; clear hK; (try clear K); (try dsimp only [behind, qs])
  repeat (first | (refine rg rfl rfl (fun K hK => ?_); (repeat (first | (refine wo rfl (fun k hk => ?_); simp (disch := omega) only [go_sem, Nat.reduceBEq, Nat.reduceAdd]; refine hk _ _ ?_; clear hk k) | refine wkt rfl ?_)); (try refine wk0 ?_); refine hK _ _ ?_; clear hK K; (try dsimp only [behind, qs, qb])) | ((first | refine AWP_exit ?_ | refine AWP_skip ?_); simp (disch := decide) only [qs, qb, if_true, if_false, reduceIte]) | refine AWP_sq rfl (fun K hK => ?_) | refine ct rfl ?_ | ((first | refine hK _ _ ?_ | (clear hK; refine hK _ _ ?_) | (clear hK; clear hK; refine hK _ _ ?_)); clear hK; (try clear K)))
  refine AWP_ret ?_; simp (disch := omega) only [go_sem, Nat.reduceBEq, Nat.reduceAdd]
  exact ⟨_, _, _, _, _, _, _, _, rfl, (En.of f1).junk.to, (En.of f2).junk.to⟩
theorem met_21 {h0 h : PH} [Le h0 h] {v w : Value} (hs : Sd h0 v .e) (ht : Sd h0 w (.i none none)) (ls : NS.le (2 ^ 30) .e) (lt : NS.le (2 ^ 30) (.i none none)) :
    Spec mach 75 #[v, w] h (fun v h' => Sn h' v (NS.met .e (.i none none))) NP := by
  obtain ⟨b1, a1, m1, c1, a2, m2, c2, b2, a3, m3, c3, a4, m4, c4, a, b, rfl, h1, h2, z1, z2⟩ := hs.ee
  obtain ⟨b1', a1', m1', c1', a2', m2', c2', b2', a3', m3', c3', a4', m4', c4', rfl, h3, h4⟩ := Sn.ie ht
  rw [NS.le_i] at lt
  try dsimp only [Option.isNone]
  refine Spec.enter (args := [_, _]) (n := 81) Tryd.func75 rfl (by kernel_rfl) rfl (by simp) [.cell 4 66] rfl (fun C _ => ?_)
  repeat (first | (refine rg rfl rfl (fun K hK => ?_); (repeat (first | (refine wo rfl (fun k hk => ?_); simp (disch := omega) only [go_sem, Nat.reduceBEq, Nat.reduceAdd]; refine hk _ _ ?_; clear hk k) | refine wkt rfl ?_)); (try refine wk0 ?_); refine hK _ _ ?_; clear hK K; (try dsimp only [behind, qs, qb])) | ((first | refine AWP_exit ?_ | refine AWP_skip ?_); simp (disch := decide) only [qs, qb, if_true, if_false, reduceIte]) | refine AWP_sq rfl (fun K hK => ?_) | refine ct rfl ?_ | ((first | refine hK _ _ ?_ | (clear hK; refine hK _ _ ?_) | (clear hK; clear hK; refine hK _ _ ?_)); clear hK; (try clear K)))
  refine AWP_ret ?_; simp (disch := omega) only [go_sem, Nat.reduceBEq, Nat.reduceAdd]
  exact ⟨_, _, _, _, _, _, _, _, rfl, h1.junk.to, h2.junk.to⟩
theorem met_22 {h0 h : PH} [Le h0 h] {v w : Value} {d : Rat} (hs : Sd h0 v .e) (ht : Sd h0 w (.i none (some d))) (ls : NS.le (2 ^ 30) .e) (lt : NS.le (2 ^ 30) (.i none (some d))) :
    Spec mach 75 #[v, w] h (fun v h' => Sn h' v (NS.met .e (.i none (some d)))) NP := by
  obtain ⟨b1, a1, m1, c1, a2, m2, c2, b2, a3, m3, c3, a4, m4, c4, a, b, rfl, h1, h2, z1, z2⟩ := hs.ee
  obtain ⟨b1', a1', m1', c1', a2', m2', c2', b2', a3', m3', c3', a4', m4', c4', rfl, h3, h4⟩ := Sn.ie ht
  rw [NS.le_i] at lt
  have z4 := lt.2 _ rfl
  try dsimp only [Option.isNone]
  refine Spec.enter (args := [_, _]) (n := 81) Tryd.func75 rfl (by kernel_rfl) rfl (by simp) [.cell 4 66] rfl (fun C _ => ?_)
  repeat (first | (refine rg rfl rfl (fun K hK => ?_); (repeat (first | (refine wo rfl (fun k hk => ?_); simp (disch := omega) only [go_sem, Nat.reduceBEq, Nat.reduceAdd]; refine hk _ _ ?_; clear hk k) | refine wkt rfl ?_)); (try refine wk0 ?_); refine hK _ _ ?_; clear hK K; (try dsimp only [behind, qs, qb])) | ((first | refine AWP_exit ?_ | refine AWP_skip ?_); simp (disch := decide) only [qs, qb, if_true, if_false, reduceIte]) | refine AWP_sq rfl (fun K hK => ?_) | refine ct rfl ?_ | ((first | refine hK _ _ ?_ | (clear hK; refine hK _ _ ?_) | (clear hK; clear hK; refine hK _ _ ?_)); clear hK; (try clear K)))
  refine rg rfl rfl (fun K hK => ?_); (repeat (first | (refine wo rfl (fun k hk => ?_); simp (disch := omega) only [go_sem, Nat.reduceBEq, Nat.reduceAdd]; refine hk _ _ ?_; clear hk k) | refine wkt rfl ?_)); (try refine wk0 ?_)
  refine cN rfl rfl rfl rfl (by exact least_spec h2.num h4.num (up36 z2) (up36 z4)) ?_; rintro v2 g2 _ f2; obtain ⟨v2_0, v2_1, v2_2, v2_3, v2_4, v2_5, v2_6, rfl, f2⟩ := f2.sa; (repeat (first | (refine wo rfl (fun k hk => ?_); simp (disch := omega) only [go_sem, Nat.reduceBEq, Nat.reduceAdd]; refine hk _ _ ?_; clear hk k) | refine wkt rfl ?_)); (try refine wk0 ?_)
  (try (simp (disch := omega) only [go_sem, Nat.reduceBEq, Nat.reduceAdd])); refine hK _ _ ?_; clear hK; (try clear K); (try dsimp only [behind, qs])
  repeat (first | (refine rg rfl rfl (fun K hK => ?_); (repeat (first | (refine wo rfl (fun k hk => ?_); simp (disch := omega) only [go_sem, Nat.reduceBEq, Nat.reduceAdd]; refine hk _ _ ?_; clear hk k) | refine wkt rfl ?_)); (try refine wk0 ?_); refine hK _ _ ?_; clear hK K; (try dsimp only [behind, qs, qb])) | ((first | refine AWP_exit ?_ | refine AWP_skip ?_); simp (disch := decide) only [qs, qb, if_true, if_false, reduceIte]) | refine AWP_sq rfl (fun K hK => ?_) | refine ct rfl ?_ | ((first | refine hK _ _ ?_ | (clear hK; refine hK _ _ ?_) | (clear hK; clear hK; refine hK _ _ ?_)); clear hK; (try clear K)))
  refine AWP_ret ?_; simp (disch := omega) only [go_sem, Nat.reduceBEq, Nat.reduceAdd]
  exact ⟨_, _, _, _, _, _, _, _, rfl, h1.junk.to, (En.of f2).junk.to⟩
theorem met_23 {h0 h : PH} [Le h0 h] {v w : Value} {c : Rat} (hs : Sd h0 v .e) (ht : Sd h0 w (.i (some c) none)) (ls : NS.le (2 ^ 30) .e) (lt : NS.le (2 ^ 30) (.i (some c) none)) :
    Spec mach 75 #[v, w] h (fun v h' => Sn h' v (NS.met .e (.i (some c) none))) NP := by
  obtain ⟨b1, a1, m1, c1, a2, m2, c2, b2, a3, m3, c3, a4, m4, c4, a, b, rfl, h1, h2, z1, z2⟩ := hs.ee
  obtain ⟨b1', a1', m1', c1', a2', m2', c2', b2', a3', m3', c3', a4', m4', c4', rfl, h3, h4⟩ := Sn.ie ht
  rw [NS.le_i] at lt
  have z3 := lt.1 _ rfl
  try dsimp only [Option.isNone]
  refine Spec.enter (args := [_, _]) (n := 81) Tryd.func75 rfl (by kernel_rfl) rfl (by simp) [.cell 4 66] rfl (fun C _ => ?_)
  repeat (first | (refine rg rfl rfl (fun K hK => ?_); (repeat (first | (refine wo rfl (fun k hk => ?_); simp (disch := omega) only [go_sem, Nat.reduceBEq, Nat.reduceAdd]; refine hk _ _ ?_; clear hk k) | refine wkt rfl ?_)); (try refine wk0 ?_); refine hK _ _ ?_; clear hK K; (try dsimp only [behind, qs, qb])) | ((first | refine AWP_exit ?_ | refine AWP_skip ?_); simp (disch := decide) only [qs, qb, if_true, if_false, reduceIte]) | refine AWP_sq rfl (fun K hK => ?_) | refine ct rfl ?_ | ((first | refine hK _ _ ?_ | (clear hK; refine hK _ _ ?_) | (clear hK; clear hK; refine hK _ _ ?_)); clear hK; (try clear K)))
  refine rg rfl rfl (fun K hK => ?_); (repeat (first | (refine wo rfl (fun k hk => ?_); simp (disch := omega) only [go_sem, Nat.reduceBEq, Nat.reduceAdd]; refine hk _ _ ?_; clear hk k) | refine wkt rfl ?_)); (try refine wk0 ?_)
  refine cN rfl rfl rfl rfl (by exact greatest_spec h1.num h3.num (up36 z1) (up36 z3)) ?_; rintro v1 g1 _ f1; obtain ⟨v1_0, v1_1, v1_2, v1_3, v1_4, v1_5, v1_6, rfl, f1⟩ := f1.sa; (repeat (first | (refine wo rfl (fun k hk => ?_); simp (disch := omega) only [go_sem, Nat.reduceBEq, Nat.reduceAdd]; refine hk _ _ ?_; clear hk k) | refine wkt rfl ?_)); (try refine wk0 ?_)
  (try (simp (disch := omega) only [go_sem, Nat.reduceBEq, Nat.reduceAdd])); refine hK _ _ ?_; clear hK; (try clear K); (try dsimp only [behind, qs])
  repeat (first | (refine rg rfl rfl (fun K hK => ?_); (repeat (first | (refine wo rfl (fun k hk => ?_); simp (disch := omega) only [go_sem, Nat.reduceBEq, Nat.reduceAdd]; refine hk _ _ ?_; clear hk k) | refine wkt rfl ?_)); (try refine wk0 ?_); refine hK _ _ ?_; clear hK K; (try dsimp only [behind, qs, qb])) | ((first | refine AWP_exit ?_ | refine AWP_skip ?_); simp (disch := decide) only [qs, qb, if_true, if_false, reduceIte]) | refine AWP_sq rfl (fun K hK => ?_) | refine ct rfl ?_ | ((first | refine hK _ _ ?_ | (clear hK; refine hK _ _ ?_) | (clear hK; clear hK; refine hK _ _ ?_)); clear hK; (try clear K)))
  refine AWP_ret ?_; simp (disch := omega) only [go_sem, Nat.reduceBEq, Nat.reduceAdd]
  exact ⟨_, _, _, _, _, _, _, _, rfl, (En.of f1).junk.to, h2.junk.to⟩
theorem met_24 {h0 h : PH} [Le h0 h] {v w : Value} {c d : Rat} (hs : Sd h0 v .e) (ht : Sd h0 w (.i (some c) (some d))) (ls : NS.le (2 ^ 30) .e) (lt : NS.le (2 ^ 30) (.i (some c) (some d))) :
    Spec mach 75 #[v, w] h (fun v h' => Sn h' v (NS.met .e (.i (some c) (some d)))) NP := by
  obtain ⟨b1, a1, m1, c1, a2, m2, c2, b2, a3, m3, c3, a4, m4, c4, a, b, rfl, h1, h2, z1, z2⟩ := hs.ee
  obtain ⟨b1', a1', m1', c1', a2', m2', c2', b2', a3', m3', c3', a4', m4', c4', rfl, h3, h4⟩ := Sn.ie ht
  rw [NS.le_i] at lt
  have z3 := lt.1 _ rfl
  have z4 := lt.2 _ rfl
  try dsimp only [Option.isNone]
  refine Spec.enter (args := [_, _]) (n := 81) Tryd.func75 rfl (by kernel_rfl) rfl (by simp) [.cell 4 66] rfl (fun C _ => ?_)
  repeat (first | (refine rg rfl rfl (fun K hK => ?_); (repeat (first | (refine wo rfl (fun k hk => ?_); simp (disch := omega) only [go_sem, Nat.reduceBEq, Nat.reduceAdd]; refine hk _ _ ?_; clear hk k) | refine wkt rfl ?_)); (try refine wk0 ?_); refine hK _ _ ?_; clear hK K; (try dsimp only [behind, qs, qb])) | ((first | refine AWP_exit ?_ | refine AWP_skip ?_); simp (disch := decide) only [qs, qb, if_true, if_false, reduceIte]) | refine AWP_sq rfl (fun K hK => ?_) | refine ct rfl ?_ | ((first | refine hK _ _ ?_ | (clear hK; refine hK _ _ ?_) | (clear hK; clear hK; refine hK _ _ ?_)); clear hK; (try clear K)))
  refine rg rfl rfl (fun K hK => ?_); (repeat (first | (refine wo rfl (fun k hk => ?_); simp (disch := omega) only [go_sem, Nat.reduceBEq, Nat.reduceAdd]; refine hk _ _ ?_; clear hk k) | refine wkt rfl ?_)); (try refine wk0 ?_)
  refine cN rfl rfl rfl rfl (by exact greatest_spec h1.num h3.num (up36 z1) (up36 z3)) ?_; rintro v1 g1 _ f1; obtain ⟨v1_0, v1_1, v1_2, v1_3, v1_4, v1_5, v1_6, rfl, f1⟩ := f1.sa; (repeat (first | (refine wo rfl (fun k hk => ?_); simp (disch := omega) only [go_sem, Nat.reduceBEq, Nat.reduceAdd]; refine hk _ _ ?_; clear hk k) | refine wkt rfl ?_)); (try refine wk0 ?_)
  (try (simp (disch := omega) only [go_sem, Nat.reduceBEq, Nat.reduceAdd])); refine hK _ _ ?_; clear hK; (try clear K); (try dsimp only [behind, qs])
  repeat (first | (refine rg rfl rfl (fun K hK => ?_); (repeat (first | (refine wo rfl (fun k hk => ?_); simp (disch := omega) only [go_sem, Nat.reduceBEq, Nat.reduceAdd]; refine hk _ _ ?_; clear hk k) | refine wkt rfl ?_)); (try refine wk0 ?_); refine hK _ _ ?_; clear hK K; (try dsimp only [behind, qs, qb])) | ((first | refine AWP_exit ?_ | refine AWP_skip ?_); simp (disch := decide) only [qs, qb, if_true, if_false, reduceIte]) | refine AWP_sq rfl (fun K hK => ?_) | refine ct rfl ?_ | ((first | refine hK _ _ ?_ | (clear hK; refine hK _ _ ?_) | (clear hK; clear hK; refine hK _ _ ?_)); clear hK; (try clear K)))
  refine rg rfl rfl (fun K hK => ?_); (repeat (first | (refine wo rfl (fun k hk => ?_); simp (disch := omega) only [go_sem, Nat.reduceBEq, Nat.reduceAdd]; refine hk _ _ ?_; clear hk k) | refine wkt rfl ?_)); (try refine wk0 ?_)
  refine cN rfl rfl rfl rfl (by exact least_spec h2.num h4.num (up36 z2) (up36 z4)) ?_; rintro v2 g2 _ f2; obtain ⟨v2_0, v2_1, v2_2, v2_3, v2_4, v2_5, v2_6, rfl, f2⟩ := f2.sa; (repeat (first | (refine wo rfl (fun k hk => ?_); simp (disch := omega) only [go_sem, Nat.reduceBEq, Nat.reduceAdd]; refine hk _ _ ?_; clear hk k) | refine wkt rfl ?_)); (try refine wk0 ?_)
  (try (simp (disch := omega) only [go_sem, Nat.reduceBEq, Nat.reduceAdd])); refine hK _ _ ?_; clear hK; (try clear K); (try dsimp only [behind, qs])
  repeat (first | (refine rg rfl rfl (fun K hK => ?_); (repeat (first | (refine wo rfl (fun k hk => ?_); simp (disch := omega) only [go_sem, Nat.reduceBEq, Nat.reduceAdd]; refine hk _ _ ?_; clear hk k) | refine wkt rfl ?_)); (try refine wk0 ?_); refine hK _ _ ?_; clear hK K; (try dsimp only [behind, qs, qb])) | ((first | refine AWP_exit ?_ | refine AWP_skip ?_); simp (disch := decide) only [qs, qb, if_true, if_false, reduceIte]) | refine AWP_sq rfl (fun K hK => ?_) | refine ct rfl ?_ | ((first | refine hK _ _ ?_ | (clear hK; refine hK _ _ ?_) | (clear hK; clear hK; refine hK _ _ ?_)); clear hK; (try clear K)))
  refine AWP_ret ?_; simp (disch := omega) only [go_sem, Nat.reduceBEq, Nat.reduceAdd]
  exact ⟨_, _, _, _, _, _, _, _, rfl, (En.of f1).junk.to, (En.of f2).junk.to⟩
theorem met_25 {h0 h : PH} [Le h0 h] {v w : Value} (hs : Sd h0 v .e) (ht : Sd h0 w .e) (ls : NS.le (2 ^ 30) .e) (lt : NS.le (2 ^ 30) .e) :
    Spec mach 75 #[v, w] h (fun v h' => Sn h' v (NS.met .e .e)) NP := by
  obtain ⟨b1, a1, m1, c1, a2, m2, c2, b2, a3, m3, c3, a4, m4, c4, a, b, rfl, h1, h2, z1, z2⟩ := hs.ee
  obtain ⟨b1', a1', m1', c1', a2', m2', c2', b2', a3', m3', c3', a4', m4', c4', c, d, rfl, h3, h4, z3, z4⟩ := ht.ee
  try dsimp only [Option.isNone]
  refine Spec.enter (args := [_, _]) (n := 81) Tryd.func75 rfl (by kernel_rfl) rfl (by simp) [.cell 4 66] rfl (fun C _ => ?_)
  repeat (first | (refine rg rfl rfl (fun K hK => ?_); (repeat (first | (refine wo rfl (fun k hk => ?_); simp (disch := omega) only [go_sem, Nat.reduceBEq, Nat.reduceAdd]; refine hk _ _ ?_; clear hk k) | refine wkt rfl ?_)); (try refine wk0 ?_); refine hK _ _ ?_; clear hK K; (try dsimp only [behind, qs, qb])) | ((first | refine AWP_exit ?_ | refine AWP_skip ?_); simp (disch := decide) only [qs, qb, if_true, if_false, reduceIte]) | refine AWP_sq rfl (fun K hK => ?_) | refine ct rfl ?_ | ((first | refine hK _ _ ?_ | (clear hK; refine hK _ _ ?_) | (clear hK; clear hK; refine hK _ _ ?_)); clear hK; (try clear K)))
  refine rg rfl rfl (fun K hK => ?_); (repeat (first | (refine wo rfl (fun k hk => ?_); simp (disch := omega) only [go_sem, Nat.reduceBEq, Nat.reduceAdd]; refine hk _ _ ?_; clear hk k) | refine wkt rfl ?_)); (try refine wk0 ?_)
  refine cN rfl rfl rfl rfl (by exact greatest_spec h1.num h3.num (up36 z1) (up36 z3)) ?_; rintro v1 g1 _ f1; obtain ⟨v1_0, v1_1, v1_2, v1_3, v1_4, v1_5, v1_6, rfl, f1⟩ := f1.sa; (repeat (first | (refine wo rfl (fun k hk => ?_); simp (disch := omega) only [go_sem, Nat.reduceBEq, Nat.reduceAdd]; refine hk _ _ ?_; clear hk k) | refine wkt rfl ?_)); (try refine wk0 ?_)
  (try (simp (disch := omega) only [go_sem, Nat.reduceBEq, Nat.reduceAdd])); refine hK _ _ ?_; clear hK; (try clear K); (try dsimp only [behind, qs])
  repeat (first | (refine rg rfl rfl (fun K hK => ?_); (repeat (first | (refine wo rfl (fun k hk => ?_); simp (disch := omega) only [go_sem, Nat.reduceBEq, Nat.reduceAdd]; refine hk _ _ ?_; clear hk k) | refine wkt rfl ?_)); (try refine wk0 ?_); refine hK _ _ ?_; clear hK K; (try dsimp only [behind, qs, qb])) | ((first | refine AWP_exit ?_ | refine AWP_skip ?_); simp (disch := decide) only [qs, qb, if_true, if_false, reduceIte]) | refine AWP_sq rfl (fun K hK => ?_) | refine ct rfl ?_ | ((first | refine hK _ _ ?_ | (clear hK; refine hK _ _ ?_) | (clear hK; clear hK; refine hK _ _ ?_)); clear hK; (try clear K)))
  refine rg rfl rfl (fun K hK => ?_); (repeat (first | (refine wo rfl (fun k hk => ?_); simp (disch := omega) only [go_sem, Nat.reduceBEq, Nat.reduceAdd]; refine hk _ _ ?_; clear hk k) | refine wkt rfl ?_)); (try refine wk0 ?_)
  refine cN rfl rfl rfl rfl (by exact least_spec h2.num h4.num (up36 z2) (up36 z4)) ?_; rintro v2 g2 _ f2; obtain ⟨v2_0, v2_1, v2_2, v2_3, v2_4, v2_5, v2_6, rfl, f2⟩ := f2.sa; (repeat (first | (refine wo rfl (fun k hk => ?_); simp (disch := omega) only [go_sem, Nat.reduceBEq, Nat.reduceAdd]; refine hk _ _ ?_; clear hk k) | refine wkt rfl ?_)); (try refine wk0 ?_)
  (try (simp (disch := omega) only [go_sem, Nat.reduceBEq, Nat.reduceAdd])); refine hK _ _ ?_; clear hK; (try clear K); (try dsimp only [behind, qs])
  repeat (first | (refine rg rfl rfl (fun K hK => ?_); (repeat (first | (refine wo rfl (fun k hk => ?_); simp (disch := omega) only [go_sem, Nat.reduceBEq, Nat.reduceAdd]; refine hk _ _ ?_; clear hk k) | refine wkt rfl ?_)); (try refine wk0 ?_); refine hK _ _ ?_; clear hK K; (try dsimp only [behind, qs, qb])) | ((first | refine AWP_exit ?_ | refine AWP_skip ?_); simp (disch := decide) only [qs, qb, if_true, if_false, reduceIte]) | refine AWP_sq rfl (fun K hK => ?_) | refine ct rfl ?_ | ((first | refine hK _ _ ?_ | (clear hK; refine hK _ _ ?_) | (clear hK; clear hK; refine hK _ _ ?_)); clear hK; (try clear K)))
  refine AWP_ret ?_; simp (disch := omega) only [go_sem, Nat.reduceBEq, Nat.reduceAdd]
  exact ⟨_, _, _, _, _, _, _, _, rfl, (En.of f1).junk.to, (En.of f2).junk.to⟩
theorem Met_set {h0 h : PH} [Le h0 h] {v w : Value} {x y : NS} (hs : Sd h0 v x) (ht : Sd h0 w y) (ls : x.le (2 ^ 30)) (lt : y.le (2 ^ 30)) : Spec mach 75 #[v, w] h (fun v h' => Sn h' v (x.met y)) NP := by
  cases x with
  | e =>
    cases y with
    | e => exact met_25 hs ht ls lt
    | i c d =>
      cases c with
      | none => cases d with
        | none => exact met_21 hs ht ls lt
        | some d => exact met_22 hs ht ls lt
      | some c => cases d with
        | none => exact met_23 hs ht ls lt
        | some d => exact met_24 hs ht ls lt
  | i a b =>
    cases a with
    | none => cases b with
      | none =>
        cases y with
        | e => exact met_5 hs ht ls lt
        | i c d =>
          cases c with
          | none => cases d with
            | none => exact met_1 hs ht ls lt
            | some d => exact met_2 hs ht ls lt
          | some c => cases d with
            | none => exact met_3 hs ht ls lt
            | some d => exact met_4 hs ht ls lt
      | some b =>
        cases y with
        | e => exact met_10 hs ht ls lt
        | i c d =>
          cases c with
          | none => cases d with
            | none => exact met_6 hs ht ls lt
            | some d => exact met_7 hs ht ls lt
          | some c => cases d with
            | none => exact met_8 hs ht ls lt
            | some d => exact met_9 hs ht ls lt
    | some a => cases b with
      | none =>
        cases y with
        | e => exact met_15 hs ht ls lt
        | i c d =>
          cases c with
          | none => cases d with
            | none => exact met_11 hs ht ls lt
            | some d => exact met_12 hs ht ls lt
          | some c => cases d with
            | none => exact met_13 hs ht ls lt
            | some d => exact met_14 hs ht ls lt
      | some b =>
        cases y with
        | e => exact met_20 hs ht ls lt
        | i c d =>
          cases c with
          | none => cases d with
            | none => exact met_16 hs ht ls lt
            | some d => exact met_17 hs ht ls lt
          | some c => cases d with
            | none => exact met_18 hs ht ls lt
            | some d => exact met_19 hs ht ls lt
end Go.Q
