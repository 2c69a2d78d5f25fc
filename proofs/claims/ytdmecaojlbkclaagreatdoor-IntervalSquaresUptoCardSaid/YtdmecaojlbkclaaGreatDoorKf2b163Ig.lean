/-
  Contracts of package interval: hulls, meets, lesser sets, sums of two sets. Conditions: the values denote the intervals named, their ends of at most 2^30 binary digits. (Printed by a program, a case for each of the ends that are infinite.)
-/
import Derived.Test.YtdmecaojlbkclaaGreatDoorK9eee83BunO
set_option linter.unusedVariables false
set_option linter.unusedSimpArgs false
namespace Go.Q
open Go.Proofs
set_option maxRecDepth 100000
set_option maxHeartbeats 4000000
theorem sz_max {x y : Rat} {k : Nat} (hx : sz x ≤ k) (hy : sz y ≤ k) : sz (max x y) ≤ k := by
  by_cases h : x < y
  · rw [show max x y = y by grind]; exact hy
  · rw [show max x y = x by grind]; exact hx
theorem sz_min {x y : Rat} {k : Nat} (hx : sz x ≤ k) (hy : sz y ≤ k) : sz (min x y) ≤ k := by
  by_cases h : y < x
  · rw [show min x y = y by grind]; exact hy
  · rw [show min x y = x by grind]; exact hx
theorem up36 {n : Nat} (h : n ≤ 2 ^ 30) : n ≤ 2 ^ 36 := by omega
def Sd (h : PH) (v : Value) : NS → Prop
  | .e => ∃ b1 x1 y1 b2 x2 y2 p q, v = .agg #[.bool b1, x1, y1, .bool b2, x2, y2, .bool false, .bool false, .bool true] ∧ En h b1 x1 y1 (some p) ∧ En h b2 x2 y2 (some q) ∧ sz p ≤ 2 ^ 30 ∧ sz q ≤ 2 ^ 30
  | .i a b => Sn h v (.i a b)
theorem Sd.sn {h : PH} {v : Value} {x : NS} (r : Sd h v x) : Sn h v x := by
  cases x with
  | i a b => exact r
  | e => obtain ⟨b1, x1, y1, b2, x2, y2, p, q, rfl, h1, h2, _⟩ := r; exact ⟨_, _, _, _, _, _, _, _, rfl, h1.junk, h2.junk⟩
theorem Sd.to {h h' : PH} {v : Value} {x : NS} (r : Sd h v x) [Le h h'] : Sd h' v x := by
  cases x with
  | i a b => exact Sn.to (x := .i a b) r
  | e => obtain ⟨b1, x1, y1, b2, x2, y2, p, q, hv, h1, h2, k⟩ := r; exact ⟨b1, x1, y1, b2, x2, y2, p, q, hv, h1.to, h2.to, k⟩
theorem Sd.ee {h : PH} {v : Value} (r : Sd h v .e) : ∃ b1 a1 m1 c1 a2 m2 c2 b2 a3 m3 c3 a4 m4 c4 p q, v = .agg #[.bool b1, .slice a1 m1 c1, .slice a2 m2 c2, .bool b2, .slice a3 m3 c3, .slice a4 m4 c4, .bool false, .bool false, .bool true] ∧
    En h b1 (.slice a1 m1 c1) (.slice a2 m2 c2) (some p) ∧ En h b2 (.slice a3 m3 c3) (.slice a4 m4 c4) (some q) ∧ sz p ≤ 2 ^ 30 ∧ sz q ≤ 2 ^ 30 := by
  obtain ⟨b1, x1, y1, b2, x2, y2, p, q, rfl, h1, h2, k⟩ := r
  obtain ⟨_, _, _, _, _, _, rfl, rfl⟩ := h1.sl
  obtain ⟨_, _, _, _, _, _, rfl, rfl⟩ := h2.sl
  exact ⟨_, _, _, _, _, _, _, _, _, _, _, _, _, _, _, _, rfl, h1, h2, k⟩
theorem Read_set {h0 h : PH} [Le h0 h] {v : Value} {x : RI} (hv : Iv h0 v x) (g : x.big = false) : Spec mach 64 #[v] h (fun v h' => Sd h' v x.set) NP := by
  obtain ⟨g1, g2⟩ := RI.small g
  refine (read_ok hv g1 g2).mono (fun v h' _ r => ?_) (fun _ _ _ e => e)
  rw [← RI.set_eq]
  have z1 : sz (qof x.n1 x.a1 x.d1) ≤ 2 ^ 30 := by unfold Go.Q.lg at g1; omega
  have z2 : sz (qof x.n2 x.a2 x.d2) ≤ 2 ^ 30 := by unfold Go.Q.lg at g2; omega
  obtain ⟨b1, x1, y1, b2, x2, y2, rfl, h1, h2⟩ := r
  unfold rdS PS.n at *
  dsimp only at *
  cases hl : x.l with
  | true => exact ⟨b1, x1, y1, b2, x2, y2, by cases x.u <;> rfl, (En.of h1).junk, by cases x.u with
    | true => exact (En.of h2).junk
    | false => exact En.of h2⟩
  | false =>
    cases hu : x.u with
    | true => exact ⟨b1, x1, y1, b2, x2, y2, rfl, En.of h1, (En.of h2).junk⟩
    | false =>
      by_cases hc : qof x.n2 x.a2 x.d2 < qof x.n1 x.a1 x.d1
      · simp only [hc, decide_true, Bool.not_false, Bool.and_true, cond_true]
        exact ⟨b1, x1, y1, b2, x2, y2, _, _, rfl, En.of h1, En.of h2, z1, z2⟩
      · simp only [hc, decide_false, Bool.and_false, cond_false]
        exact ⟨b1, x1, y1, b2, x2, y2, rfl, En.of h1, En.of h2⟩
theorem sum_set {h0 h : PH} [Le h0 h] {v w : Value} {a b c d : Option Rat} (hs : Sn h0 v (.i a b)) (ht : Sn h0 w (.i c d)) (ls : (NS.i a b).le (2 ^ 30)) (lt : (NS.i c d).le (2 ^ 30)) :
    Spec mach 91 #[v, w] h (fun v h' => Sn h' v (NS.sum (.i a b) (.i c d))) NP := by
  obtain ⟨b1, a1, m1, c1, a2, m2, c2, b2, a3, m3, c3, a4, m4, c4, rfl, h1, h2⟩ := hs.ie
  obtain ⟨b1', a1', m1', c1', a2', m2', c2', b2', a3', m3', c3', a4', m4', c4', rfl, h3, h4⟩ := ht.ie
  rw [NS.le_i] at ls lt
  cases a <;> cases c <;> cases b <;> cases d <;>
  · dsimp only [Option.isNone]
    refine Spec.enter (args := [_, _]) (n := 38) Tryz.func91 rfl (by kernel_rfl) rfl (by simp) [.cell 4 43] rfl (fun C _ => ?_)
    repeat (first | (refine rg rfl rfl (fun K hK => ?_); (repeat (first | (refine wo rfl (fun k hk => ?_); simp (disch := omega) only [go_sem, Nat.reduceBEq, Nat.reduceAdd]; refine hk _ _ ?_; clear hk k) | refine wkt rfl ?_)); (try refine wk0 ?_); refine hK _ _ ?_; clear hK K; (try dsimp only [behind, qs, qb])) | ((first | refine AWP_exit ?_ | refine AWP_skip ?_); simp (disch := decide) only [qs, qb, if_true, if_false, reduceIte]) | refine AWP_sq rfl (fun K hK => ?_) | refine ct rfl ?_ | ((first | refine hK _ _ ?_ | (clear hK; refine hK _ _ ?_) | (clear hK; clear hK; refine hK _ _ ?_)); clear hK; (try clear K)))
    try (refine rg rfl rfl (fun K hK => ?_); (repeat (first | (refine wo rfl (fun k hk => ?_); simp (disch := omega) only [go_sem, Nat.reduceBEq, Nat.reduceAdd]; refine hk _ _ ?_; clear hk k) | refine wkt rfl ?_)); (try refine wk0 ?_); refine cN rfl rfl rfl rfl (by exact Add_frac h1.num h3.num (up36 (ls.1 _ rfl)) (up36 (lt.1 _ rfl))) ?_; rintro v1 g1 _ f1; obtain ⟨v1_0, v1_1, v1_2, v1_3, v1_4, v1_5, v1_6, rfl, f1⟩ := f1.sa; (repeat (first | (refine wo rfl (fun k hk => ?_); simp (disch := omega) only [go_sem, Nat.reduceBEq, Nat.reduceAdd]; refine hk _ _ ?_; clear hk k) | refine wkt rfl ?_)); (try refine wk0 ?_); (try (simp (disch := omega) only [go_sem, Nat.reduceBEq, Nat.reduceAdd])); refine hK _ _ ?_; clear hK; (try clear K); (try dsimp only [behind, qs]); repeat (first | (refine rg rfl rfl (fun K hK => ?_); (repeat (first | (refine wo rfl (fun k hk => ?_); simp (disch := omega) only [go_sem, Nat.reduceBEq, Nat.reduceAdd]; refine hk _ _ ?_; clear hk k) | refine wkt rfl ?_)); (try refine wk0 ?_); refine hK _ _ ?_; clear hK K; (try dsimp only [behind, qs, qb])) | ((first | refine AWP_exit ?_ | refine AWP_skip ?_); simp (disch := decide) only [qs, qb, if_true, if_false, reduceIte]) | refine AWP_sq rfl (fun K hK => ?_) | refine ct rfl ?_ | ((first | refine hK _ _ ?_ | (clear hK; refine hK _ _ ?_) | (clear hK; clear hK; refine hK _ _ ?_)); clear hK; (try clear K))))
    try (refine rg rfl rfl (fun K hK => ?_); (repeat (first | (refine wo rfl (fun k hk => ?_); simp (disch := omega) only [go_sem, Nat.reduceBEq, Nat.reduceAdd]; refine hk _ _ ?_; clear hk k) | refine wkt rfl ?_)); (try refine wk0 ?_); refine cN rfl rfl rfl rfl (by exact Add_frac h2.num h4.num (up36 (ls.2 _ rfl)) (up36 (lt.2 _ rfl))) ?_; rintro v2 g2 _ f2; obtain ⟨v2_0, v2_1, v2_2, v2_3, v2_4, v2_5, v2_6, rfl, f2⟩ := f2.sa; (repeat (first | (refine wo rfl (fun k hk => ?_); simp (disch := omega) only [go_sem, Nat.reduceBEq, Nat.reduceAdd]; refine hk _ _ ?_; clear hk k) | refine wkt rfl ?_)); (try refine wk0 ?_); (try (simp (disch := omega) only [go_sem, Nat.reduceBEq, Nat.reduceAdd])); refine hK _ _ ?_; clear hK; (try clear K); (try dsimp only [behind, qs]); repeat (first | (refine rg rfl rfl (fun K hK => ?_); (repeat (first | (refine wo rfl (fun k hk => ?_); simp (disch := omega) only [go_sem, Nat.reduceBEq, Nat.reduceAdd]; refine hk _ _ ?_; clear hk k) | refine wkt rfl ?_)); (try refine wk0 ?_); refine hK _ _ ?_; clear hK K; (try dsimp only [behind, qs, qb])) | ((first | refine AWP_exit ?_ | refine AWP_skip ?_); simp (disch := decide) only [qs, qb, if_true, if_false, reduceIte]) | refine AWP_sq rfl (fun K hK => ?_) | refine ct rfl ?_ | ((first | refine hK _ _ ?_ | (clear hK; refine hK _ _ ?_) | (clear hK; clear hK; refine hK _ _ ?_)); clear hK; (try clear K))))
    refine AWP_ret ?_; simp (disch := omega) only [go_sem, Nat.reduceBEq, Nat.reduceAdd]
    exact ⟨_, _, _, _, _, _, rfl, by first | exact (En.of f1).to | exact En.nil _, by first | exact (En.of f2).to | exact En.nil _⟩
theorem joined_set {h0 h : PH} [Le h0 h] {v w : Value} {a b c d : Option Rat} (hs : Sn h0 v (.i a b)) (ht : Sn h0 w (.i c d)) (ls : (NS.i a b).le (2 ^ 30)) (lt : (NS.i c d).le (2 ^ 30)) :
    Spec mach 106 #[v, w] h (fun v h' => Sn h' v (NS.joined (.i a b) (.i c d))) NP := by
  obtain ⟨b1, a1, m1, c1, a2, m2, c2, b2, a3, m3, c3, a4, m4, c4, rfl, h1, h2⟩ := hs.ie
  obtain ⟨b1', a1', m1', c1', a2', m2', c2', b2', a3', m3', c3', a4', m4', c4', rfl, h3, h4⟩ := ht.ie
  rw [NS.le_i] at ls lt
  cases a <;> cases c <;> cases b <;> cases d <;>
  · dsimp only [Option.isNone]
    refine Spec.enter (args := [_, _]) (n := 46) Tryz.func106 rfl (by kernel_rfl) rfl (by simp) [.cell 4 43] rfl (fun C _ => ?_)
    repeat (first | (refine rg rfl rfl (fun K hK => ?_); (repeat (first | (refine wo rfl (fun k hk => ?_); simp (disch := omega) only [go_sem, Nat.reduceBEq, Nat.reduceAdd]; refine hk _ _ ?_; clear hk k) | refine wkt rfl ?_)); (try refine wk0 ?_); refine hK _ _ ?_; clear hK K; (try dsimp only [behind, qs, qb])) | ((first | refine AWP_exit ?_ | refine AWP_skip ?_); simp (disch := decide) only [qs, qb, if_true, if_false, reduceIte]) | refine AWP_sq rfl (fun K hK => ?_) | refine ct rfl ?_ | ((first | refine hK _ _ ?_ | (clear hK; refine hK _ _ ?_) | (clear hK; clear hK; refine hK _ _ ?_)); clear hK; (try clear K)))
    try (refine rg rfl rfl (fun K hK => ?_); (repeat (first | (refine wo rfl (fun k hk => ?_); simp (disch := omega) only [go_sem, Nat.reduceBEq, Nat.reduceAdd]; refine hk _ _ ?_; clear hk k) | refine wkt rfl ?_)); (try refine wk0 ?_); refine cN rfl rfl rfl rfl (by exact least_spec h1.num h3.num (up36 (ls.1 _ rfl)) (up36 (lt.1 _ rfl))) ?_; rintro v1 g1 _ f1; obtain ⟨v1_0, v1_1, v1_2, v1_3, v1_4, v1_5, v1_6, rfl, f1⟩ := f1.sa; (repeat (first | (refine wo rfl (fun k hk => ?_); simp (disch := omega) only [go_sem, Nat.reduceBEq, Nat.reduceAdd]; refine hk _ _ ?_; clear hk k) | refine wkt rfl ?_)); (try refine wk0 ?_); (try (simp (disch := omega) only [go_sem, Nat.reduceBEq, Nat.reduceAdd])); refine hK _ _ ?_; clear hK; (try clear K); (try dsimp only [behind, qs]); repeat (first | (refine rg rfl rfl (fun K hK => ?_); (repeat (first | (refine wo rfl (fun k hk => ?_); simp (disch := omega) only [go_sem, Nat.reduceBEq, Nat.reduceAdd]; refine hk _ _ ?_; clear hk k) | refine wkt rfl ?_)); (try refine wk0 ?_); refine hK _ _ ?_; clear hK K; (try dsimp only [behind, qs, qb])) | ((first | refine AWP_exit ?_ | refine AWP_skip ?_); simp (disch := decide) only [qs, qb, if_true, if_false, reduceIte]) | refine AWP_sq rfl (fun K hK => ?_) | refine ct rfl ?_ | ((first | refine hK _ _ ?_ | (clear hK; refine hK _ _ ?_) | (clear hK; clear hK; refine hK _ _ ?_)); clear hK; (try clear K))))
    try (refine rg rfl rfl (fun K hK => ?_); (repeat (first | (refine wo rfl (fun k hk => ?_); simp (disch := omega) only [go_sem, Nat.reduceBEq, Nat.reduceAdd]; refine hk _ _ ?_; clear hk k) | refine wkt rfl ?_)); (try refine wk0 ?_); refine cN rfl rfl rfl rfl (by exact greatest_spec h2.num h4.num (up36 (ls.2 _ rfl)) (up36 (lt.2 _ rfl))) ?_; rintro v2 g2 _ f2; obtain ⟨v2_0, v2_1, v2_2, v2_3, v2_4, v2_5, v2_6, rfl, f2⟩ := f2.sa; (repeat (first | (refine wo rfl (fun k hk => ?_); simp (disch := omega) only [go_sem, Nat.reduceBEq, Nat.reduceAdd]; refine hk _ _ ?_; clear hk k) | refine wkt rfl ?_)); (try refine wk0 ?_); (try (simp (disch := omega) only [go_sem, Nat.reduceBEq, Nat.reduceAdd])); refine hK _ _ ?_; clear hK; (try clear K); (try dsimp only [behind, qs]); repeat (first | (refine rg rfl rfl (fun K hK => ?_); (repeat (first | (refine wo rfl (fun k hk => ?_); simp (disch := omega) only [go_sem, Nat.reduceBEq, Nat.reduceAdd]; refine hk _ _ ?_; clear hk k) | refine wkt rfl ?_)); (try refine wk0 ?_); refine hK _ _ ?_; clear hK K; (try dsimp only [behind, qs, qb])) | ((first | refine AWP_exit ?_ | refine AWP_skip ?_); simp (disch := decide) only [qs, qb, if_true, if_false, reduceIte]) | refine AWP_sq rfl (fun K hK => ?_) | refine ct rfl ?_ | ((first | refine hK _ _ ?_ | (clear hK; refine hK _ _ ?_) | (clear hK; clear hK; refine hK _ _ ?_)); clear hK; (try clear K))))
    refine AWP_ret ?_; simp (disch := omega) only [go_sem, Nat.reduceBEq, Nat.reduceAdd]
    exact ⟨_, _, _, _, _, _, rfl, by first | exact (En.of f1).to | exact En.nil _, by first | exact (En.of f2).to | exact En.nil _⟩
theorem joined_e1 {h0 h : PH} [Le h0 h] {v w : Value} {y : NS} (hs : Sn h0 v .e) (ht : Sn h0 w y) : Spec mach 106 #[v, w] h (fun v h' => Sn h' v y) NP := by
  obtain ⟨b1, a1, m1, c1, a2, m2, c2, b2, a3, m3, c3, a4, m4, c4, l, u, rfl, h1, h2⟩ := hs.ee
  obtain ⟨b1', a1', m1', c1', a2', m2', c2', b2', a3', m3', c3', a4', m4', c4', l', u', rfl, ht⟩ := ht.sa
  refine Spec.enter (args := [_, _]) (n := 46) Tryz.func106 rfl (by kernel_rfl) rfl (by simp) [.cell 4 43] rfl (fun C _ => ?_)
  repeat (first | (refine wo rfl (fun k hk => ?_); simp (disch := omega) only [go_sem, Nat.reduceBEq, Nat.reduceAdd]; refine hk _ _ ?_; clear hk k) | refine wkt rfl ?_ | refine wk0 ?_ | refine rg rfl rfl (fun K hK => ?_) | ((first | refine AWP_exit ?_ | refine AWP_skip ?_); simp (disch := decide) only [qs, qb, if_true, if_false, reduceIte]) | refine AWP_sq rfl (fun K hK => ?_) | refine ct rfl ?_ | ((try simp (disch := omega) only [go_sem, Nat.reduceBEq, Nat.reduceAdd]); (first | apply hK | (clear hK; apply hK) | (clear hK; clear hK; apply hK)); clear hK; (try clear K); (try dsimp only [behind, qs, qb])))
  refine AWP_ret ?_; simp (disch := omega) only [go_sem, Nat.reduceBEq, Nat.reduceAdd]
  exact ht.to
theorem joined_e2 {h0 h : PH} [Le h0 h] {v w : Value} {a b : Option Rat} (hs : Sn h0 v (.i a b)) (ht : Sn h0 w .e) : Spec mach 106 #[v, w] h (fun v h' => Sn h' v (.i a b)) NP := by
  obtain ⟨b1, a1, m1, c1, a2, m2, c2, b2, a3, m3, c3, a4, m4, c4, l, u, rfl, hs⟩ := hs.sa
  obtain ⟨b1', a1', m1', c1', a2', m2', c2', b2', a3', m3', c3', a4', m4', c4', l', u', rfl, h3, h4⟩ := ht.ee
  dsimp only [NS.void] at hs ⊢
  refine Spec.enter (args := [_, _]) (n := 46) Tryz.func106 rfl (by kernel_rfl) rfl (by simp) [.cell 4 43] rfl (fun C _ => ?_)
  repeat (first | (refine wo rfl (fun k hk => ?_); simp (disch := omega) only [go_sem, Nat.reduceBEq, Nat.reduceAdd]; refine hk _ _ ?_; clear hk k) | refine wkt rfl ?_ | refine wk0 ?_ | refine rg rfl rfl (fun K hK => ?_) | ((first | refine AWP_exit ?_ | refine AWP_skip ?_); simp (disch := decide) only [qs, qb, if_true, if_false, reduceIte]) | refine AWP_sq rfl (fun K hK => ?_) | refine ct rfl ?_ | ((try simp (disch := omega) only [go_sem, Nat.reduceBEq, Nat.reduceAdd]); (first | apply hK | (clear hK; apply hK) | (clear hK; clear hK; apply hK)); clear hK; (try clear K); (try dsimp only [behind, qs, qb])))
  refine AWP_ret ?_; simp (disch := omega) only [go_sem, Nat.reduceBEq, Nat.reduceAdd]
  exact hs.to
theorem Joined_set {h0 h : PH} [Le h0 h] {v w : Value} {x y : NS} (hs : Sn h0 v x) (ht : Sn h0 w y) (ls : x.le (2 ^ 30)) (lt : y.le (2 ^ 30)) : Spec mach 106 #[v, w] h (fun v h' => Sn h' v (x.joined y)) NP := by
  cases x with
  | e => exact joined_e1 hs ht
  | i a b => cases y with
    | e => exact joined_e2 hs ht
    | i c d => exact joined_set hs ht ls lt
end Go.Q
