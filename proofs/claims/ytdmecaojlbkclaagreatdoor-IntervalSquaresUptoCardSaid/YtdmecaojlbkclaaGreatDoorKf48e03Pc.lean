/-
  Contracts of package interval: the product of two sets; what Mul returns. Conditions: the values denote the intervals named, their ends of at most 2048 binary digits.
-/
import Derived.Test.YtdmecaojlbkclaaGreatDoorKf7afacPb
set_option linter.unusedVariables false
set_option linter.unusedSimpArgs false
namespace Go.Q
open Go.Proofs
set_option maxRecDepth 100000
set_option maxHeartbeats 16000000
theorem NS.le30' {x : NS} (h : x.le 4096) : x.le (2 ^ 30) := h.up (by decide)
theorem Pt.up {z : Pt} {k m : Nat} (h : z.le k) (hm : k ≤ m) : z.le m := by
  cases z with
  | fin q => exact Nat.le_trans h hm
  | inf u => trivial
theorem lowP_le {a : Option Rat} {k : Nat} (h : ∀ q, a = some q → sz q ≤ k) : (lowP a).le k := by
  cases a with
  | none => trivial
  | some q => exact h q rfl
theorem highP_le {a : Option Rat} {k : Nat} (h : ∀ q, a = some q → sz q ≤ k) : (highP a).le k := by
  cases a with
  | none => trivial
  | some q => exact h q rfl
theorem Product_spec {h0 h : PH} [Le h0 h] {v w : Value} {a b c d : Option Rat} (hs : Sn h0 v (.i a b)) (ht : Sn h0 w (.i c d)) (ls : (NS.i a b).le 2048) (lt : (NS.i c d).le 2048) :
    Spec mach 51 #[v, w] h (fun v h' => Sn h' v ((NS.i a b).prod (.i c d))) NP := by
  rw [NS.le_i] at ls lt
  have la0 := lowP_le ls.1
  have lb0 := highP_le ls.2
  have lc0 := lowP_le lt.1
  have ld0 := highP_le lt.2
  have la := Pt.up (m := 2 ^ 30) la0 (by decide)
  have lb := Pt.up (m := 2 ^ 30) lb0 (by decide)
  have lc := Pt.up (m := 2 ^ 30) lc0 (by decide)
  have ld := Pt.up (m := 2 ^ 30) ld0 (by decide)
  have kA := fun {h} [Le h0 h] => Ends_spec (h := h) hs
  have kB := fun {h} [Le h0 h] => Ends_spec (h := h) ht
  have he := outer_e (a := a) (b := b) (c := c) (d := d)
  obtain ⟨b1, a1, m1, c1, a2, m2, c2, b2, a3, m3, c3, a4, m4, c4, rfl, _, _⟩ := hs.ie
  obtain ⟨b1', a1', m1', c1', a2', m2', c2', b2', a3', m3', c3', a4', m4', c4', rfl, _, _⟩ := ht.ie
  show Spec _ _ _ _ (fun v h' => Sn h' v (fin3 (outer (lowP a) (highP b) (lowP c) (highP d) 2))) _
  generalize lowP a = x1 at *
  generalize highP b = x2 at *
  generalize lowP c = y1 at *
  generalize highP d = y2 at *
  refine Spec.enter (args := [_, _]) (n := 46) Tryz.func51 rfl (by kernel_rfl) rfl (by simp) [.cell 4 43] rfl (fun C _ => ?_)
  repeat (first | (refine wo rfl (fun k hk => ?_); simp (disch := omega) only [go_sem, Nat.reduceBEq, Nat.reduceAdd]; refine hk _ _ ?_; clear hk k) | refine wkt rfl ?_ | refine wk0 ?_ | refine rg rfl rfl (fun K hK => ?_) | refine rd [.o 0, .o 1, .o 2, .o 3, .o 4, .o 5] rfl (by decide +kernel) rfl (fun K hK => ?_) | ((first | refine AWP_exit ?_ | refine AWP_skip ?_); simp (disch := decide) only [qs, qb, if_true, if_false, reduceIte]) | refine AWP_sq rfl (fun K hK => ?_) | refine ct rfl ?_ | ((try simp (disch := omega) only [go_sem, Nat.reduceBEq, Nat.reduceAdd]); (first | apply hK | (clear hK; apply hK) | (clear hK; clear hK; apply hK)); clear hK; (try clear K); (try dsimp only [behind, qs, qb])))
  refine cN rfl rfl rfl rfl (by exact kA) ?_; rintro w1 h1 s1 zz1; obtain ⟨p1, p2, p3, p4, p5, p6, p7, q1, q2, q3, q4, q5, q6, q7, rfl, ea, eb⟩ := zz1
  repeat (first | (refine wo rfl (fun k hk => ?_); simp (disch := omega) only [go_sem, Nat.reduceBEq, Nat.reduceAdd]; refine hk _ _ ?_; clear hk k) | refine wkt rfl ?_ | refine wk0 ?_ | refine rg rfl rfl (fun K hK => ?_) | refine rd [.o 0, .o 1, .o 2, .o 3, .o 4, .o 5] rfl (by decide +kernel) rfl (fun K hK => ?_) | ((first | refine AWP_exit ?_ | refine AWP_skip ?_); simp (disch := decide) only [qs, qb, if_true, if_false, reduceIte]) | refine AWP_sq rfl (fun K hK => ?_) | refine ct rfl ?_ | ((try simp (disch := omega) only [go_sem, Nat.reduceBEq, Nat.reduceAdd]); (first | apply hK | (clear hK; apply hK) | (clear hK; clear hK; apply hK)); clear hK; (try clear K); (try dsimp only [behind, qs, qb])))
  refine AWP_loopS (fun x : Nat × List Value × Bool × Bool => ⟨[(3, .p 1 0), (4, .p 2 0), (5, .p 3 0), (6, .v (.bool x.2.2.1)), (7, .v (.bool x.2.2.2)), (15, .v (.agg #[.bool p1, .slice p2 p3 p4, .slice p5 p6 p7, .int .i64 x1.side, .bool q1, .slice q2 q3 q4, .slice q5 q6 q7, .int .i64 x2.side])), (16, .v (.int .i64 x.1))], [[.bool b1, .slice a1 m1 c1, .slice a2 m2 c2, .bool b2, .slice a3 m3 c3, .slice a4 m4 c4, .bool a.isNone, .bool b.isNone, .bool false], [.bool b1', .slice a1' m1' c1', .slice a2' m2' c2', .bool b2', .slice a3' m3' c3', .slice a4' m4' c4', .bool c.isNone, .bool d.isNone, .bool false], [.bool false, .slice none 0 0, .slice none 0 0, .bool false, .slice none 0 0, .slice none 0 0, .bool false, .bool false, .bool false], x.2.1]⟩)
    (fun x h' => Le h1 h' ∧ x.1 ≤ 2 ∧ ∃ J, Sn h' (.agg x.2.1.toArray) J ∧ NS.pts 4096 (J, x.2.2.1, x.2.2.2) ∧ outer x1 x2 y1 y2 x.1 = (J, x.2.2.1, x.2.2.2))
    (fun x => 2 - x.1) (0, [.bool false, .slice none 0 0, .slice none 0 0, .bool false, .slice none 0 0, .slice none 0 0, .bool false, .bool false, .bool true], false, false) [0, 1, 2, 3] ?_ ⟨inferInstance, by decide, .e, ⟨_, _, _, _, _, _, _, _, rfl, En.nil _, En.nil _⟩, ⟨trivial, rfl, .inl rfl⟩, rfl⟩ ?_
  · simp (disch := omega) only [go_sem, Nat.reduceBEq, Nat.reduceAdd, nodupB]
  rintro ⟨i, cs, lo, hi⟩ h2 ⟨le2, hi2, J, hJ, hpt, hacc⟩
  have leh : Le h0 h2 := Le.tr inferInstance le2
  dsimp only at *
  obtain ⟨g1, g2, g3, g4, g5, g6, g7, g8, g9, ga, gb, gc, gd, ge, gl, gu, gv, rfl⟩ : ∃ g1 g2 g3 g4 g5 g6 g7 g8 g9 ga gb gc gd ge gl gu gv, cs = [.bool g1, .slice g2 g3 g4, .slice g5 g6 g7, .bool g8, .slice g9 ga gb, .slice gc gd ge, .bool gl, .bool gu, .bool gv] := by
    obtain ⟨_, _, _, _, _, _, _, _, _, _, _, _, _, _, _, _, e, _⟩ := hJ.sa
    simp only [Value.agg.injEq, Array.mk.injEq] at e
    exact ⟨_, _, _, _, _, _, _, _, _, _, _, _, _, _, _, _, _, e⟩
  obtain rfl | rfl | rfl : i = 2 ∨ i = 0 ∨ i = 1 := by omega
  · rw [hacc] at he
    repeat (first | (refine wo rfl (fun k hk => ?_); simp (disch := omega) only [go_sem, Nat.reduceBEq, Nat.reduceAdd]; refine hk _ _ ?_; clear hk k) | refine wkt rfl ?_ | refine wk0 ?_ | refine rg rfl rfl (fun K hK => ?_) | refine rd [.o 0, .o 1, .o 2, .o 3, .o 4, .o 5] rfl (by decide +kernel) rfl (fun K hK => ?_) | ((first | refine AWP_exit ?_ | refine AWP_skip ?_); simp (disch := decide) only [qs, qb, if_true, if_false, reduceIte]) | refine AWP_sq rfl (fun K hK => ?_) | refine ct rfl ?_ | ((try simp (disch := omega) only [go_sem, Nat.reduceBEq, Nat.reduceAdd]); (first | apply hK | (clear hK; apply hK) | (clear hK; clear hK; apply hK)); clear hK; (try clear K); (try dsimp only [behind, qs, qb])))
    refine AWP_ret ?_; simp (disch := omega) only [go_sem, Nat.reduceBEq, Nat.reduceAdd]
    rw [hacc]
    cases J with
    | e =>
      obtain ⟨rfl, rfl⟩ : lo = true ∧ hi = true := by have := he rfl; simpa using this
      obtain ⟨_, _, _, _, _, _, _, _, e, j1, j2⟩ := hJ
      simp only [Value.agg.injEq, Array.mk.injEq, List.cons.injEq, and_true, Value.bool.injEq] at e
      obtain ⟨rfl, rfl, rfl, rfl, rfl, rfl, _⟩ := e
      exact ⟨_, _, _, _, _, _, rfl, j1, j2⟩
    | i l u =>
      obtain ⟨_, _, _, _, _, _, e, j1, j2⟩ := hJ
      simp only [Value.agg.injEq, Array.mk.injEq, List.cons.injEq, and_true, Value.bool.injEq] at e
      obtain ⟨rfl, rfl, rfl, rfl, rfl, rfl, _⟩ := e
      obtain ⟨l, u, e⟩ := hpt.2.2.resolve_left (fun k => by cases k)
      cases e
      cases lo <;> cases hi <;> exact ⟨_, _, _, _, _, _, rfl, by first | exact j1 | exact j1.junk, by first | exact j2 | exact j2.junk⟩
  · repeat (first | (refine wo rfl (fun k hk => ?_); simp (disch := omega) only [go_sem, Nat.reduceBEq, Nat.reduceAdd]; refine hk _ _ ?_; clear hk k) | refine wkt rfl ?_ | refine wk0 ?_ | refine rg rfl rfl (fun K hK => ?_) | refine rd [.o 0, .o 1, .o 2, .o 3, .o 4, .o 5] rfl (by decide +kernel) rfl (fun K hK => ?_) | ((first | refine AWP_exit ?_ | refine AWP_skip ?_); simp (disch := decide) only [qs, qb, if_true, if_false, reduceIte]) | refine AWP_sq rfl (fun K hK => ?_) | refine ct rfl ?_ | ((try simp (disch := omega) only [go_sem, Nat.reduceBEq, Nat.reduceAdd]); (first | apply hK | (clear hK; apply hK) | (clear hK; clear hK; apply hK)); clear hK; (try clear K); (try dsimp only [behind, qs, qb])))
    refine cN rfl rfl rfl rfl (by exact kB) ?_; rintro w3 h3 s3 zz3; obtain ⟨r1, r2, r3, r4, r5, r6, r7, t1, t2, t3, t4, t5, t6, t7, rfl, ec, ed⟩ := zz3
    repeat (first | (refine wo rfl (fun k hk => ?_); simp (disch := omega) only [go_sem, Nat.reduceBEq, Nat.reduceAdd]; refine hk _ _ ?_; clear hk k) | refine wkt rfl ?_ | refine wk0 ?_ | ((first | refine rg rfl rfl (fun K hK => ?_) | refine rd [.o 0, .o 1, .o 2, .o 3, .o 4, .o 5] rfl (by decide +kernel) rfl (fun K hK => ?_)); (repeat (first | (refine wo rfl (fun k hk => ?_); simp (disch := omega) only [go_sem, Nat.reduceBEq, Nat.reduceAdd]; refine hk _ _ ?_; clear hk k) | refine wkt rfl ?_ | refine wk0 ?_)); (first | apply hK | (clear hK; apply hK) | (clear hK; clear hK; apply hK)); clear hK; (try clear K); (try dsimp only [behind, qs, qb])) | ((first | refine AWP_exit ?_ | refine AWP_skip ?_); simp (disch := decide) only [qs, qb, if_true, if_false, reduceIte]) | refine AWP_sq rfl (fun K hK => ?_) | refine ct rfl ?_ | ((try simp (disch := omega) only [go_sem, Nat.reduceBEq, Nat.reduceAdd]); (first | apply hK | (clear hK; apply hK) | (clear hK; clear hK; apply hK)); clear hK; (try clear K); (try dsimp only [behind, qs, qb])))
    have eX := ea.to (h' := h3)
    have hO : outer x1 x2 y1 y2 (0 + 1) = inn x1 y1 y2 (J, lo, hi) 2 := by rw [← hacc]; rfl
    have lX : x1.le (2 ^ 30) := la
    have lX0 : x1.le 2048 := la0
    obtain ⟨o, ho⟩ : ∃ o, (J, lo, hi) = o := ⟨_, rfl⟩
    rw [ho] at hO
    refine AWP_loopS (fun x : Nat × List Value × Bool × Bool => ⟨[(3, .p 1 0), (4, .p 2 0), (5, .p 3 0), (6, .v (.bool x.2.2.1)), (7, .v (.bool x.2.2.2)), (9, .p 4 0), (15, .v (.agg #[.bool p1, .slice p2 p3 p4, .slice p5 p6 p7, .int .i64 x1.side, .bool q1, .slice q2 q3 q4, .slice q5 q6 q7, .int .i64 x2.side])), (16, .v (.int .i64 0)), (20, .v (.agg #[.bool r1, .slice r2 r3 r4, .slice r5 r6 r7, .int .i64 y1.side, .bool t1, .slice t2 t3 t4, .slice t5 t6 t7, .int .i64 y2.side])), (21, .v (.int .i64 x.1))], [[.bool b1, .slice a1 m1 c1, .slice a2 m2 c2, .bool b2, .slice a3 m3 c3, .slice a4 m4 c4, .bool a.isNone, .bool b.isNone, .bool false], [.bool b1', .slice a1' m1' c1', .slice a2' m2' c2', .bool b2', .slice a3' m3' c3', .slice a4' m4' c4', .bool c.isNone, .bool d.isNone, .bool false], [.bool false, .slice none 0 0, .slice none 0 0, .bool false, .slice none 0 0, .slice none 0 0, .bool false, .bool false, .bool false], x.2.1, [.bool p1, .slice p2 p3 p4, .slice p5 p6 p7, .int .i64 x1.side]]⟩)
      (fun x h' => Le h3 h' ∧ x.1 ≤ 2 ∧ ∃ J, Sn h' (.agg x.2.1.toArray) J ∧ NS.pts 4096 (J, x.2.2.1, x.2.2.2) ∧ inn x1 y1 y2 o x.1 = (J, x.2.2.1, x.2.2.2))
      (fun x => 2 - x.1) (0, _, lo, hi) [0, 1, 2, 3, 4] ?_ ⟨inferInstance, (show 0 ≤ 2 by decide), J, hJ.to (h' := h3), hpt, ho.symm⟩ ?_
    · simp (disch := omega) only [go_sem, Nat.reduceBEq, Nat.reduceAdd, nodupB]
    clear hJ hpt hacc ho J lo hi
    rintro ⟨j, cs, lo, hi⟩ h4 ⟨le4, hj, J, hJ, hpt, hacc⟩
    dsimp only at *
    generalize hX : x1 = X at *
    obtain ⟨k1, k2, k3, k4, k5, k6, k7, k8, k9, ka, kb, kc, kd, ke, kl, ku, kv, rfl⟩ : ∃ k1 k2 k3 k4 k5 k6 k7 k8 k9 ka kb kc kd ke kl ku kv, cs = [.bool k1, .slice k2 k3 k4, .slice k5 k6 k7, .bool k8, .slice k9 ka kb, .slice kc kd ke, .bool kl, .bool ku, .bool kv] := by
      obtain ⟨_, _, _, _, _, _, _, _, _, _, _, _, _, _, _, _, e, _⟩ := hJ.sa
      simp only [Value.agg.injEq, Array.mk.injEq] at e
      exact ⟨_, _, _, _, _, _, _, _, _, _, _, _, _, _, _, _, _, e⟩
    obtain rfl | rfl | rfl : j = 2 ∨ j = 0 ∨ j = 1 := by omega
    · repeat (first | (refine wo rfl (fun k hk => ?_); simp (disch := omega) only [go_sem, Nat.reduceBEq, Nat.reduceAdd]; refine hk _ _ ?_; clear hk k) | refine wkt rfl ?_ | refine wk0 ?_ | refine rg rfl rfl (fun K hK => ?_) | refine rd [.o 0, .o 1, .o 2, .o 3, .o 4, .o 5] rfl (by decide +kernel) rfl (fun K hK => ?_) | ((first | refine AWP_exit ?_ | refine AWP_skip ?_); simp (disch := decide) only [qs, qb, if_true, if_false, reduceIte]) | refine AWP_sq rfl (fun K hK => ?_) | refine ct rfl ?_ | ((try simp (disch := omega) only [go_sem, Nat.reduceBEq, Nat.reduceAdd]); (first | apply hK | (clear hK; apply hK) | (clear hK; clear hK; apply hK)); clear hK; (try clear K); (try dsimp only [behind, qs, qb])))
      refine ⟨(0 + 1, _, lo, hi), [0, 1, 2, 3], ?_, ⟨Le.tr le2 (Le.tr inferInstance le4), (show 0 + 1 ≤ 2 by decide), J, hJ, hpt, by rw [hO]; exact hacc⟩, (show 2 - (0 + 1) < 2 - 0 by decide)⟩
      simp (disch := omega) only [go_sem, Nat.reduceBEq, Nat.reduceAdd, nodupB]
      all_goals rfl
    · repeat (first | (refine wo rfl (fun k hk => ?_); simp (disch := omega) only [go_sem, Nat.reduceBEq, Nat.reduceAdd]; refine hk _ _ ?_; clear hk k) | refine wkt rfl ?_ | refine wk0 ?_ | refine rg rfl rfl (fun K hK => ?_) | refine rd [.o 0, .o 1, .o 2, .o 3, .o 4, .o 5] rfl (by decide +kernel) rfl (fun K hK => ?_) | ((first | refine AWP_exit ?_ | refine AWP_skip ?_); simp (disch := decide) only [qs, qb, if_true, if_false, reduceIte]) | refine AWP_sq rfl (fun K hK => ?_) | refine ct rfl ?_ | ((try simp (disch := omega) only [go_sem, Nat.reduceBEq, Nat.reduceAdd]); (first | apply hK | (clear hK; apply hK) | (clear hK; clear hK; apply hK)); clear hK; (try clear K); (try dsimp only [behind, qs, qb])))
      refine cN rfl rfl rfl rfl (by exact Times_spec (eX.to (h' := h4)) (ec.to (h' := h4)) lX lc) ?_; rintro w5 h5 s5 zz5; obtain ⟨f1, f2, f3, f4, f5, f6, f7, rfl, zz5c⟩ := zz5.sa
      repeat (first | (refine wo rfl (fun k hk => ?_); simp (disch := omega) only [go_sem, Nat.reduceBEq, Nat.reduceAdd]; refine hk _ _ ?_; clear hk k) | refine wkt rfl ?_ | refine wk0 ?_ | ((first | refine rg rfl rfl (fun K hK => ?_) | refine rd [.o 0, .o 1, .o 2, .o 3, .o 4, .o 5] rfl (by decide +kernel) rfl (fun K hK => ?_)); (repeat (first | (refine wo rfl (fun k hk => ?_); simp (disch := omega) only [go_sem, Nat.reduceBEq, Nat.reduceAdd]; refine hk _ _ ?_; clear hk k) | refine wkt rfl ?_ | refine wk0 ?_)); (first | apply hK | (clear hK; apply hK) | (clear hK; clear hK; apply hK)); clear hK; (try clear K); (try dsimp only [behind, qs, qb])) | ((first | refine AWP_exit ?_ | refine AWP_skip ?_); simp (disch := decide) only [qs, qb, if_true, if_false, reduceIte]) | refine AWP_sq rfl (fun K hK => ?_) | refine ct rfl ?_ | ((try simp (disch := omega) only [go_sem, Nat.reduceBEq, Nat.reduceAdd]); (first | apply hK | (clear hK; apply hK) | (clear hK; clear hK; apply hK)); clear hK; (try clear K); (try dsimp only [behind, qs, qb])))
      have lz := mul_le lX0 lc0 (by decide)
      have hz : inn X y1 y2 o (0 + 1) = stp (J, lo, hi) (X.mul y1) := by rw [← hacc]; rfl
      generalize X.mul y1 = z at *
      cases z with
      | fin q =>
        dsimp only [Pt.side] at *
        repeat (first | (refine wo rfl (fun k hk => ?_); simp (disch := omega) only [go_sem, Nat.reduceBEq, Nat.reduceAdd]; refine hk _ _ ?_; clear hk k) | refine wkt rfl ?_ | refine wk0 ?_ | refine rg rfl rfl (fun K hK => ?_) | refine rd [.o 0, .o 1, .o 2, .o 3, .o 4, .o 5] rfl (by decide +kernel) rfl (fun K hK => ?_) | ((first | refine AWP_exit ?_ | refine AWP_skip ?_); simp (disch := decide) only [qs, qb, if_true, if_false, reduceIte]) | refine AWP_sq rfl (fun K hK => ?_) | refine ct rfl ?_ | ((try simp (disch := omega) only [go_sem, Nat.reduceBEq, Nat.reduceAdd]); (first | apply hK | (clear hK; apply hK) | (clear hK; clear hK; apply hK)); clear hK; (try clear K); (try dsimp only [behind, qs, qb])))
        refine cN rfl rfl rfl rfl (by exact one_set zz5c.num) ?_; rintro w6 h6 st_h6 zz6; obtain ⟨w6_0, w6_1, w6_2, w6_3, w6_4, w6_5, w6_6, w6_7, w6_8, w6_9, w6_10, w6_11, w6_12, w6_13, w6_14, w6_15, rfl, zz6⟩ := zz6.sa; (repeat (first | (refine wo rfl (fun k hk => ?_); simp (disch := omega) only [go_sem, Nat.reduceBEq, Nat.reduceAdd]; refine hk _ _ ?_; clear hk k) | refine wkt rfl ?_)); (try refine wk0 ?_)
        refine cN rfl rfl rfl rfl (by exact Joined_set (hJ.to (h' := h6)) zz6 (NS.le30' hpt.2.1) (NS.le30' (le_pt lz))) ?_; rintro w7 h7 st_h7 zz7; obtain ⟨w7_0, w7_1, w7_2, w7_3, w7_4, w7_5, w7_6, w7_7, w7_8, w7_9, w7_10, w7_11, w7_12, w7_13, w7_14, w7_15, rfl, zz7⟩ := zz7.sa
        repeat (first | (refine wo rfl (fun k hk => ?_); simp (disch := omega) only [go_sem, Nat.reduceBEq, Nat.reduceAdd]; refine hk _ _ ?_; clear hk k) | refine wkt rfl ?_ | refine wk0 ?_ | refine rg rfl rfl (fun K hK => ?_) | refine rd [.o 0, .o 1, .o 2, .o 3, .o 4, .o 5] rfl (by decide +kernel) rfl (fun K hK => ?_) | ((first | refine AWP_exit ?_ | refine AWP_skip ?_); simp (disch := decide) only [qs, qb, if_true, if_false, reduceIte]) | refine AWP_sq rfl (fun K hK => ?_) | refine ct rfl ?_ | ((try simp (disch := omega) only [go_sem, Nat.reduceBEq, Nat.reduceAdd]); (first | apply hK | (clear hK; apply hK) | (clear hK; clear hK; apply hK)); clear hK; (try clear K); (try dsimp only [behind, qs, qb])))
        refine ⟨(0 + 1, _, lo, hi), [0, 1, 2, 3, 4], ?_, ⟨inferInstance, (show 0 + 1 ≤ 2 by decide), _, zz7, stp_pts (z := .fin q) hpt lz, hz⟩, (show 2 - (0 + 1) < 2 - 0 by decide)⟩
        simp (disch := omega) only [go_sem, Nat.reduceBEq, Nat.reduceAdd, nodupB]
        all_goals rfl
      | inf up =>
        cases up with
        | true =>
          dsimp only [Pt.side] at *
          simp only [if_true, if_false, Bool.false_eq_true, reduceIte] at *
          repeat (first | (refine wo rfl (fun k hk => ?_); simp (disch := omega) only [go_sem, Nat.reduceBEq, Nat.reduceAdd]; refine hk _ _ ?_; clear hk k) | refine wkt rfl ?_ | refine wk0 ?_ | refine rg rfl rfl (fun K hK => ?_) | refine rd [.o 0, .o 1, .o 2, .o 3, .o 4, .o 5] rfl (by decide +kernel) rfl (fun K hK => ?_) | ((first | refine AWP_exit ?_ | refine AWP_skip ?_); simp (disch := decide) only [qs, qb, if_true, if_false, reduceIte]) | refine AWP_sq rfl (fun K hK => ?_) | refine ct rfl ?_ | ((try simp (disch := omega) only [go_sem, Nat.reduceBEq, Nat.reduceAdd]); (first | apply hK | (clear hK; apply hK) | (clear hK; clear hK; apply hK)); clear hK; (try clear K); (try dsimp only [behind, qs, qb])))
          refine ⟨(0 + 1, _, lo, true), [0, 1, 2, 3, 4], ?_, ⟨inferInstance, (show 0 + 1 ≤ 2 by decide), _, hJ.to (h' := h5), hpt, hz⟩, (show 2 - (0 + 1) < 2 - 0 by decide)⟩
          simp (disch := omega) only [go_sem, Nat.reduceBEq, Nat.reduceAdd, nodupB]
          all_goals rfl
        | false =>
          dsimp only [Pt.side] at *
          simp only [if_true, if_false, Bool.false_eq_true, reduceIte] at *
          repeat (first | (refine wo rfl (fun k hk => ?_); simp (disch := omega) only [go_sem, Nat.reduceBEq, Nat.reduceAdd]; refine hk _ _ ?_; clear hk k) | refine wkt rfl ?_ | refine wk0 ?_ | refine rg rfl rfl (fun K hK => ?_) | refine rd [.o 0, .o 1, .o 2, .o 3, .o 4, .o 5] rfl (by decide +kernel) rfl (fun K hK => ?_) | ((first | refine AWP_exit ?_ | refine AWP_skip ?_); simp (disch := decide) only [qs, qb, if_true, if_false, reduceIte]) | refine AWP_sq rfl (fun K hK => ?_) | refine ct rfl ?_ | ((try simp (disch := omega) only [go_sem, Nat.reduceBEq, Nat.reduceAdd]); (first | apply hK | (clear hK; apply hK) | (clear hK; clear hK; apply hK)); clear hK; (try clear K); (try dsimp only [behind, qs, qb])))
          refine ⟨(0 + 1, _, true, hi), [0, 1, 2, 3, 4], ?_, ⟨inferInstance, (show 0 + 1 ≤ 2 by decide), _, hJ.to (h' := h5), hpt, hz⟩, (show 2 - (0 + 1) < 2 - 0 by decide)⟩
          simp (disch := omega) only [go_sem, Nat.reduceBEq, Nat.reduceAdd, nodupB]
          all_goals rfl
    · repeat (first | (refine wo rfl (fun k hk => ?_); simp (disch := omega) only [go_sem, Nat.reduceBEq, Nat.reduceAdd]; refine hk _ _ ?_; clear hk k) | refine wkt rfl ?_ | refine wk0 ?_ | refine rg rfl rfl (fun K hK => ?_) | refine rd [.o 0, .o 1, .o 2, .o 3, .o 4, .o 5] rfl (by decide +kernel) rfl (fun K hK => ?_) | ((first | refine AWP_exit ?_ | refine AWP_skip ?_); simp (disch := decide) only [qs, qb, if_true, if_false, reduceIte]) | refine AWP_sq rfl (fun K hK => ?_) | refine ct rfl ?_ | ((try simp (disch := omega) only [go_sem, Nat.reduceBEq, Nat.reduceAdd]); (first | apply hK | (clear hK; apply hK) | (clear hK; clear hK; apply hK)); clear hK; (try clear K); (try dsimp only [behind, qs, qb])))
      refine cN rfl rfl rfl rfl (by exact Times_spec (eX.to (h' := h4)) (ed.to (h' := h4)) lX ld) ?_; rintro w5 h5 s5 zz5; obtain ⟨f1, f2, f3, f4, f5, f6, f7, rfl, zz5c⟩ := zz5.sa
      repeat (first | (refine wo rfl (fun k hk => ?_); simp (disch := omega) only [go_sem, Nat.reduceBEq, Nat.reduceAdd]; refine hk _ _ ?_; clear hk k) | refine wkt rfl ?_ | refine wk0 ?_ | ((first | refine rg rfl rfl (fun K hK => ?_) | refine rd [.o 0, .o 1, .o 2, .o 3, .o 4, .o 5] rfl (by decide +kernel) rfl (fun K hK => ?_)); (repeat (first | (refine wo rfl (fun k hk => ?_); simp (disch := omega) only [go_sem, Nat.reduceBEq, Nat.reduceAdd]; refine hk _ _ ?_; clear hk k) | refine wkt rfl ?_ | refine wk0 ?_)); (first | apply hK | (clear hK; apply hK) | (clear hK; clear hK; apply hK)); clear hK; (try clear K); (try dsimp only [behind, qs, qb])) | ((first | refine AWP_exit ?_ | refine AWP_skip ?_); simp (disch := decide) only [qs, qb, if_true, if_false, reduceIte]) | refine AWP_sq rfl (fun K hK => ?_) | refine ct rfl ?_ | ((try simp (disch := omega) only [go_sem, Nat.reduceBEq, Nat.reduceAdd]); (first | apply hK | (clear hK; apply hK) | (clear hK; clear hK; apply hK)); clear hK; (try clear K); (try dsimp only [behind, qs, qb])))
      have lz := mul_le lX0 ld0 (by decide)
      have hz : inn X y1 y2 o (1 + 1) = stp (J, lo, hi) (X.mul y2) := by rw [← hacc]; rfl
      generalize X.mul y2 = z at *
      cases z with
      | fin q =>
        dsimp only [Pt.side] at *
        repeat (first | (refine wo rfl (fun k hk => ?_); simp (disch := omega) only [go_sem, Nat.reduceBEq, Nat.reduceAdd]; refine hk _ _ ?_; clear hk k) | refine wkt rfl ?_ | refine wk0 ?_ | refine rg rfl rfl (fun K hK => ?_) | refine rd [.o 0, .o 1, .o 2, .o 3, .o 4, .o 5] rfl (by decide +kernel) rfl (fun K hK => ?_) | ((first | refine AWP_exit ?_ | refine AWP_skip ?_); simp (disch := decide) only [qs, qb, if_true, if_false, reduceIte]) | refine AWP_sq rfl (fun K hK => ?_) | refine ct rfl ?_ | ((try simp (disch := omega) only [go_sem, Nat.reduceBEq, Nat.reduceAdd]); (first | apply hK | (clear hK; apply hK) | (clear hK; clear hK; apply hK)); clear hK; (try clear K); (try dsimp only [behind, qs, qb])))
        refine cN rfl rfl rfl rfl (by exact one_set zz5c.num) ?_; rintro w6 h6 st_h6 zz6; obtain ⟨w6_0, w6_1, w6_2, w6_3, w6_4, w6_5, w6_6, w6_7, w6_8, w6_9, w6_10, w6_11, w6_12, w6_13, w6_14, w6_15, rfl, zz6⟩ := zz6.sa; (repeat (first | (refine wo rfl (fun k hk => ?_); simp (disch := omega) only [go_sem, Nat.reduceBEq, Nat.reduceAdd]; refine hk _ _ ?_; clear hk k) | refine wkt rfl ?_)); (try refine wk0 ?_)
        refine cN rfl rfl rfl rfl (by exact Joined_set (hJ.to (h' := h6)) zz6 (NS.le30' hpt.2.1) (NS.le30' (le_pt lz))) ?_; rintro w7 h7 st_h7 zz7; obtain ⟨w7_0, w7_1, w7_2, w7_3, w7_4, w7_5, w7_6, w7_7, w7_8, w7_9, w7_10, w7_11, w7_12, w7_13, w7_14, w7_15, rfl, zz7⟩ := zz7.sa
        repeat (first | (refine wo rfl (fun k hk => ?_); simp (disch := omega) only [go_sem, Nat.reduceBEq, Nat.reduceAdd]; refine hk _ _ ?_; clear hk k) | refine wkt rfl ?_ | refine wk0 ?_ | refine rg rfl rfl (fun K hK => ?_) | refine rd [.o 0, .o 1, .o 2, .o 3, .o 4, .o 5] rfl (by decide +kernel) rfl (fun K hK => ?_) | ((first | refine AWP_exit ?_ | refine AWP_skip ?_); simp (disch := decide) only [qs, qb, if_true, if_false, reduceIte]) | refine AWP_sq rfl (fun K hK => ?_) | refine ct rfl ?_ | ((try simp (disch := omega) only [go_sem, Nat.reduceBEq, Nat.reduceAdd]); (first | apply hK | (clear hK; apply hK) | (clear hK; clear hK; apply hK)); clear hK; (try clear K); (try dsimp only [behind, qs, qb])))
        refine ⟨(1 + 1, _, lo, hi), [0, 1, 2, 3, 4], ?_, ⟨inferInstance, (show 1 + 1 ≤ 2 by decide), _, zz7, stp_pts (z := .fin q) hpt lz, hz⟩, (show 2 - (1 + 1) < 2 - 1 by decide)⟩
        simp (disch := omega) only [go_sem, Nat.reduceBEq, Nat.reduceAdd, nodupB]
        all_goals rfl
      | inf up =>
        cases up with
        | true =>
          dsimp only [Pt.side] at *
          simp only [if_true, if_false, Bool.false_eq_true, reduceIte] at *
          repeat (first | (refine wo rfl (fun k hk => ?_); simp (disch := omega) only [go_sem, Nat.reduceBEq, Nat.reduceAdd]; refine hk _ _ ?_; clear hk k) | refine wkt rfl ?_ | refine wk0 ?_ | refine rg rfl rfl (fun K hK => ?_) | refine rd [.o 0, .o 1, .o 2, .o 3, .o 4, .o 5] rfl (by decide +kernel) rfl (fun K hK => ?_) | ((first | refine AWP_exit ?_ | refine AWP_skip ?_); simp (disch := decide) only [qs, qb, if_true, if_false, reduceIte]) | refine AWP_sq rfl (fun K hK => ?_) | refine ct rfl ?_ | ((try simp (disch := omega) only [go_sem, Nat.reduceBEq, Nat.reduceAdd]); (first | apply hK | (clear hK; apply hK) | (clear hK; clear hK; apply hK)); clear hK; (try clear K); (try dsimp only [behind, qs, qb])))
          refine ⟨(1 + 1, _, lo, true), [0, 1, 2, 3, 4], ?_, ⟨inferInstance, (show 1 + 1 ≤ 2 by decide), _, hJ.to (h' := h5), hpt, hz⟩, (show 2 - (1 + 1) < 2 - 1 by decide)⟩
          simp (disch := omega) only [go_sem, Nat.reduceBEq, Nat.reduceAdd, nodupB]
          all_goals rfl
        | false =>
          dsimp only [Pt.side] at *
          simp only [if_true, if_false, Bool.false_eq_true, reduceIte] at *
          repeat (first | (refine wo rfl (fun k hk => ?_); simp (disch := omega) only [go_sem, Nat.reduceBEq, Nat.reduceAdd]; refine hk _ _ ?_; clear hk k) | refine wkt rfl ?_ | refine wk0 ?_ | refine rg rfl rfl (fun K hK => ?_) | refine rd [.o 0, .o 1, .o 2, .o 3, .o 4, .o 5] rfl (by decide +kernel) rfl (fun K hK => ?_) | ((first | refine AWP_exit ?_ | refine AWP_skip ?_); simp (disch := decide) only [qs, qb, if_true, if_false, reduceIte]) | refine AWP_sq rfl (fun K hK => ?_) | refine ct rfl ?_ | ((try simp (disch := omega) only [go_sem, Nat.reduceBEq, Nat.reduceAdd]); (first | apply hK | (clear hK; apply hK) | (clear hK; clear hK; apply hK)); clear hK; (try clear K); (try dsimp only [behind, qs, qb])))
          refine ⟨(1 + 1, _, true, hi), [0, 1, 2, 3, 4], ?_, ⟨inferInstance, (show 1 + 1 ≤ 2 by decide), _, hJ.to (h' := h5), hpt, hz⟩, (show 2 - (1 + 1) < 2 - 1 by decide)⟩
          simp (disch := omega) only [go_sem, Nat.reduceBEq, Nat.reduceAdd, nodupB]
          all_goals rfl
  · repeat (first | (refine wo rfl (fun k hk => ?_); simp (disch := omega) only [go_sem, Nat.reduceBEq, Nat.reduceAdd]; refine hk _ _ ?_; clear hk k) | refine wkt rfl ?_ | refine wk0 ?_ | refine rg rfl rfl (fun K hK => ?_) | refine rd [.o 0, .o 1, .o 2, .o 3, .o 4, .o 5] rfl (by decide +kernel) rfl (fun K hK => ?_) | ((first | refine AWP_exit ?_ | refine AWP_skip ?_); simp (disch := decide) only [qs, qb, if_true, if_false, reduceIte]) | refine AWP_sq rfl (fun K hK => ?_) | refine ct rfl ?_ | ((try simp (disch := omega) only [go_sem, Nat.reduceBEq, Nat.reduceAdd]); (first | apply hK | (clear hK; apply hK) | (clear hK; clear hK; apply hK)); clear hK; (try clear K); (try dsimp only [behind, qs, qb])))
    refine cN rfl rfl rfl rfl (by exact kB) ?_; rintro w3 h3 s3 zz3; obtain ⟨r1, r2, r3, r4, r5, r6, r7, t1, t2, t3, t4, t5, t6, t7, rfl, ec, ed⟩ := zz3
    repeat (first | (refine wo rfl (fun k hk => ?_); simp (disch := omega) only [go_sem, Nat.reduceBEq, Nat.reduceAdd]; refine hk _ _ ?_; clear hk k) | refine wkt rfl ?_ | refine wk0 ?_ | ((first | refine rg rfl rfl (fun K hK => ?_) | refine rd [.o 0, .o 1, .o 2, .o 3, .o 4, .o 5] rfl (by decide +kernel) rfl (fun K hK => ?_)); (repeat (first | (refine wo rfl (fun k hk => ?_); simp (disch := omega) only [go_sem, Nat.reduceBEq, Nat.reduceAdd]; refine hk _ _ ?_; clear hk k) | refine wkt rfl ?_ | refine wk0 ?_)); (first | apply hK | (clear hK; apply hK) | (clear hK; clear hK; apply hK)); clear hK; (try clear K); (try dsimp only [behind, qs, qb])) | ((first | refine AWP_exit ?_ | refine AWP_skip ?_); simp (disch := decide) only [qs, qb, if_true, if_false, reduceIte]) | refine AWP_sq rfl (fun K hK => ?_) | refine ct rfl ?_ | ((try simp (disch := omega) only [go_sem, Nat.reduceBEq, Nat.reduceAdd]); (first | apply hK | (clear hK; apply hK) | (clear hK; clear hK; apply hK)); clear hK; (try clear K); (try dsimp only [behind, qs, qb])))
    have eX := eb.to (h' := h3)
    have hO : outer x1 x2 y1 y2 (1 + 1) = inn x2 y1 y2 (J, lo, hi) 2 := by rw [← hacc]; rfl
    have lX : x2.le (2 ^ 30) := lb
    have lX0 : x2.le 2048 := lb0
    obtain ⟨o, ho⟩ : ∃ o, (J, lo, hi) = o := ⟨_, rfl⟩
    rw [ho] at hO
    refine AWP_loopS (fun x : Nat × List Value × Bool × Bool => ⟨[(3, .p 1 0), (4, .p 2 0), (5, .p 3 0), (6, .v (.bool x.2.2.1)), (7, .v (.bool x.2.2.2)), (9, .p 4 0), (15, .v (.agg #[.bool p1, .slice p2 p3 p4, .slice p5 p6 p7, .int .i64 x1.side, .bool q1, .slice q2 q3 q4, .slice q5 q6 q7, .int .i64 x2.side])), (16, .v (.int .i64 1)), (20, .v (.agg #[.bool r1, .slice r2 r3 r4, .slice r5 r6 r7, .int .i64 y1.side, .bool t1, .slice t2 t3 t4, .slice t5 t6 t7, .int .i64 y2.side])), (21, .v (.int .i64 x.1))], [[.bool b1, .slice a1 m1 c1, .slice a2 m2 c2, .bool b2, .slice a3 m3 c3, .slice a4 m4 c4, .bool a.isNone, .bool b.isNone, .bool false], [.bool b1', .slice a1' m1' c1', .slice a2' m2' c2', .bool b2', .slice a3' m3' c3', .slice a4' m4' c4', .bool c.isNone, .bool d.isNone, .bool false], [.bool false, .slice none 0 0, .slice none 0 0, .bool false, .slice none 0 0, .slice none 0 0, .bool false, .bool false, .bool false], x.2.1, [.bool q1, .slice q2 q3 q4, .slice q5 q6 q7, .int .i64 x2.side]]⟩)
      (fun x h' => Le h3 h' ∧ x.1 ≤ 2 ∧ ∃ J, Sn h' (.agg x.2.1.toArray) J ∧ NS.pts 4096 (J, x.2.2.1, x.2.2.2) ∧ inn x2 y1 y2 o x.1 = (J, x.2.2.1, x.2.2.2))
      (fun x => 2 - x.1) (0, _, lo, hi) [0, 1, 2, 3, 4] ?_ ⟨inferInstance, (show 0 ≤ 2 by decide), J, hJ.to (h' := h3), hpt, ho.symm⟩ ?_
    · simp (disch := omega) only [go_sem, Nat.reduceBEq, Nat.reduceAdd, nodupB]
    clear hJ hpt hacc ho J lo hi
    rintro ⟨j, cs, lo, hi⟩ h4 ⟨le4, hj, J, hJ, hpt, hacc⟩
    dsimp only at *
    generalize hX : x2 = X at *
    obtain ⟨k1, k2, k3, k4, k5, k6, k7, k8, k9, ka, kb, kc, kd, ke, kl, ku, kv, rfl⟩ : ∃ k1 k2 k3 k4 k5 k6 k7 k8 k9 ka kb kc kd ke kl ku kv, cs = [.bool k1, .slice k2 k3 k4, .slice k5 k6 k7, .bool k8, .slice k9 ka kb, .slice kc kd ke, .bool kl, .bool ku, .bool kv] := by
      obtain ⟨_, _, _, _, _, _, _, _, _, _, _, _, _, _, _, _, e, _⟩ := hJ.sa
      simp only [Value.agg.injEq, Array.mk.injEq] at e
      exact ⟨_, _, _, _, _, _, _, _, _, _, _, _, _, _, _, _, _, e⟩
    obtain rfl | rfl | rfl : j = 2 ∨ j = 0 ∨ j = 1 := by omega
    · repeat (first | (refine wo rfl (fun k hk => ?_); simp (disch := omega) only [go_sem, Nat.reduceBEq, Nat.reduceAdd]; refine hk _ _ ?_; clear hk k) | refine wkt rfl ?_ | refine wk0 ?_ | refine rg rfl rfl (fun K hK => ?_) | refine rd [.o 0, .o 1, .o 2, .o 3, .o 4, .o 5] rfl (by decide +kernel) rfl (fun K hK => ?_) | ((first | refine AWP_exit ?_ | refine AWP_skip ?_); simp (disch := decide) only [qs, qb, if_true, if_false, reduceIte]) | refine AWP_sq rfl (fun K hK => ?_) | refine ct rfl ?_ | ((try simp (disch := omega) only [go_sem, Nat.reduceBEq, Nat.reduceAdd]); (first | apply hK | (clear hK; apply hK) | (clear hK; clear hK; apply hK)); clear hK; (try clear K); (try dsimp only [behind, qs, qb])))
      refine ⟨(1 + 1, _, lo, hi), [0, 1, 2, 3], ?_, ⟨Le.tr le2 (Le.tr inferInstance le4), (show 1 + 1 ≤ 2 by decide), J, hJ, hpt, by rw [hO]; exact hacc⟩, (show 2 - (1 + 1) < 2 - 1 by decide)⟩
      simp (disch := omega) only [go_sem, Nat.reduceBEq, Nat.reduceAdd, nodupB]
      all_goals rfl
    · repeat (first | (refine wo rfl (fun k hk => ?_); simp (disch := omega) only [go_sem, Nat.reduceBEq, Nat.reduceAdd]; refine hk _ _ ?_; clear hk k) | refine wkt rfl ?_ | refine wk0 ?_ | refine rg rfl rfl (fun K hK => ?_) | refine rd [.o 0, .o 1, .o 2, .o 3, .o 4, .o 5] rfl (by decide +kernel) rfl (fun K hK => ?_) | ((first | refine AWP_exit ?_ | refine AWP_skip ?_); simp (disch := decide) only [qs, qb, if_true, if_false, reduceIte]) | refine AWP_sq rfl (fun K hK => ?_) | refine ct rfl ?_ | ((try simp (disch := omega) only [go_sem, Nat.reduceBEq, Nat.reduceAdd]); (first | apply hK | (clear hK; apply hK) | (clear hK; clear hK; apply hK)); clear hK; (try clear K); (try dsimp only [behind, qs, qb])))
      refine cN rfl rfl rfl rfl (by exact Times_spec (eX.to (h' := h4)) (ec.to (h' := h4)) lX lc) ?_; rintro w5 h5 s5 zz5; obtain ⟨f1, f2, f3, f4, f5, f6, f7, rfl, zz5c⟩ := zz5.sa
      repeat (first | (refine wo rfl (fun k hk => ?_); simp (disch := omega) only [go_sem, Nat.reduceBEq, Nat.reduceAdd]; refine hk _ _ ?_; clear hk k) | refine wkt rfl ?_ | refine wk0 ?_ | ((first | refine rg rfl rfl (fun K hK => ?_) | refine rd [.o 0, .o 1, .o 2, .o 3, .o 4, .o 5] rfl (by decide +kernel) rfl (fun K hK => ?_)); (repeat (first | (refine wo rfl (fun k hk => ?_); simp (disch := omega) only [go_sem, Nat.reduceBEq, Nat.reduceAdd]; refine hk _ _ ?_; clear hk k) | refine wkt rfl ?_ | refine wk0 ?_)); (first | apply hK | (clear hK; apply hK) | (clear hK; clear hK; apply hK)); clear hK; (try clear K); (try dsimp only [behind, qs, qb])) | ((first | refine AWP_exit ?_ | refine AWP_skip ?_); simp (disch := decide) only [qs, qb, if_true, if_false, reduceIte]) | refine AWP_sq rfl (fun K hK => ?_) | refine ct rfl ?_ | ((try simp (disch := omega) only [go_sem, Nat.reduceBEq, Nat.reduceAdd]); (first | apply hK | (clear hK; apply hK) | (clear hK; clear hK; apply hK)); clear hK; (try clear K); (try dsimp only [behind, qs, qb])))
      have lz := mul_le lX0 lc0 (by decide)
      have hz : inn X y1 y2 o (0 + 1) = stp (J, lo, hi) (X.mul y1) := by rw [← hacc]; rfl
      generalize X.mul y1 = z at *
      cases z with
      | fin q =>
        dsimp only [Pt.side] at *
        repeat (first | (refine wo rfl (fun k hk => ?_); simp (disch := omega) only [go_sem, Nat.reduceBEq, Nat.reduceAdd]; refine hk _ _ ?_; clear hk k) | refine wkt rfl ?_ | refine wk0 ?_ | refine rg rfl rfl (fun K hK => ?_) | refine rd [.o 0, .o 1, .o 2, .o 3, .o 4, .o 5] rfl (by decide +kernel) rfl (fun K hK => ?_) | ((first | refine AWP_exit ?_ | refine AWP_skip ?_); simp (disch := decide) only [qs, qb, if_true, if_false, reduceIte]) | refine AWP_sq rfl (fun K hK => ?_) | refine ct rfl ?_ | ((try simp (disch := omega) only [go_sem, Nat.reduceBEq, Nat.reduceAdd]); (first | apply hK | (clear hK; apply hK) | (clear hK; clear hK; apply hK)); clear hK; (try clear K); (try dsimp only [behind, qs, qb])))
        refine cN rfl rfl rfl rfl (by exact one_set zz5c.num) ?_; rintro w6 h6 st_h6 zz6; obtain ⟨w6_0, w6_1, w6_2, w6_3, w6_4, w6_5, w6_6, w6_7, w6_8, w6_9, w6_10, w6_11, w6_12, w6_13, w6_14, w6_15, rfl, zz6⟩ := zz6.sa; (repeat (first | (refine wo rfl (fun k hk => ?_); simp (disch := omega) only [go_sem, Nat.reduceBEq, Nat.reduceAdd]; refine hk _ _ ?_; clear hk k) | refine wkt rfl ?_)); (try refine wk0 ?_)
        refine cN rfl rfl rfl rfl (by exact Joined_set (hJ.to (h' := h6)) zz6 (NS.le30' hpt.2.1) (NS.le30' (le_pt lz))) ?_; rintro w7 h7 st_h7 zz7; obtain ⟨w7_0, w7_1, w7_2, w7_3, w7_4, w7_5, w7_6, w7_7, w7_8, w7_9, w7_10, w7_11, w7_12, w7_13, w7_14, w7_15, rfl, zz7⟩ := zz7.sa
        repeat (first | (refine wo rfl (fun k hk => ?_); simp (disch := omega) only [go_sem, Nat.reduceBEq, Nat.reduceAdd]; refine hk _ _ ?_; clear hk k) | refine wkt rfl ?_ | refine wk0 ?_ | refine rg rfl rfl (fun K hK => ?_) | refine rd [.o 0, .o 1, .o 2, .o 3, .o 4, .o 5] rfl (by decide +kernel) rfl (fun K hK => ?_) | ((first | refine AWP_exit ?_ | refine AWP_skip ?_); simp (disch := decide) only [qs, qb, if_true, if_false, reduceIte]) | refine AWP_sq rfl (fun K hK => ?_) | refine ct rfl ?_ | ((try simp (disch := omega) only [go_sem, Nat.reduceBEq, Nat.reduceAdd]); (first | apply hK | (clear hK; apply hK) | (clear hK; clear hK; apply hK)); clear hK; (try clear K); (try dsimp only [behind, qs, qb])))
        refine ⟨(0 + 1, _, lo, hi), [0, 1, 2, 3, 4], ?_, ⟨inferInstance, (show 0 + 1 ≤ 2 by decide), _, zz7, stp_pts (z := .fin q) hpt lz, hz⟩, (show 2 - (0 + 1) < 2 - 0 by decide)⟩
        simp (disch := omega) only [go_sem, Nat.reduceBEq, Nat.reduceAdd, nodupB]
        all_goals rfl
      | inf up =>
        cases up with
        | true =>
          dsimp only [Pt.side] at *
          simp only [if_true, if_false, Bool.false_eq_true, reduceIte] at *
          repeat (first | (refine wo rfl (fun k hk => ?_); simp (disch := omega) only [go_sem, Nat.reduceBEq, Nat.reduceAdd]; refine hk _ _ ?_; clear hk k) | refine wkt rfl ?_ | refine wk0 ?_ | refine rg rfl rfl (fun K hK => ?_) | refine rd [.o 0, .o 1, .o 2, .o 3, .o 4, .o 5] rfl (by decide +kernel) rfl (fun K hK => ?_) | ((first | refine AWP_exit ?_ | refine AWP_skip ?_); simp (disch := decide) only [qs, qb, if_true, if_false, reduceIte]) | refine AWP_sq rfl (fun K hK => ?_) | refine ct rfl ?_ | ((try simp (disch := omega) only [go_sem, Nat.reduceBEq, Nat.reduceAdd]); (first | apply hK | (clear hK; apply hK) | (clear hK; clear hK; apply hK)); clear hK; (try clear K); (try dsimp only [behind, qs, qb])))
          refine ⟨(0 + 1, _, lo, true), [0, 1, 2, 3, 4], ?_, ⟨inferInstance, (show 0 + 1 ≤ 2 by decide), _, hJ.to (h' := h5), hpt, hz⟩, (show 2 - (0 + 1) < 2 - 0 by decide)⟩
          simp (disch := omega) only [go_sem, Nat.reduceBEq, Nat.reduceAdd, nodupB]
          all_goals rfl
        | false =>
          dsimp only [Pt.side] at *
          simp only [if_true, if_false, Bool.false_eq_true, reduceIte] at *
          repeat (first | (refine wo rfl (fun k hk => ?_); simp (disch := omega) only [go_sem, Nat.reduceBEq, Nat.reduceAdd]; refine hk _ _ ?_; clear hk k) | refine wkt rfl ?_ | refine wk0 ?_ | refine rg rfl rfl (fun K hK => ?_) | refine rd [.o 0, .o 1, .o 2, .o 3, .o 4, .o 5] rfl (by decide +kernel) rfl (fun K hK => ?_) | ((first | refine AWP_exit ?_ | refine AWP_skip ?_); simp (disch := decide) only [qs, qb, if_true, if_false, reduceIte]) | refine AWP_sq rfl (fun K hK => ?_) | refine ct rfl ?_ | ((try simp (disch := omega) only [go_sem, Nat.reduceBEq, Nat.reduceAdd]); (first | apply hK | (clear hK; apply hK) | (clear hK; clear hK; apply hK)); clear hK; (try clear K); (try dsimp only [behind, qs, qb])))
          refine ⟨(0 + 1, _, true, hi), [0, 1, 2, 3, 4], ?_, ⟨inferInstance, (show 0 + 1 ≤ 2 by decide), _, hJ.to (h' := h5), hpt, hz⟩, (show 2 - (0 + 1) < 2 - 0 by decide)⟩
          simp (disch := omega) only [go_sem, Nat.reduceBEq, Nat.reduceAdd, nodupB]
          all_goals rfl
    · repeat (first | (refine wo rfl (fun k hk => ?_); simp (disch := omega) only [go_sem, Nat.reduceBEq, Nat.reduceAdd]; refine hk _ _ ?_; clear hk k) | refine wkt rfl ?_ | refine wk0 ?_ | refine rg rfl rfl (fun K hK => ?_) | refine rd [.o 0, .o 1, .o 2, .o 3, .o 4, .o 5] rfl (by decide +kernel) rfl (fun K hK => ?_) | ((first | refine AWP_exit ?_ | refine AWP_skip ?_); simp (disch := decide) only [qs, qb, if_true, if_false, reduceIte]) | refine AWP_sq rfl (fun K hK => ?_) | refine ct rfl ?_ | ((try simp (disch := omega) only [go_sem, Nat.reduceBEq, Nat.reduceAdd]); (first | apply hK | (clear hK; apply hK) | (clear hK; clear hK; apply hK)); clear hK; (try clear K); (try dsimp only [behind, qs, qb])))
      refine cN rfl rfl rfl rfl (by exact Times_spec (eX.to (h' := h4)) (ed.to (h' := h4)) lX ld) ?_; rintro w5 h5 s5 zz5; obtain ⟨f1, f2, f3, f4, f5, f6, f7, rfl, zz5c⟩ := zz5.sa
      repeat (first | (refine wo rfl (fun k hk => ?_); simp (disch := omega) only [go_sem, Nat.reduceBEq, Nat.reduceAdd]; refine hk _ _ ?_; clear hk k) | refine wkt rfl ?_ | refine wk0 ?_ | ((first | refine rg rfl rfl (fun K hK => ?_) | refine rd [.o 0, .o 1, .o 2, .o 3, .o 4, .o 5] rfl (by decide +kernel) rfl (fun K hK => ?_)); (repeat (first | (refine wo rfl (fun k hk => ?_); simp (disch := omega) only [go_sem, Nat.reduceBEq, Nat.reduceAdd]; refine hk _ _ ?_; clear hk k) | refine wkt rfl ?_ | refine wk0 ?_)); (first | apply hK | (clear hK; apply hK) | (clear hK; clear hK; apply hK)); clear hK; (try clear K); (try dsimp only [behind, qs, qb])) | ((first | refine AWP_exit ?_ | refine AWP_skip ?_); simp (disch := decide) only [qs, qb, if_true, if_false, reduceIte]) | refine AWP_sq rfl (fun K hK => ?_) | refine ct rfl ?_ | ((try simp (disch := omega) only [go_sem, Nat.reduceBEq, Nat.reduceAdd]); (first | apply hK | (clear hK; apply hK) | (clear hK; clear hK; apply hK)); clear hK; (try clear K); (try dsimp only [behind, qs, qb])))
      have lz := mul_le lX0 ld0 (by decide)
      have hz : inn X y1 y2 o (1 + 1) = stp (J, lo, hi) (X.mul y2) := by rw [← hacc]; rfl
      generalize X.mul y2 = z at *
      cases z with
      | fin q =>
        dsimp only [Pt.side] at *
        repeat (first | (refine wo rfl (fun k hk => ?_); simp (disch := omega) only [go_sem, Nat.reduceBEq, Nat.reduceAdd]; refine hk _ _ ?_; clear hk k) | refine wkt rfl ?_ | refine wk0 ?_ | refine rg rfl rfl (fun K hK => ?_) | refine rd [.o 0, .o 1, .o 2, .o 3, .o 4, .o 5] rfl (by decide +kernel) rfl (fun K hK => ?_) | ((first | refine AWP_exit ?_ | refine AWP_skip ?_); simp (disch := decide) only [qs, qb, if_true, if_false, reduceIte]) | refine AWP_sq rfl (fun K hK => ?_) | refine ct rfl ?_ | ((try simp (disch := omega) only [go_sem, Nat.reduceBEq, Nat.reduceAdd]); (first | apply hK | (clear hK; apply hK) | (clear hK; clear hK; apply hK)); clear hK; (try clear K); (try dsimp only [behind, qs, qb])))
        refine cN rfl rfl rfl rfl (by exact one_set zz5c.num) ?_; rintro w6 h6 st_h6 zz6; obtain ⟨w6_0, w6_1, w6_2, w6_3, w6_4, w6_5, w6_6, w6_7, w6_8, w6_9, w6_10, w6_11, w6_12, w6_13, w6_14, w6_15, rfl, zz6⟩ := zz6.sa; (repeat (first | (refine wo rfl (fun k hk => ?_); simp (disch := omega) only [go_sem, Nat.reduceBEq, Nat.reduceAdd]; refine hk _ _ ?_; clear hk k) | refine wkt rfl ?_)); (try refine wk0 ?_)
        refine cN rfl rfl rfl rfl (by exact Joined_set (hJ.to (h' := h6)) zz6 (NS.le30' hpt.2.1) (NS.le30' (le_pt lz))) ?_; rintro w7 h7 st_h7 zz7; obtain ⟨w7_0, w7_1, w7_2, w7_3, w7_4, w7_5, w7_6, w7_7, w7_8, w7_9, w7_10, w7_11, w7_12, w7_13, w7_14, w7_15, rfl, zz7⟩ := zz7.sa
        repeat (first | (refine wo rfl (fun k hk => ?_); simp (disch := omega) only [go_sem, Nat.reduceBEq, Nat.reduceAdd]; refine hk _ _ ?_; clear hk k) | refine wkt rfl ?_ | refine wk0 ?_ | refine rg rfl rfl (fun K hK => ?_) | refine rd [.o 0, .o 1, .o 2, .o 3, .o 4, .o 5] rfl (by decide +kernel) rfl (fun K hK => ?_) | ((first | refine AWP_exit ?_ | refine AWP_skip ?_); simp (disch := decide) only [qs, qb, if_true, if_false, reduceIte]) | refine AWP_sq rfl (fun K hK => ?_) | refine ct rfl ?_ | ((try simp (disch := omega) only [go_sem, Nat.reduceBEq, Nat.reduceAdd]); (first | apply hK | (clear hK; apply hK) | (clear hK; clear hK; apply hK)); clear hK; (try clear K); (try dsimp only [behind, qs, qb])))
        refine ⟨(1 + 1, _, lo, hi), [0, 1, 2, 3, 4], ?_, ⟨inferInstance, (show 1 + 1 ≤ 2 by decide), _, zz7, stp_pts (z := .fin q) hpt lz, hz⟩, (show 2 - (1 + 1) < 2 - 1 by decide)⟩
        simp (disch := omega) only [go_sem, Nat.reduceBEq, Nat.reduceAdd, nodupB]
        all_goals rfl
      | inf up =>
        cases up with
        | true =>
          dsimp only [Pt.side] at *
          simp only [if_true, if_false, Bool.false_eq_true, reduceIte] at *
          repeat (first | (refine wo rfl (fun k hk => ?_); simp (disch := omega) only [go_sem, Nat.reduceBEq, Nat.reduceAdd]; refine hk _ _ ?_; clear hk k) | refine wkt rfl ?_ | refine wk0 ?_ | refine rg rfl rfl (fun K hK => ?_) | refine rd [.o 0, .o 1, .o 2, .o 3, .o 4, .o 5] rfl (by decide +kernel) rfl (fun K hK => ?_) | ((first | refine AWP_exit ?_ | refine AWP_skip ?_); simp (disch := decide) only [qs, qb, if_true, if_false, reduceIte]) | refine AWP_sq rfl (fun K hK => ?_) | refine ct rfl ?_ | ((try simp (disch := omega) only [go_sem, Nat.reduceBEq, Nat.reduceAdd]); (first | apply hK | (clear hK; apply hK) | (clear hK; clear hK; apply hK)); clear hK; (try clear K); (try dsimp only [behind, qs, qb])))
          refine ⟨(1 + 1, _, lo, true), [0, 1, 2, 3, 4], ?_, ⟨inferInstance, (show 1 + 1 ≤ 2 by decide), _, hJ.to (h' := h5), hpt, hz⟩, (show 2 - (1 + 1) < 2 - 1 by decide)⟩
          simp (disch := omega) only [go_sem, Nat.reduceBEq, Nat.reduceAdd, nodupB]
          all_goals rfl
        | false =>
          dsimp only [Pt.side] at *
          simp only [if_true, if_false, Bool.false_eq_true, reduceIte] at *
          repeat (first | (refine wo rfl (fun k hk => ?_); simp (disch := omega) only [go_sem, Nat.reduceBEq, Nat.reduceAdd]; refine hk _ _ ?_; clear hk k) | refine wkt rfl ?_ | refine wk0 ?_ | refine rg rfl rfl (fun K hK => ?_) | refine rd [.o 0, .o 1, .o 2, .o 3, .o 4, .o 5] rfl (by decide +kernel) rfl (fun K hK => ?_) | ((first | refine AWP_exit ?_ | refine AWP_skip ?_); simp (disch := decide) only [qs, qb, if_true, if_false, reduceIte]) | refine AWP_sq rfl (fun K hK => ?_) | refine ct rfl ?_ | ((try simp (disch := omega) only [go_sem, Nat.reduceBEq, Nat.reduceAdd]); (first | apply hK | (clear hK; apply hK) | (clear hK; clear hK; apply hK)); clear hK; (try clear K); (try dsimp only [behind, qs, qb])))
          refine ⟨(1 + 1, _, true, hi), [0, 1, 2, 3, 4], ?_, ⟨inferInstance, (show 1 + 1 ≤ 2 by decide), _, hJ.to (h' := h5), hpt, hz⟩, (show 2 - (1 + 1) < 2 - 1 by decide)⟩
          simp (disch := omega) only [go_sem, Nat.reduceBEq, Nat.reduceAdd, nodupB]
          all_goals rfl
theorem prod_pts {a b c d : Option Rat} (ls : (NS.i a b).le 2048) (lt : (NS.i c d).le 2048) : NS.pts 4096 (outer (lowP a) (highP b) (lowP c) (highP d) 2) := by
  rw [NS.le_i] at ls lt
  have la := lowP_le ls.1
  have lb := highP_le ls.2
  have lc := lowP_le lt.1
  have ld := highP_le lt.2
  exact stp_pts (stp_pts (stp_pts (stp_pts ⟨trivial, rfl, .inl rfl⟩ (mul_le la lc (by decide))) (mul_le la ld (by decide))) (mul_le lb lc (by decide))) (mul_le lb ld (by decide))
theorem fin3_pts {k : Nat} {o : NS × Bool × Bool} (h : NS.pts k o) (hk : 1 ≤ k) : (fin3 o).ok ∧ (fin3 o).le k := by
  obtain ⟨s, l, u⟩ := o
  obtain ⟨h1, h2, h3⟩ := h
  have h0 : sz 0 ≤ k := Nat.le_trans (show sz 0 ≤ 1 by decide) hk
  rcases h3 with e | ⟨a, b, e⟩
  · cases (e : s = .e)
    refine ⟨?_, ?_⟩
    · cases l <;> cases u <;> simp [fin3, NS.ok, ordO]
    · show NS.le k (.i _ _)
      rw [NS.le_i]
      cases l <;> cases u <;> exact ⟨fun _ e => by cases e; try exact h0, fun _ e => by cases e; try exact h0⟩
  · cases (e : s = .i _ _)
    have h2' := (NS.le_i.1 h2)
    refine ⟨?_, ?_⟩
    · cases l <;> cases u <;> first | exact h1 | rfl
    · show NS.le k (.i _ _)
      rw [NS.le_i]
      cases l <;> cases u <;> exact ⟨fun _ e => by cases e; try exact h2'.1 _ rfl, fun _ e => by cases e; try exact h2'.2 _ rfl⟩
theorem prod_ok {x y : NS} (hx : x.le 2048) (hy : y.le 2048) : (x.prod y).ok ∧ (x.prod y).le 4096 := by
  cases x with
  | e => exact ⟨trivial, rfl⟩
  | i a b => cases y with
    | e => exact ⟨trivial, rfl⟩
    | i c d => exact fin3_pts (prod_pts hx hy) (by decide)
theorem Prod1 {h0 h : PH} [Le h0 h] {s t : Value} {x y : NS} (hs : Sn h0 s x) (ht : Sn h0 t y) (gx : x.void = false) (gy : y.void = false) (lx : x.le 2048) (ly : y.le 2048) : Spec mach 51 #[s, t] h (fun v h' => Sn h' v (x.prod y)) NP := by
  cases x with
  | e => cases gx
  | i a b => cases y with
    | e => cases gy
    | i c d => exact Product_spec hs ht lx ly
theorem MulI_spec {h0 h : PH} [Le h0 h] {v w : Value} {x y : RI} {p : Int} (hv : Iv h0 v x) (hw : Iv h0 w y) : Spec mach 13 #[v, w, .int .i64 p] h (fun r h' => Ir h' r (x.fin2 y (rnd p x.set y.set (.ok (x.set.prod y.set))))) NP := by
  have hv0 := hv
  have hw0 := hw
  obtain ⟨a1, m1, c1, a2, m2, c2, a3, m3, c3, a4, m4, c4, rfl, _, _⟩ := hv.sa
  obtain ⟨a1', m1', c1', a2', m2', c2', a3', m3', c3', a4', m4', c4', rfl, _, _⟩ := hw.sa
  refine Spec.enter (args := [_, _, _]) (n := 14) Tryz.func13 rfl (by kernel_rfl) rfl (by simp) [.cell 6 26, .tmp 7] rfl (fun C _ => ?_)
  repeat (first | (refine wo rfl (fun k hk => ?_); simp (disch := omega) only [go_sem, Nat.reduceBEq, Nat.reduceAdd]; refine hk _ _ ?_; clear hk k) | refine wkt rfl ?_ | refine wk0 ?_ | refine rg rfl rfl (fun K hK => ?_) | ((first | refine AWP_exit ?_ | refine AWP_skip ?_); simp (disch := decide) only [qs, qb, if_true, if_false, reduceIte]) | refine AWP_sq rfl (fun K hK => ?_) | refine ct rfl ?_ | ((try simp (disch := omega) only [go_sem, Nat.reduceBEq, Nat.reduceAdd]); (first | apply hK | (clear hK; apply hK) | (clear hK; clear hK; apply hK)); clear hK; (try clear K); (try dsimp only [behind, qs, qb])))
  refine cN rfl rfl rfl rfl (by exact rounded_spec hv0 hw0 (fun g g' k k' h' _ s t hs ht => Does.mk (Prod1 hs.sn ht.sn k k' (RI.le g) (RI.le g'))) (fun g g' z e => by cases e; exact (prod_ok (RI.le g) (RI.le g')).2.up (by decide))) ?_; rintro r3 h3 st_h3 hr3; obtain ⟨r3_0, r3_1, r3_2, r3_3, r3_4, r3_5, r3_6, r3_7, r3_8, r3_9, r3_10, r3_11, r3_12, r3_13, r3_14, r3_15, r3_16, rfl, hr3⟩ := hr3.sa; (repeat (first | (refine wo rfl (fun k hk => ?_); simp (disch := omega) only [go_sem, Nat.reduceBEq, Nat.reduceAdd]; refine hk _ _ ?_; clear hk k) | refine wkt rfl ?_)); (try refine wk0 ?_)
  (try (simp (disch := omega) only [go_sem, Nat.reduceBEq, Nat.reduceAdd])); refine hK _ _ ?_; clear hK; (try clear K); (try dsimp only [behind, qs])
  refine AWP_ret ?_; simp (disch := omega) only [go_sem, Nat.reduceBEq, Nat.reduceAdd]
  exact hr3
end Go.Q
