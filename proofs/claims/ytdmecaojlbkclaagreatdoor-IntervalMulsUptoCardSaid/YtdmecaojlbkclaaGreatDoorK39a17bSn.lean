/-
  Contracts of the reference's intervals: the product of two sets. Conditions: the values denote the sets named (Rr), their ends of at most 2048 binary digits. (Printed by a program.)
-/
import Derived.Test.YtdmecaojlbkclaaGreatDoorK963d0eSm
import Derived.Test.YtdmecaojlbkclaaGreatDoorKdde74ePc
set_option linter.unusedVariables false
set_option linter.unusedSimpArgs false
namespace Go.Q
open Go.Proofs
set_option maxRecDepth 100000
set_option maxHeartbeats 16000000
theorem Re.list {h : PH} {cs : List Value} {z : Pt} (r : Re h (.agg cs.toArray) z) : ∃ g1 g2 g3 g4 g5 g6 g7, cs = [.int .i64 z.side, .bool g1, .slice g2 g3 g4, .slice g5 g6 g7] := by
  obtain ⟨_, _, _, _, _, _, _, e, _⟩ := r.sa
  simp only [Value.agg.injEq, Array.mk.injEq] at e
  exact ⟨_, _, _, _, _, _, _, e⟩
theorem Re.q {h : PH} {b : Bool} {a1 a2 : Option Addr} {m1 c1 m2 c2 : Nat} {k : Int} {z : Pt} (r : Re h (.agg #[.int .i64 k, .bool b, .slice a1 m1 c1, .slice a2 m2 c2]) z) : Qr h (.agg #[.bool b, .slice a1 m1 c1, .slice a2 m2 c2]) z.val := by
  obtain ⟨_, _, _, e, q⟩ := r
  simp only [Value.agg.injEq, Array.mk.injEq, List.cons.injEq, and_true, Value.bool.injEq] at e
  obtain ⟨_, rfl, rfl, rfl⟩ := e
  exact q
theorem RefTimes_i {h0 h : PH} [Le h0 h] {v w : Value} {a b c d : Option Rat} (hs : Rr h0 v (.i a b)) (ht : Rr h0 w (.i c d)) (ls : (NS.i a b).le 2048) (lt : (NS.i c d).le 2048) :
    Spec mach 53 #[v, w] h (fun v h' => Rr h' v ((NS.i a b).prod (.i c d))) NP := by
  rw [NS.le_i] at ls lt
  have la0 := lowP_le ls.1
  have lb0 := highP_le ls.2
  have lc0 := lowP_le lt.1
  have ld0 := highP_le lt.2
  have la := Pt.up (m := 2 ^ 30) la0 (by decide)
  have lb := Pt.up (m := 2 ^ 30) lb0 (by decide)
  have lc := Pt.up (m := 2 ^ 30) lc0 (by decide)
  have ld := Pt.up (m := 2 ^ 30) ld0 (by decide)
  have kA := fun {h} [Le h0 h] => RefEnds (h := h) hs
  have kB := fun {h} [Le h0 h] => RefEnds (h := h) ht
  have he := outer_e (a := a) (b := b) (c := c) (d := d)
  obtain ⟨b1, a1, m1, c1, a2, m2, c2, b2, a3, m3, c3, a4, m4, c4, rfl, _, _⟩ := hs.sa
  obtain ⟨b1', a1', m1', c1', a2', m2', c2', b2', a3', m3', c3', a4', m4', c4', rfl, _, _⟩ := ht.sa
  show Spec _ _ _ _ (fun v h' => Rr h' v (fin3 (outer (lowP a) (highP b) (lowP c) (highP d) 2))) _
  generalize lowP a = x1 at *
  generalize highP b = x2 at *
  generalize lowP c = y1 at *
  generalize highP d = y2 at *
  dsimp only [NS.void, NS.loN, NS.hiN] at *
  refine Spec.enter (args := [_, _]) (n := 65) Tryz.func53 rfl (by kernel_rfl) rfl (by simp) [.cell 4 58] rfl (fun C _ => ?_)
  repeat (first | (refine wo rfl (fun k hk => ?_); simp (disch := omega) only [go_sem, Nat.reduceBEq, Nat.reduceAdd]; refine hk _ _ ?_; clear hk k) | refine wkt rfl ?_ | refine wk0 ?_ | refine rg rfl rfl (fun K hK => ?_) | ((first | refine AWP_exit ?_ | refine AWP_skip ?_); simp (disch := decide) only [qs, qb, if_true, if_false, reduceIte]) | refine AWP_sq rfl (fun K hK => ?_) | refine ct rfl ?_ | ((try simp (disch := omega) only [go_sem, Nat.reduceBEq, Nat.reduceAdd]); (first | apply hK | (clear hK; apply hK) | (clear hK; clear hK; apply hK)); clear hK; (try clear K); (try dsimp only [behind, qs, qb])))
  refine cN rfl rfl rfl rfl (by exact kA) ?_; rintro w1 h1 s1 zz1; obtain ⟨p1, p2, p3, p4, p5, p6, p7, q1, q2, q3, q4, q5, q6, q7, rfl, ea, eb⟩ := zz1
  repeat (first | (refine wo rfl (fun k hk => ?_); simp (disch := omega) only [go_sem, Nat.reduceBEq, Nat.reduceAdd]; refine hk _ _ ?_; clear hk k) | refine wkt rfl ?_ | refine wk0 ?_ | refine rg rfl rfl (fun K hK => ?_) | ((first | refine AWP_exit ?_ | refine AWP_skip ?_); simp (disch := decide) only [qs, qb, if_true, if_false, reduceIte]) | refine AWP_sq rfl (fun K hK => ?_) | refine ct rfl ?_ | ((try simp (disch := omega) only [go_sem, Nat.reduceBEq, Nat.reduceAdd]); (first | apply hK | (clear hK; apply hK) | (clear hK; clear hK; apply hK)); clear hK; (try clear K); (try dsimp only [behind, qs, qb])))
  refine AWP_loopS (fun x : Nat × List Value × List Value => ⟨[(3, .p 1 0), (4, .p 2 0), (5, .p 3 0), (6, .p 4 0), (23, .v (.agg #[.int .i64 x1.side, .bool p1, .slice p2 p3 p4, .slice p5 p6 p7, .int .i64 x2.side, .bool q1, .slice q2 q3 q4, .slice q5 q6 q7])), (24, .v (.int .i64 x.1))], [[.bool b1, .slice a1 m1 c1, .slice a2 m2 c2, .bool b2, .slice a3 m3 c3, .slice a4 m4 c4, .bool a.isNone, .bool b.isNone, .bool false], [.bool b1', .slice a1' m1' c1', .slice a2' m2' c2', .bool b2', .slice a3' m3' c3', .slice a4' m4' c4', .bool c.isNone, .bool d.isNone, .bool false], [.bool false, .slice none 0 0, .slice none 0 0, .bool false, .slice none 0 0, .slice none 0 0, .bool false, .bool false, .bool false], x.2.1, x.2.2]⟩)
    (fun x h' => Le h1 h' ∧ x.1 ≤ 2 ∧ ∃ o, NS.pts 4096 o ∧ Re h' (.agg x.2.1.toArray) (rlow o) ∧ Re h' (.agg x.2.2.toArray) (rhigh o) ∧ outer x1 x2 y1 y2 x.1 = o)
    (fun x => 2 - x.1) (0, [.int .i64 1, .bool false, .slice none 0 0, .slice none 0 0], [.int .i64 (-1), .bool false, .slice none 0 0, .slice none 0 0]) [0, 1, 2, 3, 4] ?_ ⟨inferInstance, by decide, (.e, false, false), ⟨trivial, rfl, .inl rfl⟩, ⟨_, _, _, rfl, Qr.none _⟩, ⟨_, _, _, rfl, Qr.none _⟩, rfl⟩ ?_
  · simp (disch := omega) only [go_sem, Nat.reduceBEq, Nat.reduceAdd, nodupB]
  rintro ⟨i, cs, ds⟩ h2 ⟨le2, hi2, o, hpt, hL, hM, hacc⟩
  have leh : Le h0 h2 := Le.tr inferInstance le2
  dsimp only at *
  obtain ⟨g1, g2, g3, g4, g5, g6, g7, rfl⟩ := hL.list
  obtain ⟨k1, k2, k3, k4, k5, k6, k7, rfl⟩ := hM.list
  obtain rfl | rfl | rfl : i = 2 ∨ i = 0 ∨ i = 1 := by omega
  · rw [hacc] at he
    have qL := hL.q
    have qM := hM.q
    clear hL hM
    obtain ⟨s, l, u⟩ := o
    rcases hpt.2.2 with e | ⟨lo, hi, e⟩ <;> (dsimp only at e; subst e)
    · have := he rfl
      cases this
      dsimp only [rlow, rhigh, cond_true, cond_false, Pt.side, Pt.val] at *
      simp only [if_true, if_false, Bool.false_eq_true, reduceIte]
      repeat (first | (refine wo rfl (fun k hk => ?_); simp (disch := omega) only [go_sem, Nat.reduceBEq, Nat.reduceAdd]; refine hk _ _ ?_; clear hk k) | refine wkt rfl ?_ | refine wk0 ?_ | refine rg rfl rfl (fun K hK => ?_) | ((first | refine AWP_exit ?_ | refine AWP_skip ?_); simp (disch := decide) only [qs, qb, if_true, if_false, reduceIte]) | refine AWP_sq rfl (fun K hK => ?_) | refine ct rfl ?_ | ((try simp (disch := omega) only [go_sem, Nat.reduceBEq, Nat.reduceAdd]); (first | apply hK | (clear hK; apply hK) | (clear hK; clear hK; apply hK)); clear hK; (try clear K); (try dsimp only [behind, qs, qb])))
      refine AWP_ret ?_; simp (disch := omega) only [go_sem, Nat.reduceBEq, Nat.reduceAdd]
      rw [hacc]
      exact ⟨_, _, _, _, _, _, rfl, Qr.none _, Qr.none _⟩
    · cases l <;> cases u <;>
      · dsimp only [rlow, rhigh, cond_true, cond_false, Pt.side, Pt.val] at *
        try simp only [if_true, if_false, Bool.false_eq_true, reduceIte]
        repeat (first | (refine wo rfl (fun k hk => ?_); simp (disch := omega) only [go_sem, Nat.reduceBEq, Nat.reduceAdd]; refine hk _ _ ?_; clear hk k) | refine wkt rfl ?_ | refine wk0 ?_ | refine rg rfl rfl (fun K hK => ?_) | ((first | refine AWP_exit ?_ | refine AWP_skip ?_); simp (disch := decide) only [qs, qb, if_true, if_false, reduceIte]) | refine AWP_sq rfl (fun K hK => ?_) | refine ct rfl ?_ | ((try simp (disch := omega) only [go_sem, Nat.reduceBEq, Nat.reduceAdd]); (first | apply hK | (clear hK; apply hK) | (clear hK; clear hK; apply hK)); clear hK; (try clear K); (try dsimp only [behind, qs, qb])))
        refine AWP_ret ?_; simp (disch := omega) only [go_sem, Nat.reduceBEq, Nat.reduceAdd]
        rw [hacc]
        exact ⟨_, _, _, _, _, _, rfl, by first | exact qL.to | exact Qr.none _, by first | exact qM.to | exact Qr.none _⟩
  · repeat (first | (refine wo rfl (fun k hk => ?_); simp (disch := omega) only [go_sem, Nat.reduceBEq, Nat.reduceAdd]; refine hk _ _ ?_; clear hk k) | refine wkt rfl ?_ | refine wk0 ?_ | refine rg rfl rfl (fun K hK => ?_) | ((first | refine AWP_exit ?_ | refine AWP_skip ?_); simp (disch := decide) only [qs, qb, if_true, if_false, reduceIte]) | refine AWP_sq rfl (fun K hK => ?_) | refine ct rfl ?_ | ((try simp (disch := omega) only [go_sem, Nat.reduceBEq, Nat.reduceAdd]); (first | apply hK | (clear hK; apply hK) | (clear hK; clear hK; apply hK)); clear hK; (try clear K); (try dsimp only [behind, qs, qb])))
    refine cN rfl rfl rfl rfl (by exact kB) ?_; rintro w3 h3 s3 zz3; obtain ⟨r1, r2, r3, r4, r5, r6, r7, t1, t2, t3, t4, t5, t6, t7, rfl, ec, ed⟩ := zz3
    repeat (first | (refine wo rfl (fun k hk => ?_); simp (disch := omega) only [go_sem, Nat.reduceBEq, Nat.reduceAdd]; refine hk _ _ ?_; clear hk k) | refine wkt rfl ?_ | refine wk0 ?_ | ((first | refine rg rfl rfl (fun K hK => ?_)); (repeat (first | (refine wo rfl (fun k hk => ?_); simp (disch := omega) only [go_sem, Nat.reduceBEq, Nat.reduceAdd]; refine hk _ _ ?_; clear hk k) | refine wkt rfl ?_ | refine wk0 ?_)); (first | apply hK | (clear hK; apply hK) | (clear hK; clear hK; apply hK)); clear hK; (try clear K); (try dsimp only [behind, qs, qb])) | ((first | refine AWP_exit ?_ | refine AWP_skip ?_); simp (disch := decide) only [qs, qb, if_true, if_false, reduceIte]) | refine AWP_sq rfl (fun K hK => ?_) | refine ct rfl ?_ | ((try simp (disch := omega) only [go_sem, Nat.reduceBEq, Nat.reduceAdd]); (first | apply hK | (clear hK; apply hK) | (clear hK; clear hK; apply hK)); clear hK; (try clear K); (try dsimp only [behind, qs, qb])))
    have eX := ea.to (h' := h3)
    have hO : outer x1 x2 y1 y2 (0 + 1) = inn x1 y1 y2 o 2 := by rw [← hacc]; rfl
    have lX : x1.le (2 ^ 30) := la
    have lX0 : x1.le 2048 := la0
    clear hacc
    generalize hOO : o = O at hO
    refine AWP_loopS (fun x : Nat × List Value × List Value => ⟨[(3, .p 1 0), (4, .p 2 0), (5, .p 3 0), (6, .p 4 0), (8, .p 5 0), (23, .v (.agg #[.int .i64 x1.side, .bool p1, .slice p2 p3 p4, .slice p5 p6 p7, .int .i64 x2.side, .bool q1, .slice q2 q3 q4, .slice q5 q6 q7])), (24, .v (.int .i64 0)), (28, .v (.agg #[.int .i64 y1.side, .bool r1, .slice r2 r3 r4, .slice r5 r6 r7, .int .i64 y2.side, .bool t1, .slice t2 t3 t4, .slice t5 t6 t7])), (29, .v (.int .i64 x.1))], [[.bool b1, .slice a1 m1 c1, .slice a2 m2 c2, .bool b2, .slice a3 m3 c3, .slice a4 m4 c4, .bool a.isNone, .bool b.isNone, .bool false], [.bool b1', .slice a1' m1' c1', .slice a2' m2' c2', .bool b2', .slice a3' m3' c3', .slice a4' m4' c4', .bool c.isNone, .bool d.isNone, .bool false], [.bool false, .slice none 0 0, .slice none 0 0, .bool false, .slice none 0 0, .slice none 0 0, .bool false, .bool false, .bool false], x.2.1, x.2.2, [.int .i64 x1.side, .bool p1, .slice p2 p3 p4, .slice p5 p6 p7]]⟩)
      (fun x h' => Le h3 h' ∧ x.1 ≤ 2 ∧ ∃ o, NS.pts 4096 o ∧ Re h' (.agg x.2.1.toArray) (rlow o) ∧ Re h' (.agg x.2.2.toArray) (rhigh o) ∧ inn x1 y1 y2 O x.1 = o)
      (fun x => 2 - x.1) (0, _, _) [0, 1, 2, 3, 4, 5] ?_ ⟨inferInstance, (show 0 ≤ 2 by decide), o, hpt, hL.to (h' := h3), hM.to (h' := h3), hOO.symm⟩ ?_
    · simp (disch := omega) only [go_sem, Nat.reduceBEq, Nat.reduceAdd, nodupB]
      subst hOO
      exact ⟨.inr rfl, .inr rfl⟩
    clear hL hM hpt hOO o g1 g2 g3 g4 g5 g6 g7 k1 k2 k3 k4 k5 k6 k7
    rintro ⟨j, cs, ds⟩ h4 ⟨le4, hj, o, hpt, hL, hM, hacc⟩
    dsimp only at *
    generalize hX : x1 = X at *
    obtain ⟨g1, g2, g3, g4, g5, g6, g7, rfl⟩ := hL.list
    obtain ⟨k1, k2, k3, k4, k5, k6, k7, rfl⟩ := hM.list
    obtain rfl | rfl | rfl : j = 2 ∨ j = 0 ∨ j = 1 := by omega
    · repeat (first | (refine wo rfl (fun k hk => ?_); simp (disch := omega) only [go_sem, Nat.reduceBEq, Nat.reduceAdd]; refine hk _ _ ?_; clear hk k) | refine wkt rfl ?_ | refine wk0 ?_ | refine rg rfl rfl (fun K hK => ?_) | ((first | refine AWP_exit ?_ | refine AWP_skip ?_); simp (disch := decide) only [qs, qb, if_true, if_false, reduceIte]) | refine AWP_sq rfl (fun K hK => ?_) | refine ct rfl ?_ | ((try simp (disch := omega) only [go_sem, Nat.reduceBEq, Nat.reduceAdd]); (first | apply hK | (clear hK; apply hK) | (clear hK; clear hK; apply hK)); clear hK; (try clear K); (try dsimp only [behind, qs, qb])))
      refine ⟨(0 + 1, _, _), [0, 1, 2, 3, 4], ?_, ⟨Le.tr le2 (Le.tr inferInstance le4), (show 0 + 1 ≤ 2 by decide), o, hpt, hL, hM, by rw [hO]; exact hacc⟩, (show 2 - (0 + 1) < 2 - 0 by decide)⟩
      simp (disch := omega) only [go_sem, Nat.reduceBEq, Nat.reduceAdd, nodupB]
      all_goals rfl
    · have lz := mul_le lX0 lc0 (by decide)
      have hz : inn X y1 y2 O (0 + 1) = stp o (X.mul y1) := by rw [← hacc]; rfl
      have e1 := rlow_stp (z := X.mul y1) hpt.2.2
      have e2 := rhigh_stp (z := X.mul y1) hpt.2.2
      have hpt' := stp_pts (z := X.mul y1) hpt lz
      have kT := fun {h} [Le h4 h] => RefTimes_end (h := h) (eX.to (h' := h4)) (ec.to (h' := h4)) lX lc
      generalize X.mul y1 = z at *
      have lz' := Pt.up (m := 2 ^ 30) lz (by decide)
      have lL := Pt.up (m := 2 ^ 30) (rlow_le hpt) (by decide)
      have lM := Pt.up (m := 2 ^ 30) (rhigh_le hpt) (by decide)
      cases b1 : z.bef (rlow o) <;> cases b2 : (rhigh o).bef z <;>
      · rw [b1] at e1
        rw [b2] at e2
        dsimp only [cond_true, cond_false] at e1 e2
        repeat (first | (refine wo rfl (fun k hk => ?_); simp (disch := omega) only [go_sem, Nat.reduceBEq, Nat.reduceAdd]; refine hk _ _ ?_; clear hk k) | refine wkt rfl ?_ | refine wk0 ?_ | refine rg rfl rfl (fun K hK => ?_) | ((first | refine AWP_exit ?_ | refine AWP_skip ?_); simp (disch := decide) only [qs, qb, if_true, if_false, reduceIte]) | refine AWP_sq rfl (fun K hK => ?_) | refine ct rfl ?_ | ((try simp (disch := omega) only [go_sem, Nat.reduceBEq, Nat.reduceAdd]); (first | apply hK | (clear hK; apply hK) | (clear hK; clear hK; apply hK)); clear hK; (try clear K); (try dsimp only [behind, qs, qb])))
        refine cN rfl rfl rfl rfl (by exact kT) ?_; rintro w5 h5 s5 zz5; obtain ⟨f1, f2, f3, f4, f5, f6, f7, rfl, zz5c⟩ := zz5.sa
        repeat (first | (refine wo rfl (fun k hk => ?_); simp (disch := omega) only [go_sem, Nat.reduceBEq, Nat.reduceAdd]; refine hk _ _ ?_; clear hk k) | refine wkt rfl ?_ | refine wk0 ?_ | ((first | refine rg rfl rfl (fun K hK => ?_)); (repeat (first | (refine wo rfl (fun k hk => ?_); simp (disch := omega) only [go_sem, Nat.reduceBEq, Nat.reduceAdd]; refine hk _ _ ?_; clear hk k) | refine wkt rfl ?_ | refine wk0 ?_)); (first | apply hK | (clear hK; apply hK) | (clear hK; clear hK; apply hK)); clear hK; (try clear K); (try dsimp only [behind, qs, qb])) | ((first | refine AWP_exit ?_ | refine AWP_skip ?_); simp (disch := decide) only [qs, qb, if_true, if_false, reduceIte]) | refine AWP_sq rfl (fun K hK => ?_) | refine ct rfl ?_ | ((try simp (disch := omega) only [go_sem, Nat.reduceBEq, Nat.reduceAdd]); (first | apply hK | (clear hK; apply hK) | (clear hK; clear hK; apply hK)); clear hK; (try clear K); (try dsimp only [behind, qs, qb])))
        have zz5d : Re h5 (.agg #[.int .i64 z.side, .bool f1, .slice f2 f3 f4, .slice f5 f6 f7]) z := ⟨_, _, _, rfl, zz5c⟩
        have kP := fun {h} [Le h5 h] => RefBefore (h := h) zz5d (hL.to (h' := h5)) lz' lL
        have kQ := fun {h} [Le h5 h] => RefBefore (h := h) (hM.to (h' := h5)) zz5d lM lz'
        rw [b1] at kP
        rw [b2] at kQ
        refine rg rfl rfl (fun K hK => ?_); (repeat (first | (refine wo rfl (fun k hk => ?_); simp (disch := omega) only [go_sem, Nat.reduceBEq, Nat.reduceAdd]; refine hk _ _ ?_; clear hk k) | refine wkt rfl ?_)); (try refine wk0 ?_)
        refine cN rfl rfl rfl rfl (by exact kP) ?_; rintro w6 h6 s6 rfl
        repeat (first | (refine wo rfl (fun k hk => ?_); simp (disch := omega) only [go_sem, Nat.reduceBEq, Nat.reduceAdd]; refine hk _ _ ?_; clear hk k) | refine wkt rfl ?_ | refine wk0 ?_ | refine rg rfl rfl (fun K hK => ?_) | ((first | refine AWP_exit ?_ | refine AWP_skip ?_); simp (disch := decide) only [qs, qb, if_true, if_false, reduceIte]) | refine AWP_sq rfl (fun K hK => ?_) | refine ct rfl ?_ | ((try simp (disch := omega) only [go_sem, Nat.reduceBEq, Nat.reduceAdd]); (first | apply hK | (clear hK; apply hK) | (clear hK; clear hK; apply hK)); clear hK; (try clear K); (try dsimp only [behind, qs, qb])))
        refine cN rfl rfl rfl rfl (by exact kQ) ?_; rintro w7 h7 s7 rfl
        repeat (first | (refine wo rfl (fun k hk => ?_); simp (disch := omega) only [go_sem, Nat.reduceBEq, Nat.reduceAdd]; refine hk _ _ ?_; clear hk k) | refine wkt rfl ?_ | refine wk0 ?_ | refine rg rfl rfl (fun K hK => ?_) | ((first | refine AWP_exit ?_ | refine AWP_skip ?_); simp (disch := decide) only [qs, qb, if_true, if_false, reduceIte]) | refine AWP_sq rfl (fun K hK => ?_) | refine ct rfl ?_ | ((try simp (disch := omega) only [go_sem, Nat.reduceBEq, Nat.reduceAdd]); (first | apply hK | (clear hK; apply hK) | (clear hK; clear hK; apply hK)); clear hK; (try clear K); (try dsimp only [behind, qs, qb])))
        refine ⟨(0 + 1, _, _), [0, 1, 2, 3, 4, 5], ?_, ⟨inferInstance, (show 0 + 1 ≤ 2 by decide), _, hpt', by rw [e1]; first | exact zz5d.to | exact hL.to, by rw [e2]; first | exact zz5d.to | exact hM.to, hz⟩, (show 2 - (0 + 1) < 2 - 0 by decide)⟩
        simp (disch := omega) only [go_sem, Nat.reduceBEq, Nat.reduceAdd, nodupB]
        all_goals rfl
    · have lz := mul_le lX0 ld0 (by decide)
      have hz : inn X y1 y2 O (1 + 1) = stp o (X.mul y2) := by rw [← hacc]; rfl
      have e1 := rlow_stp (z := X.mul y2) hpt.2.2
      have e2 := rhigh_stp (z := X.mul y2) hpt.2.2
      have hpt' := stp_pts (z := X.mul y2) hpt lz
      have kT := fun {h} [Le h4 h] => RefTimes_end (h := h) (eX.to (h' := h4)) (ed.to (h' := h4)) lX ld
      generalize X.mul y2 = z at *
      have lz' := Pt.up (m := 2 ^ 30) lz (by decide)
      have lL := Pt.up (m := 2 ^ 30) (rlow_le hpt) (by decide)
      have lM := Pt.up (m := 2 ^ 30) (rhigh_le hpt) (by decide)
      cases b1 : z.bef (rlow o) <;> cases b2 : (rhigh o).bef z <;>
      · rw [b1] at e1
        rw [b2] at e2
        dsimp only [cond_true, cond_false] at e1 e2
        repeat (first | (refine wo rfl (fun k hk => ?_); simp (disch := omega) only [go_sem, Nat.reduceBEq, Nat.reduceAdd]; refine hk _ _ ?_; clear hk k) | refine wkt rfl ?_ | refine wk0 ?_ | refine rg rfl rfl (fun K hK => ?_) | ((first | refine AWP_exit ?_ | refine AWP_skip ?_); simp (disch := decide) only [qs, qb, if_true, if_false, reduceIte]) | refine AWP_sq rfl (fun K hK => ?_) | refine ct rfl ?_ | ((try simp (disch := omega) only [go_sem, Nat.reduceBEq, Nat.reduceAdd]); (first | apply hK | (clear hK; apply hK) | (clear hK; clear hK; apply hK)); clear hK; (try clear K); (try dsimp only [behind, qs, qb])))
        refine cN rfl rfl rfl rfl (by exact kT) ?_; rintro w5 h5 s5 zz5; obtain ⟨f1, f2, f3, f4, f5, f6, f7, rfl, zz5c⟩ := zz5.sa
        repeat (first | (refine wo rfl (fun k hk => ?_); simp (disch := omega) only [go_sem, Nat.reduceBEq, Nat.reduceAdd]; refine hk _ _ ?_; clear hk k) | refine wkt rfl ?_ | refine wk0 ?_ | ((first | refine rg rfl rfl (fun K hK => ?_)); (repeat (first | (refine wo rfl (fun k hk => ?_); simp (disch := omega) only [go_sem, Nat.reduceBEq, Nat.reduceAdd]; refine hk _ _ ?_; clear hk k) | refine wkt rfl ?_ | refine wk0 ?_)); (first | apply hK | (clear hK; apply hK) | (clear hK; clear hK; apply hK)); clear hK; (try clear K); (try dsimp only [behind, qs, qb])) | ((first | refine AWP_exit ?_ | refine AWP_skip ?_); simp (disch := decide) only [qs, qb, if_true, if_false, reduceIte]) | refine AWP_sq rfl (fun K hK => ?_) | refine ct rfl ?_ | ((try simp (disch := omega) only [go_sem, Nat.reduceBEq, Nat.reduceAdd]); (first | apply hK | (clear hK; apply hK) | (clear hK; clear hK; apply hK)); clear hK; (try clear K); (try dsimp only [behind, qs, qb])))
        have zz5d : Re h5 (.agg #[.int .i64 z.side, .bool f1, .slice f2 f3 f4, .slice f5 f6 f7]) z := ⟨_, _, _, rfl, zz5c⟩
        have kP := fun {h} [Le h5 h] => RefBefore (h := h) zz5d (hL.to (h' := h5)) lz' lL
        have kQ := fun {h} [Le h5 h] => RefBefore (h := h) (hM.to (h' := h5)) zz5d lM lz'
        rw [b1] at kP
        rw [b2] at kQ
        refine rg rfl rfl (fun K hK => ?_); (repeat (first | (refine wo rfl (fun k hk => ?_); simp (disch := omega) only [go_sem, Nat.reduceBEq, Nat.reduceAdd]; refine hk _ _ ?_; clear hk k) | refine wkt rfl ?_)); (try refine wk0 ?_)
        refine cN rfl rfl rfl rfl (by exact kP) ?_; rintro w6 h6 s6 rfl
        repeat (first | (refine wo rfl (fun k hk => ?_); simp (disch := omega) only [go_sem, Nat.reduceBEq, Nat.reduceAdd]; refine hk _ _ ?_; clear hk k) | refine wkt rfl ?_ | refine wk0 ?_ | refine rg rfl rfl (fun K hK => ?_) | ((first | refine AWP_exit ?_ | refine AWP_skip ?_); simp (disch := decide) only [qs, qb, if_true, if_false, reduceIte]) | refine AWP_sq rfl (fun K hK => ?_) | refine ct rfl ?_ | ((try simp (disch := omega) only [go_sem, Nat.reduceBEq, Nat.reduceAdd]); (first | apply hK | (clear hK; apply hK) | (clear hK; clear hK; apply hK)); clear hK; (try clear K); (try dsimp only [behind, qs, qb])))
        refine cN rfl rfl rfl rfl (by exact kQ) ?_; rintro w7 h7 s7 rfl
        repeat (first | (refine wo rfl (fun k hk => ?_); simp (disch := omega) only [go_sem, Nat.reduceBEq, Nat.reduceAdd]; refine hk _ _ ?_; clear hk k) | refine wkt rfl ?_ | refine wk0 ?_ | refine rg rfl rfl (fun K hK => ?_) | ((first | refine AWP_exit ?_ | refine AWP_skip ?_); simp (disch := decide) only [qs, qb, if_true, if_false, reduceIte]) | refine AWP_sq rfl (fun K hK => ?_) | refine ct rfl ?_ | ((try simp (disch := omega) only [go_sem, Nat.reduceBEq, Nat.reduceAdd]); (first | apply hK | (clear hK; apply hK) | (clear hK; clear hK; apply hK)); clear hK; (try clear K); (try dsimp only [behind, qs, qb])))
        refine ⟨(1 + 1, _, _), [0, 1, 2, 3, 4, 5], ?_, ⟨inferInstance, (show 1 + 1 ≤ 2 by decide), _, hpt', by rw [e1]; first | exact zz5d.to | exact hL.to, by rw [e2]; first | exact zz5d.to | exact hM.to, hz⟩, (show 2 - (1 + 1) < 2 - 1 by decide)⟩
        simp (disch := omega) only [go_sem, Nat.reduceBEq, Nat.reduceAdd, nodupB]
        all_goals rfl
  · repeat (first | (refine wo rfl (fun k hk => ?_); simp (disch := omega) only [go_sem, Nat.reduceBEq, Nat.reduceAdd]; refine hk _ _ ?_; clear hk k) | refine wkt rfl ?_ | refine wk0 ?_ | refine rg rfl rfl (fun K hK => ?_) | ((first | refine AWP_exit ?_ | refine AWP_skip ?_); simp (disch := decide) only [qs, qb, if_true, if_false, reduceIte]) | refine AWP_sq rfl (fun K hK => ?_) | refine ct rfl ?_ | ((try simp (disch := omega) only [go_sem, Nat.reduceBEq, Nat.reduceAdd]); (first | apply hK | (clear hK; apply hK) | (clear hK; clear hK; apply hK)); clear hK; (try clear K); (try dsimp only [behind, qs, qb])))
    refine cN rfl rfl rfl rfl (by exact kB) ?_; rintro w3 h3 s3 zz3; obtain ⟨r1, r2, r3, r4, r5, r6, r7, t1, t2, t3, t4, t5, t6, t7, rfl, ec, ed⟩ := zz3
    repeat (first | (refine wo rfl (fun k hk => ?_); simp (disch := omega) only [go_sem, Nat.reduceBEq, Nat.reduceAdd]; refine hk _ _ ?_; clear hk k) | refine wkt rfl ?_ | refine wk0 ?_ | ((first | refine rg rfl rfl (fun K hK => ?_)); (repeat (first | (refine wo rfl (fun k hk => ?_); simp (disch := omega) only [go_sem, Nat.reduceBEq, Nat.reduceAdd]; refine hk _ _ ?_; clear hk k) | refine wkt rfl ?_ | refine wk0 ?_)); (first | apply hK | (clear hK; apply hK) | (clear hK; clear hK; apply hK)); clear hK; (try clear K); (try dsimp only [behind, qs, qb])) | ((first | refine AWP_exit ?_ | refine AWP_skip ?_); simp (disch := decide) only [qs, qb, if_true, if_false, reduceIte]) | refine AWP_sq rfl (fun K hK => ?_) | refine ct rfl ?_ | ((try simp (disch := omega) only [go_sem, Nat.reduceBEq, Nat.reduceAdd]); (first | apply hK | (clear hK; apply hK) | (clear hK; clear hK; apply hK)); clear hK; (try clear K); (try dsimp only [behind, qs, qb])))
    have eX := eb.to (h' := h3)
    have hO : outer x1 x2 y1 y2 (1 + 1) = inn x2 y1 y2 o 2 := by rw [← hacc]; rfl
    have lX : x2.le (2 ^ 30) := lb
    have lX0 : x2.le 2048 := lb0
    clear hacc
    generalize hOO : o = O at hO
    refine AWP_loopS (fun x : Nat × List Value × List Value => ⟨[(3, .p 1 0), (4, .p 2 0), (5, .p 3 0), (6, .p 4 0), (8, .p 5 0), (23, .v (.agg #[.int .i64 x1.side, .bool p1, .slice p2 p3 p4, .slice p5 p6 p7, .int .i64 x2.side, .bool q1, .slice q2 q3 q4, .slice q5 q6 q7])), (24, .v (.int .i64 1)), (28, .v (.agg #[.int .i64 y1.side, .bool r1, .slice r2 r3 r4, .slice r5 r6 r7, .int .i64 y2.side, .bool t1, .slice t2 t3 t4, .slice t5 t6 t7])), (29, .v (.int .i64 x.1))], [[.bool b1, .slice a1 m1 c1, .slice a2 m2 c2, .bool b2, .slice a3 m3 c3, .slice a4 m4 c4, .bool a.isNone, .bool b.isNone, .bool false], [.bool b1', .slice a1' m1' c1', .slice a2' m2' c2', .bool b2', .slice a3' m3' c3', .slice a4' m4' c4', .bool c.isNone, .bool d.isNone, .bool false], [.bool false, .slice none 0 0, .slice none 0 0, .bool false, .slice none 0 0, .slice none 0 0, .bool false, .bool false, .bool false], x.2.1, x.2.2, [.int .i64 x2.side, .bool q1, .slice q2 q3 q4, .slice q5 q6 q7]]⟩)
      (fun x h' => Le h3 h' ∧ x.1 ≤ 2 ∧ ∃ o, NS.pts 4096 o ∧ Re h' (.agg x.2.1.toArray) (rlow o) ∧ Re h' (.agg x.2.2.toArray) (rhigh o) ∧ inn x2 y1 y2 O x.1 = o)
      (fun x => 2 - x.1) (0, _, _) [0, 1, 2, 3, 4, 5] ?_ ⟨inferInstance, (show 0 ≤ 2 by decide), o, hpt, hL.to (h' := h3), hM.to (h' := h3), hOO.symm⟩ ?_
    · simp (disch := omega) only [go_sem, Nat.reduceBEq, Nat.reduceAdd, nodupB]
      subst hOO
      exact ⟨.inr rfl, .inr rfl⟩
    clear hL hM hpt hOO o g1 g2 g3 g4 g5 g6 g7 k1 k2 k3 k4 k5 k6 k7
    rintro ⟨j, cs, ds⟩ h4 ⟨le4, hj, o, hpt, hL, hM, hacc⟩
    dsimp only at *
    generalize hX : x2 = X at *
    obtain ⟨g1, g2, g3, g4, g5, g6, g7, rfl⟩ := hL.list
    obtain ⟨k1, k2, k3, k4, k5, k6, k7, rfl⟩ := hM.list
    obtain rfl | rfl | rfl : j = 2 ∨ j = 0 ∨ j = 1 := by omega
    · repeat (first | (refine wo rfl (fun k hk => ?_); simp (disch := omega) only [go_sem, Nat.reduceBEq, Nat.reduceAdd]; refine hk _ _ ?_; clear hk k) | refine wkt rfl ?_ | refine wk0 ?_ | refine rg rfl rfl (fun K hK => ?_) | ((first | refine AWP_exit ?_ | refine AWP_skip ?_); simp (disch := decide) only [qs, qb, if_true, if_false, reduceIte]) | refine AWP_sq rfl (fun K hK => ?_) | refine ct rfl ?_ | ((try simp (disch := omega) only [go_sem, Nat.reduceBEq, Nat.reduceAdd]); (first | apply hK | (clear hK; apply hK) | (clear hK; clear hK; apply hK)); clear hK; (try clear K); (try dsimp only [behind, qs, qb])))
      refine ⟨(1 + 1, _, _), [0, 1, 2, 3, 4], ?_, ⟨Le.tr le2 (Le.tr inferInstance le4), (show 1 + 1 ≤ 2 by decide), o, hpt, hL, hM, by rw [hO]; exact hacc⟩, (show 2 - (1 + 1) < 2 - 1 by decide)⟩
      simp (disch := omega) only [go_sem, Nat.reduceBEq, Nat.reduceAdd, nodupB]
      all_goals rfl
    · have lz := mul_le lX0 lc0 (by decide)
      have hz : inn X y1 y2 O (0 + 1) = stp o (X.mul y1) := by rw [← hacc]; rfl
      have e1 := rlow_stp (z := X.mul y1) hpt.2.2
      have e2 := rhigh_stp (z := X.mul y1) hpt.2.2
      have hpt' := stp_pts (z := X.mul y1) hpt lz
      have kT := fun {h} [Le h4 h] => RefTimes_end (h := h) (eX.to (h' := h4)) (ec.to (h' := h4)) lX lc
      generalize X.mul y1 = z at *
      have lz' := Pt.up (m := 2 ^ 30) lz (by decide)
      have lL := Pt.up (m := 2 ^ 30) (rlow_le hpt) (by decide)
      have lM := Pt.up (m := 2 ^ 30) (rhigh_le hpt) (by decide)
      cases b1 : z.bef (rlow o) <;> cases b2 : (rhigh o).bef z <;>
      · rw [b1] at e1
        rw [b2] at e2
        dsimp only [cond_true, cond_false] at e1 e2
        repeat (first | (refine wo rfl (fun k hk => ?_); simp (disch := omega) only [go_sem, Nat.reduceBEq, Nat.reduceAdd]; refine hk _ _ ?_; clear hk k) | refine wkt rfl ?_ | refine wk0 ?_ | refine rg rfl rfl (fun K hK => ?_) | ((first | refine AWP_exit ?_ | refine AWP_skip ?_); simp (disch := decide) only [qs, qb, if_true, if_false, reduceIte]) | refine AWP_sq rfl (fun K hK => ?_) | refine ct rfl ?_ | ((try simp (disch := omega) only [go_sem, Nat.reduceBEq, Nat.reduceAdd]); (first | apply hK | (clear hK; apply hK) | (clear hK; clear hK; apply hK)); clear hK; (try clear K); (try dsimp only [behind, qs, qb])))
        refine cN rfl rfl rfl rfl (by exact kT) ?_; rintro w5 h5 s5 zz5; obtain ⟨f1, f2, f3, f4, f5, f6, f7, rfl, zz5c⟩ := zz5.sa
        repeat (first | (refine wo rfl (fun k hk => ?_); simp (disch := omega) only [go_sem, Nat.reduceBEq, Nat.reduceAdd]; refine hk _ _ ?_; clear hk k) | refine wkt rfl ?_ | refine wk0 ?_ | ((first | refine rg rfl rfl (fun K hK => ?_)); (repeat (first | (refine wo rfl (fun k hk => ?_); simp (disch := omega) only [go_sem, Nat.reduceBEq, Nat.reduceAdd]; refine hk _ _ ?_; clear hk k) | refine wkt rfl ?_ | refine wk0 ?_)); (first | apply hK | (clear hK; apply hK) | (clear hK; clear hK; apply hK)); clear hK; (try clear K); (try dsimp only [behind, qs, qb])) | ((first | refine AWP_exit ?_ | refine AWP_skip ?_); simp (disch := decide) only [qs, qb, if_true, if_false, reduceIte]) | refine AWP_sq rfl (fun K hK => ?_) | refine ct rfl ?_ | ((try simp (disch := omega) only [go_sem, Nat.reduceBEq, Nat.reduceAdd]); (first | apply hK | (clear hK; apply hK) | (clear hK; clear hK; apply hK)); clear hK; (try clear K); (try dsimp only [behind, qs, qb])))
        have zz5d : Re h5 (.agg #[.int .i64 z.side, .bool f1, .slice f2 f3 f4, .slice f5 f6 f7]) z := ⟨_, _, _, rfl, zz5c⟩
        have kP := fun {h} [Le h5 h] => RefBefore (h := h) zz5d (hL.to (h' := h5)) lz' lL
        have kQ := fun {h} [Le h5 h] => RefBefore (h := h) (hM.to (h' := h5)) zz5d lM lz'
        rw [b1] at kP
        rw [b2] at kQ
        refine rg rfl rfl (fun K hK => ?_); (repeat (first | (refine wo rfl (fun k hk => ?_); simp (disch := omega) only [go_sem, Nat.reduceBEq, Nat.reduceAdd]; refine hk _ _ ?_; clear hk k) | refine wkt rfl ?_)); (try refine wk0 ?_)
        refine cN rfl rfl rfl rfl (by exact kP) ?_; rintro w6 h6 s6 rfl
        repeat (first | (refine wo rfl (fun k hk => ?_); simp (disch := omega) only [go_sem, Nat.reduceBEq, Nat.reduceAdd]; refine hk _ _ ?_; clear hk k) | refine wkt rfl ?_ | refine wk0 ?_ | refine rg rfl rfl (fun K hK => ?_) | ((first | refine AWP_exit ?_ | refine AWP_skip ?_); simp (disch := decide) only [qs, qb, if_true, if_false, reduceIte]) | refine AWP_sq rfl (fun K hK => ?_) | refine ct rfl ?_ | ((try simp (disch := omega) only [go_sem, Nat.reduceBEq, Nat.reduceAdd]); (first | apply hK | (clear hK; apply hK) | (clear hK; clear hK; apply hK)); clear hK; (try clear K); (try dsimp only [behind, qs, qb])))
        refine cN rfl rfl rfl rfl (by exact kQ) ?_; rintro w7 h7 s7 rfl
        repeat (first | (refine wo rfl (fun k hk => ?_); simp (disch := omega) only [go_sem, Nat.reduceBEq, Nat.reduceAdd]; refine hk _ _ ?_; clear hk k) | refine wkt rfl ?_ | refine wk0 ?_ | refine rg rfl rfl (fun K hK => ?_) | ((first | refine AWP_exit ?_ | refine AWP_skip ?_); simp (disch := decide) only [qs, qb, if_true, if_false, reduceIte]) | refine AWP_sq rfl (fun K hK => ?_) | refine ct rfl ?_ | ((try simp (disch := omega) only [go_sem, Nat.reduceBEq, Nat.reduceAdd]); (first | apply hK | (clear hK; apply hK) | (clear hK; clear hK; apply hK)); clear hK; (try clear K); (try dsimp only [behind, qs, qb])))
        refine ⟨(0 + 1, _, _), [0, 1, 2, 3, 4, 5], ?_, ⟨inferInstance, (show 0 + 1 ≤ 2 by decide), _, hpt', by rw [e1]; first | exact zz5d.to | exact hL.to, by rw [e2]; first | exact zz5d.to | exact hM.to, hz⟩, (show 2 - (0 + 1) < 2 - 0 by decide)⟩
        simp (disch := omega) only [go_sem, Nat.reduceBEq, Nat.reduceAdd, nodupB]
        all_goals rfl
    · have lz := mul_le lX0 ld0 (by decide)
      have hz : inn X y1 y2 O (1 + 1) = stp o (X.mul y2) := by rw [← hacc]; rfl
      have e1 := rlow_stp (z := X.mul y2) hpt.2.2
      have e2 := rhigh_stp (z := X.mul y2) hpt.2.2
      have hpt' := stp_pts (z := X.mul y2) hpt lz
      have kT := fun {h} [Le h4 h] => RefTimes_end (h := h) (eX.to (h' := h4)) (ed.to (h' := h4)) lX ld
      generalize X.mul y2 = z at *
      have lz' := Pt.up (m := 2 ^ 30) lz (by decide)
      have lL := Pt.up (m := 2 ^ 30) (rlow_le hpt) (by decide)
      have lM := Pt.up (m := 2 ^ 30) (rhigh_le hpt) (by decide)
      cases b1 : z.bef (rlow o) <;> cases b2 : (rhigh o).bef z <;>
      · rw [b1] at e1
        rw [b2] at e2
        dsimp only [cond_true, cond_false] at e1 e2
        repeat (first | (refine wo rfl (fun k hk => ?_); simp (disch := omega) only [go_sem, Nat.reduceBEq, Nat.reduceAdd]; refine hk _ _ ?_; clear hk k) | refine wkt rfl ?_ | refine wk0 ?_ | refine rg rfl rfl (fun K hK => ?_) | ((first | refine AWP_exit ?_ | refine AWP_skip ?_); simp (disch := decide) only [qs, qb, if_true, if_false, reduceIte]) | refine AWP_sq rfl (fun K hK => ?_) | refine ct rfl ?_ | ((try simp (disch := omega) only [go_sem, Nat.reduceBEq, Nat.reduceAdd]); (first | apply hK | (clear hK; apply hK) | (clear hK; clear hK; apply hK)); clear hK; (try clear K); (try dsimp only [behind, qs, qb])))
        refine cN rfl rfl rfl rfl (by exact kT) ?_; rintro w5 h5 s5 zz5; obtain ⟨f1, f2, f3, f4, f5, f6, f7, rfl, zz5c⟩ := zz5.sa
        repeat (first | (refine wo rfl (fun k hk => ?_); simp (disch := omega) only [go_sem, Nat.reduceBEq, Nat.reduceAdd]; refine hk _ _ ?_; clear hk k) | refine wkt rfl ?_ | refine wk0 ?_ | ((first | refine rg rfl rfl (fun K hK => ?_)); (repeat (first | (refine wo rfl (fun k hk => ?_); simp (disch := omega) only [go_sem, Nat.reduceBEq, Nat.reduceAdd]; refine hk _ _ ?_; clear hk k) | refine wkt rfl ?_ | refine wk0 ?_)); (first | apply hK | (clear hK; apply hK) | (clear hK; clear hK; apply hK)); clear hK; (try clear K); (try dsimp only [behind, qs, qb])) | ((first | refine AWP_exit ?_ | refine AWP_skip ?_); simp (disch := decide) only [qs, qb, if_true, if_false, reduceIte]) | refine AWP_sq rfl (fun K hK => ?_) | refine ct rfl ?_ | ((try simp (disch := omega) only [go_sem, Nat.reduceBEq, Nat.reduceAdd]); (first | apply hK | (clear hK; apply hK) | (clear hK; clear hK; apply hK)); clear hK; (try clear K); (try dsimp only [behind, qs, qb])))
        have zz5d : Re h5 (.agg #[.int .i64 z.side, .bool f1, .slice f2 f3 f4, .slice f5 f6 f7]) z := ⟨_, _, _, rfl, zz5c⟩
        have kP := fun {h} [Le h5 h] => RefBefore (h := h) zz5d (hL.to (h' := h5)) lz' lL
        have kQ := fun {h} [Le h5 h] => RefBefore (h := h) (hM.to (h' := h5)) zz5d lM lz'
        rw [b1] at kP
        rw [b2] at kQ
        refine rg rfl rfl (fun K hK => ?_); (repeat (first | (refine wo rfl (fun k hk => ?_); simp (disch := omega) only [go_sem, Nat.reduceBEq, Nat.reduceAdd]; refine hk _ _ ?_; clear hk k) | refine wkt rfl ?_)); (try refine wk0 ?_)
        refine cN rfl rfl rfl rfl (by exact kP) ?_; rintro w6 h6 s6 rfl
        repeat (first | (refine wo rfl (fun k hk => ?_); simp (disch := omega) only [go_sem, Nat.reduceBEq, Nat.reduceAdd]; refine hk _ _ ?_; clear hk k) | refine wkt rfl ?_ | refine wk0 ?_ | refine rg rfl rfl (fun K hK => ?_) | ((first | refine AWP_exit ?_ | refine AWP_skip ?_); simp (disch := decide) only [qs, qb, if_true, if_false, reduceIte]) | refine AWP_sq rfl (fun K hK => ?_) | refine ct rfl ?_ | ((try simp (disch := omega) only [go_sem, Nat.reduceBEq, Nat.reduceAdd]); (first | apply hK | (clear hK; apply hK) | (clear hK; clear hK; apply hK)); clear hK; (try clear K); (try dsimp only [behind, qs, qb])))
        refine cN rfl rfl rfl rfl (by exact kQ) ?_; rintro w7 h7 s7 rfl
        repeat (first | (refine wo rfl (fun k hk => ?_); simp (disch := omega) only [go_sem, Nat.reduceBEq, Nat.reduceAdd]; refine hk _ _ ?_; clear hk k) | refine wkt rfl ?_ | refine wk0 ?_ | refine rg rfl rfl (fun K hK => ?_) | ((first | refine AWP_exit ?_ | refine AWP_skip ?_); simp (disch := decide) only [qs, qb, if_true, if_false, reduceIte]) | refine AWP_sq rfl (fun K hK => ?_) | refine ct rfl ?_ | ((try simp (disch := omega) only [go_sem, Nat.reduceBEq, Nat.reduceAdd]); (first | apply hK | (clear hK; apply hK) | (clear hK; clear hK; apply hK)); clear hK; (try clear K); (try dsimp only [behind, qs, qb])))
        refine ⟨(1 + 1, _, _), [0, 1, 2, 3, 4, 5], ?_, ⟨inferInstance, (show 1 + 1 ≤ 2 by decide), _, hpt', by rw [e1]; first | exact zz5d.to | exact hL.to, by rw [e2]; first | exact zz5d.to | exact hM.to, hz⟩, (show 2 - (1 + 1) < 2 - 1 by decide)⟩
        simp (disch := omega) only [go_sem, Nat.reduceBEq, Nat.reduceAdd, nodupB]
        all_goals rfl
theorem RefTimes {h0 h : PH} [Le h0 h] {v w : Value} {x y : NS} (hv : Rr h0 v x) (hw : Rr h0 w y) (lx : x.le 2048) (ly : y.le 2048) :
    Spec mach 53 #[v, w] h (fun v h' => Rr h' v (x.prod y)) NP := by
  cases x with
  | i a b => cases y with
    | i c d => exact RefTimes_i hv hw lx ly
    | e =>
      show Spec _ _ _ _ (fun v h' => Rr h' v .e) _
      obtain ⟨_, _, _, _, _, _, _, _, _, _, _, _, _, _, rfl, _, _⟩ := hv.sa
      obtain ⟨_, _, _, _, _, _, _, _, _, _, _, _, _, _, rfl, _, _⟩ := hw.sa
      dsimp only [NS.void]
      refine Spec.enter (args := [_, _]) (n := 65) Tryz.func53 rfl (by kernel_rfl) rfl (by simp) [.cell 4 58] rfl (fun C _ => ?_)
      repeat (first | (refine wo rfl (fun k hk => ?_); simp (disch := omega) only [go_sem, Nat.reduceBEq, Nat.reduceAdd]; refine hk _ _ ?_; clear hk k) | refine wkt rfl ?_ | refine wk0 ?_ | refine rg rfl rfl (fun K hK => ?_) | ((first | refine AWP_exit ?_ | refine AWP_skip ?_); simp (disch := decide) only [qs, qb, if_true, if_false, reduceIte]) | refine AWP_sq rfl (fun K hK => ?_) | refine ct rfl ?_ | ((try simp (disch := omega) only [go_sem, Nat.reduceBEq, Nat.reduceAdd]); (first | apply hK | (clear hK; apply hK) | (clear hK; clear hK; apply hK)); clear hK; (try clear K); (try dsimp only [behind, qs, qb])))
      refine cN rfl rfl rfl rfl (by exact RefNone) ?_; rintro v1 h1 st_h1 f1; obtain ⟨v1_0, v1_1, v1_2, v1_3, v1_4, v1_5, v1_6, v1_7, v1_8, v1_9, v1_10, v1_11, v1_12, v1_13, rfl, f1⟩ := f1.sa
      repeat (first | (refine wo rfl (fun k hk => ?_); simp (disch := omega) only [go_sem, Nat.reduceBEq, Nat.reduceAdd]; refine hk _ _ ?_; clear hk k) | refine wkt rfl ?_ | refine wk0 ?_ | refine rg rfl rfl (fun K hK => ?_) | ((first | refine AWP_exit ?_ | refine AWP_skip ?_); simp (disch := decide) only [qs, qb, if_true, if_false, reduceIte]) | refine AWP_sq rfl (fun K hK => ?_) | refine ct rfl ?_ | ((try simp (disch := omega) only [go_sem, Nat.reduceBEq, Nat.reduceAdd]); (first | apply hK | (clear hK; apply hK) | (clear hK; clear hK; apply hK)); clear hK; (try clear K); (try dsimp only [behind, qs, qb])))
      refine AWP_ret ?_; simp (disch := omega) only [go_sem, Nat.reduceBEq, Nat.reduceAdd]
      exact f1
  | e =>
    have e0 : NS.e.prod y = .e := by cases y <;> rfl
    rw [e0]
    obtain ⟨_, _, _, _, _, _, _, _, _, _, _, _, _, _, rfl, _, _⟩ := hv.sa
    obtain ⟨_, _, _, _, _, _, _, _, _, _, _, _, _, _, rfl, _, _⟩ := hw.sa
    dsimp only [NS.void]
    refine Spec.enter (args := [_, _]) (n := 65) Tryz.func53 rfl (by kernel_rfl) rfl (by simp) [.cell 4 58] rfl (fun C _ => ?_)
    repeat (first | (refine wo rfl (fun k hk => ?_); simp (disch := omega) only [go_sem, Nat.reduceBEq, Nat.reduceAdd]; refine hk _ _ ?_; clear hk k) | refine wkt rfl ?_ | refine wk0 ?_ | refine rg rfl rfl (fun K hK => ?_) | ((first | refine AWP_exit ?_ | refine AWP_skip ?_); simp (disch := decide) only [qs, qb, if_true, if_false, reduceIte]) | refine AWP_sq rfl (fun K hK => ?_) | refine ct rfl ?_ | ((try simp (disch := omega) only [go_sem, Nat.reduceBEq, Nat.reduceAdd]); (first | apply hK | (clear hK; apply hK) | (clear hK; clear hK; apply hK)); clear hK; (try clear K); (try dsimp only [behind, qs, qb])))
    refine cN rfl rfl rfl rfl (by exact RefNone) ?_; rintro v1 h1 st_h1 f1; obtain ⟨v1_0, v1_1, v1_2, v1_3, v1_4, v1_5, v1_6, v1_7, v1_8, v1_9, v1_10, v1_11, v1_12, v1_13, rfl, f1⟩ := f1.sa
    repeat (first | (refine wo rfl (fun k hk => ?_); simp (disch := omega) only [go_sem, Nat.reduceBEq, Nat.reduceAdd]; refine hk _ _ ?_; clear hk k) | refine wkt rfl ?_ | refine wk0 ?_ | refine rg rfl rfl (fun K hK => ?_) | ((first | refine AWP_exit ?_ | refine AWP_skip ?_); simp (disch := decide) only [qs, qb, if_true, if_false, reduceIte]) | refine AWP_sq rfl (fun K hK => ?_) | refine ct rfl ?_ | ((try simp (disch := omega) only [go_sem, Nat.reduceBEq, Nat.reduceAdd]); (first | apply hK | (clear hK; apply hK) | (clear hK; clear hK; apply hK)); clear hK; (try clear K); (try dsimp only [behind, qs, qb])))
    refine AWP_ret ?_; simp (disch := omega) only [go_sem, Nat.reduceBEq, Nat.reduceAdd]
    exact f1
end Go.Q
