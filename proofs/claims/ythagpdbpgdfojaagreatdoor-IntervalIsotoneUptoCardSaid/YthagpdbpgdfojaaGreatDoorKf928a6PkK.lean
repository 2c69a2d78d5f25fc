/-
  Contracts of package interval: what Inside answers. Conditions: the values are intervals.
  Contracts of package interval: ends of sets, products of ends. Conditions: the values denote the ends named, numbers of at most 2^30 binary digits.
  Contracts of package interval: products of sets. Conditions: the values denote the intervals named, their ends of at most 2048 binary digits.
  Contracts of package interval: the product of two sets; what Mul returns. Conditions: the values denote the intervals named, their ends of at most 2048 binary digits.
  Contracts of package interval: inverses of sets; what Div returns. Conditions: the values are intervals.
  Products of sets, plain: they hold the products of the ends, they are the least that do, and they are greater for a greater second factor. Conditions: none.
  The same of another type of result: integers. Conditions: the closure's contract. (Printed by a program out of the text for intervals.)
  Contracts of package interval: the sign of a set; of package number: the sign of a number. Conditions: the values are intervals and numbers.
  Contracts of package interval: absolute values; whether a set is empty, bounded. Conditions: the values are intervals.
-/
import Derived.Test.YthagpdbpgdfojaaGreatDoorK21b233PkJ
import Derived.Test.YthagpdbpgdfojaaGreatDoorK8c26a1PkD
import Derived.Test.YthagpdbpgdfojaaGreatDoorK5756e2PkI
set_option linter.unusedVariables false
set_option linter.unusedSimpArgs false
namespace Go.Q
open Go.Proofs
set_option maxRecDepth 100000
set_option maxHeartbeats 4000000
def insB (s t : PS) : Bool := s.e || ((t.l || (!s.l && !decide (s.lo < t.lo))) && (t.u || (!s.u && !decide (t.hi < s.hi))) && !t.e)
theorem within_ps (s t : PS) : s.n.within t.n = insB s t := by
  obtain ⟨p1, p2, l, u, e⟩ := s
  obtain ⟨q1, q2, l', u', e'⟩ := t
  cases e <;> cases e' <;> cases l <;> cases l' <;> cases u <;> cases u' <;> simp [PS.n, NS.within, NS.lowIn, NS.highIn, insB]
def RI.bo2 (x y : RI) (b : Bool) : Except Int Bool := bif x.big || y.big then .error 1 else .ok b
theorem Inside1 {h0 h : PH} [Le h0 h] {v w : Value} {x y : RI} {b1 b2 : Nat} {cs ds : List Value} (hv : Iv h0 v x) (hw : Iv h0 w y) (hc : v = .agg cs.toArray) (hl : cs.length = 8) (hb1 : h b1 = some cs.toArray) (hc' : w = .agg ds.toArray) (hl' : ds.length = 8) (hb2 : h b2 = some ds.toArray) :
    Bd 46 #[.pointer (some ⟨b1, 0, none⟩), .pointer (some ⟨b2, 0, none⟩)] h (x.bo2 y (x.set.within y.set)) := by
  subst hc
  subst hc'
  unfold RI.bo2
  cases g : x.big with
  | true =>
    simp only [Bool.true_or, cond_true]
    refine Spec.enter (args := [_, _]) (n := 54) Tryz.func46 rfl (by kernel_rfl) rfl (by simp) [.tmp 2] rfl (fun C _ => ?_)
    repeat (first | (refine wo rfl (fun k hk => ?_); simp (disch := omega) only [go_sem, Nat.reduceBEq, Nat.reduceAdd]; refine hk _ _ ?_; clear hk k) | refine wkt rfl ?_ | refine wk0 ?_ | refine rg rfl rfl (fun K hK => ?_) | ((first | refine AWP_exit ?_ | refine AWP_skip ?_); simp (disch := decide) only [qs, qb, if_true, if_false, reduceIte]) | refine AWP_sq rfl (fun K hK => ?_) | refine ct rfl ?_ | ((try simp (disch := omega) only [go_sem, Nat.reduceBEq, Nat.reduceAdd]); (first | apply hK | (clear hK; apply hK) | (clear hK; clear hK; apply hK)); clear hK; (try clear K); (try dsimp only [behind, qs, qb])))
    refine wk (fun k hk => ?_); simp (disch := omega) only [go_sem, Nat.reduceBEq, Nat.reduceAdd]; refine ⟨cs, hl, at_row hb1, ?_⟩; refine hk _ _ ?_; clear hk k; (repeat (first | (refine wo rfl (fun k hk => ?_); simp (disch := omega) only [go_sem, Nat.reduceBEq, Nat.reduceAdd]; refine hk _ _ ?_; clear hk k) | refine wkt rfl ?_)); (try refine wk0 ?_)
    exact cF rfl rfl rfl rfl (by exact Read_fail' hv g) (fun _ _ h => h)
  | false =>
    cases g' : y.big with
    | true =>
      simp only [Bool.or_true, cond_true]
      refine Spec.enter (args := [_, _]) (n := 54) Tryz.func46 rfl (by kernel_rfl) rfl (by simp) [.tmp 2] rfl (fun C _ => ?_)
      repeat (first | (refine wo rfl (fun k hk => ?_); simp (disch := omega) only [go_sem, Nat.reduceBEq, Nat.reduceAdd]; refine hk _ _ ?_; clear hk k) | refine wkt rfl ?_ | refine wk0 ?_ | refine rg rfl rfl (fun K hK => ?_) | ((first | refine AWP_exit ?_ | refine AWP_skip ?_); simp (disch := decide) only [qs, qb, if_true, if_false, reduceIte]) | refine AWP_sq rfl (fun K hK => ?_) | refine ct rfl ?_ | ((try simp (disch := omega) only [go_sem, Nat.reduceBEq, Nat.reduceAdd]); (first | apply hK | (clear hK; apply hK) | (clear hK; clear hK; apply hK)); clear hK; (try clear K); (try dsimp only [behind, qs, qb])))
      refine wk (fun k hk => ?_); simp (disch := omega) only [go_sem, Nat.reduceBEq, Nat.reduceAdd]; refine ⟨cs, hl, at_row hb1, ?_⟩; refine hk _ _ ?_; clear hk k; (repeat (first | (refine wo rfl (fun k hk => ?_); simp (disch := omega) only [go_sem, Nat.reduceBEq, Nat.reduceAdd]; refine hk _ _ ?_; clear hk k) | refine wkt rfl ?_)); (try refine wk0 ?_)
      refine cN rfl rfl rfl rfl (by exact Read_set hv g) ?_; rintro s1 h1 st1 hs1; obtain ⟨_, _, _, _, _, _, _, _, _, _, _, _, _, _, _, _, rfl, hs1⟩ := hs1.sa; (repeat (first | (refine wo rfl (fun k hk => ?_); simp (disch := omega) only [go_sem, Nat.reduceBEq, Nat.reduceAdd]; refine hk _ _ ?_; clear hk k) | refine wkt rfl ?_)); (try refine wk0 ?_)
      (try (simp (disch := omega) only [go_sem, Nat.reduceBEq, Nat.reduceAdd])); refine hK _ _ ?_; clear hK; (try clear K); (try dsimp only [behind, qs])
      refine rg rfl rfl (fun K hK => ?_); (repeat (first | (refine wo rfl (fun k hk => ?_); simp (disch := omega) only [go_sem, Nat.reduceBEq, Nat.reduceAdd]; refine hk _ _ ?_; clear hk k) | refine wkt rfl ?_)); (try refine wk0 ?_)
      refine wk (fun k hk => ?_); simp (disch := omega) only [go_sem, Nat.reduceBEq, Nat.reduceAdd]; refine ⟨ds, hl', at_row (st1.sub _ _ hb2), ?_⟩; refine hk _ _ ?_; clear hk k; (repeat (first | (refine wo rfl (fun k hk => ?_); simp (disch := omega) only [go_sem, Nat.reduceBEq, Nat.reduceAdd]; refine hk _ _ ?_; clear hk k) | refine wkt rfl ?_)); (try refine wk0 ?_)
      exact cF rfl rfl rfl rfl (by exact Read_fail' hw g') (fun _ _ h => h)
    | false =>
      simp only [Bool.or_false, cond_false]
      obtain ⟨g1, g2⟩ := RI.small g
      obtain ⟨g3, g4⟩ := RI.small g'
      have kA := fun {h} [Le h0 h] => read_ok (h := h) hv g1 g2
      have kB := fun {h} [Le h0 h] => read_ok (h := h) hw g3 g4
      rw [← RI.set_eq x, ← RI.set_eq y, within_ps]
      have z1 : sz (rdS (qof x.n1 x.a1 x.d1) (qof x.n2 x.a2 x.d2) x.l x.u).lo ≤ 2 ^ 30 := by show sz (qof x.n1 x.a1 x.d1) ≤ _; unfold lg at g1; omega
      have z2 : sz (rdS (qof x.n1 x.a1 x.d1) (qof x.n2 x.a2 x.d2) x.l x.u).hi ≤ 2 ^ 30 := by show sz (qof x.n2 x.a2 x.d2) ≤ _; unfold lg at g2; omega
      have z3 : sz (rdS (qof y.n1 y.a1 y.d1) (qof y.n2 y.a2 y.d2) y.l y.u).lo ≤ 2 ^ 30 := by show sz (qof y.n1 y.a1 y.d1) ≤ _; unfold lg at g3; omega
      have z4 : sz (rdS (qof y.n1 y.a1 y.d1) (qof y.n2 y.a2 y.d2) y.l y.u).hi ≤ 2 ^ 30 := by show sz (qof y.n2 y.a2 y.d2) ≤ _; unfold lg at g4; omega
      generalize rdS (qof x.n1 x.a1 x.d1) (qof x.n2 x.a2 x.d2) x.l x.u = s at *
      generalize rdS (qof y.n1 y.a1 y.d1) (qof y.n2 y.a2 y.d2) y.l y.u = t at *
      obtain ⟨p1, p2, l, u, e⟩ := s
      obtain ⟨p1', p2', l', u', e'⟩ := t
      dsimp only at *
      refine Spec.enter (args := [_, _]) (n := 54) Tryz.func46 rfl (by kernel_rfl) rfl (by simp) [.tmp 2] rfl (fun C _ => ?_)
      repeat (first | (refine wo rfl (fun k hk => ?_); simp (disch := omega) only [go_sem, Nat.reduceBEq, Nat.reduceAdd]; refine hk _ _ ?_; clear hk k) | refine wkt rfl ?_ | refine wk0 ?_ | refine rg rfl rfl (fun K hK => ?_) | ((first | refine AWP_exit ?_ | refine AWP_skip ?_); simp (disch := decide) only [qs, qb, if_true, if_false, reduceIte]) | refine AWP_sq rfl (fun K hK => ?_) | refine ct rfl ?_ | ((try simp (disch := omega) only [go_sem, Nat.reduceBEq, Nat.reduceAdd]); (first | apply hK | (clear hK; apply hK) | (clear hK; clear hK; apply hK)); clear hK; (try clear K); (try dsimp only [behind, qs, qb])))
      refine wk (fun k hk => ?_); simp (disch := omega) only [go_sem, Nat.reduceBEq, Nat.reduceAdd]; refine ⟨cs, hl, at_row hb1, ?_⟩; refine hk _ _ ?_; clear hk k; (repeat (first | (refine wo rfl (fun k hk => ?_); simp (disch := omega) only [go_sem, Nat.reduceBEq, Nat.reduceAdd]; refine hk _ _ ?_; clear hk k) | refine wkt rfl ?_)); (try refine wk0 ?_)
      refine cN rfl rfl rfl rfl (by exact kA) ?_; rintro v1 h1 st1 q1; obtain ⟨f1, f2, f3, f4, f5, f6, f7, f8, f9, fa, fb, fc, fd, fe, rfl, s1, s2⟩ := q1.sb; (repeat (first | (refine wo rfl (fun k hk => ?_); simp (disch := omega) only [go_sem, Nat.reduceBEq, Nat.reduceAdd]; refine hk _ _ ?_; clear hk k) | refine wkt rfl ?_)); (try refine wk0 ?_)
      (try (simp (disch := omega) only [go_sem, Nat.reduceBEq, Nat.reduceAdd])); refine hK _ _ ?_; clear hK; (try clear K); (try dsimp only [behind, qs])
      refine rg rfl rfl (fun K hK => ?_); (repeat (first | (refine wo rfl (fun k hk => ?_); simp (disch := omega) only [go_sem, Nat.reduceBEq, Nat.reduceAdd]; refine hk _ _ ?_; clear hk k) | refine wkt rfl ?_)); (try refine wk0 ?_)
      refine wk (fun k hk => ?_); simp (disch := omega) only [go_sem, Nat.reduceBEq, Nat.reduceAdd]; refine ⟨ds, hl', at_row (st1.sub _ _ hb2), ?_⟩; refine hk _ _ ?_; clear hk k; (repeat (first | (refine wo rfl (fun k hk => ?_); simp (disch := omega) only [go_sem, Nat.reduceBEq, Nat.reduceAdd]; refine hk _ _ ?_; clear hk k) | refine wkt rfl ?_)); (try refine wk0 ?_)
      refine cN rfl rfl rfl rfl (by exact kB) ?_; rintro v2 h2 st2 q2; obtain ⟨k1, k2, k3, k4, k5, k6, k7, k8, k9, ka, kb, kc, kd, ke, rfl, t1, t2⟩ := q2.sb; (repeat (first | (refine wo rfl (fun k hk => ?_); simp (disch := omega) only [go_sem, Nat.reduceBEq, Nat.reduceAdd]; refine hk _ _ ?_; clear hk k) | refine wkt rfl ?_)); (try refine wk0 ?_)
      (try (simp (disch := omega) only [go_sem, Nat.reduceBEq, Nat.reduceAdd])); refine hK _ _ ?_; clear hK; (try clear K); (try dsimp only [behind, qs])
      replace s1 := s1.to (h' := h2)
      replace s2 := s2.to (h' := h2)
      refine rg rfl rfl (fun K hK => ?_)
      have rest : ∀ (lw : Bool) (h' : PH) (S : AS) [Le h2 h'], (l' || (!l && !decide (p1 < p1'))) = lw → S.le ⟨[(3, .p 0 0), (4, .p 1 0), (5, .v (.bool lw))], [[.bool f1, .slice f2 f3 f4, .slice f5 f6 f7, .bool f8, .slice f9 fa fb, .slice fc fd fe, .bool l, .bool u, .bool e], [.bool k1, .slice k2 k3 k4, .slice k5 k6 k7, .bool k8, .slice k9 ka kb, .slice kc kd ke, .bool l', .bool u', .bool e']]⟩ → K S h' := by
        intro lw h' S _ elw hS
        refine hK _ _ (AWP_le _ hS ?_); clear hK K
        refine rg rfl rfl (fun K hK => ?_)
        have rest : ∀ (hg : Bool) (h'' : PH) (S : AS) [Le h' h''], (u' || (!u && !decide (p2' < p2))) = hg → S.le ⟨[(3, .p 0 0), (4, .p 1 0), (5, .v (.bool lw)), (6, .v (.bool hg))], [[.bool f1, .slice f2 f3 f4, .slice f5 f6 f7, .bool f8, .slice f9 fa fb, .slice fc fd fe, .bool l, .bool u, .bool e], [.bool k1, .slice k2 k3 k4, .slice k5 k6 k7, .bool k8, .slice k9 ka kb, .slice kc kd ke, .bool l', .bool u', .bool e']]⟩ → K S h'' := by
          intro hg h'' S _ ehg hS
          refine hK _ _ (AWP_le _ hS ?_); clear hK K
          have er : insB ⟨p1, p2, l, u, e⟩ ⟨p1', p2', l', u', e'⟩ = (e || (lw && hg && !e')) := by unfold insB; dsimp only; rw [elw, ehg]
          rw [er]
          clear er elw ehg
          cases e with
          | true =>
            repeat (first | (refine wo rfl (fun k hk => ?_); simp (disch := omega) only [go_sem, Nat.reduceBEq, Nat.reduceAdd]; refine hk _ _ ?_; clear hk k) | refine wkt rfl ?_ | refine wk0 ?_ | refine rg rfl rfl (fun K hK => ?_) | ((first | refine AWP_exit ?_ | refine AWP_skip ?_); simp (disch := decide) only [qs, qb, if_true, if_false, reduceIte]) | refine AWP_sq rfl (fun K hK => ?_) | refine ct rfl ?_ | ((try simp (disch := omega) only [go_sem, Nat.reduceBEq, Nat.reduceAdd]); (first | apply hK | (clear hK; apply hK) | (clear hK; clear hK; apply hK)); clear hK; (try clear K); (try dsimp only [behind, qs, qb])))
            refine AWP_ret ?_; simp (disch := omega) only [go_sem, Nat.reduceBEq, Nat.reduceAdd]
            all_goals rfl
          | false =>
            cases lw <;> cases hg <;>
            · repeat (first | (refine wo rfl (fun k hk => ?_); simp (disch := omega) only [go_sem, Nat.reduceBEq, Nat.reduceAdd]; refine hk _ _ ?_; clear hk k) | refine wkt rfl ?_ | refine wk0 ?_ | refine rg rfl rfl (fun K hK => ?_) | ((first | refine AWP_exit ?_ | refine AWP_skip ?_); simp (disch := decide) only [qs, qb, if_true, if_false, reduceIte]) | refine AWP_sq rfl (fun K hK => ?_) | refine ct rfl ?_ | ((try simp (disch := omega) only [go_sem, Nat.reduceBEq, Nat.reduceAdd]); (first | apply hK | (clear hK; apply hK) | (clear hK; clear hK; apply hK)); clear hK; (try clear K); (try dsimp only [behind, qs, qb])))
              refine AWP_ret ?_; simp (disch := omega) only [go_sem, Nat.reduceBEq, Nat.reduceAdd]
              all_goals first | rfl | simp
        clear hK
        · cases u' with
          | true =>
            (repeat (first | (refine wo rfl (fun k hk => ?_); simp (disch := omega) only [go_sem, Nat.reduceBEq, Nat.reduceAdd]; refine hk _ _ ?_; clear hk k) | refine wkt rfl ?_)); (try refine wk0 ?_)
            refine rest true _ _ rfl ?_
            simp (disch := omega) only [go_sem, Nat.reduceBEq, Nat.reduceAdd]
          | false =>
            cases u with
            | true =>
              (repeat (first | (refine wo rfl (fun k hk => ?_); simp (disch := omega) only [go_sem, Nat.reduceBEq, Nat.reduceAdd]; refine hk _ _ ?_; clear hk k) | refine wkt rfl ?_)); (try refine wk0 ?_)
              refine rest false _ _ rfl ?_
              simp (disch := omega) only [go_sem, Nat.reduceBEq, Nat.reduceAdd]
            | false =>
              by_cases hc : p2' < p2
              · have c1 : ¬ (cmpQ p2 p2' ≤ 0) := by unfold cmpQ; grind
                (repeat (first | (refine wo rfl (fun k hk => ?_); simp (disch := omega) only [go_sem, Nat.reduceBEq, Nat.reduceAdd]; refine hk _ _ ?_; clear hk k) | refine wkt rfl ?_)); (try refine wk0 ?_)
                refine cN rfl rfl rfl rfl (by exact Cmp_frac (s2.to (h' := h')) (t2.to (h' := h')) (up36 z2) (up36 z4)) ?_; rintro vc hh sc rfl; (repeat (first | (refine wo rfl (fun k hk => ?_); simp (disch := omega) only [go_sem, Nat.reduceBEq, Nat.reduceAdd]; refine hk _ _ ?_; clear hk k) | refine wkt rfl ?_)); (try refine wk0 ?_)
                refine rest false _ _ (by simp [hc]) ?_
                simp (disch := omega) only [go_sem, Nat.reduceBEq, Nat.reduceAdd]
              · have c1 : (cmpQ p2 p2' ≤ 0) := by unfold cmpQ; grind
                (repeat (first | (refine wo rfl (fun k hk => ?_); simp (disch := omega) only [go_sem, Nat.reduceBEq, Nat.reduceAdd]; refine hk _ _ ?_; clear hk k) | refine wkt rfl ?_)); (try refine wk0 ?_)
                refine cN rfl rfl rfl rfl (by exact Cmp_frac (s2.to (h' := h')) (t2.to (h' := h')) (up36 z2) (up36 z4)) ?_; rintro vc hh sc rfl; (repeat (first | (refine wo rfl (fun k hk => ?_); simp (disch := omega) only [go_sem, Nat.reduceBEq, Nat.reduceAdd]; refine hk _ _ ?_; clear hk k) | refine wkt rfl ?_)); (try refine wk0 ?_)
                refine rest true _ _ (by simp [hc]) ?_
                simp (disch := omega) only [go_sem, Nat.reduceBEq, Nat.reduceAdd]
      clear hK
      · cases l' with
        | true =>
          (repeat (first | (refine wo rfl (fun k hk => ?_); simp (disch := omega) only [go_sem, Nat.reduceBEq, Nat.reduceAdd]; refine hk _ _ ?_; clear hk k) | refine wkt rfl ?_)); (try refine wk0 ?_)
          refine rest true _ _ rfl ?_
          simp (disch := omega) only [go_sem, Nat.reduceBEq, Nat.reduceAdd]
        | false =>
          cases l with
          | true =>
            (repeat (first | (refine wo rfl (fun k hk => ?_); simp (disch := omega) only [go_sem, Nat.reduceBEq, Nat.reduceAdd]; refine hk _ _ ?_; clear hk k) | refine wkt rfl ?_)); (try refine wk0 ?_)
            refine rest false _ _ rfl ?_
            simp (disch := omega) only [go_sem, Nat.reduceBEq, Nat.reduceAdd]
          | false =>
            by_cases hc : p1 < p1'
            · have c1 : ¬ (0 ≤ cmpQ p1 p1') := by unfold cmpQ; grind
              (repeat (first | (refine wo rfl (fun k hk => ?_); simp (disch := omega) only [go_sem, Nat.reduceBEq, Nat.reduceAdd]; refine hk _ _ ?_; clear hk k) | refine wkt rfl ?_)); (try refine wk0 ?_)
              refine cN rfl rfl rfl rfl (by exact Cmp_frac s1 t1 (up36 z1) (up36 z3)) ?_; rintro vc hh sc rfl; (repeat (first | (refine wo rfl (fun k hk => ?_); simp (disch := omega) only [go_sem, Nat.reduceBEq, Nat.reduceAdd]; refine hk _ _ ?_; clear hk k) | refine wkt rfl ?_)); (try refine wk0 ?_)
              refine rest false _ _ (by simp [hc]) ?_
              simp (disch := omega) only [go_sem, Nat.reduceBEq, Nat.reduceAdd]
            · have c1 : (0 ≤ cmpQ p1 p1') := by unfold cmpQ; grind
              (repeat (first | (refine wo rfl (fun k hk => ?_); simp (disch := omega) only [go_sem, Nat.reduceBEq, Nat.reduceAdd]; refine hk _ _ ?_; clear hk k) | refine wkt rfl ?_)); (try refine wk0 ?_)
              refine cN rfl rfl rfl rfl (by exact Cmp_frac s1 t1 (up36 z1) (up36 z3)) ?_; rintro vc hh sc rfl; (repeat (first | (refine wo rfl (fun k hk => ?_); simp (disch := omega) only [go_sem, Nat.reduceBEq, Nat.reduceAdd]; refine hk _ _ ?_; clear hk k) | refine wkt rfl ?_)); (try refine wk0 ?_)
              refine rest true _ _ (by simp [hc]) ?_
              simp (disch := omega) only [go_sem, Nat.reduceBEq, Nat.reduceAdd]
theorem InsideI_spec {h0 h : PH} [Le h0 h] {v w : Value} {x y : RI} (hv : Iv h0 v x) (hw : Iv h0 w y) : Spec mach 16 #[v, w] h (fun r _ => Br r (x.bo2 y (x.set.within y.set))) NP := by
  have hv0 := hv
  have hw0 := hw
  obtain ⟨a1, m1, c1, a2, m2, c2, a3, m3, c3, a4, m4, c4, rfl, _, _⟩ := hv.sa
  obtain ⟨a1', m1', c1', a2', m2', c2', a3', m3', c3', a4', m4', c4', rfl, _, _⟩ := hw.sa
  refine Spec.enter (args := [_, _]) (n := 10) Tryz.func16 rfl (by kernel_rfl) rfl (by simp) [.tmp 4, .tmp 5] rfl (fun C _ => ?_)
  repeat (first | (refine rg rfl rfl (fun K hK => ?_); (repeat (first | (refine wo rfl (fun k hk => ?_); simp (disch := omega) only [go_sem, Nat.reduceBEq, Nat.reduceAdd]; refine hk _ _ ?_; clear hk k) | refine wkt rfl ?_)); (try refine wk0 ?_); refine hK _ _ ?_; clear hK K; (try dsimp only [behind, qs, qb])) | ((first | refine AWP_exit ?_ | refine AWP_skip ?_); simp (disch := decide) only [qs, qb, if_true, if_false, reduceIte]) | refine AWP_sq rfl (fun K hK => ?_) | refine ct rfl ?_ | ((first | refine hK _ _ ?_ | (clear hK; refine hK _ _ ?_) | (clear hK; clear hK; refine hK _ _ ?_)); clear hK; (try clear K)))
  refine AWP_rsp [.p 0, .p 1, .o 0, .o 1, .o 2, .o 3, .o 4, .o 5] rfl rfl (fun K hK => ?_); (repeat (first | (refine wo rfl (fun k hk => ?_); simp (disch := omega) only [go_sem, Nat.reduceBEq, Nat.reduceAdd]; refine hk _ _ ?_; clear hk k) | refine wkt rfl ?_)); (try refine wk0 ?_)
  refine wkp ?_; simp (disch := omega) only [go_sem, Nat.reduceBEq, Nat.reduceAdd]; intro b1 h1 st1 hb1; (repeat (first | (refine wo rfl (fun k hk => ?_); simp (disch := omega) only [go_sem, Nat.reduceBEq, Nat.reduceAdd]; refine hk _ _ ?_; clear hk k) | refine wkt rfl ?_)); (try refine wk0 ?_)
  refine wkp ?_; simp (disch := omega) only [go_sem, Nat.reduceBEq, Nat.reduceAdd]; intro b2 h2 st2 hb2; (repeat (first | (refine wo rfl (fun k hk => ?_); simp (disch := omega) only [go_sem, Nat.reduceBEq, Nat.reduceAdd]; refine hk _ _ ?_; clear hk k) | refine wkt rfl ?_)); (try refine wk0 ?_)
  have hb2 := hb2 (by simp)
  have hb1 := st2.sub _ _ (hb1 (by simp))
  refine cN rfl rfl rfl rfl (by exact tryB_any (Inside1 (hv0.to (h' := h2)) (hw0.to (h' := h2)) rfl rfl hb1 rfl rfl hb2)) ?_; rintro r3 h3 st3 hr3; obtain ⟨_, _, rfl, hr3⟩ := hr3.sa; (repeat (first | (refine wo rfl (fun k hk => ?_); simp (disch := omega) only [go_sem, Nat.reduceBEq, Nat.reduceAdd]; refine hk _ _ ?_; clear hk k) | refine wkt rfl ?_)); (try refine wk0 ?_)
  (try (simp (disch := omega) only [go_sem, Nat.reduceBEq, Nat.reduceAdd])); refine hK _ _ ?_; clear hK; (try clear K); (try dsimp only [behind, qs])
  refine AWP_ret ?_; simp (disch := omega) only [go_sem, Nat.reduceBEq, Nat.reduceAdd]
  exact hr3
theorem inside_law {h0 h : PH} [Le h0 h] {v w : Value} {x y : RI} (hv : Iv h0 v x) (hw : Iv h0 w y) (g : x.big = false) (g' : y.big = false) : Spec mach 6 #[v, w] h (fun r _ => r = .bool (x.set.within y.set)) NP := by
  have kH := fun {h} [Le h0 h] => InsideI_spec (h := h) hv hw
  obtain ⟨a1, m1, c1, a2, m2, c2, a3, m3, c3, a4, m4, c4, rfl, _, _⟩ := hv.sa
  obtain ⟨a1', m1', c1', a2', m2', c2', a3', m3', c3', a4', m4', c4', rfl, _, _⟩ := hw.sa
  unfold RI.bo2 at kH
  rw [g, g'] at kH
  simp only [Bool.or_false, cond_false] at kH
  generalize x.set.within y.set = hb at kH ⊢
  cases hb with
  | true =>
    refine Spec.enter (args := [_, _]) (n := 18) Tryz.func6 rfl (by kernel_rfl) rfl (by simp) [.tmp 4] rfl (fun C _ => ?_)
    repeat (first | (refine wo rfl (fun k hk => ?_); simp (disch := omega) only [go_sem, Nat.reduceBEq, Nat.reduceAdd]; refine hk _ _ ?_; clear hk k) | refine wkt rfl ?_ | refine wk0 ?_ | refine rg rfl rfl (fun K hK => ?_) | ((first | refine AWP_exit ?_ | refine AWP_skip ?_); simp (disch := decide) only [qs, qb, if_true, if_false, reduceIte]) | refine AWP_sq rfl (fun K hK => ?_) | refine ct rfl ?_ | ((try simp (disch := omega) only [go_sem, Nat.reduceBEq, Nat.reduceAdd]); (first | apply hK | (clear hK; apply hK) | (clear hK; clear hK; apply hK)); clear hK; (try clear K); (try dsimp only [behind, qs, qb])))
    refine cN rfl rfl rfl rfl (by exact kH) ?_; rintro v1 h1 s1 q1; obtain rfl : v1 = .tuple #[.bool true, .int .i64 0] := q1
    repeat (first | (refine wo rfl (fun k hk => ?_); simp (disch := omega) only [go_sem, Nat.reduceBEq, Nat.reduceAdd]; refine hk _ _ ?_; clear hk k) | refine wkt rfl ?_ | refine wk0 ?_ | refine rg rfl rfl (fun K hK => ?_) | ((first | refine AWP_exit ?_ | refine AWP_skip ?_); simp (disch := decide) only [qs, qb, if_true, if_false, reduceIte]) | refine AWP_sq rfl (fun K hK => ?_) | refine ct rfl ?_ | ((try simp (disch := omega) only [go_sem, Nat.reduceBEq, Nat.reduceAdd]); (first | apply hK | (clear hK; apply hK) | (clear hK; clear hK; apply hK)); clear hK; (try clear K); (try dsimp only [behind, qs, qb])))
    refine AWP_ret ?_; simp (disch := omega) only [go_sem, Nat.reduceBEq, Nat.reduceAdd]
    all_goals rfl
  | false =>
    refine Spec.enter (args := [_, _]) (n := 18) Tryz.func6 rfl (by kernel_rfl) rfl (by simp) [.tmp 4] rfl (fun C _ => ?_)
    repeat (first | (refine wo rfl (fun k hk => ?_); simp (disch := omega) only [go_sem, Nat.reduceBEq, Nat.reduceAdd]; refine hk _ _ ?_; clear hk k) | refine wkt rfl ?_ | refine wk0 ?_ | refine rg rfl rfl (fun K hK => ?_) | ((first | refine AWP_exit ?_ | refine AWP_skip ?_); simp (disch := decide) only [qs, qb, if_true, if_false, reduceIte]) | refine AWP_sq rfl (fun K hK => ?_) | refine ct rfl ?_ | ((try simp (disch := omega) only [go_sem, Nat.reduceBEq, Nat.reduceAdd]); (first | apply hK | (clear hK; apply hK) | (clear hK; clear hK; apply hK)); clear hK; (try clear K); (try dsimp only [behind, qs, qb])))
    refine cN rfl rfl rfl rfl (by exact kH) ?_; rintro v1 h1 s1 q1; obtain rfl : v1 = .tuple #[.bool false, .int .i64 0] := q1
    repeat (first | (refine wo rfl (fun k hk => ?_); simp (disch := omega) only [go_sem, Nat.reduceBEq, Nat.reduceAdd]; refine hk _ _ ?_; clear hk k) | refine wkt rfl ?_ | refine wk0 ?_ | refine rg rfl rfl (fun K hK => ?_) | ((first | refine AWP_exit ?_ | refine AWP_skip ?_); simp (disch := decide) only [qs, qb, if_true, if_false, reduceIte]) | refine AWP_sq rfl (fun K hK => ?_) | refine ct rfl ?_ | ((try simp (disch := omega) only [go_sem, Nat.reduceBEq, Nat.reduceAdd]); (first | apply hK | (clear hK; apply hK) | (clear hK; clear hK; apply hK)); clear hK; (try clear K); (try dsimp only [behind, qs, qb])))
    refine AWP_ret ?_; simp (disch := omega) only [go_sem, Nat.reduceBEq, Nat.reduceAdd]
    all_goals rfl
end Go.Q
namespace Go.Q
open Go.Proofs
set_option maxRecDepth 100000
set_option maxHeartbeats 4000000
inductive Pt where
  | fin (q : Rat)
  | inf (up : Bool)
def Pt.mul : Pt → Pt → Pt
  | .fin p, .fin q => .fin (p * q)
  | .inf u, .fin q => if q = 0 then .fin 0 else .inf (u == decide (0 < q))
  | .fin p, .inf u => if p = 0 then .fin 0 else .inf (u == decide (0 < p))
  | .inf u, .inf w => .inf (u == w)
def Pt.le (k : Nat) : Pt → Prop
  | .fin q => sz q ≤ k
  | .inf _ => True
def Pt.side : Pt → Int
  | .fin _ => 0
  | .inf u => if u = true then 1 else -1
@[reducible] def Pt.num : Pt → Option Rat
  | .fin q => some q
  | .inf _ => none
def Ev (h : PH) (v : Value) (z : Pt) : Prop := ∃ b x y, v = .agg #[.bool b, x, y, .int .i64 z.side] ∧ En h b x y z.num
theorem Ev.to {h h' : PH} {v : Value} {z : Pt} (r : Ev h v z) [Le h h'] : Ev h' v z := let ⟨a, b, c, h1, h2⟩ := r; ⟨a, b, c, h1, h2.to⟩
theorem Ev.sa {h : PH} {v : Value} {z : Pt} (r : Ev h v z) : ∃ b a1 m1 c1 a2 m2 c2, v = .agg #[.bool b, .slice a1 m1 c1, .slice a2 m2 c2, .int .i64 z.side] ∧ En h b (.slice a1 m1 c1) (.slice a2 m2 c2) z.num := by
  obtain ⟨b, x, y, rfl, h1⟩ := r
  obtain ⟨_, _, _, _, _, _, rfl, rfl⟩ := h1.sl
  exact ⟨_, _, _, _, _, _, _, rfl, h1⟩
theorem sg3_bd {q : Rat} : sgn3 q = -1 ∨ sgn3 q = 0 ∨ sgn3 q = 1 := by unfold sgn3; grind
theorem sgn3_zero {q : Rat} : sgn3 q = 0 ↔ q = 0 := by unfold sgn3; grind
theorem sgn3_pos {q : Rat} : 0 < sgn3 q ↔ 0 < q := by unfold sgn3; grind
theorem Times_spec {h0 h : PH} [Le h0 h] {v w : Value} {x y : Pt} (hv : Ev h0 v x) (hw : Ev h0 w y) (lx : x.le (2 ^ 30)) (ly : y.le (2 ^ 30)) : Spec mach 106 #[v, w] h (fun r h' => Ev h' r (x.mul y)) NP := by
  obtain ⟨b, a1, m1, c1, a2, m2, c2, rfl, e1⟩ := hv.sa
  obtain ⟨b', a1', m1', c1', a2', m2', c2', rfl, e2⟩ := hw.sa
  cases x with
  | fin p =>
    cases y with
    | fin q =>
      show Spec _ _ _ _ (fun r h' => Ev h' r (.fin (p * q))) _
      dsimp only [Pt.side] at *
      have k1 := fun {h} [Le h0 h] => Sign_spec (h := h) e1.num
      have k2 := fun {h} [Le h0 h] => Sign_spec (h := h) e2.num
      by_cases hp : p = 0 ∨ q = 0
      · have e0 : p * q = ((0 : Int) : Rat) := by rcases hp with rfl | rfl <;> simp <;> rfl
        have hs : sgn3 p = 0 ∨ sgn3 q = 0 := by rw [sgn3_zero, sgn3_zero]; exact hp
        rw [e0]
        generalize sgn3 p = m at *
        generalize sgn3 q = n at *
        by_cases hm : m = 0
        · refine Spec.go [] Tryz.func106 rfl rfl (by kernel_rfl) fun C _ => ?_
          simp (disch := omega) only [go_sem, Nat.reduceBEq, Nat.reduceAdd, Int.toNat_one, Nat.zero_mul, Nat.one_mul, Nat.zero_add, List.set_cons_zero, List.set_cons_succ]
          refine caN (by exact k1) ?_; rintro v1 h1 s1 rfl
          simp (disch := omega) only [go_sem, Nat.reduceBEq, Nat.reduceAdd, Int.toNat_one, Nat.zero_mul, Nat.one_mul, Nat.zero_add, List.set_cons_zero, List.set_cons_succ]
          refine caN (by exact k2) ?_; rintro v2 h2 s2 rfl
          simp (disch := omega) only [go_sem, Nat.reduceBEq, Nat.reduceAdd, Int.toNat_one, Nat.zero_mul, Nat.one_mul, Nat.zero_add, List.set_cons_zero, List.set_cons_succ]
          refine caN (by exact Int_spec (n := 0) (by decide) (by decide)) ?_; rintro _ h3 _ f3; obtain ⟨_, _, _, _, _, _, _, rfl, f3⟩ := f3.sa
          simp (disch := omega) only [go_sem, Nat.reduceBEq, Nat.reduceAdd, Int.toNat_one, Nat.zero_mul, Nat.one_mul, Nat.zero_add, List.set_cons_zero, List.set_cons_succ]
          exact ⟨_, _, _, rfl, En.of f3⟩
        · have hn : n = 0 := hs.resolve_left hm
          refine Spec.go [] Tryz.func106 rfl rfl (by kernel_rfl) fun C _ => ?_
          simp (disch := omega) only [go_sem, Nat.reduceBEq, Nat.reduceAdd, Int.toNat_one, Nat.zero_mul, Nat.one_mul, Nat.zero_add, List.set_cons_zero, List.set_cons_succ]
          refine caN (by exact k1) ?_; rintro v1 h1 s1 rfl
          simp (disch := omega) only [go_sem, Nat.reduceBEq, Nat.reduceAdd, Int.toNat_one, Nat.zero_mul, Nat.one_mul, Nat.zero_add, List.set_cons_zero, List.set_cons_succ]
          refine caN (by exact k2) ?_; rintro v2 h2 s2 rfl
          simp (disch := omega) only [go_sem, Nat.reduceBEq, Nat.reduceAdd, Int.toNat_one, Nat.zero_mul, Nat.one_mul, Nat.zero_add, List.set_cons_zero, List.set_cons_succ]
          refine caN (by exact Int_spec (n := 0) (by decide) (by decide)) ?_; rintro _ h3 _ f3; obtain ⟨_, _, _, _, _, _, _, rfl, f3⟩ := f3.sa
          simp (disch := omega) only [go_sem, Nat.reduceBEq, Nat.reduceAdd, Int.toNat_one, Nat.zero_mul, Nat.one_mul, Nat.zero_add, List.set_cons_zero, List.set_cons_succ]
          exact ⟨_, _, _, rfl, En.of f3⟩
      · have hm : ¬ sgn3 p = 0 := by rw [sgn3_zero]; exact fun k => hp (.inl k)
        have hn : ¬ sgn3 q = 0 := by rw [sgn3_zero]; exact fun k => hp (.inr k)
        generalize sgn3 p = m at *
        generalize sgn3 q = n at *
        refine Spec.go [] Tryz.func106 rfl rfl (by kernel_rfl) fun C _ => ?_
        simp (disch := omega) only [go_sem, Nat.reduceBEq, Nat.reduceAdd, Int.toNat_one, Nat.zero_mul, Nat.one_mul, Nat.zero_add, List.set_cons_zero, List.set_cons_succ]
        refine caN (by exact k1) ?_; rintro v1 h1 s1 rfl
        simp (disch := omega) only [go_sem, Nat.reduceBEq, Nat.reduceAdd, Int.toNat_one, Nat.zero_mul, Nat.one_mul, Nat.zero_add, List.set_cons_zero, List.set_cons_succ]
        refine caN (by exact k2) ?_; rintro v2 h2 s2 rfl
        simp (disch := omega) only [go_sem, Nat.reduceBEq, Nat.reduceAdd, Int.toNat_one, Nat.zero_mul, Nat.one_mul, Nat.zero_add, List.set_cons_zero, List.set_cons_succ]
        refine caN (by exact Mul_frac (e1.num.to (h' := h2)) (e2.num.to (h' := h2)) (up36 lx) (up36 ly)) ?_; rintro _ h3 _ f3; obtain ⟨_, _, _, _, _, _, _, rfl, f3⟩ := f3.sa
        simp (disch := omega) only [go_sem, Nat.reduceBEq, Nat.reduceAdd, Int.toNat_one, Nat.zero_mul, Nat.one_mul, Nat.zero_add, List.set_cons_zero, List.set_cons_succ]
        exact ⟨_, _, _, rfl, En.of f3⟩
    | inf u =>
      have k1 := fun {h} [Le h0 h] => Sign_spec (h := h) e1.num
      dsimp only [Pt.mul]
      have hb := sg3_bd (q := p)
      by_cases hp : p = 0
      · have hm := sgn3_zero.2 hp
        rw [if_pos hp]
        rw [hm] at k1
        cases u <;>
        · dsimp only [Pt.side] at *
          simp only [if_true, if_false, Bool.false_eq_true, reduceIte]
          refine Spec.go [] Tryz.func106 rfl rfl (by kernel_rfl) fun C _ => ?_
          simp (disch := omega) only [go_sem, Nat.reduceBEq, Nat.reduceAdd, Int.toNat_one, Nat.zero_mul, Nat.one_mul, Nat.zero_add, List.set_cons_zero, List.set_cons_succ]
          refine caN (by exact k1) ?_; rintro v1 h1 s1 rfl
          simp (disch := omega) only [go_sem, Nat.reduceBEq, Nat.reduceAdd, Int.toNat_one, Nat.zero_mul, Nat.one_mul, Nat.zero_add, List.set_cons_zero, List.set_cons_succ]
          refine caN (by exact Int_spec (n := 0) (by decide) (by decide)) ?_; rintro _ h3 _ f3; obtain ⟨_, _, _, _, _, _, _, rfl, f3⟩ := f3.sa
          simp (disch := omega) only [go_sem, Nat.reduceBEq, Nat.reduceAdd, Int.toNat_one, Nat.zero_mul, Nat.one_mul, Nat.zero_add, List.set_cons_zero, List.set_cons_succ]
          exact ⟨_, _, _, rfl, En.of f3⟩
      · have hm : sgn3 p ≠ 0 := fun k => hp (sgn3_zero.1 k)
        rw [if_neg hp]
        have hpos := sgn3_pos (q := p)
        rcases hb with hb | hb | hb
        · have h2 : decide (0 < p) = false := decide_eq_false (fun k => by have := hpos.2 k; omega)
          rw [h2]
          rw [hb] at k1
          cases u <;>
          · dsimp only [Pt.side] at *
            simp only [if_true, if_false, Bool.false_eq_true, reduceIte]
            refine Spec.go [] Tryz.func106 rfl rfl (by kernel_rfl) fun C _ => ?_
            simp (disch := omega) only [go_sem, Nat.reduceBEq, Nat.reduceAdd, Int.toNat_one, Nat.zero_mul, Nat.one_mul, Nat.zero_add, List.set_cons_zero, List.set_cons_succ]
            refine caN (by exact k1) ?_; rintro v1 h1 s1 rfl
            simp (disch := omega) only [go_sem, Nat.reduceBEq, Nat.reduceAdd, Int.toNat_one, Nat.zero_mul, Nat.one_mul, Nat.zero_add, List.set_cons_zero, List.set_cons_succ]
            exact ⟨_, _, _, rfl, En.nil _⟩
        · exact (hm hb).elim
        · have h2 : decide (0 < p) = true := decide_eq_true (hpos.1 (by omega))
          rw [h2]
          rw [hb] at k1
          cases u <;>
          · dsimp only [Pt.side] at *
            simp only [if_true, if_false, Bool.false_eq_true, reduceIte]
            refine Spec.go [] Tryz.func106 rfl rfl (by kernel_rfl) fun C _ => ?_
            simp (disch := omega) only [go_sem, Nat.reduceBEq, Nat.reduceAdd, Int.toNat_one, Nat.zero_mul, Nat.one_mul, Nat.zero_add, List.set_cons_zero, List.set_cons_succ]
            refine caN (by exact k1) ?_; rintro v1 h1 s1 rfl
            simp (disch := omega) only [go_sem, Nat.reduceBEq, Nat.reduceAdd, Int.toNat_one, Nat.zero_mul, Nat.one_mul, Nat.zero_add, List.set_cons_zero, List.set_cons_succ]
            exact ⟨_, _, _, rfl, En.nil _⟩
  | inf u =>
    cases y with
    | fin p =>
      have k1 := fun {h} [Le h0 h] => Sign_spec (h := h) e2.num
      dsimp only [Pt.mul]
      have hb := sg3_bd (q := p)
      by_cases hp : p = 0
      · have hm := sgn3_zero.2 hp
        rw [if_pos hp]
        rw [hm] at k1
        cases u <;>
        · dsimp only [Pt.side] at *
          simp only [if_true, if_false, Bool.false_eq_true, reduceIte]
          refine Spec.go [] Tryz.func106 rfl rfl (by kernel_rfl) fun C _ => ?_
          simp (disch := omega) only [go_sem, Nat.reduceBEq, Nat.reduceAdd, Int.toNat_one, Nat.zero_mul, Nat.one_mul, Nat.zero_add, List.set_cons_zero, List.set_cons_succ]
          refine caN (by exact k1) ?_; rintro v1 h1 s1 rfl
          simp (disch := omega) only [go_sem, Nat.reduceBEq, Nat.reduceAdd, Int.toNat_one, Nat.zero_mul, Nat.one_mul, Nat.zero_add, List.set_cons_zero, List.set_cons_succ]
          refine caN (by exact Int_spec (n := 0) (by decide) (by decide)) ?_; rintro _ h3 _ f3; obtain ⟨_, _, _, _, _, _, _, rfl, f3⟩ := f3.sa
          simp (disch := omega) only [go_sem, Nat.reduceBEq, Nat.reduceAdd, Int.toNat_one, Nat.zero_mul, Nat.one_mul, Nat.zero_add, List.set_cons_zero, List.set_cons_succ]
          exact ⟨_, _, _, rfl, En.of f3⟩
      · have hm : sgn3 p ≠ 0 := fun k => hp (sgn3_zero.1 k)
        rw [if_neg hp]
        have hpos := sgn3_pos (q := p)
        rcases hb with hb | hb | hb
        · have h2 : decide (0 < p) = false := decide_eq_false (fun k => by have := hpos.2 k; omega)
          rw [h2]
          rw [hb] at k1
          cases u <;>
          · dsimp only [Pt.side] at *
            simp only [if_true, if_false, Bool.false_eq_true, reduceIte]
            refine Spec.go [] Tryz.func106 rfl rfl (by kernel_rfl) fun C _ => ?_
            simp (disch := omega) only [go_sem, Nat.reduceBEq, Nat.reduceAdd, Int.toNat_one, Nat.zero_mul, Nat.one_mul, Nat.zero_add, List.set_cons_zero, List.set_cons_succ]
            refine caN (by exact k1) ?_; rintro v1 h1 s1 rfl
            simp (disch := omega) only [go_sem, Nat.reduceBEq, Nat.reduceAdd, Int.toNat_one, Nat.zero_mul, Nat.one_mul, Nat.zero_add, List.set_cons_zero, List.set_cons_succ]
            exact ⟨_, _, _, rfl, En.nil _⟩
        · exact (hm hb).elim
        · have h2 : decide (0 < p) = true := decide_eq_true (hpos.1 (by omega))
          rw [h2]
          rw [hb] at k1
          cases u <;>
          · dsimp only [Pt.side] at *
            simp only [if_true, if_false, Bool.false_eq_true, reduceIte]
            refine Spec.go [] Tryz.func106 rfl rfl (by kernel_rfl) fun C _ => ?_
            simp (disch := omega) only [go_sem, Nat.reduceBEq, Nat.reduceAdd, Int.toNat_one, Nat.zero_mul, Nat.one_mul, Nat.zero_add, List.set_cons_zero, List.set_cons_succ]
            refine caN (by exact k1) ?_; rintro v1 h1 s1 rfl
            simp (disch := omega) only [go_sem, Nat.reduceBEq, Nat.reduceAdd, Int.toNat_one, Nat.zero_mul, Nat.one_mul, Nat.zero_add, List.set_cons_zero, List.set_cons_succ]
            exact ⟨_, _, _, rfl, En.nil _⟩
    | inf w =>
      dsimp only [Pt.mul]
      cases u <;> cases w <;>
      · dsimp only [Pt.side] at *
        simp only [if_true, if_false, Bool.false_eq_true, reduceIte]
        refine Spec.go [] Tryz.func106 rfl rfl (by kernel_rfl) fun C _ => ?_
        simp (disch := omega) only [go_sem, Nat.reduceBEq, Nat.reduceAdd, Int.toNat_one, Nat.zero_mul, Nat.one_mul, Nat.zero_add, List.set_cons_zero, List.set_cons_succ]
        exact ⟨_, _, _, rfl, En.nil _⟩
def lowP : Option Rat → Pt
  | none => .inf false
  | some q => .fin q
def highP : Option Rat → Pt
  | none => .inf true
  | some q => .fin q
theorem Ends_spec {h0 h : PH} [Le h0 h] {v : Value} {a b : Option Rat} (hv : Sn h0 v (.i a b)) : Spec mach 105 #[v] h (fun r h' => ∃ b1 a1 m1 c1 a2 m2 c2 b2 a3 m3 c3 a4 m4 c4, r = .agg #[.bool b1, .slice a1 m1 c1, .slice a2 m2 c2, .int .i64 (lowP a).side, .bool b2, .slice a3 m3 c3, .slice a4 m4 c4, .int .i64 (highP b).side] ∧
    Ev h' (.agg #[.bool b1, .slice a1 m1 c1, .slice a2 m2 c2, .int .i64 (lowP a).side]) (lowP a) ∧ Ev h' (.agg #[.bool b2, .slice a3 m3 c3, .slice a4 m4 c4, .int .i64 (highP b).side]) (highP b)) NP := by
  obtain ⟨b1, a1, m1, c1, a2, m2, c2, b2, a3, m3, c3, a4, m4, c4, rfl, h1, h2⟩ := hv.ie
  cases a <;> cases b <;>
  · dsimp only [Option.isNone]
    refine Spec.go [] Tryz.func105 rfl rfl (by kernel_rfl) fun C _ => ?_
    simp (disch := omega) only [go_sem, Nat.reduceBEq, Nat.reduceAdd, Int.toNat_one, Nat.zero_mul, Nat.one_mul, Nat.zero_add, List.set_cons_zero, List.set_cons_succ]
    exact ⟨_, _, _, _, _, _, _, _, _, _, _, _, _, _, rfl, ⟨_, _, _, rfl, h1.to⟩, ⟨_, _, _, rfl, h2.to⟩⟩
end Go.Q
namespace Go.Q
open Go.Proofs
set_option maxRecDepth 100000
set_option maxHeartbeats 8000000
def stp (o : NS × Bool × Bool) : Pt → NS × Bool × Bool
  | .fin q => (o.1.joined (.i (some q) (some q)), o.2.1, o.2.2)
  | .inf true => (o.1, o.2.1, true)
  | .inf false => (o.1, true, o.2.2)
def inn (x y1 y2 : Pt) (o : NS × Bool × Bool) : Nat → NS × Bool × Bool
  | 0 => o
  | 1 => stp o (x.mul y1)
  | _ + 2 => stp (stp o (x.mul y1)) (x.mul y2)
def fin3 (o : NS × Bool × Bool) : NS :=
  match o.1 with
  | .e => .i (bif o.2.1 then none else some 0) (bif o.2.2 then none else some 0)
  | .i l h => .i (bif o.2.1 then none else l) (bif o.2.2 then none else h)
def outer (x1 x2 y1 y2 : Pt) : Nat → NS × Bool × Bool
  | 0 => (.e, false, false)
  | 1 => inn x1 y1 y2 (.e, false, false) 2
  | _ + 2 => inn x2 y1 y2 (inn x1 y1 y2 (.e, false, false) 2) 2
def NS.prod : NS → NS → NS
  | .i a b, .i c d => fin3 (outer (lowP a) (highP b) (lowP c) (highP d) 2)
  | _, _ => .e
theorem Pt.mul_comm (x y : Pt) : x.mul y = y.mul x := by
  cases x with
  | fin p => cases y with
    | fin q => show Pt.fin (p * q) = .fin (q * p); rw [Rat.mul_comm]
    | inf u => rfl
  | inf u => cases y with
    | fin q => rfl
    | inf w => show Pt.inf (u == w) = .inf (w == u); cases u <;> cases w <;> rfl
def NS.pts (k : Nat) (o : NS × Bool × Bool) : Prop := o.1.ok ∧ o.1.le k ∧ (o.1 = .e ∨ ∃ a b, o.1 = .i (some a) (some b))
theorem le_pt {q : Rat} {k : Nat} (h : sz q ≤ k) : (NS.i (some q) (some q)).le k := by
  rw [NS.le_i]; exact ⟨fun _ e => by cases e; exact h, fun _ e => by cases e; exact h⟩
theorem le_jn {x y : NS} {k : Nat} (hx : x.le k) (hy : y.le k) : (x.joined y).le k := by
  cases x with
  | e => cases y <;> exact hy
  | i a b =>
    cases y with
    | e => exact hx
    | i c d =>
      rw [NS.le_i] at hx hy
      show NS.le k (.i (jmin a c) (jmax b d))
      rw [NS.le_i]
      refine ⟨fun q e => ?_, fun q e => ?_⟩
      · cases a with
        | none => cases e
        | some a =>
          cases c with
          | none => cases e
          | some c => cases e; exact sz_min (hx.1 _ rfl) (hy.1 _ rfl)
      · cases b with
        | none => cases e
        | some b =>
          cases d with
          | none => cases e
          | some d => cases e; exact sz_max (hx.2 _ rfl) (hy.2 _ rfl)
theorem stp_pts {k : Nat} {o : NS × Bool × Bool} {z : Pt} (ho : NS.pts k o) (hz : z.le k) : NS.pts k (stp o z) := by
  obtain ⟨s, l, u⟩ := o
  cases z with
  | inf u => cases u <;> exact ho
  | fin q =>
    have hq : (NS.i (some q) (some q)).ok := by simp [NS.ok, ordO]
    refine ⟨NS.ok_joined ho.1 hq, le_jn ho.2.1 (le_pt hz), .inr ?_⟩
    rcases ho.2.2 with e | ⟨a, b, e⟩
    · cases (e : s = .e); exact ⟨q, q, rfl⟩
    · cases (e : s = .i _ _); exact ⟨min a q, max b q, rfl⟩
theorem mul_le {k : Nat} {x y : Pt} (hx : x.le k) (hy : y.le k) (hk : 1 ≤ k) : (x.mul y).le (2 * k) := by
  cases x with
  | fin p => cases y with
    | fin q =>
      have := sz_mul p q
      have h1 : sz p ≤ k := hx
      have h2 : sz q ≤ k := hy
      show sz (p * q) ≤ 2 * k
      omega
    | inf u =>
      show Pt.le _ (if p = 0 then .fin 0 else .inf _)
      split
      · exact Nat.le_trans (show sz 0 ≤ 1 by decide) (by omega)
      · trivial
  | inf u => cases y with
    | fin q =>
      show Pt.le _ (if q = 0 then .fin 0 else .inf _)
      split
      · exact Nat.le_trans (show sz 0 ≤ 1 by decide) (by omega)
      · trivial
    | inf w => trivial
theorem outer_e {a b c d : Option Rat} : (outer (lowP a) (highP b) (lowP c) (highP d) 2).1 = .e → (outer (lowP a) (highP b) (lowP c) (highP d) 2).2 = (true, true) := by
  have hj : ∀ (s : NS) (q : Rat), s.joined (.i (some q) (some q)) ≠ .e := fun s q k => by cases s <;> cases k
  have key : ∀ z1 z2 z3 z4 : Pt, (stp (stp (stp (stp (.e, false, false) z1) z2) z3) z4).1 = .e → ∃ u1 u2 u3 u4, z1 = .inf u1 ∧ z2 = .inf u2 ∧ z3 = .inf u3 ∧ z4 = .inf u4 := by
    intro z1 z2 z3 z4 k
    have h4 : ∀ (o : NS × Bool × Bool) (z : Pt), (stp o z).1 = .e → o.1 = .e ∧ ∃ u, z = .inf u := by
      intro o z k
      cases z with
      | fin q => exact (hj _ _ k).elim
      | inf u => refine ⟨?_, u, rfl⟩; cases u <;> exact k
    obtain ⟨k, u4, e4⟩ := h4 _ _ k
    obtain ⟨k, u3, e3⟩ := h4 _ _ k
    obtain ⟨k, u2, e2⟩ := h4 _ _ k
    obtain ⟨k, u1, e1⟩ := h4 _ _ k
    exact ⟨u1, u2, u3, u4, e1, e2, e3, e4⟩
  intro k
  obtain ⟨u1, u2, u3, u4, e1, e2, e3, e4⟩ := key _ _ _ _ k
  show (stp (stp (stp (stp (.e, false, false) ((lowP a).mul (lowP c))) ((lowP a).mul (highP d))) ((highP b).mul (lowP c))) ((highP b).mul (highP d))).2 = _
  rw [e1, e2, e3, e4]
  have m1 : ∀ {p : Rat} {u v : Bool}, Pt.mul (.fin p) (.inf u) = .inf v → v = (u == decide (0 < p)) := by
    intro p u v k
    simp only [Pt.mul] at k
    split at k
    · cases k
    · cases k; rfl
  have m2 : ∀ {p : Rat} {u v : Bool}, Pt.mul (.inf u) (.fin p) = .inf v → v = (u == decide (0 < p)) := by
    intro p u v k
    simp only [Pt.mul] at k
    split at k
    · cases k
    · cases k; rfl
  cases a with
  | some a =>
    cases c with
    | some c => cases e1
    | none => cases d with
      | some d => cases e2
      | none =>
        have := m1 e1; have := m1 e2
        subst u1 u2
        cases decide (0 < a) <;> cases u3 <;> cases u4 <;> rfl
  | none =>
    cases b with
    | some b =>
      cases c with
      | some c => cases e3
      | none => cases d with
        | some d => cases e4
        | none =>
          have := m1 e3; have := m1 e4
          subst u3 u4
          cases decide (0 < b) <;> cases u1 <;> cases u2 <;> rfl
    | none =>
      cases c with
      | some c =>
        have := m2 e1; have := m2 e3
        subst u1 u3
        cases decide (0 < c) <;> cases u2 <;> cases u4 <;> rfl
      | none =>
        have e1' : u1 = true := by cases e1; rfl
        have e3' : u3 = false := by cases e3; rfl
        subst e1' e3'
        cases u2 <;> cases u4 <;> rfl
end Go.Q
namespace Go.Q
open Go.Proofs
set_option maxRecDepth 100000
set_option maxHeartbeats 16000000
theorem NS.le30' {x : NS} (h : x.le 4096) : x.le (2 ^ 30) := h.up (by decide)
theorem Pt.up {z : Pt} {k m : Nat} (h : z.le k) (hm : k ≤ m) : z.le m := by
  cases z with
  | fin q => exact Nat.le_trans h hm
  | inf u => trivial
theorem lowP_le {a : Option Rat} {k : Nat} (h : ∀ q, a = some q → sz q ≤ k) : (lowP a).le k := by
  cases a with
  | none => trivial
  | some q => exact h q rfl
theorem highP_le {a : Option Rat} {k : Nat} (h : ∀ q, a = some q → sz q ≤ k) : (highP a).le k := by
  cases a with
  | none => trivial
  | some q => exact h q rfl
theorem Product_spec {h0 h : PH} [Le h0 h] {v w : Value} {a b c d : Option Rat} (hs : Sn h0 v (.i a b)) (ht : Sn h0 w (.i c d)) (ls : (NS.i a b).le 2048) (lt : (NS.i c d).le 2048) :
    Spec mach 56 #[v, w] h (fun v h' => Sn h' v ((NS.i a b).prod (.i c d))) NP := by
  rw [NS.le_i] at ls lt
  have la0 := lowP_le ls.1
  have lb0 := highP_le ls.2
  have lc0 := lowP_le lt.1
  have ld0 := highP_le lt.2
  have la := Pt.up (m := 2 ^ 30) la0 (by decide)
  have lb := Pt.up (m := 2 ^ 30) lb0 (by decide)
  have lc := Pt.up (m := 2 ^ 30) lc0 (by decide)
  have ld := Pt.up (m := 2 ^ 30) ld0 (by decide)
  have kA := fun {h} [Le h0 h] => Ends_spec (h := h) hs
  have kB := fun {h} [Le h0 h] => Ends_spec (h := h) ht
  have he := outer_e (a := a) (b := b) (c := c) (d := d)
  obtain ⟨b1, a1, m1, c1, a2, m2, c2, b2, a3, m3, c3, a4, m4, c4, rfl, _, _⟩ := hs.ie
  obtain ⟨b1', a1', m1', c1', a2', m2', c2', b2', a3', m3', c3', a4', m4', c4', rfl, _, _⟩ := ht.ie
  show Spec _ _ _ _ (fun v h' => Sn h' v (fin3 (outer (lowP a) (highP b) (lowP c) (highP d) 2))) _
  generalize lowP a = x1 at *
  generalize highP b = x2 at *
  generalize lowP c = y1 at *
  generalize highP d = y2 at *
  refine Spec.go [] Tryz.func56 rfl rfl (by kernel_rfl) fun C _ => ?_
  try simp (maxSteps := 999999) (disch := omega) only [go_sem, Nat.reduceBEq, Nat.reduceAdd, Int.toNat_one, Nat.zero_mul, Nat.one_mul, Nat.zero_add, List.set_cons_zero, List.set_cons_succ]
  refine caN (by exact kA) ?_; rintro w1 h1 s1 zz1; obtain ⟨p1, p2, p3, p4, p5, p6, p7, q1, q2, q3, q4, q5, q6, q7, rfl, ea, eb⟩ := zz1
  try simp (maxSteps := 999999) (disch := omega) only [go_sem, Nat.reduceBEq, Nat.reduceAdd, Int.toNat_one, Nat.zero_mul, Nat.one_mul, Nat.zero_add, List.set_cons_zero, List.set_cons_succ]
  refine lpSl [] (fun x : Nat × List Value × Bool × Bool => ⟨[(3, .p 1 0), (4, .p 2 0), (5, .p 3 0), (6, .v (.bool x.2.2.1)), (7, .v (.bool x.2.2.2)), (15, .v (.agg #[.bool p1, .slice p2 p3 p4, .slice p5 p6 p7, .int .i64 x1.side, .bool q1, .slice q2 q3 q4, .slice q5 q6 q7, .int .i64 x2.side])), (16, .v (.int .i64 x.1))], [[.bool b1, .slice a1 m1 c1, .slice a2 m2 c2, .bool b2, .slice a3 m3 c3, .slice a4 m4 c4, .bool a.isNone, .bool b.isNone, .bool false], [.bool b1', .slice a1' m1' c1', .slice a2' m2' c2', .bool b2', .slice a3' m3' c3', .slice a4' m4' c4', .bool c.isNone, .bool d.isNone, .bool false], [.bool false, .slice none 0 0, .slice none 0 0, .bool false, .slice none 0 0, .slice none 0 0, .bool false, .bool false, .bool false], x.2.1]⟩) (fun x h' => Le h1 h' ∧ x.1 ≤ 2 ∧ ∃ J, Sn h' (.agg x.2.1.toArray) J ∧ NS.pts 4096 (J, x.2.2.1, x.2.2.2) ∧ outer x1 x2 y1 y2 x.1 = (J, x.2.2.1, x.2.2.2)) (fun x => 2 - x.1) (0, [.bool false, .slice none 0 0, .slice none 0 0, .bool false, .slice none 0 0, .slice none 0 0, .bool false, .bool false, .bool true], false, false) [0, 1, 2, 3] ?_ ⟨inferInstance, by decide, .e, ⟨_, _, _, _, _, _, _, _, rfl, En.nil _, En.nil _⟩, ⟨trivial, rfl, .inl rfl⟩, rfl⟩ (by kernel_rfl) ?_
  · try simp (maxSteps := 999999) (disch := omega) only [go_sem, Nat.reduceBEq, Nat.reduceAdd, nodupB, Int.toNat_one, Nat.zero_mul, Nat.one_mul, Nat.zero_add, List.set_cons_zero, List.set_cons_succ]
  rintro ⟨i, cs, lo, hi⟩ h2 ⟨le2, hi2, J, hJ, hpt, hacc⟩
  have leh : Le h0 h2 := Le.tr inferInstance le2
  dsimp only at *
  obtain ⟨g1, g2, g3, g4, g5, g6, g7, g8, g9, ga, gb, gc, gd, ge, gl, gu, gv, rfl⟩ : ∃ g1 g2 g3 g4 g5 g6 g7 g8 g9 ga gb gc gd ge gl gu gv, cs = [.bool g1, .slice g2 g3 g4, .slice g5 g6 g7, .bool g8, .slice g9 ga gb, .slice gc gd ge, .bool gl, .bool gu, .bool gv] := by
    obtain ⟨_, _, _, _, _, _, _, _, _, _, _, _, _, _, _, _, e, _⟩ := hJ.sa
    simp only [Value.agg.injEq, Array.mk.injEq] at e
    exact ⟨_, _, _, _, _, _, _, _, _, _, _, _, _, _, _, _, _, e⟩
  obtain rfl | rfl | rfl : i = 2 ∨ i = 0 ∨ i = 1 := by omega
  · rw [hacc] at he
    try simp (maxSteps := 999999) (disch := omega) only [go_sem, Nat.reduceBEq, Nat.reduceAdd, Int.toNat_one, Nat.zero_mul, Nat.one_mul, Nat.zero_add, List.set_cons_zero, List.set_cons_succ]
    rw [hacc]
    cases J with
    | e =>
      obtain ⟨rfl, rfl⟩ : lo = true ∧ hi = true := by have := he rfl; simpa using this
      obtain ⟨_, _, _, _, _, _, _, _, e, j1, j2⟩ := hJ
      simp only [Value.agg.injEq, Array.mk.injEq, List.cons.injEq, and_true, Value.bool.injEq] at e
      obtain ⟨rfl, rfl, rfl, rfl, rfl, rfl, _⟩ := e
      exact ⟨_, _, _, _, _, _, rfl, j1, j2⟩
    | i l u =>
      obtain ⟨_, _, _, _, _, _, e, j1, j2⟩ := hJ
      simp only [Value.agg.injEq, Array.mk.injEq, List.cons.injEq, and_true, Value.bool.injEq] at e
      obtain ⟨rfl, rfl, rfl, rfl, rfl, rfl, _⟩ := e
      obtain ⟨l, u, e⟩ := hpt.2.2.resolve_left (fun k => by cases k)
      cases e
      cases lo <;> cases hi <;> exact ⟨_, _, _, _, _, _, rfl, by first | exact j1 | exact j1.junk, by first | exact j2 | exact j2.junk⟩
  · try simp (maxSteps := 999999) (disch := omega) only [go_sem, Nat.reduceBEq, Nat.reduceAdd, Int.toNat_one, Nat.zero_mul, Nat.one_mul, Nat.zero_add, List.set_cons_zero, List.set_cons_succ]
    refine caN (by exact kB) ?_; rintro w3 h3 s3 zz3; obtain ⟨r1, r2, r3, r4, r5, r6, r7, t1, t2, t3, t4, t5, t6, t7, rfl, ec, ed⟩ := zz3
    try simp (maxSteps := 999999) (disch := omega) only [go_sem, Nat.reduceBEq, Nat.reduceAdd, Int.toNat_one, Nat.zero_mul, Nat.one_mul, Nat.zero_add, List.set_cons_zero, List.set_cons_succ]
    have eX := ea.to (h' := h3)
    have hO : outer x1 x2 y1 y2 (0 + 1) = inn x1 y1 y2 (J, lo, hi) 2 := by rw [← hacc]; rfl
    have lX : x1.le (2 ^ 30) := la
    have lX0 : x1.le 2048 := la0
    obtain ⟨o, ho⟩ : ∃ o, (J, lo, hi) = o := ⟨_, rfl⟩
    rw [ho] at hO
    refine lpSl [] (fun x : Nat × List Value × Bool × Bool => ⟨[(3, .p 1 0), (4, .p 2 0), (5, .p 3 0), (6, .v (.bool x.2.2.1)), (7, .v (.bool x.2.2.2)), (9, .p 4 0), (15, .v (.agg #[.bool p1, .slice p2 p3 p4, .slice p5 p6 p7, .int .i64 x1.side, .bool q1, .slice q2 q3 q4, .slice q5 q6 q7, .int .i64 x2.side])), (16, .v (.int .i64 0)), (20, .v (.agg #[.bool r1, .slice r2 r3 r4, .slice r5 r6 r7, .int .i64 y1.side, .bool t1, .slice t2 t3 t4, .slice t5 t6 t7, .int .i64 y2.side])), (21, .v (.int .i64 x.1))], [[.bool b1, .slice a1 m1 c1, .slice a2 m2 c2, .bool b2, .slice a3 m3 c3, .slice a4 m4 c4, .bool a.isNone, .bool b.isNone, .bool false], [.bool b1', .slice a1' m1' c1', .slice a2' m2' c2', .bool b2', .slice a3' m3' c3', .slice a4' m4' c4', .bool c.isNone, .bool d.isNone, .bool false], [.bool false, .slice none 0 0, .slice none 0 0, .bool false, .slice none 0 0, .slice none 0 0, .bool false, .bool false, .bool false], x.2.1, [.bool p1, .slice p2 p3 p4, .slice p5 p6 p7, .int .i64 x1.side]]⟩) (fun x h' => Le h3 h' ∧ x.1 ≤ 2 ∧ ∃ J, Sn h' (.agg x.2.1.toArray) J ∧ NS.pts 4096 (J, x.2.2.1, x.2.2.2) ∧ inn x1 y1 y2 o x.1 = (J, x.2.2.1, x.2.2.2)) (fun x => 2 - x.1) (0, _, lo, hi) [0, 1, 2, 3, 4] ?_ ⟨inferInstance, (show 0 ≤ 2 by decide), J, hJ.to (h' := h3), hpt, ho.symm⟩ (by kernel_rfl) ?_
    · try simp (maxSteps := 999999) (disch := omega) only [go_sem, Nat.reduceBEq, Nat.reduceAdd, nodupB, Int.toNat_one, Nat.zero_mul, Nat.one_mul, Nat.zero_add, List.set_cons_zero, List.set_cons_succ]
    clear hJ hpt hacc ho
    rintro ⟨j, cs, lo, hi⟩ h4 ⟨le4, hj, J, hJ, hpt, hacc⟩
    dsimp only at *
    generalize hX : x1 = X at *
    obtain ⟨k1, k2, k3, k4, k5, k6, k7, k8, k9, ka, kb, kc, kd, ke, kl, ku, kv, rfl⟩ : ∃ k1 k2 k3 k4 k5 k6 k7 k8 k9 ka kb kc kd ke kl ku kv, cs = [.bool k1, .slice k2 k3 k4, .slice k5 k6 k7, .bool k8, .slice k9 ka kb, .slice kc kd ke, .bool kl, .bool ku, .bool kv] := by
      obtain ⟨_, _, _, _, _, _, _, _, _, _, _, _, _, _, _, _, e, _⟩ := hJ.sa
      simp only [Value.agg.injEq, Array.mk.injEq] at e
      exact ⟨_, _, _, _, _, _, _, _, _, _, _, _, _, _, _, _, _, e⟩
    obtain rfl | rfl | rfl : j = 2 ∨ j = 0 ∨ j = 1 := by omega
    · try simp (maxSteps := 999999) (disch := omega) only [go_sem, Nat.reduceBEq, Nat.reduceAdd, Int.toNat_one, Nat.zero_mul, Nat.one_mul, Nat.zero_add, List.set_cons_zero, List.set_cons_succ]
      dsimp only [lpS]; refine ⟨(0 + 1, _, lo, hi), [0, 1, 2, 3], ?_, ⟨Le.tr le2 (Le.tr inferInstance le4), (show 0 + 1 ≤ 2 by decide), J, hJ, hpt, by rw [hO]; exact hacc⟩, (show 2 - (0 + 1) < 2 - 0 by decide)⟩
      try simp (maxSteps := 999999) (disch := omega) only [go_sem, Nat.reduceBEq, Nat.reduceAdd, nodupB, Int.toNat_one, Nat.zero_mul, Nat.one_mul, Nat.zero_add, List.set_cons_zero, List.set_cons_succ]
      all_goals rfl
    · try simp (maxSteps := 999999) (disch := omega) only [go_sem, Nat.reduceBEq, Nat.reduceAdd, Int.toNat_one, Nat.zero_mul, Nat.one_mul, Nat.zero_add, List.set_cons_zero, List.set_cons_succ]
      refine caN (by exact Times_spec (eX.to (h' := h4)) (ec.to (h' := h4)) lX lc) ?_; rintro w5 h5 s5 zz5; obtain ⟨f1, f2, f3, f4, f5, f6, f7, rfl, zz5c⟩ := zz5.sa
      try simp (maxSteps := 999999) (disch := omega) only [go_sem, Nat.reduceBEq, Nat.reduceAdd, Int.toNat_one, Nat.zero_mul, Nat.one_mul, Nat.zero_add, List.set_cons_zero, List.set_cons_succ]
      have lz := mul_le lX0 lc0 (by decide)
      have hz : inn X y1 y2 o (0 + 1) = stp (J, lo, hi) (X.mul y1) := by rw [← hacc]; rfl
      generalize X.mul y1 = z at *
      cases z with
      | fin q =>
        dsimp only [Pt.side] at *
        try simp (maxSteps := 999999) (disch := omega) only [go_sem, Nat.reduceBEq, Nat.reduceAdd, Int.toNat_one, Nat.zero_mul, Nat.one_mul, Nat.zero_add, List.set_cons_zero, List.set_cons_succ]
        refine caN (by exact one_set zz5c.num) ?_; rintro _ h6 _ zz6; obtain ⟨_, _, _, _, _, _, _, _, _, _, _, _, _, _, _, _, rfl, zz6⟩ := zz6.sa
        try simp (maxSteps := 999999) (disch := omega) only [go_sem, Nat.reduceBEq, Nat.reduceAdd, Int.toNat_one, Nat.zero_mul, Nat.one_mul, Nat.zero_add, List.set_cons_zero, List.set_cons_succ]
        refine caN (by exact Joined_set (hJ.to (h' := h6)) zz6 (NS.le30' hpt.2.1) (NS.le30' (le_pt lz))) ?_; rintro _ h7 _ zz7; obtain ⟨_, _, _, _, _, _, _, _, _, _, _, _, _, _, _, _, rfl, zz7⟩ := zz7.sa
        try simp (maxSteps := 999999) (disch := omega) only [go_sem, Nat.reduceBEq, Nat.reduceAdd, Int.toNat_one, Nat.zero_mul, Nat.one_mul, Nat.zero_add, List.set_cons_zero, List.set_cons_succ]
        dsimp only [lpS]; refine ⟨(0 + 1, _, lo, hi), [0, 1, 2, 3, 4], ?_, ⟨inferInstance, (show 0 + 1 ≤ 2 by decide), _, zz7, stp_pts (z := .fin q) hpt lz, hz⟩, (show 2 - (0 + 1) < 2 - 0 by decide)⟩
        try simp (maxSteps := 999999) (disch := omega) only [go_sem, Nat.reduceBEq, Nat.reduceAdd, nodupB, Int.toNat_one, Nat.zero_mul, Nat.one_mul, Nat.zero_add, List.set_cons_zero, List.set_cons_succ]
        all_goals rfl
      | inf up =>
        cases up with
        | true =>
          dsimp only [Pt.side] at *
          simp only [if_true, if_false, Bool.false_eq_true, reduceIte] at *
          try simp (maxSteps := 999999) (disch := omega) only [go_sem, Nat.reduceBEq, Nat.reduceAdd, Int.toNat_one, Nat.zero_mul, Nat.one_mul, Nat.zero_add, List.set_cons_zero, List.set_cons_succ]
          dsimp only [lpS]; refine ⟨(0 + 1, _, lo, true), [0, 1, 2, 3, 4], ?_, ⟨inferInstance, (show 0 + 1 ≤ 2 by decide), _, hJ.to (h' := h5), hpt, hz⟩, (show 2 - (0 + 1) < 2 - 0 by decide)⟩
          try simp (maxSteps := 999999) (disch := omega) only [go_sem, Nat.reduceBEq, Nat.reduceAdd, nodupB, Int.toNat_one, Nat.zero_mul, Nat.one_mul, Nat.zero_add, List.set_cons_zero, List.set_cons_succ]
          all_goals rfl
        | false =>
          dsimp only [Pt.side] at *
          simp only [if_true, if_false, Bool.false_eq_true, reduceIte] at *
          try simp (maxSteps := 999999) (disch := omega) only [go_sem, Nat.reduceBEq, Nat.reduceAdd, Int.toNat_one, Nat.zero_mul, Nat.one_mul, Nat.zero_add, List.set_cons_zero, List.set_cons_succ]
          dsimp only [lpS]; refine ⟨(0 + 1, _, true, hi), [0, 1, 2, 3, 4], ?_, ⟨inferInstance, (show 0 + 1 ≤ 2 by decide), _, hJ.to (h' := h5), hpt, hz⟩, (show 2 - (0 + 1) < 2 - 0 by decide)⟩
          try simp (maxSteps := 999999) (disch := omega) only [go_sem, Nat.reduceBEq, Nat.reduceAdd, nodupB, Int.toNat_one, Nat.zero_mul, Nat.one_mul, Nat.zero_add, List.set_cons_zero, List.set_cons_succ]
          all_goals rfl
    · try simp (maxSteps := 999999) (disch := omega) only [go_sem, Nat.reduceBEq, Nat.reduceAdd, Int.toNat_one, Nat.zero_mul, Nat.one_mul, Nat.zero_add, List.set_cons_zero, List.set_cons_succ]
      refine caN (by exact Times_spec (eX.to (h' := h4)) (ed.to (h' := h4)) lX ld) ?_; rintro w5 h5 s5 zz5; obtain ⟨f1, f2, f3, f4, f5, f6, f7, rfl, zz5c⟩ := zz5.sa
      try simp (maxSteps := 999999) (disch := omega) only [go_sem, Nat.reduceBEq, Nat.reduceAdd, Int.toNat_one, Nat.zero_mul, Nat.one_mul, Nat.zero_add, List.set_cons_zero, List.set_cons_succ]
      have lz := mul_le lX0 ld0 (by decide)
      have hz : inn X y1 y2 o (1 + 1) = stp (J, lo, hi) (X.mul y2) := by rw [← hacc]; rfl
      generalize X.mul y2 = z at *
      cases z with
      | fin q =>
        dsimp only [Pt.side] at *
        try simp (maxSteps := 999999) (disch := omega) only [go_sem, Nat.reduceBEq, Nat.reduceAdd, Int.toNat_one, Nat.zero_mul, Nat.one_mul, Nat.zero_add, List.set_cons_zero, List.set_cons_succ]
        refine caN (by exact one_set zz5c.num) ?_; rintro _ h6 _ zz6; obtain ⟨_, _, _, _, _, _, _, _, _, _, _, _, _, _, _, _, rfl, zz6⟩ := zz6.sa
        try simp (maxSteps := 999999) (disch := omega) only [go_sem, Nat.reduceBEq, Nat.reduceAdd, Int.toNat_one, Nat.zero_mul, Nat.one_mul, Nat.zero_add, List.set_cons_zero, List.set_cons_succ]
        refine caN (by exact Joined_set (hJ.to (h' := h6)) zz6 (NS.le30' hpt.2.1) (NS.le30' (le_pt lz))) ?_; rintro _ h7 _ zz7; obtain ⟨_, _, _, _, _, _, _, _, _, _, _, _, _, _, _, _, rfl, zz7⟩ := zz7.sa
        try simp (maxSteps := 999999) (disch := omega) only [go_sem, Nat.reduceBEq, Nat.reduceAdd, Int.toNat_one, Nat.zero_mul, Nat.one_mul, Nat.zero_add, List.set_cons_zero, List.set_cons_succ]
        dsimp only [lpS]; refine ⟨(1 + 1, _, lo, hi), [0, 1, 2, 3, 4], ?_, ⟨inferInstance, (show 1 + 1 ≤ 2 by decide), _, zz7, stp_pts (z := .fin q) hpt lz, hz⟩, (show 2 - (1 + 1) < 2 - 1 by decide)⟩
        try simp (maxSteps := 999999) (disch := omega) only [go_sem, Nat.reduceBEq, Nat.reduceAdd, nodupB, Int.toNat_one, Nat.zero_mul, Nat.one_mul, Nat.zero_add, List.set_cons_zero, List.set_cons_succ]
        all_goals rfl
      | inf up =>
        cases up with
        | true =>
          dsimp only [Pt.side] at *
          simp only [if_true, if_false, Bool.false_eq_true, reduceIte] at *
          try simp (maxSteps := 999999) (disch := omega) only [go_sem, Nat.reduceBEq, Nat.reduceAdd, Int.toNat_one, Nat.zero_mul, Nat.one_mul, Nat.zero_add, List.set_cons_zero, List.set_cons_succ]
          dsimp only [lpS]; refine ⟨(1 + 1, _, lo, true), [0, 1, 2, 3, 4], ?_, ⟨inferInstance, (show 1 + 1 ≤ 2 by decide), _, hJ.to (h' := h5), hpt, hz⟩, (show 2 - (1 + 1) < 2 - 1 by decide)⟩
          try simp (maxSteps := 999999) (disch := omega) only [go_sem, Nat.reduceBEq, Nat.reduceAdd, nodupB, Int.toNat_one, Nat.zero_mul, Nat.one_mul, Nat.zero_add, List.set_cons_zero, List.set_cons_succ]
          all_goals rfl
        | false =>
          dsimp only [Pt.side] at *
          simp only [if_true, if_false, Bool.false_eq_true, reduceIte] at *
          try simp (maxSteps := 999999) (disch := omega) only [go_sem, Nat.reduceBEq, Nat.reduceAdd, Int.toNat_one, Nat.zero_mul, Nat.one_mul, Nat.zero_add, List.set_cons_zero, List.set_cons_succ]
          dsimp only [lpS]; refine ⟨(1 + 1, _, true, hi), [0, 1, 2, 3, 4], ?_, ⟨inferInstance, (show 1 + 1 ≤ 2 by decide), _, hJ.to (h' := h5), hpt, hz⟩, (show 2 - (1 + 1) < 2 - 1 by decide)⟩
          try simp (maxSteps := 999999) (disch := omega) only [go_sem, Nat.reduceBEq, Nat.reduceAdd, nodupB, Int.toNat_one, Nat.zero_mul, Nat.one_mul, Nat.zero_add, List.set_cons_zero, List.set_cons_succ]
          all_goals rfl
  · try simp (maxSteps := 999999) (disch := omega) only [go_sem, Nat.reduceBEq, Nat.reduceAdd, Int.toNat_one, Nat.zero_mul, Nat.one_mul, Nat.zero_add, List.set_cons_zero, List.set_cons_succ]
    refine caN (by exact kB) ?_; rintro w3 h3 s3 zz3; obtain ⟨r1, r2, r3, r4, r5, r6, r7, t1, t2, t3, t4, t5, t6, t7, rfl, ec, ed⟩ := zz3
    try simp (maxSteps := 999999) (disch := omega) only [go_sem, Nat.reduceBEq, Nat.reduceAdd, Int.toNat_one, Nat.zero_mul, Nat.one_mul, Nat.zero_add, List.set_cons_zero, List.set_cons_succ]
    have eX := eb.to (h' := h3)
    have hO : outer x1 x2 y1 y2 (1 + 1) = inn x2 y1 y2 (J, lo, hi) 2 := by rw [← hacc]; rfl
    have lX : x2.le (2 ^ 30) := lb
    have lX0 : x2.le 2048 := lb0
    obtain ⟨o, ho⟩ : ∃ o, (J, lo, hi) = o := ⟨_, rfl⟩
    rw [ho] at hO
    refine lpSl [] (fun x : Nat × List Value × Bool × Bool => ⟨[(3, .p 1 0), (4, .p 2 0), (5, .p 3 0), (6, .v (.bool x.2.2.1)), (7, .v (.bool x.2.2.2)), (9, .p 4 0), (15, .v (.agg #[.bool p1, .slice p2 p3 p4, .slice p5 p6 p7, .int .i64 x1.side, .bool q1, .slice q2 q3 q4, .slice q5 q6 q7, .int .i64 x2.side])), (16, .v (.int .i64 1)), (20, .v (.agg #[.bool r1, .slice r2 r3 r4, .slice r5 r6 r7, .int .i64 y1.side, .bool t1, .slice t2 t3 t4, .slice t5 t6 t7, .int .i64 y2.side])), (21, .v (.int .i64 x.1))], [[.bool b1, .slice a1 m1 c1, .slice a2 m2 c2, .bool b2, .slice a3 m3 c3, .slice a4 m4 c4, .bool a.isNone, .bool b.isNone, .bool false], [.bool b1', .slice a1' m1' c1', .slice a2' m2' c2', .bool b2', .slice a3' m3' c3', .slice a4' m4' c4', .bool c.isNone, .bool d.isNone, .bool false], [.bool false, .slice none 0 0, .slice none 0 0, .bool false, .slice none 0 0, .slice none 0 0, .bool false, .bool false, .bool false], x.2.1, [.bool q1, .slice q2 q3 q4, .slice q5 q6 q7, .int .i64 x2.side]]⟩) (fun x h' => Le h3 h' ∧ x.1 ≤ 2 ∧ ∃ J, Sn h' (.agg x.2.1.toArray) J ∧ NS.pts 4096 (J, x.2.2.1, x.2.2.2) ∧ inn x2 y1 y2 o x.1 = (J, x.2.2.1, x.2.2.2)) (fun x => 2 - x.1) (0, _, lo, hi) [0, 1, 2, 3, 4] ?_ ⟨inferInstance, (show 0 ≤ 2 by decide), J, hJ.to (h' := h3), hpt, ho.symm⟩ (by kernel_rfl) ?_
    · try simp (maxSteps := 999999) (disch := omega) only [go_sem, Nat.reduceBEq, Nat.reduceAdd, nodupB, Int.toNat_one, Nat.zero_mul, Nat.one_mul, Nat.zero_add, List.set_cons_zero, List.set_cons_succ]
    clear hJ hpt hacc ho
    rintro ⟨j, cs, lo, hi⟩ h4 ⟨le4, hj, J, hJ, hpt, hacc⟩
    dsimp only at *
    generalize hX : x2 = X at *
    obtain ⟨k1, k2, k3, k4, k5, k6, k7, k8, k9, ka, kb, kc, kd, ke, kl, ku, kv, rfl⟩ : ∃ k1 k2 k3 k4 k5 k6 k7 k8 k9 ka kb kc kd ke kl ku kv, cs = [.bool k1, .slice k2 k3 k4, .slice k5 k6 k7, .bool k8, .slice k9 ka kb, .slice kc kd ke, .bool kl, .bool ku, .bool kv] := by
      obtain ⟨_, _, _, _, _, _, _, _, _, _, _, _, _, _, _, _, e, _⟩ := hJ.sa
      simp only [Value.agg.injEq, Array.mk.injEq] at e
      exact ⟨_, _, _, _, _, _, _, _, _, _, _, _, _, _, _, _, _, e⟩
    obtain rfl | rfl | rfl : j = 2 ∨ j = 0 ∨ j = 1 := by omega
    · try simp (maxSteps := 999999) (disch := omega) only [go_sem, Nat.reduceBEq, Nat.reduceAdd, Int.toNat_one, Nat.zero_mul, Nat.one_mul, Nat.zero_add, List.set_cons_zero, List.set_cons_succ]
      dsimp only [lpS]; refine ⟨(1 + 1, _, lo, hi), [0, 1, 2, 3], ?_, ⟨Le.tr le2 (Le.tr inferInstance le4), (show 1 + 1 ≤ 2 by decide), J, hJ, hpt, by rw [hO]; exact hacc⟩, (show 2 - (1 + 1) < 2 - 1 by decide)⟩
      try simp (maxSteps := 999999) (disch := omega) only [go_sem, Nat.reduceBEq, Nat.reduceAdd, nodupB, Int.toNat_one, Nat.zero_mul, Nat.one_mul, Nat.zero_add, List.set_cons_zero, List.set_cons_succ]
      all_goals rfl
    · try simp (maxSteps := 999999) (disch := omega) only [go_sem, Nat.reduceBEq, Nat.reduceAdd, Int.toNat_one, Nat.zero_mul, Nat.one_mul, Nat.zero_add, List.set_cons_zero, List.set_cons_succ]
      refine caN (by exact Times_spec (eX.to (h' := h4)) (ec.to (h' := h4)) lX lc) ?_; rintro w5 h5 s5 zz5; obtain ⟨f1, f2, f3, f4, f5, f6, f7, rfl, zz5c⟩ := zz5.sa
      try simp (maxSteps := 999999) (disch := omega) only [go_sem, Nat.reduceBEq, Nat.reduceAdd, Int.toNat_one, Nat.zero_mul, Nat.one_mul, Nat.zero_add, List.set_cons_zero, List.set_cons_succ]
      have lz := mul_le lX0 lc0 (by decide)
      have hz : inn X y1 y2 o (0 + 1) = stp (J, lo, hi) (X.mul y1) := by rw [← hacc]; rfl
      generalize X.mul y1 = z at *
      cases z with
      | fin q =>
        dsimp only [Pt.side] at *
        try simp (maxSteps := 999999) (disch := omega) only [go_sem, Nat.reduceBEq, Nat.reduceAdd, Int.toNat_one, Nat.zero_mul, Nat.one_mul, Nat.zero_add, List.set_cons_zero, List.set_cons_succ]
        refine caN (by exact one_set zz5c.num) ?_; rintro _ h6 _ zz6; obtain ⟨_, _, _, _, _, _, _, _, _, _, _, _, _, _, _, _, rfl, zz6⟩ := zz6.sa
        try simp (maxSteps := 999999) (disch := omega) only [go_sem, Nat.reduceBEq, Nat.reduceAdd, Int.toNat_one, Nat.zero_mul, Nat.one_mul, Nat.zero_add, List.set_cons_zero, List.set_cons_succ]
        refine caN (by exact Joined_set (hJ.to (h' := h6)) zz6 (NS.le30' hpt.2.1) (NS.le30' (le_pt lz))) ?_; rintro _ h7 _ zz7; obtain ⟨_, _, _, _, _, _, _, _, _, _, _, _, _, _, _, _, rfl, zz7⟩ := zz7.sa
        try simp (maxSteps := 999999) (disch := omega) only [go_sem, Nat.reduceBEq, Nat.reduceAdd, Int.toNat_one, Nat.zero_mul, Nat.one_mul, Nat.zero_add, List.set_cons_zero, List.set_cons_succ]
        dsimp only [lpS]; refine ⟨(0 + 1, _, lo, hi), [0, 1, 2, 3, 4], ?_, ⟨inferInstance, (show 0 + 1 ≤ 2 by decide), _, zz7, stp_pts (z := .fin q) hpt lz, hz⟩, (show 2 - (0 + 1) < 2 - 0 by decide)⟩
        try simp (maxSteps := 999999) (disch := omega) only [go_sem, Nat.reduceBEq, Nat.reduceAdd, nodupB, Int.toNat_one, Nat.zero_mul, Nat.one_mul, Nat.zero_add, List.set_cons_zero, List.set_cons_succ]
        all_goals rfl
      | inf up =>
        cases up with
        | true =>
          dsimp only [Pt.side] at *
          simp only [if_true, if_false, Bool.false_eq_true, reduceIte] at *
          try simp (maxSteps := 999999) (disch := omega) only [go_sem, Nat.reduceBEq, Nat.reduceAdd, Int.toNat_one, Nat.zero_mul, Nat.one_mul, Nat.zero_add, List.set_cons_zero, List.set_cons_succ]
          dsimp only [lpS]; refine ⟨(0 + 1, _, lo, true), [0, 1, 2, 3, 4], ?_, ⟨inferInstance, (show 0 + 1 ≤ 2 by decide), _, hJ.to (h' := h5), hpt, hz⟩, (show 2 - (0 + 1) < 2 - 0 by decide)⟩
          try simp (maxSteps := 999999) (disch := omega) only [go_sem, Nat.reduceBEq, Nat.reduceAdd, nodupB, Int.toNat_one, Nat.zero_mul, Nat.one_mul, Nat.zero_add, List.set_cons_zero, List.set_cons_succ]
          all_goals rfl
        | false =>
          dsimp only [Pt.side] at *
          simp only [if_true, if_false, Bool.false_eq_true, reduceIte] at *
          try simp (maxSteps := 999999) (disch := omega) only [go_sem, Nat.reduceBEq, Nat.reduceAdd, Int.toNat_one, Nat.zero_mul, Nat.one_mul, Nat.zero_add, List.set_cons_zero, List.set_cons_succ]
          dsimp only [lpS]; refine ⟨(0 + 1, _, true, hi), [0, 1, 2, 3, 4], ?_, ⟨inferInstance, (show 0 + 1 ≤ 2 by decide), _, hJ.to (h' := h5), hpt, hz⟩, (show 2 - (0 + 1) < 2 - 0 by decide)⟩
          try simp (maxSteps := 999999) (disch := omega) only [go_sem, Nat.reduceBEq, Nat.reduceAdd, nodupB, Int.toNat_one, Nat.zero_mul, Nat.one_mul, Nat.zero_add, List.set_cons_zero, List.set_cons_succ]
          all_goals rfl
    · try simp (maxSteps := 999999) (disch := omega) only [go_sem, Nat.reduceBEq, Nat.reduceAdd, Int.toNat_one, Nat.zero_mul, Nat.one_mul, Nat.zero_add, List.set_cons_zero, List.set_cons_succ]
      refine caN (by exact Times_spec (eX.to (h' := h4)) (ed.to (h' := h4)) lX ld) ?_; rintro w5 h5 s5 zz5; obtain ⟨f1, f2, f3, f4, f5, f6, f7, rfl, zz5c⟩ := zz5.sa
      try simp (maxSteps := 999999) (disch := omega) only [go_sem, Nat.reduceBEq, Nat.reduceAdd, Int.toNat_one, Nat.zero_mul, Nat.one_mul, Nat.zero_add, List.set_cons_zero, List.set_cons_succ]
      have lz := mul_le lX0 ld0 (by decide)
      have hz : inn X y1 y2 o (1 + 1) = stp (J, lo, hi) (X.mul y2) := by rw [← hacc]; rfl
      generalize X.mul y2 = z at *
      cases z with
      | fin q =>
        dsimp only [Pt.side] at *
        try simp (maxSteps := 999999) (disch := omega) only [go_sem, Nat.reduceBEq, Nat.reduceAdd, Int.toNat_one, Nat.zero_mul, Nat.one_mul, Nat.zero_add, List.set_cons_zero, List.set_cons_succ]
        refine caN (by exact one_set zz5c.num) ?_; rintro _ h6 _ zz6; obtain ⟨_, _, _, _, _, _, _, _, _, _, _, _, _, _, _, _, rfl, zz6⟩ := zz6.sa
        try simp (maxSteps := 999999) (disch := omega) only [go_sem, Nat.reduceBEq, Nat.reduceAdd, Int.toNat_one, Nat.zero_mul, Nat.one_mul, Nat.zero_add, List.set_cons_zero, List.set_cons_succ]
        refine caN (by exact Joined_set (hJ.to (h' := h6)) zz6 (NS.le30' hpt.2.1) (NS.le30' (le_pt lz))) ?_; rintro _ h7 _ zz7; obtain ⟨_, _, _, _, _, _, _, _, _, _, _, _, _, _, _, _, rfl, zz7⟩ := zz7.sa
        try simp (maxSteps := 999999) (disch := omega) only [go_sem, Nat.reduceBEq, Nat.reduceAdd, Int.toNat_one, Nat.zero_mul, Nat.one_mul, Nat.zero_add, List.set_cons_zero, List.set_cons_succ]
        dsimp only [lpS]; refine ⟨(1 + 1, _, lo, hi), [0, 1, 2, 3, 4], ?_, ⟨inferInstance, (show 1 + 1 ≤ 2 by decide), _, zz7, stp_pts (z := .fin q) hpt lz, hz⟩, (show 2 - (1 + 1) < 2 - 1 by decide)⟩
        try simp (maxSteps := 999999) (disch := omega) only [go_sem, Nat.reduceBEq, Nat.reduceAdd, nodupB, Int.toNat_one, Nat.zero_mul, Nat.one_mul, Nat.zero_add, List.set_cons_zero, List.set_cons_succ]
        all_goals rfl
      | inf up =>
        cases up with
        | true =>
          dsimp only [Pt.side] at *
          simp only [if_true, if_false, Bool.false_eq_true, reduceIte] at *
          try simp (maxSteps := 999999) (disch := omega) only [go_sem, Nat.reduceBEq, Nat.reduceAdd, Int.toNat_one, Nat.zero_mul, Nat.one_mul, Nat.zero_add, List.set_cons_zero, List.set_cons_succ]
          dsimp only [lpS]; refine ⟨(1 + 1, _, lo, true), [0, 1, 2, 3, 4], ?_, ⟨inferInstance, (show 1 + 1 ≤ 2 by decide), _, hJ.to (h' := h5), hpt, hz⟩, (show 2 - (1 + 1) < 2 - 1 by decide)⟩
          try simp (maxSteps := 999999) (disch := omega) only [go_sem, Nat.reduceBEq, Nat.reduceAdd, nodupB, Int.toNat_one, Nat.zero_mul, Nat.one_mul, Nat.zero_add, List.set_cons_zero, List.set_cons_succ]
          all_goals rfl
        | false =>
          dsimp only [Pt.side] at *
          simp only [if_true, if_false, Bool.false_eq_true, reduceIte] at *
          try simp (maxSteps := 999999) (disch := omega) only [go_sem, Nat.reduceBEq, Nat.reduceAdd, Int.toNat_one, Nat.zero_mul, Nat.one_mul, Nat.zero_add, List.set_cons_zero, List.set_cons_succ]
          dsimp only [lpS]; refine ⟨(1 + 1, _, true, hi), [0, 1, 2, 3, 4], ?_, ⟨inferInstance, (show 1 + 1 ≤ 2 by decide), _, hJ.to (h' := h5), hpt, hz⟩, (show 2 - (1 + 1) < 2 - 1 by decide)⟩
          try simp (maxSteps := 999999) (disch := omega) only [go_sem, Nat.reduceBEq, Nat.reduceAdd, nodupB, Int.toNat_one, Nat.zero_mul, Nat.one_mul, Nat.zero_add, List.set_cons_zero, List.set_cons_succ]
          all_goals rfl
theorem prod_pts {a b c d : Option Rat} (ls : (NS.i a b).le 2048) (lt : (NS.i c d).le 2048) : NS.pts 4096 (outer (lowP a) (highP b) (lowP c) (highP d) 2) := by
  rw [NS.le_i] at ls lt
  have la := lowP_le ls.1
  have lb := highP_le ls.2
  have lc := lowP_le lt.1
  have ld := highP_le lt.2
  exact stp_pts (stp_pts (stp_pts (stp_pts ⟨trivial, rfl, .inl rfl⟩ (mul_le la lc (by decide))) (mul_le la ld (by decide))) (mul_le lb lc (by decide))) (mul_le lb ld (by decide))
theorem fin3_pts {k : Nat} {o : NS × Bool × Bool} (h : NS.pts k o) (hk : 1 ≤ k) : (fin3 o).ok ∧ (fin3 o).le k := by
  obtain ⟨s, l, u⟩ := o
  obtain ⟨h1, h2, h3⟩ := h
  have h0 : sz 0 ≤ k := Nat.le_trans (show sz 0 ≤ 1 by decide) hk
  rcases h3 with e | ⟨a, b, e⟩
  · cases (e : s = .e)
    refine ⟨?_, ?_⟩
    · cases l <;> cases u <;> simp [fin3, NS.ok, ordO]
    · show NS.le k (.i _ _)
      rw [NS.le_i]
      cases l <;> cases u <;> exact ⟨fun _ e => by cases e; try exact h0, fun _ e => by cases e; try exact h0⟩
  · cases (e : s = .i _ _)
    have h2' := (NS.le_i.1 h2)
    refine ⟨?_, ?_⟩
    · cases l <;> cases u <;> first | exact h1 | rfl
    · show NS.le k (.i _ _)
      rw [NS.le_i]
      cases l <;> cases u <;> exact ⟨fun _ e => by cases e; try exact h2'.1 _ rfl, fun _ e => by cases e; try exact h2'.2 _ rfl⟩
theorem prod_ok {x y : NS} (hx : x.le 2048) (hy : y.le 2048) : (x.prod y).ok ∧ (x.prod y).le 4096 := by
  cases x with
  | e => exact ⟨trivial, rfl⟩
  | i a b => cases y with
    | e => exact ⟨trivial, rfl⟩
    | i c d => exact fin3_pts (prod_pts hx hy) (by decide)
theorem Prod1 {h0 h : PH} [Le h0 h] {s t : Value} {x y : NS} (hs : Sn h0 s x) (ht : Sn h0 t y) (gx : x.void = false) (gy : y.void = false) (lx : x.le 2048) (ly : y.le 2048) : Spec mach 56 #[s, t] h (fun v h' => Sn h' v (x.prod y)) NP := by
  cases x with
  | e => cases gx
  | i a b => cases y with
    | e => cases gy
    | i c d => exact Product_spec hs ht lx ly
theorem MulI_spec {h0 h : PH} [Le h0 h] {v w : Value} {x y : RI} {p : Int} (hv : Iv h0 v x) (hw : Iv h0 w y) : Spec mach 21 #[v, w, .int .i64 p] h (fun r h' => Ir h' r (x.fin2 y (rnd p x.set y.set (.ok (x.set.prod y.set))))) NP := by
  have hv0 := hv
  have hw0 := hw
  obtain ⟨a1, m1, c1, a2, m2, c2, a3, m3, c3, a4, m4, c4, rfl, _, _⟩ := hv.sa
  obtain ⟨a1', m1', c1', a2', m2', c2', a3', m3', c3', a4', m4', c4', rfl, _, _⟩ := hw.sa
  refine Spec.go [] Tryz.func21 rfl rfl (by kernel_rfl) fun C _ => ?_
  try simp (maxSteps := 999999) (disch := omega) only [go_sem, Nat.reduceBEq, Nat.reduceAdd, Int.toNat_one, Nat.zero_mul, Nat.one_mul, Nat.zero_add, List.set_cons_zero, List.set_cons_succ]
  refine caN (by exact rounded_spec hv0 hw0 (fun g g' k k' h' _ s t hs ht => Does.mk (Prod1 hs.sn ht.sn k k' (RI.le g) (RI.le g'))) (fun g g' z e => by cases e; exact (prod_ok (RI.le g) (RI.le g')).2.up (by decide))) ?_; rintro _ h3 _ hr3; obtain ⟨_, _, _, _, _, _, _, _, _, _, _, _, _, _, _, _, _, rfl, hr3⟩ := hr3.sa
  try simp (maxSteps := 999999) (disch := omega) only [go_sem, Nat.reduceBEq, Nat.reduceAdd, Int.toNat_one, Nat.zero_mul, Nat.one_mul, Nat.zero_add, List.set_cons_zero, List.set_cons_succ]
  exact hr3
end Go.Q
namespace Go.Q
open Go.Proofs
set_option maxRecDepth 100000
set_option maxHeartbeats 8000000
def invO : Option Rat → Rat
  | none => ((0 : Int) : Rat)
  | some q => q⁻¹
def NS.inv : NS → NS
  | .e => .e
  | .i a b => .i (some (invO b)) (some (invO a))
theorem zero_ends {a b : Option Rat} (h : (NS.i a b).zero = false) (ho : (NS.i a b).ok) : (∀ q, a = some q → q ≠ 0) ∧ ∀ q, b = some q → q ≠ 0 := by
  have h1 : ¬ ((NS.i a b).slo ≤ 0 ∧ 0 ≤ (NS.i a b).shi) := by
    intro k
    simp [NS.zero, NS.void, k.1, k.2] at h
  refine ⟨fun q e k => h1 ?_, fun q e k => h1 ?_⟩
  · subst e k
    refine ⟨by show sgn3 0 ≤ 0; decide, ?_⟩
    cases b with
    | none => show (0 : Int) ≤ 1; decide
    | some b =>
      have : ¬ b < 0 := by simpa [NS.ok, ordO] using ho
      show 0 ≤ sgn3 b
      unfold sgn3; grind
  · subst e k
    refine ⟨?_, by show 0 ≤ sgn3 0; decide⟩
    cases a with
    | none => show (-1 : Int) ≤ 0; decide
    | some a =>
      have : ¬ (0 : Rat) < a := by simpa [NS.ok, ordO] using ho
      show sgn3 a ≤ 0
      unfold sgn3; grind
theorem InverseS_spec {h0 h : PH} [Le h0 h] {v : Value} {a b : Option Rat} (hv : Sn h0 v (.i a b)) (ha : ∀ q, a = some q → q ≠ 0) (hb : ∀ q, b = some q → q ≠ 0) : Spec mach 60 #[v] h (fun v h' => Sn h' v (NS.i a b).inv) NP := by
  obtain ⟨b1, a1, m1, c1, a2, m2, c2, b2, a3, m3, c3, a4, m4, c4, rfl, e1, e2⟩ := hv.ie
  cases a <;> cases b <;>
  · dsimp only [Option.isNone]
    refine Spec.go [] Tryz.func60 rfl rfl (by kernel_rfl) fun C _ => ?_
    try simp (maxSteps := 999999) (disch := omega) only [go_sem, Nat.reduceBEq, Nat.reduceAdd]
    refine caN (by exact Int_spec (n := 0) (by decide) (by decide)) ?_; rintro _ h1 _ f1; obtain ⟨_, _, _, _, _, _, _, rfl, f1⟩ := f1.sa
    try simp (maxSteps := 999999) (disch := omega) only [go_sem, Nat.reduceBEq, Nat.reduceAdd]
    refine caN (by exact Int_spec (n := 0) (by decide) (by decide)) ?_; rintro _ h2 _ f2; obtain ⟨_, _, _, _, _, _, _, rfl, f2⟩ := f2.sa
    try simp (maxSteps := 999999) (disch := omega) only [go_sem, Nat.reduceBEq, Nat.reduceAdd]
    try (refine caN (by exact Inverse_spec (e2.num.to (h' := h2)) (hb _ rfl)) ?_; rintro _ h3 _ f3; obtain ⟨_, _, _, _, _, _, _, rfl, f3⟩ := f3.sa; (try simp (maxSteps := 999999) (disch := omega) only [go_sem, Nat.reduceBEq, Nat.reduceAdd]))
    try (refine caN (by exact Inverse_spec e1.num (ha _ rfl)) ?_; rintro _ h4 _ f4; obtain ⟨_, _, _, _, _, _, _, rfl, f4⟩ := f4.sa; (try simp (maxSteps := 999999) (disch := omega) only [go_sem, Nat.reduceBEq, Nat.reduceAdd]))
    try simp (maxSteps := 999999) (disch := omega) only [go_sem, Nat.reduceBEq, Nat.reduceAdd]
    exact ⟨_, _, _, _, _, _, rfl, by first | exact En.of f3.to | exact En.of f1.to, by first | exact En.of f4.to | exact En.of f2.to⟩
theorem inv_le {x : NS} {k : Nat} (h : x.le k) (hk : 1 ≤ k) : x.inv.le k := by
  cases x with
  | e => exact h
  | i a b =>
    rw [NS.le_i] at h
    show NS.le k (.i (some (invO b)) (some (invO a)))
    rw [NS.le_i]
    have h0 : sz ((0 : Int) : Rat) ≤ k := Nat.le_trans (by decide) hk
    refine ⟨fun q e => ?_, fun q e => ?_⟩
    · cases e
      cases b with
      | none => exact h0
      | some b => exact Nat.le_trans (sz_inv b) (h.2 _ rfl)
    · cases e
      cases a with
      | none => exact h0
      | some a => exact Nat.le_trans (sz_inv a) (h.1 _ rfl)
def divO (x y : NS) : Out := bif y.zero then .error 10 else .ok (x.prod y.inv)
theorem Div1 {h0 h : PH} [Le h0 h] {s t : Value} {x y : NS} (hs : Sn h0 s x) (ht : Sn h0 t y) (gx : x.void = false) (gy : y.void = false) (lx : x.le 2048) (ly : y.le 2048) (oy : y.ok) : Does 57 #[s, t] h (divO x y) := by
  unfold divO
  have kZ := fun {h} [Le h0 h] => zero_set (h := h) ht
  have kI : y.zero = false → ∀ {h : PH} [Le h0 h], Spec mach 60 #[t] h (fun v h' => Sn h' v y.inv) NP := by
    intro hz h _
    cases y with
    | e => cases gy
    | i c d =>
      obtain ⟨n1, n2⟩ := zero_ends hz oy
      exact InverseS_spec ht n1 n2
  have hs0 := hs
  have ht0 := ht
  obtain ⟨_, _, _, _, _, _, _, _, _, _, _, _, _, _, _, _, rfl, _⟩ := hs.sa
  obtain ⟨_, _, _, _, _, _, _, _, _, _, _, _, _, _, _, _, rfl, _⟩ := ht.sa
  cases hz : y.zero with
  | true =>
    rw [hz] at kZ
    show Spec _ _ _ _ NR (fail 10)
    refine Spec.go [] Tryz.func57 rfl rfl (by kernel_rfl) fun C _ => ?_
    try simp (maxSteps := 999999) (disch := omega) only [go_sem, Nat.reduceBEq, Nat.reduceAdd]
    refine caN (by exact kZ) ?_; rintro v1 h1 s1 rfl
    try simp (maxSteps := 999999) (disch := omega) only [go_sem, Nat.reduceBEq, Nat.reduceAdd]
    exact caF (by exact must_fail (by decide)) (fun _ _ h => h)
  | false =>
    rw [hz] at kZ
    show Spec _ _ _ _ (fun v h' => Sn h' v (x.prod y.inv)) NP
    have kI := fun {h} [Le h0 h] => kI hz (h := h)
    have gi : y.inv.void = false := by cases y with
      | e => cases gy
      | i c d => rfl
    refine Spec.go [] Tryz.func57 rfl rfl (by kernel_rfl) fun C _ => ?_
    try simp (maxSteps := 999999) (disch := omega) only [go_sem, Nat.reduceBEq, Nat.reduceAdd]
    refine caN (by exact kZ) ?_; rintro v1 h1 s1 rfl
    try simp (maxSteps := 999999) (disch := omega) only [go_sem, Nat.reduceBEq, Nat.reduceAdd]
    refine caN (by exact kI) ?_; rintro _ h2 _ q2; obtain ⟨_, _, _, _, _, _, _, _, _, _, _, _, _, _, _, _, rfl, q2⟩ := q2.sa
    try simp (maxSteps := 999999) (disch := omega) only [go_sem, Nat.reduceBEq, Nat.reduceAdd]
    refine caN (by exact Prod1 (hs0.to (h' := h2)) q2 gx gi lx (inv_le ly (by decide))) ?_; rintro _ h3 _ q3; obtain ⟨_, _, _, _, _, _, _, _, _, _, _, _, _, _, _, _, rfl, q3⟩ := q3.sa
    try simp (maxSteps := 999999) (disch := omega) only [go_sem, Nat.reduceBEq, Nat.reduceAdd]
    exact q3
theorem DivI_spec {h0 h : PH} [Le h0 h] {v w : Value} {x y : RI} {p : Int} (hv : Iv h0 v x) (hw : Iv h0 w y) : Spec mach 22 #[v, w, .int .i64 p] h (fun r h' => Ir h' r (x.fin2 y (rnd p x.set y.set (divO x.set y.set)))) NP := by
  have hv0 := hv
  have hw0 := hw
  obtain ⟨a1, m1, c1, a2, m2, c2, a3, m3, c3, a4, m4, c4, rfl, _, _⟩ := hv.sa
  obtain ⟨a1', m1', c1', a2', m2', c2', a3', m3', c3', a4', m4', c4', rfl, _, _⟩ := hw.sa
  have kL : x.big = false → y.big = false → ∀ z, divO x.set y.set = .ok z → z.le (2 ^ 30) := by
    intro g g' z e
    unfold divO at e
    cases hz : y.set.zero with
    | true => rw [hz] at e; cases e
    | false => rw [hz] at e; cases e; exact (prod_ok (RI.le g) (inv_le (RI.le g') (by decide))).2.up (by decide)
  refine Spec.go [] Tryz.func22 rfl rfl (by kernel_rfl) fun C _ => ?_
  try simp (maxSteps := 999999) (disch := omega) only [go_sem, Nat.reduceBEq, Nat.reduceAdd]
  refine caN (by exact rounded_spec hv0 hw0 (fun g g' k k' h' _ s t hs ht => Div1 hs.sn ht.sn k k' (RI.le g) (RI.le g') (RI.set_ok y)) kL) ?_; rintro _ h3 _ hr3; obtain ⟨_, _, _, _, _, _, _, _, _, _, _, _, _, _, _, _, _, rfl, hr3⟩ := hr3.sa
  try simp (maxSteps := 999999) (disch := omega) only [go_sem, Nat.reduceBEq, Nat.reduceAdd]
  exact hr3
end Go.Q
namespace Go.Q
def NS.hasP : NS → Pt → Bool
  | x, .fin q => x.has q
  | .i _ b, .inf true => b.isNone
  | .i a _, .inf false => a.isNone
  | .e, .inf _ => false
def cov (o : NS × Bool × Bool) : Pt → Bool
  | .fin q => o.1.has q
  | .inf true => o.2.2
  | .inf false => o.2.1
theorem has_joined_l {x y : NS} {q : Rat} (h : x.has q = true) : (x.joined y).has q = true := by
  cases x with
  | e => cases h
  | i a b =>
    cases y with
    | e => exact h
    | i c d =>
      show (NS.i (jmin a c) (jmax b d)).has q = true
      rw [NS.has_i] at h ⊢
      refine ⟨fun z e => ?_, fun z e => ?_⟩
      · cases a with
        | none => cases e
        | some a => cases c with
          | none => cases e
          | some c => cases e; have := h.1 _ rfl; grind
      · cases b with
        | none => cases e
        | some b => cases d with
          | none => cases e
          | some d => cases e; have := h.2 _ rfl; grind
theorem has_pt {q : Rat} : (NS.i (some q) (some q)).has q = true := by
  rw [NS.has_i]; exact ⟨fun _ e => by cases e; grind, fun _ e => by cases e; grind⟩
theorem cov_stp {o : NS × Bool × Bool} {z w : Pt} (h : cov o z = true) : cov (stp o w) z = true := by
  obtain ⟨s, l, u⟩ := o
  cases w with
  | fin p => cases z with
    | fin q => exact has_joined_l h
    | inf v => cases v <;> exact h
  | inf p => cases z with
    | fin q => cases p <;> exact h
    | inf v => cases v <;> cases p <;> first | exact h | rfl
theorem cov_new {o : NS × Bool × Bool} {z : Pt} : cov (stp o z) z = true := by
  obtain ⟨s, l, u⟩ := o
  cases z with
  | fin q => show (s.joined _).has q = true; rw [NS.joined_comm]; exact has_joined_l has_pt
  | inf v => cases v <;> rfl
theorem cov_fin3 {o : NS × Bool × Bool} {z : Pt} (h : cov o z = true) : (fin3 o).hasP z = true := by
  obtain ⟨s, l, u⟩ := o
  cases z with
  | inf v => cases v <;> (have h : _ = true := h; simp only [cov] at h; subst h; cases s <;> rfl)
  | fin q =>
    cases s with
    | e => cases h
    | i a b =>
      have k : (NS.i a b).has q = true := h
      show (NS.i _ _).has q = true
      rw [NS.has_i] at k ⊢
      refine ⟨fun z e => ?_, fun z e => ?_⟩
      · cases l with
        | true => cases e
        | false => exact k.1 _ e
      · cases u with
        | true => cases e
        | false => exact k.2 _ e
theorem join_within {x y p : NS} (hx : x.within p = true) (hy : y.within p = true) : (x.joined y).within p = true := by
  cases x with
  | e => cases y <;> exact hy
  | i a b =>
    cases y with
    | e => exact hx
    | i c d =>
      cases p with
      | e => cases hx
      | i l u =>
        have hx : (NS.lowIn l a && NS.highIn u b) = true := hx
        have hy : (NS.lowIn l c && NS.highIn u d) = true := hy
        show (NS.lowIn l (jmin a c) && NS.highIn u (jmax b d)) = true
        simp only [Bool.and_eq_true] at hx hy ⊢
        refine ⟨?_, ?_⟩
        · cases l with
          | none => rfl
          | some l => cases a with
            | none => cases hx.1
            | some a => cases c with
              | none => cases hy.1
              | some c =>
                have h1 : ¬ a < l := by simpa [NS.lowIn] using hx.1
                have h2 : ¬ c < l := by simpa [NS.lowIn] using hy.1
                have h3 : ¬ min a c < l := by grind
                simp [NS.lowIn, jmin, h3]
        · cases u with
          | none => rfl
          | some u => cases b with
            | none => cases hx.2
            | some b => cases d with
              | none => cases hy.2
              | some d =>
                have h1 : ¬ u < b := by simpa [NS.highIn] using hx.2
                have h2 : ¬ u < d := by simpa [NS.highIn] using hy.2
                have h3 : ¬ u < max b d := by grind
                simp [NS.highIn, jmax, h3]
def insd (o : NS × Bool × Bool) (p : NS) : Prop := o.1.within p = true ∧ (o.2.1 = true → p.hasP (.inf false) = true) ∧ (o.2.2 = true → p.hasP (.inf true) = true)
theorem pt_within {p : NS} {q : Rat} (h : p.has q = true) : (NS.i (some q) (some q)).within p = true := by
  cases p with
  | e => cases h
  | i l u =>
    rw [NS.has_i] at h
    show (NS.lowIn l (some q) && NS.highIn u (some q)) = true
    simp only [Bool.and_eq_true]
    refine ⟨?_, ?_⟩
    · cases l with
      | none => rfl
      | some l => have := h.1 _ rfl; have h3 : ¬ q < l := by grind
                  simp [NS.lowIn, h3]
    · cases u with
      | none => rfl
      | some u => have := h.2 _ rfl; have h3 : ¬ u < q := by grind
                  simp [NS.highIn, h3]
theorem insd_stp {o : NS × Bool × Bool} {p : NS} {z : Pt} (h : insd o p) (hz : p.hasP z = true) : insd (stp o z) p := by
  obtain ⟨s, l, u⟩ := o
  cases z with
  | fin q => exact ⟨join_within h.1 (pt_within (by cases p <;> exact hz)), h.2.1, h.2.2⟩
  | inf v => cases v with
    | true => exact ⟨h.1, h.2.1, fun _ => hz⟩
    | false => exact ⟨h.1, fun _ => hz, h.2.2⟩
theorem fin3_within {o : NS × Bool × Bool} {p : NS} (h : insd o p) (he : o.1 = .e → o.2 = (true, true)) : (fin3 o).within p = true := by
  obtain ⟨s, l, u⟩ := o
  cases s with
  | e =>
    have := he rfl
    cases this
    have h1 := h.2.1 rfl
    have h2 := h.2.2 rfl
    cases p with
    | e => cases h1
    | i a b => cases a with
      | some a => cases h1
      | none => cases b with
        | some b => cases h2
        | none => rfl
  | i x y =>
    cases p with
    | e => cases h.1
    | i a b =>
      have h0 : (NS.lowIn a x && NS.highIn b y) = true := h.1
      show (NS.lowIn a (bif l then none else x) && NS.highIn b (bif u then none else y)) = true
      simp only [Bool.and_eq_true] at h0 ⊢
      refine ⟨?_, ?_⟩
      · cases l with
        | false => exact h0.1
        | true => have := h.2.1 rfl; cases a with
          | none => rfl
          | some a => cases this
      · cases u with
        | false => exact h0.2
        | true => have := h.2.2 rfl; cases b with
          | none => rfl
          | some b => cases this
theorem prod_has {a b c d : Option Rat} {x y : Pt} (hx : x = lowP a ∨ x = highP b) (hy : y = lowP c ∨ y = highP d) : ((NS.i a b).prod (.i c d)).hasP (x.mul y) = true := by
  show (fin3 (stp (stp (stp (stp (.e, false, false) ((lowP a).mul (lowP c))) ((lowP a).mul (highP d))) ((highP b).mul (lowP c))) ((highP b).mul (highP d)))).hasP _ = true
  refine cov_fin3 ?_
  rcases hx with rfl | rfl <;> rcases hy with rfl | rfl
  · exact cov_stp (cov_stp (cov_stp cov_new))
  · exact cov_stp (cov_stp cov_new)
  · exact cov_stp cov_new
  · exact cov_new
theorem hasP_conv {p : NS} {q r s : Rat} (h1 : p.has q = true) (h2 : p.has r = true) (h3 : (q ≤ s ∧ s ≤ r) ∨ (r ≤ s ∧ s ≤ q)) : p.has s = true := by
  cases p with
  | e => cases h1
  | i a b =>
    rw [NS.has_i] at *
    refine ⟨fun z e => ?_, fun z e => ?_⟩
    · have := h1.1 z e; have := h2.1 z e; grind
    · have := h1.2 z e; have := h2.2 z e; grind
theorem mul_between {p l u q : Rat} (h1 : l ≤ q) (h2 : q ≤ u) : (p * l ≤ p * q ∧ p * q ≤ p * u) ∨ (p * u ≤ p * q ∧ p * q ≤ p * l) := by
  by_cases hp : 0 ≤ p
  · exact .inl ⟨Rat.mul_le_mul_of_nonneg_left h1 hp, Rat.mul_le_mul_of_nonneg_left h2 hp⟩
  · have hn : 0 ≤ -p := by grind
    have k1 := Rat.mul_le_mul_of_nonneg_left h1 hn
    have k2 := Rat.mul_le_mul_of_nonneg_left h2 hn
    right
    grind
theorem mul_in {p : NS} {e : Pt} {l u q : Rat} (h1 : l ≤ q) (h2 : q ≤ u) (k1 : p.hasP (e.mul (.fin l)) = true) (k2 : p.hasP (e.mul (.fin u)) = true) : p.hasP (e.mul (.fin q)) = true := by
  cases e with
  | fin r =>
    have k1 : p.has (r * l) = true := by cases p <;> exact k1
    have k2 : p.has (r * u) = true := by cases p <;> exact k2
    have := hasP_conv k1 k2 (mul_between (p := r) h1 h2)
    cases p <;> exact this
  | inf up =>
    simp only [Pt.mul] at k1 k2 ⊢
    by_cases hq : q = 0
    · rw [if_pos hq]
      by_cases hl : l = 0
      · rwa [if_pos hl] at k1
      · by_cases hu : u = 0
        · rwa [if_pos hu] at k2
        · rw [if_neg hl, decide_eq_false (by grind)] at k1
          rw [if_neg hu, decide_eq_true (by grind)] at k2
          cases p with
          | e => cases up <;> cases k1
          | i a b =>
            cases up with
            | true =>
              have j1 : a.isNone = true := k1
              have j2 : b.isNone = true := k2
              cases a <;> cases b <;> first | rfl | (cases j1; done) | (cases j2; done)
            | false =>
              have j1 : b.isNone = true := k1
              have j2 : a.isNone = true := k2
              cases a <;> cases b <;> first | rfl | (cases j1; done) | (cases j2; done)
    · rw [if_neg hq]
      by_cases hp : 0 < q
      · have hu : 0 < u := by grind
        rw [if_neg (by grind), decide_eq_true hu] at k2
        rw [decide_eq_true hp]; exact k2
      · have hl : ¬ 0 < l := by grind
        rw [if_neg (by grind), decide_eq_false hl] at k1
        rw [decide_eq_false hp]; exact k1
end Go.Q
namespace Go.Q
open Go.Proofs
open Go.RowKit (Below)
set_option maxRecDepth 100000
set_option maxHeartbeats 4000000
end Go.Q
namespace Go.Q
open Go.Proofs
set_option maxRecDepth 100000
set_option maxHeartbeats 4000000
end Go.Q
namespace Go.Q
open Go.Proofs
set_option maxRecDepth 100000
set_option maxHeartbeats 4000000
def NS.size : NS → NS
  | .e => .e
  | .i a b => if 0 ≤ (NS.i a b).slo then .i a b else if (NS.i a b).shi ≤ 0 then (NS.i a b).minus else .i (some ((0 : Int) : Rat)) (jmax (a.map (-·)) b)
theorem NS.size_i {a b : Option Rat} : (NS.i a b).size = if 0 ≤ (NS.i a b).slo then .i a b else if (NS.i a b).shi ≤ 0 then (NS.i a b).minus else .i (some ((0 : Int) : Rat)) (jmax (a.map (-·)) b) := rfl
theorem NS.le.size {x : NS} {k : Nat} (hk : 1 ≤ k) (h : x.le k) : x.size.le k := by
  cases x with
  | e => exact h
  | i a b =>
    rw [NS.size_i]
    split
    · exact h
    · split
      · exact h.minus
      · rw [NS.le_i] at h ⊢
        refine ⟨fun q e => ?_, fun q e => ?_⟩
        · cases e; exact Nat.le_trans (by decide) hk
        · cases a with
          | none => cases e
          | some a =>
            cases b with
            | none => cases e
            | some b => cases e; exact sz_max (by rw [sz_neg]; exact h.1 _ rfl) (h.2 _ rfl)
theorem NS.ok_size {x : NS} (hx : x.ok) : x.size.ok := by
  cases x with
  | e => exact hx
  | i a b =>
    rw [NS.size_i]
    split
    · exact hx
    · split
      · exact NS.ok_minus hx
      · rename_i h1 h2
        cases a with
        | none => rfl
        | some a =>
          cases b with
          | none => rfl
          | some b =>
            have h3 : 0 < b := by
              have h2 : ¬ sgn3 b ≤ 0 := h2
              unfold sgn3 at h2; grind
            have h4 : ¬ max (-a) b < ((0 : Int) : Rat) := by
              have : ((0 : Int) : Rat) = 0 := rfl
              rw [this]; grind
            show (!decide (max (-a) b < ((0 : Int) : Rat))) = true
            rw [decide_eq_false h4]; rfl
def NS.fin : NS → Bool
  | .e => true
  | .i a b => !a.isNone && !b.isNone
end Go.Q
