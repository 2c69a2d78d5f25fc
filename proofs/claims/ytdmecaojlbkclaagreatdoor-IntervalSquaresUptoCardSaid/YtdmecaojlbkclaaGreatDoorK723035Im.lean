/-
  Contracts of package interval: what Inside answers. Conditions: the values are intervals.
-/
import Derived.Test.YtdmecaojlbkclaaGreatDoorKa67e6aIl
set_option linter.unusedVariables false
set_option linter.unusedSimpArgs false
namespace Go.Q
open Go.Proofs
set_option maxRecDepth 100000
set_option maxHeartbeats 4000000
def insB (s t : PS) : Bool := s.e || ((t.l || (!s.l && !decide (s.lo < t.lo))) && (t.u || (!s.u && !decide (t.hi < s.hi))) && !t.e)
theorem within_ps (s t : PS) : s.n.within t.n = insB s t := by
  obtain ⟨p1, p2, l, u, e⟩ := s
  obtain ⟨q1, q2, l', u', e'⟩ := t
  cases e <;> cases e' <;> cases l <;> cases l' <;> cases u <;> cases u' <;> simp [PS.n, NS.within, NS.lowIn, NS.highIn, insB]
def RI.bo2 (x y : RI) (b : Bool) : Except Int Bool := bif x.big || y.big then .error 1 else .ok b
theorem Inside1 {h0 h : PH} [Le h0 h] {v w : Value} {x y : RI} {b1 b2 : Nat} {cs ds : List Value} (hv : Iv h0 v x) (hw : Iv h0 w y) (hc : v = .agg cs.toArray) (hl : cs.length = 8) (hb1 : h b1 = some cs.toArray) (hc' : w = .agg ds.toArray) (hl' : ds.length = 8) (hb2 : h b2 = some ds.toArray) :
    Bd 114 #[.pointer (some ⟨b1, 0, none⟩), .pointer (some ⟨b2, 0, none⟩)] h (x.bo2 y (x.set.within y.set)) := by
  subst hc
  subst hc'
  unfold RI.bo2
  cases g : x.big with
  | true =>
    simp only [Bool.true_or, cond_true]
    refine Spec.enter (args := [_, _]) (n := 54) Tryz.func114 rfl (by kernel_rfl) rfl (by simp) [.tmp 2] rfl (fun C _ => ?_)
    repeat (first | (refine wo rfl (fun k hk => ?_); simp (disch := omega) only [go_sem, Nat.reduceBEq, Nat.reduceAdd]; apply hk; clear hk k) | refine wkt rfl ?_ | refine wk0 ?_ | refine rg rfl rfl (fun K hK => ?_) | ((first | refine AWP_exit ?_ | refine AWP_skip ?_); simp (disch := decide) only [qs, qb, if_true, if_false, reduceIte]) | refine AWP_sq rfl (fun K hK => ?_) | refine ct rfl ?_ | ((try simp (disch := omega) only [go_sem, Nat.reduceBEq, Nat.reduceAdd]); (first | apply hK | (clear hK; apply hK) | (clear hK; clear hK; apply hK)); clear hK; (try clear K); (try dsimp only [behind, qs, qb])))
    refine wk (fun k hk => ?_); simp (disch := omega) only [go_sem, Nat.reduceBEq, Nat.reduceAdd]; refine ⟨cs, hl, at_row hb1, ?_⟩; apply hk; clear hk k; (repeat (first | (refine wo rfl (fun k hk => ?_); simp (disch := omega) only [go_sem, Nat.reduceBEq, Nat.reduceAdd]; apply hk; clear hk k) | refine wkt rfl ?_)); (try refine wk0 ?_)
    exact cF rfl rfl rfl rfl (by exact Read_fail' hv g) (fun _ _ h => h)
  | false =>
    cases g' : y.big with
    | true =>
      simp only [Bool.or_true, cond_true]
      refine Spec.enter (args := [_, _]) (n := 54) Tryz.func114 rfl (by kernel_rfl) rfl (by simp) [.tmp 2] rfl (fun C _ => ?_)
      repeat (first | (refine wo rfl (fun k hk => ?_); simp (disch := omega) only [go_sem, Nat.reduceBEq, Nat.reduceAdd]; apply hk; clear hk k) | refine wkt rfl ?_ | refine wk0 ?_ | refine rg rfl rfl (fun K hK => ?_) | ((first | refine AWP_exit ?_ | refine AWP_skip ?_); simp (disch := decide) only [qs, qb, if_true, if_false, reduceIte]) | refine AWP_sq rfl (fun K hK => ?_) | refine ct rfl ?_ | ((try simp (disch := omega) only [go_sem, Nat.reduceBEq, Nat.reduceAdd]); (first | apply hK | (clear hK; apply hK) | (clear hK; clear hK; apply hK)); clear hK; (try clear K); (try dsimp only [behind, qs, qb])))
      refine wk (fun k hk => ?_); simp (disch := omega) only [go_sem, Nat.reduceBEq, Nat.reduceAdd]; refine ⟨cs, hl, at_row hb1, ?_⟩; apply hk; clear hk k; (repeat (first | (refine wo rfl (fun k hk => ?_); simp (disch := omega) only [go_sem, Nat.reduceBEq, Nat.reduceAdd]; apply hk; clear hk k) | refine wkt rfl ?_)); (try refine wk0 ?_)
      refine cN rfl rfl rfl rfl (by exact Read_set hv g) ?_; rintro s1 h1 st1 hs1; obtain ⟨_, _, _, _, _, _, _, _, _, _, _, _, _, _, _, _, rfl, hs1⟩ := hs1.sa; (repeat (first | (refine wo rfl (fun k hk => ?_); simp (disch := omega) only [go_sem, Nat.reduceBEq, Nat.reduceAdd]; apply hk; clear hk k) | refine wkt rfl ?_)); (try refine wk0 ?_)
      (try (simp (disch := omega) only [go_sem, Nat.reduceBEq, Nat.reduceAdd])); apply hK; clear hK; (try clear K); (try dsimp only [behind, qs])
      refine rg rfl rfl (fun K hK => ?_); (repeat (first | (refine wo rfl (fun k hk => ?_); simp (disch := omega) only [go_sem, Nat.reduceBEq, Nat.reduceAdd]; apply hk; clear hk k) | refine wkt rfl ?_)); (try refine wk0 ?_)
      refine wk (fun k hk => ?_); simp (disch := omega) only [go_sem, Nat.reduceBEq, Nat.reduceAdd]; refine ⟨ds, hl', at_row (st1.sub _ _ hb2), ?_⟩; apply hk; clear hk k; (repeat (first | (refine wo rfl (fun k hk => ?_); simp (disch := omega) only [go_sem, Nat.reduceBEq, Nat.reduceAdd]; apply hk; clear hk k) | refine wkt rfl ?_)); (try refine wk0 ?_)
      exact cF rfl rfl rfl rfl (by exact Read_fail' hw g') (fun _ _ h => h)
    | false =>
      simp only [Bool.or_false, cond_false]
      obtain ⟨g1, g2⟩ := RI.small g
      obtain ⟨g3, g4⟩ := RI.small g'
      have kA := fun {h} [Le h0 h] => read_ok (h := h) hv g1 g2
      have kB := fun {h} [Le h0 h] => read_ok (h := h) hw g3 g4
      rw [← RI.set_eq x, ← RI.set_eq y, within_ps]
      have z1 : sz (rdS (qof x.n1 x.a1 x.d1) (qof x.n2 x.a2 x.d2) x.l x.u).lo ≤ 2 ^ 30 := by show sz (qof x.n1 x.a1 x.d1) ≤ _; unfold lg at g1; omega
      have z2 : sz (rdS (qof x.n1 x.a1 x.d1) (qof x.n2 x.a2 x.d2) x.l x.u).hi ≤ 2 ^ 30 := by show sz (qof x.n2 x.a2 x.d2) ≤ _; unfold lg at g2; omega
      have z3 : sz (rdS (qof y.n1 y.a1 y.d1) (qof y.n2 y.a2 y.d2) y.l y.u).lo ≤ 2 ^ 30 := by show sz (qof y.n1 y.a1 y.d1) ≤ _; unfold lg at g3; omega
      have z4 : sz (rdS (qof y.n1 y.a1 y.d1) (qof y.n2 y.a2 y.d2) y.l y.u).hi ≤ 2 ^ 30 := by show sz (qof y.n2 y.a2 y.d2) ≤ _; unfold lg at g4; omega
      generalize rdS (qof x.n1 x.a1 x.d1) (qof x.n2 x.a2 x.d2) x.l x.u = s at *
      generalize rdS (qof y.n1 y.a1 y.d1) (qof y.n2 y.a2 y.d2) y.l y.u = t at *
      obtain ⟨p1, p2, l, u, e⟩ := s
      obtain ⟨p1', p2', l', u', e'⟩ := t
      dsimp only at *
      refine Spec.enter (args := [_, _]) (n := 54) Tryz.func114 rfl (by kernel_rfl) rfl (by simp) [.tmp 2] rfl (fun C _ => ?_)
      repeat (first | (refine wo rfl (fun k hk => ?_); simp (disch := omega) only [go_sem, Nat.reduceBEq, Nat.reduceAdd]; apply hk; clear hk k) | refine wkt rfl ?_ | refine wk0 ?_ | refine rg rfl rfl (fun K hK => ?_) | ((first | refine AWP_exit ?_ | refine AWP_skip ?_); simp (disch := decide) only [qs, qb, if_true, if_false, reduceIte]) | refine AWP_sq rfl (fun K hK => ?_) | refine ct rfl ?_ | ((try simp (disch := omega) only [go_sem, Nat.reduceBEq, Nat.reduceAdd]); (first | apply hK | (clear hK; apply hK) | (clear hK; clear hK; apply hK)); clear hK; (try clear K); (try dsimp only [behind, qs, qb])))
      refine wk (fun k hk => ?_); simp (disch := omega) only [go_sem, Nat.reduceBEq, Nat.reduceAdd]; refine ⟨cs, hl, at_row hb1, ?_⟩; apply hk; clear hk k; (repeat (first | (refine wo rfl (fun k hk => ?_); simp (disch := omega) only [go_sem, Nat.reduceBEq, Nat.reduceAdd]; apply hk; clear hk k) | refine wkt rfl ?_)); (try refine wk0 ?_)
      refine cN rfl rfl rfl rfl (by exact kA) ?_; rintro v1 h1 st1 q1; obtain ⟨f1, f2, f3, f4, f5, f6, f7, f8, f9, fa, fb, fc, fd, fe, rfl, s1, s2⟩ := q1.sb; (repeat (first | (refine wo rfl (fun k hk => ?_); simp (disch := omega) only [go_sem, Nat.reduceBEq, Nat.reduceAdd]; apply hk; clear hk k) | refine wkt rfl ?_)); (try refine wk0 ?_)
      (try (simp (disch := omega) only [go_sem, Nat.reduceBEq, Nat.reduceAdd])); apply hK; clear hK; (try clear K); (try dsimp only [behind, qs])
      refine rg rfl rfl (fun K hK => ?_); (repeat (first | (refine wo rfl (fun k hk => ?_); simp (disch := omega) only [go_sem, Nat.reduceBEq, Nat.reduceAdd]; apply hk; clear hk k) | refine wkt rfl ?_)); (try refine wk0 ?_)
      refine wk (fun k hk => ?_); simp (disch := omega) only [go_sem, Nat.reduceBEq, Nat.reduceAdd]; refine ⟨ds, hl', at_row (st1.sub _ _ hb2), ?_⟩; apply hk; clear hk k; (repeat (first | (refine wo rfl (fun k hk => ?_); simp (disch := omega) only [go_sem, Nat.reduceBEq, Nat.reduceAdd]; apply hk; clear hk k) | refine wkt rfl ?_)); (try refine wk0 ?_)
      refine cN rfl rfl rfl rfl (by exact kB) ?_; rintro v2 h2 st2 q2; obtain ⟨k1, k2, k3, k4, k5, k6, k7, k8, k9, ka, kb, kc, kd, ke, rfl, t1, t2⟩ := q2.sb; (repeat (first | (refine wo rfl (fun k hk => ?_); simp (disch := omega) only [go_sem, Nat.reduceBEq, Nat.reduceAdd]; apply hk; clear hk k) | refine wkt rfl ?_)); (try refine wk0 ?_)
      (try (simp (disch := omega) only [go_sem, Nat.reduceBEq, Nat.reduceAdd])); apply hK; clear hK; (try clear K); (try dsimp only [behind, qs])
      replace s1 := s1.to (h' := h2)
      replace s2 := s2.to (h' := h2)
      refine rg rfl rfl (fun K hK => ?_)
      have rest : ∀ (lw : Bool) (h' : PH) (S : AS) [Le h2 h'], (l' || (!l && !decide (p1 < p1'))) = lw → S.le ⟨[(3, .p 0 0), (4, .p 1 0), (5, .v (.bool lw))], [[.bool f1, .slice f2 f3 f4, .slice f5 f6 f7, .bool f8, .slice f9 fa fb, .slice fc fd fe, .bool l, .bool u, .bool e], [.bool k1, .slice k2 k3 k4, .slice k5 k6 k7, .bool k8, .slice k9 ka kb, .slice kc kd ke, .bool l', .bool u', .bool e']]⟩ → K S h' := by
        intro lw h' S _ elw hS
        refine hK _ _ (AWP_le _ hS ?_); clear hK K
        refine rg rfl rfl (fun K hK => ?_)
        have rest : ∀ (hg : Bool) (h'' : PH) (S : AS) [Le h' h''], (u' || (!u && !decide (p2' < p2))) = hg → S.le ⟨[(3, .p 0 0), (4, .p 1 0), (5, .v (.bool lw)), (6, .v (.bool hg))], [[.bool f1, .slice f2 f3 f4, .slice f5 f6 f7, .bool f8, .slice f9 fa fb, .slice fc fd fe, .bool l, .bool u, .bool e], [.bool k1, .slice k2 k3 k4, .slice k5 k6 k7, .bool k8, .slice k9 ka kb, .slice kc kd ke, .bool l', .bool u', .bool e']]⟩ → K S h'' := by
          intro hg h'' S _ ehg hS
          refine hK _ _ (AWP_le _ hS ?_); clear hK K
          have er : insB ⟨p1, p2, l, u, e⟩ ⟨p1', p2', l', u', e'⟩ = (e || (lw && hg && !e')) := by unfold insB; dsimp only; rw [elw, ehg]
          rw [er]
          clear er elw ehg
          cases e with
          | true =>
            repeat (first | (refine wo rfl (fun k hk => ?_); simp (disch := omega) only [go_sem, Nat.reduceBEq, Nat.reduceAdd]; apply hk; clear hk k) | refine wkt rfl ?_ | refine wk0 ?_ | refine rg rfl rfl (fun K hK => ?_) | ((first | refine AWP_exit ?_ | refine AWP_skip ?_); simp (disch := decide) only [qs, qb, if_true, if_false, reduceIte]) | refine AWP_sq rfl (fun K hK => ?_) | refine ct rfl ?_ | ((try simp (disch := omega) only [go_sem, Nat.reduceBEq, Nat.reduceAdd]); (first | apply hK | (clear hK; apply hK) | (clear hK; clear hK; apply hK)); clear hK; (try clear K); (try dsimp only [behind, qs, qb])))
            refine AWP_ret ?_; simp (disch := omega) only [go_sem, Nat.reduceBEq, Nat.reduceAdd]
            all_goals rfl
          | false =>
            cases lw <;> cases hg <;>
            · repeat (first | (refine wo rfl (fun k hk => ?_); simp (disch := omega) only [go_sem, Nat.reduceBEq, Nat.reduceAdd]; apply hk; clear hk k) | refine wkt rfl ?_ | refine wk0 ?_ | refine rg rfl rfl (fun K hK => ?_) | ((first | refine AWP_exit ?_ | refine AWP_skip ?_); simp (disch := decide) only [qs, qb, if_true, if_false, reduceIte]) | refine AWP_sq rfl (fun K hK => ?_) | refine ct rfl ?_ | ((try simp (disch := omega) only [go_sem, Nat.reduceBEq, Nat.reduceAdd]); (first | apply hK | (clear hK; apply hK) | (clear hK; clear hK; apply hK)); clear hK; (try clear K); (try dsimp only [behind, qs, qb])))
              refine AWP_ret ?_; simp (disch := omega) only [go_sem, Nat.reduceBEq, Nat.reduceAdd]
              all_goals first | rfl | simp
        clear hK
        · cases u' with
          | true =>
            (repeat (first | (refine wo rfl (fun k hk => ?_); simp (disch := omega) only [go_sem, Nat.reduceBEq, Nat.reduceAdd]; apply hk; clear hk k) | refine wkt rfl ?_)); (try refine wk0 ?_)
            refine rest true _ _ rfl ?_
            simp (disch := omega) only [go_sem, Nat.reduceBEq, Nat.reduceAdd]
          | false =>
            cases u with
            | true =>
              (repeat (first | (refine wo rfl (fun k hk => ?_); simp (disch := omega) only [go_sem, Nat.reduceBEq, Nat.reduceAdd]; apply hk; clear hk k) | refine wkt rfl ?_)); (try refine wk0 ?_)
              refine rest false _ _ rfl ?_
              simp (disch := omega) only [go_sem, Nat.reduceBEq, Nat.reduceAdd]
            | false =>
              by_cases hc : p2' < p2
              · have c1 : ¬ (cmpQ p2 p2' ≤ 0) := by unfold cmpQ; grind
                (repeat (first | (refine wo rfl (fun k hk => ?_); simp (disch := omega) only [go_sem, Nat.reduceBEq, Nat.reduceAdd]; apply hk; clear hk k) | refine wkt rfl ?_)); (try refine wk0 ?_)
                refine cN rfl rfl rfl rfl (by exact Cmp_frac (s2.to (h' := h')) (t2.to (h' := h')) (up36 z2) (up36 z4)) ?_; rintro vc hh sc rfl; (repeat (first | (refine wo rfl (fun k hk => ?_); simp (disch := omega) only [go_sem, Nat.reduceBEq, Nat.reduceAdd]; apply hk; clear hk k) | refine wkt rfl ?_)); (try refine wk0 ?_)
                refine rest false _ _ (by simp [hc]) ?_
                simp (disch := omega) only [go_sem, Nat.reduceBEq, Nat.reduceAdd]
              · have c1 : (cmpQ p2 p2' ≤ 0) := by unfold cmpQ; grind
                (repeat (first | (refine wo rfl (fun k hk => ?_); simp (disch := omega) only [go_sem, Nat.reduceBEq, Nat.reduceAdd]; apply hk; clear hk k) | refine wkt rfl ?_)); (try refine wk0 ?_)
                refine cN rfl rfl rfl rfl (by exact Cmp_frac (s2.to (h' := h')) (t2.to (h' := h')) (up36 z2) (up36 z4)) ?_; rintro vc hh sc rfl; (repeat (first | (refine wo rfl (fun k hk => ?_); simp (disch := omega) only [go_sem, Nat.reduceBEq, Nat.reduceAdd]; apply hk; clear hk k) | refine wkt rfl ?_)); (try refine wk0 ?_)
                refine rest true _ _ (by simp [hc]) ?_
                simp (disch := omega) only [go_sem, Nat.reduceBEq, Nat.reduceAdd]
      clear hK
      · cases l' with
        | true =>
          (repeat (first | (refine wo rfl (fun k hk => ?_); simp (disch := omega) only [go_sem, Nat.reduceBEq, Nat.reduceAdd]; apply hk; clear hk k) | refine wkt rfl ?_)); (try refine wk0 ?_)
          refine rest true _ _ rfl ?_
          simp (disch := omega) only [go_sem, Nat.reduceBEq, Nat.reduceAdd]
        | false =>
          cases l with
          | true =>
            (repeat (first | (refine wo rfl (fun k hk => ?_); simp (disch := omega) only [go_sem, Nat.reduceBEq, Nat.reduceAdd]; apply hk; clear hk k) | refine wkt rfl ?_)); (try refine wk0 ?_)
            refine rest false _ _ rfl ?_
            simp (disch := omega) only [go_sem, Nat.reduceBEq, Nat.reduceAdd]
          | false =>
            by_cases hc : p1 < p1'
            · have c1 : ¬ (0 ≤ cmpQ p1 p1') := by unfold cmpQ; grind
              (repeat (first | (refine wo rfl (fun k hk => ?_); simp (disch := omega) only [go_sem, Nat.reduceBEq, Nat.reduceAdd]; apply hk; clear hk k) | refine wkt rfl ?_)); (try refine wk0 ?_)
              refine cN rfl rfl rfl rfl (by exact Cmp_frac s1 t1 (up36 z1) (up36 z3)) ?_; rintro vc hh sc rfl; (repeat (first | (refine wo rfl (fun k hk => ?_); simp (disch := omega) only [go_sem, Nat.reduceBEq, Nat.reduceAdd]; apply hk; clear hk k) | refine wkt rfl ?_)); (try refine wk0 ?_)
              refine rest false _ _ (by simp [hc]) ?_
              simp (disch := omega) only [go_sem, Nat.reduceBEq, Nat.reduceAdd]
            · have c1 : (0 ≤ cmpQ p1 p1') := by unfold cmpQ; grind
              (repeat (first | (refine wo rfl (fun k hk => ?_); simp (disch := omega) only [go_sem, Nat.reduceBEq, Nat.reduceAdd]; apply hk; clear hk k) | refine wkt rfl ?_)); (try refine wk0 ?_)
              refine cN rfl rfl rfl rfl (by exact Cmp_frac s1 t1 (up36 z1) (up36 z3)) ?_; rintro vc hh sc rfl; (repeat (first | (refine wo rfl (fun k hk => ?_); simp (disch := omega) only [go_sem, Nat.reduceBEq, Nat.reduceAdd]; apply hk; clear hk k) | refine wkt rfl ?_)); (try refine wk0 ?_)
              refine rest true _ _ (by simp [hc]) ?_
              simp (disch := omega) only [go_sem, Nat.reduceBEq, Nat.reduceAdd]
theorem InsideI_spec {h0 h : PH} [Le h0 h] {v w : Value} {x y : RI} (hv : Iv h0 v x) (hw : Iv h0 w y) : Spec mach 61 #[v, w] h (fun r _ => Br r (x.bo2 y (x.set.within y.set))) NP := by
  have hv0 := hv
  have hw0 := hw
  obtain ⟨a1, m1, c1, a2, m2, c2, a3, m3, c3, a4, m4, c4, rfl, _, _⟩ := hv.sa
  obtain ⟨a1', m1', c1', a2', m2', c2', a3', m3', c3', a4', m4', c4', rfl, _, _⟩ := hw.sa
  refine Spec.enter (args := [_, _]) (n := 10) Tryz.func61 rfl (by kernel_rfl) rfl (by simp) [.tmp 4, .tmp 5] rfl (fun C _ => ?_)
  repeat (first | (refine rg rfl rfl (fun K hK => ?_); (repeat (first | (refine wo rfl (fun k hk => ?_); simp (disch := omega) only [go_sem, Nat.reduceBEq, Nat.reduceAdd]; apply hk; clear hk k) | refine wkt rfl ?_)); (try refine wk0 ?_); apply hK; clear hK K; (try dsimp only [behind, qs, qb])) | ((first | refine AWP_exit ?_ | refine AWP_skip ?_); simp (disch := decide) only [qs, qb, if_true, if_false, reduceIte]) | refine AWP_sq rfl (fun K hK => ?_) | refine ct rfl ?_ | ((first | apply hK | (clear hK; apply hK) | (clear hK; clear hK; apply hK)); clear hK; (try clear K)))
  refine AWP_rsp [.p 0, .p 1, .o 0, .o 1, .o 2, .o 3, .o 4, .o 5] rfl rfl (fun K hK => ?_); (repeat (first | (refine wo rfl (fun k hk => ?_); simp (disch := omega) only [go_sem, Nat.reduceBEq, Nat.reduceAdd]; apply hk; clear hk k) | refine wkt rfl ?_)); (try refine wk0 ?_)
  refine wkp ?_; simp (disch := omega) only [go_sem, Nat.reduceBEq, Nat.reduceAdd]; intro b1 h1 st1 hb1; (repeat (first | (refine wo rfl (fun k hk => ?_); simp (disch := omega) only [go_sem, Nat.reduceBEq, Nat.reduceAdd]; apply hk; clear hk k) | refine wkt rfl ?_)); (try refine wk0 ?_)
  refine wkp ?_; simp (disch := omega) only [go_sem, Nat.reduceBEq, Nat.reduceAdd]; intro b2 h2 st2 hb2; (repeat (first | (refine wo rfl (fun k hk => ?_); simp (disch := omega) only [go_sem, Nat.reduceBEq, Nat.reduceAdd]; apply hk; clear hk k) | refine wkt rfl ?_)); (try refine wk0 ?_)
  have hb2 := hb2 (by simp)
  have hb1 := st2.sub _ _ (hb1 (by simp))
  refine cN rfl rfl rfl rfl (by exact tryB_any (Inside1 (hv0.to (h' := h2)) (hw0.to (h' := h2)) rfl rfl hb1 rfl rfl hb2)) ?_; rintro r3 h3 st3 hr3; obtain ⟨_, _, rfl, hr3⟩ := hr3.sa; (repeat (first | (refine wo rfl (fun k hk => ?_); simp (disch := omega) only [go_sem, Nat.reduceBEq, Nat.reduceAdd]; apply hk; clear hk k) | refine wkt rfl ?_)); (try refine wk0 ?_)
  (try (simp (disch := omega) only [go_sem, Nat.reduceBEq, Nat.reduceAdd])); apply hK; clear hK; (try clear K); (try dsimp only [behind, qs])
  refine AWP_ret ?_; simp (disch := omega) only [go_sem, Nat.reduceBEq, Nat.reduceAdd]
  exact hr3
theorem inside_law {h0 h : PH} [Le h0 h] {v w : Value} {x y : RI} (hv : Iv h0 v x) (hw : Iv h0 w y) (g : x.big = false) (g' : y.big = false) : Spec mach 18 #[v, w] h (fun r _ => r = .bool (x.set.within y.set)) NP := by
  have kH := fun {h} [Le h0 h] => InsideI_spec (h := h) hv hw
  obtain ⟨a1, m1, c1, a2, m2, c2, a3, m3, c3, a4, m4, c4, rfl, _, _⟩ := hv.sa
  obtain ⟨a1', m1', c1', a2', m2', c2', a3', m3', c3', a4', m4', c4', rfl, _, _⟩ := hw.sa
  unfold RI.bo2 at kH
  rw [g, g'] at kH
  simp only [Bool.or_false, cond_false] at kH
  generalize x.set.within y.set = hb at kH ⊢
  cases hb with
  | true =>
    refine Spec.enter (args := [_, _]) (n := 18) Tryz.func18 rfl (by kernel_rfl) rfl (by simp) [.tmp 4] rfl (fun C _ => ?_)
    repeat (first | (refine wo rfl (fun k hk => ?_); simp (disch := omega) only [go_sem, Nat.reduceBEq, Nat.reduceAdd]; apply hk; clear hk k) | refine wkt rfl ?_ | refine wk0 ?_ | refine rg rfl rfl (fun K hK => ?_) | ((first | refine AWP_exit ?_ | refine AWP_skip ?_); simp (disch := decide) only [qs, qb, if_true, if_false, reduceIte]) | refine AWP_sq rfl (fun K hK => ?_) | refine ct rfl ?_ | ((try simp (disch := omega) only [go_sem, Nat.reduceBEq, Nat.reduceAdd]); (first | apply hK | (clear hK; apply hK) | (clear hK; clear hK; apply hK)); clear hK; (try clear K); (try dsimp only [behind, qs, qb])))
    refine cN rfl rfl rfl rfl (by exact kH) ?_; rintro v1 h1 s1 q1; obtain rfl : v1 = .tuple #[.bool true, .int .i64 0] := q1
    repeat (first | (refine wo rfl (fun k hk => ?_); simp (disch := omega) only [go_sem, Nat.reduceBEq, Nat.reduceAdd]; apply hk; clear hk k) | refine wkt rfl ?_ | refine wk0 ?_ | refine rg rfl rfl (fun K hK => ?_) | ((first | refine AWP_exit ?_ | refine AWP_skip ?_); simp (disch := decide) only [qs, qb, if_true, if_false, reduceIte]) | refine AWP_sq rfl (fun K hK => ?_) | refine ct rfl ?_ | ((try simp (disch := omega) only [go_sem, Nat.reduceBEq, Nat.reduceAdd]); (first | apply hK | (clear hK; apply hK) | (clear hK; clear hK; apply hK)); clear hK; (try clear K); (try dsimp only [behind, qs, qb])))
    refine AWP_ret ?_; simp (disch := omega) only [go_sem, Nat.reduceBEq, Nat.reduceAdd]
    all_goals rfl
  | false =>
    refine Spec.enter (args := [_, _]) (n := 18) Tryz.func18 rfl (by kernel_rfl) rfl (by simp) [.tmp 4] rfl (fun C _ => ?_)
    repeat (first | (refine wo rfl (fun k hk => ?_); simp (disch := omega) only [go_sem, Nat.reduceBEq, Nat.reduceAdd]; apply hk; clear hk k) | refine wkt rfl ?_ | refine wk0 ?_ | refine rg rfl rfl (fun K hK => ?_) | ((first | refine AWP_exit ?_ | refine AWP_skip ?_); simp (disch := decide) only [qs, qb, if_true, if_false, reduceIte]) | refine AWP_sq rfl (fun K hK => ?_) | refine ct rfl ?_ | ((try simp (disch := omega) only [go_sem, Nat.reduceBEq, Nat.reduceAdd]); (first | apply hK | (clear hK; apply hK) | (clear hK; clear hK; apply hK)); clear hK; (try clear K); (try dsimp only [behind, qs, qb])))
    refine cN rfl rfl rfl rfl (by exact kH) ?_; rintro v1 h1 s1 q1; obtain rfl : v1 = .tuple #[.bool false, .int .i64 0] := q1
    repeat (first | (refine wo rfl (fun k hk => ?_); simp (disch := omega) only [go_sem, Nat.reduceBEq, Nat.reduceAdd]; apply hk; clear hk k) | refine wkt rfl ?_ | refine wk0 ?_ | refine rg rfl rfl (fun K hK => ?_) | ((first | refine AWP_exit ?_ | refine AWP_skip ?_); simp (disch := decide) only [qs, qb, if_true, if_false, reduceIte]) | refine AWP_sq rfl (fun K hK => ?_) | refine ct rfl ?_ | ((try simp (disch := omega) only [go_sem, Nat.reduceBEq, Nat.reduceAdd]); (first | apply hK | (clear hK; apply hK) | (clear hK; clear hK; apply hK)); clear hK; (try clear K); (try dsimp only [behind, qs, qb])))
    refine AWP_ret ?_; simp (disch := omega) only [go_sem, Nat.reduceBEq, Nat.reduceAdd]
    all_goals rfl
end Go.Q
