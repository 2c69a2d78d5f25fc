/-
  The statements' own comparisons: canonical intervals, equal intervals, results as they are asked for. Conditions: the values are canonical intervals (Cv) of sets in order.
  Contracts of package interval's exported functions: sums and differences. Conditions: the values are intervals (Iv).
  The statements' sanity check; what Round returns. Conditions: the argument is an interval.
  Outcomes of operations on intervals: what is given back, opened. Conditions: none.
  The same of another type of result: truth values. Conditions: the closure's contract. (Printed by a program out of the text for intervals.)
-/
import Derived.Test.YthagpdbpgdfojaaGreatDoorK29c42dPkM
import Derived.Test.YthagpdbpgdfojaaGreatDoorKa632bePkC
import Derived.Test.YthagpdbpgdfojaaGreatDoorKdff4d5PkD
set_option linter.unusedVariables false
set_option linter.unusedSimpArgs false
namespace Go.Q
open Go.Proofs
set_option maxRecDepth 100000
set_option maxHeartbeats 4000000
namespace NS
def clo : NS → Rat
  | .e => 1
  | .i a _ => a.getD 0
def chi : NS → Rat
  | .e => 0
  | .i _ b => b.getD 0
theorem le_c {k : Nat} {x : NS} (hk : 1 ≤ k) (h : x.le k) : sz x.clo ≤ k ∧ sz x.chi ≤ k := by
  have h0 : sz 0 ≤ k := Nat.le_trans sz_zero hk
  have h1 : sz 1 ≤ k := Nat.le_trans (by decide) hk
  cases x with
  | e => exact ⟨h1, h0⟩
  | i a b =>
    rw [le_i] at h
    refine ⟨?_, ?_⟩
    · cases a with
      | none => exact h0
      | some a => exact h.1 _ rfl
    · cases b with
      | none => exact h0
      | some b => exact h.2 _ rfl
end NS
theorem Cv.fl {h : PH} {v : Value} {x : NS} (r : Cv h v x) : ∃ b1 a1 m1 c1 a2 m2 c2 b2 a3 m3 c3 a4 m4 c4, v = .agg #[.bool b1, .slice a1 m1 c1, .slice a2 m2 c2, .bool b2, .slice a3 m3 c3, .slice a4 m4 c4, .bool x.loN, .bool x.hiN] ∧
    Cn h (.agg #[.bool b1, .slice a1 m1 c1, .slice a2 m2 c2]) x.clo ∧ Cn h (.agg #[.bool b2, .slice a3 m3 c3, .slice a4 m4 c4]) x.chi := by
  have r0 := r
  obtain ⟨b1, x1, y1, b2, x2, y2, rfl, h1, h2⟩ := r
  obtain ⟨_, _, _, _, _, _, _, e1, _⟩ := h1.sa
  obtain ⟨_, _, _, _, _, _, _, e2, _⟩ := h2.sa
  simp only [Value.agg.injEq, Array.mk.injEq, List.cons.injEq, and_true] at e1 e2
  obtain ⟨_, rfl, rfl⟩ := e1
  obtain ⟨_, rfl, rfl⟩ := e2
  cases x with
  | e => exact ⟨_, _, _, _, _, _, _, _, _, _, _, _, _, _, rfl, h1, h2⟩
  | i a b => exact ⟨_, _, _, _, _, _, _, _, _, _, _, _, _, _, rfl, h1, h2⟩
def NS.ri (x : NS) : RI := ⟨decide (x.clo.num < 0), x.clo.num.natAbs, if x.clo.den = 1 then 0 else x.clo.den, decide (x.chi.num < 0), x.chi.num.natAbs, if x.chi.den = 1 then 0 else x.chi.den, x.loN, x.hiN⟩
theorem Cv.iv {h : PH} {v : Value} {x : NS} (r : Cv h v x) (hf : x.le 2048) : Iv h v x.ri := by
  obtain ⟨b1, a1, m1, c1, a2, m2, c2, b2, a3, m3, c3, a4, m4, c4, rfl, h1, h2⟩ := r.fl
  have hs := NS.le_c (by decide) hf
  exact Iv.mk (h1.rw (Nat.le_trans hs.1 (by decide))) (h2.rw (Nat.le_trans hs.2 (by decide))) _ _
theorem NS.ri_big {x : NS} (hf : x.le 2048) : x.ri.big = false := by
  have hs := NS.le_c (by decide) hf
  unfold RI.big NS.ri
  dsimp only
  have h1 : ¬ lg (decide (x.clo.num < 0)) x.clo.num.natAbs (if x.clo.den = 1 then 0 else x.clo.den) := by rw [lg_cn]; omega
  have h2 : ¬ lg (decide (x.chi.num < 0)) x.chi.num.natAbs (if x.chi.den = 1 then 0 else x.chi.den) := by rw [lg_cn]; omega
  simp only [h1, h2, decide_false, Bool.or_self]
theorem NS.ri_set {x : NS} (hx : x.ok) : x.ri.set = x := by
  unfold RI.set RI.lo RI.hi NS.ri
  dsimp only
  rw [qof_cn, qof_cn]
  cases x with
  | e => simp [NS.loN, NS.hiN, NS.clo, NS.chi, NS.mk', ordO, show decide ((0 : Rat) < 1) = true by decide]
  | i a b => cases a <;> cases b <;> simp [NS.loN, NS.hiN, NS.clo, NS.chi, NS.mk'] <;> simp [NS.ok] at hx <;> simp [hx] <;> rfl
theorem None01 {h : PH} : Spec mach 80 #[zRat] h (fun r _ => r = .bool true) NP := by
  unfold zRat
  refine Spec.enter (args := [_]) (n := 18) Tryz.func80 rfl (by kernel_rfl) rfl (by simp) [.tmp 2] rfl (fun C _ => ?_)
  repeat (first | (refine wo rfl (fun k hk => ?_); simp (disch := omega) only [go_sem, Nat.reduceBEq, Nat.reduceAdd]; refine hk _ _ ?_; clear hk k) | refine wkt rfl ?_ | refine wk0 ?_ | refine rg rfl rfl (fun K hK => ?_) | ((first | refine AWP_exit ?_ | refine AWP_skip ?_); simp (disch := decide) only [qs, qb, if_true, if_false, reduceIte]) | refine AWP_sq rfl (fun K hK => ?_) | refine ct rfl ?_ | ((try simp (disch := omega) only [go_sem, Nat.reduceBEq, Nat.reduceAdd]); (first | apply hK | (clear hK; apply hK) | (clear hK; clear hK; apply hK)); clear hK; (try clear K); (try dsimp only [behind, qs, qb])))
  refine AWP_ret ?_; simp (disch := omega) only [go_sem, Nat.reduceBEq, Nat.reduceAdd]
theorem None03 {h : PH} : Spec mach 30 #[zIv] h (fun r _ => r = .bool true) NP := by
  unfold zIv
  refine Spec.enter (args := [_]) (n := 21) Tryz.func30 rfl (by kernel_rfl) rfl (by simp) [.tmp 2] rfl (fun C _ => ?_)
  repeat (first | (refine wo rfl (fun k hk => ?_); simp (disch := omega) only [go_sem, Nat.reduceBEq, Nat.reduceAdd]; refine hk _ _ ?_; clear hk k) | refine wkt rfl ?_ | refine wk0 ?_ | refine rg rfl rfl (fun K hK => ?_) | ((first | refine AWP_exit ?_ | refine AWP_skip ?_); simp (disch := decide) only [qs, qb, if_true, if_false, reduceIte]) | refine AWP_sq rfl (fun K hK => ?_) | refine ct rfl ?_ | ((try simp (disch := omega) only [go_sem, Nat.reduceBEq, Nat.reduceAdd]); (first | apply hK | (clear hK; apply hK) | (clear hK; clear hK; apply hK)); clear hK; (try clear K); (try dsimp only [behind, qs, qb])))
  refine cN rfl rfl rfl rfl (by exact None01) ?_; rintro v1 h1 s1 rfl; (repeat (first | (refine wo rfl (fun k hk => ?_); simp (disch := omega) only [go_sem, Nat.reduceBEq, Nat.reduceAdd]; refine hk _ _ ?_; clear hk k) | refine wkt rfl ?_)); (try refine wk0 ?_)
  refine cN rfl rfl rfl rfl (by exact None01) ?_; rintro v2 h2 s2 rfl; (repeat (first | (refine wo rfl (fun k hk => ?_); simp (disch := omega) only [go_sem, Nat.reduceBEq, Nat.reduceAdd]; refine hk _ _ ?_; clear hk k) | refine wkt rfl ?_)); (try refine wk0 ?_)
  (try (simp (disch := omega) only [go_sem, Nat.reduceBEq, Nat.reduceAdd])); refine hK _ _ ?_; clear hK; (try clear K); (try dsimp only [behind, qs])
  refine AWP_ret ?_; simp (disch := omega) only [go_sem, Nat.reduceBEq, Nat.reduceAdd]
theorem RefCanonical {h0 h : PH} [Le h0 h] {v : Value} {x : NS} (hv : Cv h0 v x) (hx : x.ok) (hf : x.le 2048) : Spec mach 31 #[v] h (fun r _ => r = .bool true) NP := by
  have hi := hv.iv hf
  have hg := NS.ri_big hf
  have hset := NS.ri_set hx
  have hs := NS.le_c (by decide) hf
  obtain ⟨b1, a1, m1, c1, a2, m2, c2, b2, a3, m3, c3, a4, m4, c4, rfl, t1, t2⟩ := hv.fl
  have w1 := t1.rw (Nat.le_trans hs.1 (by decide))
  have w2 := t2.rw (Nat.le_trans hs.2 (by decide))
  obtain ⟨l, el⟩ : ∃ l, x.loN = l := ⟨_, rfl⟩
  obtain ⟨u, eu⟩ : ∃ u, x.hiN = u := ⟨_, rfl⟩
  have kO := fun {h} [Le h0 h] => RefOf (h := h) hi hg
  rw [hset] at kO
  rw [el, eu] at kO ⊢
  have key : ∀ h' [Le h0 h'] v', Cv h' v' x → ∃ b1 a1 m1 c1 a2 m2 c2 b2 a3 m3 c3 a4 m4 c4, v' = .agg #[.bool b1, .slice a1 m1 c1, .slice a2 m2 c2, .bool b2, .slice a3 m3 c3, .slice a4 m4 c4, .bool l, .bool u] ∧ Cn h' (.agg #[.bool b1, .slice a1 m1 c1, .slice a2 m2 c2]) x.clo ∧ Cn h' (.agg #[.bool b2, .slice a3 m3 c3, .slice a4 m4 c4]) x.chi := by
    intro h' _ v' r
    rw [← el, ← eu]; exact r.fl
  have z1 : sz x.clo ≤ 2 ^ 30 := Nat.le_trans hs.1 (by decide)
  have z2 : sz x.chi ≤ 2 ^ 30 := Nat.le_trans hs.2 (by decide)
  have z3 : sz (qof (decide (x.clo.num < 0)) x.clo.num.natAbs (if x.clo.den = 1 then 0 else x.clo.den)) ≤ 2 ^ 34 := by rw [qof_cn]; omega
  have z4 : sz (qof (decide (x.chi.num < 0)) x.chi.num.natAbs (if x.chi.den = 1 then 0 else x.chi.den)) ≤ 2 ^ 34 := by rw [qof_cn]; omega
  cases l <;> cases u <;>
  · refine Spec.enter (args := [_]) (n := 43) Tryz.func31 rfl (by kernel_rfl) rfl (by simp) [.tmp 2] rfl (fun C _ => ?_)
    repeat (first | (refine wo rfl (fun k hk => ?_); simp (disch := omega) only [go_sem, Nat.reduceBEq, Nat.reduceAdd]; refine hk _ _ ?_; clear hk k) | refine wkt rfl ?_ | refine wk0 ?_ | refine rg rfl rfl (fun K hK => ?_) | ((first | refine AWP_exit ?_ | refine AWP_skip ?_); simp (disch := decide) only [qs, qb, if_true, if_false, reduceIte]) | refine AWP_sq rfl (fun K hK => ?_) | refine ct rfl ?_ | ((try simp (disch := omega) only [go_sem, Nat.reduceBEq, Nat.reduceAdd]); (first | apply hK | (clear hK; apply hK) | (clear hK; clear hK; apply hK)); clear hK; (try clear K); (try dsimp only [behind, qs, qb])))
    refine cN rfl rfl rfl rfl (by exact Canonical_cn t1 z1) ?_; rintro v1 h1 s1 rfl; (repeat (first | (refine wo rfl (fun k hk => ?_); simp (disch := omega) only [go_sem, Nat.reduceBEq, Nat.reduceAdd]; refine hk _ _ ?_; clear hk k) | refine wkt rfl ?_)); (try refine wk0 ?_)
    refine cN rfl rfl rfl rfl (by exact Canonical_cn t2 z2) ?_; rintro v2 h2 s2 rfl
    repeat (first | (refine wo rfl (fun k hk => ?_); simp (disch := omega) only [go_sem, Nat.reduceBEq, Nat.reduceAdd]; refine hk _ _ ?_; clear hk k) | refine wkt rfl ?_ | refine wk0 ?_ | refine rg rfl rfl (fun K hK => ?_) | ((first | refine AWP_exit ?_ | refine AWP_skip ?_); simp (disch := decide) only [qs, qb, if_true, if_false, reduceIte]) | refine AWP_sq rfl (fun K hK => ?_) | refine ct rfl ?_ | ((try simp (disch := omega) only [go_sem, Nat.reduceBEq, Nat.reduceAdd]); (first | apply hK | (clear hK; apply hK) | (clear hK; clear hK; apply hK)); clear hK; (try clear K); (try dsimp only [behind, qs, qb])))
    refine cN rfl rfl rfl rfl (by exact kO) ?_; rintro v3 h3 s3 q3; (repeat (first | (refine wo rfl (fun k hk => ?_); simp (disch := omega) only [go_sem, Nat.reduceBEq, Nat.reduceAdd]; refine hk _ _ ?_; clear hk k) | refine wkt rfl ?_)); (try refine wk0 ?_)
    refine cN rfl rfl rfl rfl (by exact RefApi q3 (hf.up (by decide))) ?_; rintro v4 h4 s4 q4; obtain ⟨_, _, _, _, _, _, _, _, _, _, _, _, _, _, rfl, q5, q6⟩ := key _ _ q4; (repeat (first | (refine wo rfl (fun k hk => ?_); simp (disch := omega) only [go_sem, Nat.reduceBEq, Nat.reduceAdd]; refine hk _ _ ?_; clear hk k) | refine wkt rfl ?_)); (try refine wk0 ?_)
    (try (simp (disch := omega) only [go_sem, Nat.reduceBEq, Nat.reduceAdd])); refine hK _ _ ?_; clear hK; (try clear K); (try dsimp only [behind, qs])
    refine rg rfl rfl (fun K hK => ?_); (repeat (first | (refine wo rfl (fun k hk => ?_); simp (disch := omega) only [go_sem, Nat.reduceBEq, Nat.reduceAdd]; refine hk _ _ ?_; clear hk k) | refine wkt rfl ?_)); (try refine wk0 ?_)
    refine cN rfl rfl rfl rfl (by exact Same_spec (q5.rw z1) (w1.to (h' := h4)) z3 z3) ?_; rintro v5 h5 s5 q7; simp only [decide_true] at q7; subst q7; (repeat (first | (refine wo rfl (fun k hk => ?_); simp (disch := omega) only [go_sem, Nat.reduceBEq, Nat.reduceAdd]; refine hk _ _ ?_; clear hk k) | refine wkt rfl ?_)); (try refine wk0 ?_)
    refine cN rfl rfl rfl rfl (by exact Same_spec ((q6.rw z2).to (h' := h5)) (w2.to (h' := h5)) z4 z4) ?_; rintro v6 h6 s6 q8; simp only [decide_true] at q8; subst q8; (repeat (first | (refine wo rfl (fun k hk => ?_); simp (disch := omega) only [go_sem, Nat.reduceBEq, Nat.reduceAdd]; refine hk _ _ ?_; clear hk k) | refine wkt rfl ?_)); (try refine wk0 ?_)
    (try (simp (disch := omega) only [go_sem, Nat.reduceBEq, Nat.reduceAdd])); refine hK _ _ ?_; clear hK; (try clear K); (try dsimp only [behind, qs])
    refine AWP_ret ?_; simp (disch := omega) only [go_sem, Nat.reduceBEq, Nat.reduceAdd]
theorem cmpQ_self (q : Rat) : cmpQ q q = 0 := by unfold cmpQ; grind
theorem RefSame {h0 h : PH} [Le h0 h] {v w : Value} {x : NS} (hv : Cv h0 v x) (hw : Cv h0 w x) (hx : x.ok) (hf : x.le 2048) : Spec mach 32 #[v, w] h (fun r _ => r = .bool true) NP := by
  have hi := hv.iv hf
  have hj := hw.iv hf
  have hg := NS.ri_big hf
  have hset := NS.ri_set hx
  have hz := (NS.le_ends (by decide)).1 hf
  obtain ⟨_, _, _, _, _, _, _, _, _, _, _, _, _, _, rfl, _, _⟩ := hv.fl
  obtain ⟨_, _, _, _, _, _, _, _, _, _, _, _, _, _, rfl, _, _⟩ := hw.fl
  have kA := fun {h} [Le h0 h] => RefOf (h := h) hi hg
  have kB := fun {h} [Le h0 h] => RefOf (h := h) hj hg
  rw [hset] at kA kB
  clear hi hj hv hw
  refine Spec.enter (args := [_, _]) (n := 51) Tryz.func32 rfl (by kernel_rfl) rfl (by simp) [.tmp 4] rfl (fun C _ => ?_)
  repeat (first | (refine rg rfl rfl (fun K hK => ?_); (repeat (first | (refine wo rfl (fun k hk => ?_); simp (disch := omega) only [go_sem, Nat.reduceBEq, Nat.reduceAdd]; refine hk _ _ ?_; clear hk k) | refine wkt rfl ?_)); (try refine wk0 ?_); refine hK _ _ ?_; clear hK K; (try dsimp only [behind, qs, qb])) | ((first | refine AWP_exit ?_ | refine AWP_skip ?_); simp (disch := decide) only [qs, qb, if_true, if_false, reduceIte]) | refine AWP_sq rfl (fun K hK => ?_) | refine ct rfl ?_ | ((first | refine hK _ _ ?_ | (clear hK; refine hK _ _ ?_) | (clear hK; clear hK; refine hK _ _ ?_)); clear hK; (try clear K)))
  (first | refine AWP_t (.seg [.o 0, .o 2] (.alt 1 (.alt 3 (.alt 4 (.alt 5 (.alt 6 (.alt 7 .done .no) .no) .no) (.alt 5 (.alt 4 (.alt 6 (.alt 7 .done .no) .no) .no) .no)) (.alt 4 (.alt 3 (.alt 5 (.alt 6 (.alt 7 .done .no) .no) .no) (.alt 5 (.alt 3 (.alt 6 (.alt 7 .done .no) .no) .no) .no)) (.alt 5 (.alt 3 (.alt 4 (.alt 6 (.alt 7 .done .no) .no) .no) (.alt 4 (.alt 3 (.alt 6 (.alt 7 .done .no) .no) .no) .no)) .no))) (.alt 4 (.alt 1 (.alt 3 (.alt 5 (.alt 6 (.alt 7 .done .no) .no) .no) (.alt 5 (.alt 3 (.alt 6 (.alt 7 .done .no) .no) .no) .no)) (.alt 5 (.alt 1 (.alt 3 (.alt 6 (.alt 7 .done .no) .no) .no) .no) .no)) (.alt 5 (.alt 1 (.alt 3 (.alt 4 (.alt 6 (.alt 7 .done .no) .no) .no) (.alt 4 (.alt 3 (.alt 6 (.alt 7 .done .no) .no) .no) .no)) (.alt 4 (.alt 1 (.alt 3 (.alt 6 (.alt 7 .done .no) .no) .no) .no) .no)) .no)))) (by decide +kernel) rfl (fun K hK => ?_) | refine AWP_tk (.seg [.o 0, .o 2] (.alt 1 (.alt 3 (.alt 4 (.alt 5 (.alt 6 (.alt 7 .done .no) .no) .no) (.alt 5 (.alt 4 (.alt 6 (.alt 7 .done .no) .no) .no) .no)) (.alt 4 (.alt 3 (.alt 5 (.alt 6 (.alt 7 .done .no) .no) .no) (.alt 5 (.alt 3 (.alt 6 (.alt 7 .done .no) .no) .no) .no)) (.alt 5 (.alt 3 (.alt 4 (.alt 6 (.alt 7 .done .no) .no) .no) (.alt 4 (.alt 3 (.alt 6 (.alt 7 .done .no) .no) .no) .no)) .no))) (.alt 4 (.alt 1 (.alt 3 (.alt 5 (.alt 6 (.alt 7 .done .no) .no) .no) (.alt 5 (.alt 3 (.alt 6 (.alt 7 .done .no) .no) .no) .no)) (.alt 5 (.alt 1 (.alt 3 (.alt 6 (.alt 7 .done .no) .no) .no) .no) .no)) (.alt 5 (.alt 1 (.alt 3 (.alt 4 (.alt 6 (.alt 7 .done .no) .no) .no) (.alt 4 (.alt 3 (.alt 6 (.alt 7 .done .no) .no) .no) .no)) (.alt 4 (.alt 1 (.alt 3 (.alt 6 (.alt 7 .done .no) .no) .no) .no) .no)) .no)))) (by decide +kernel) rfl (fun K hK => ?_))
  have rest : ∀ (cs ds : List Value) (h' : PH) (S : AS) (ix : List Nat), Rr h' (.agg cs.toArray) x → Rr h' (.agg ds.toArray) x → S.leS ⟨[(5, .p 0 0), (6, .p 1 0)], [cs, ds]⟩ ix → K S h' := by
    intro cs ds h' S ix r1 r2 hS
    refine hK _ _ (AWP_leS _ _ hS ?_); clear hK K kA kB
    obtain ⟨_, _, _, _, _, _, _, _, _, _, _, _, _, _, e1, p1, p2⟩ := r1.sa
    obtain ⟨_, _, _, _, _, _, _, _, _, _, _, _, _, _, e2, p3, p4⟩ := r2.sa
    simp only [Value.agg.injEq, Array.mk.injEq] at e1 e2
    subst e1
    subst e2
    cases x with
    | e =>
      dsimp only [NS.loN, NS.hiN, NS.void]
      (repeat (first | (refine rg rfl rfl (fun K hK => ?_); (repeat (first | (refine wo rfl (fun k hk => ?_); simp (disch := omega) only [go_sem, Nat.reduceBEq, Nat.reduceAdd]; refine hk _ _ ?_; clear hk k) | refine wkt rfl ?_)); (try refine wk0 ?_); refine hK _ _ ?_; clear hK K; (try dsimp only [behind, qs, qb])) | ((first | refine AWP_exit ?_ | refine AWP_skip ?_); simp (disch := decide) only [qs, qb, if_true, if_false, reduceIte]) | refine AWP_sq rfl (fun K hK => ?_) | refine ct rfl ?_ | ((first | refine hK _ _ ?_ | (clear hK; refine hK _ _ ?_) | (clear hK; clear hK; refine hK _ _ ?_)); clear hK; (try clear K))))
      refine AWP_ret ?_; simp (disch := omega) only [go_sem, Nat.reduceBEq, Nat.reduceAdd]
    | i a b =>
      obtain ⟨l, el⟩ : ∃ l, (NS.i a b).loN = l := ⟨_, rfl⟩
      obtain ⟨u, eu⟩ : ∃ u, (NS.i a b).hiN = u := ⟨_, rfl⟩
      rw [el, eu]
      dsimp only [NS.void]
      have c1 := fun {h} [Le h' h] => QCmp_spec (h := h) p1 p3 (by omega) (by omega)
      have c2 := fun {h} [Le h' h] => QCmp_spec (h := h) p2 p4 (by omega) (by omega)
      rw [cmpQ_self] at c1 c2
      cases l <;> cases u <;>
      · (repeat (first | (refine rg rfl rfl (fun K hK => ?_); (repeat (first | (refine wo rfl (fun k hk => ?_); simp (disch := omega) only [go_sem, Nat.reduceBEq, Nat.reduceAdd]; refine hk _ _ ?_; clear hk k) | refine wkt rfl ?_)); (try refine wk0 ?_); refine hK _ _ ?_; clear hK K; (try dsimp only [behind, qs, qb])) | ((first | refine AWP_exit ?_ | refine AWP_skip ?_); simp (disch := decide) only [qs, qb, if_true, if_false, reduceIte]) | refine AWP_sq rfl (fun K hK => ?_) | refine ct rfl ?_ | ((first | refine hK _ _ ?_ | (clear hK; refine hK _ _ ?_) | (clear hK; clear hK; refine hK _ _ ?_)); clear hK; (try clear K)))); (refine rg rfl rfl (fun K hK => ?_); (repeat (first | (refine wo rfl (fun k hk => ?_); simp (disch := omega) only [go_sem, Nat.reduceBEq, Nat.reduceAdd]; refine hk _ _ ?_; clear hk k) | refine wkt rfl ?_ | with_reducible refine wk0 ?_ | with_reducible refine wt_seg ?_ | with_reducible refine wt_alt ?_ wt_no | with_reducible refine wt_done ?_)))
        refine cN rfl rfl rfl rfl (by exact c1) ?_; rintro v1 h1 s1 rfl; (repeat (first | (refine wo rfl (fun k hk => ?_); simp (disch := omega) only [go_sem, Nat.reduceBEq, Nat.reduceAdd]; refine hk _ _ ?_; clear hk k) | refine wkt rfl ?_ | with_reducible refine wk0 ?_ | with_reducible refine wt_seg ?_ | with_reducible refine wt_alt ?_ wt_no | with_reducible refine wt_done ?_))
        refine cN rfl rfl rfl rfl (by exact c2) ?_; rintro v2 h2 s2 rfl; (repeat (first | (refine wo rfl (fun k hk => ?_); simp (disch := omega) only [go_sem, Nat.reduceBEq, Nat.reduceAdd]; refine hk _ _ ?_; clear hk k) | refine wkt rfl ?_ | with_reducible refine wk0 ?_ | with_reducible refine wt_seg ?_ | with_reducible refine wt_alt ?_ wt_no | with_reducible refine wt_done ?_))
        (try (simp (disch := omega) only [go_sem, Nat.reduceBEq, Nat.reduceAdd])); refine hK _ _ ?_; clear hK; (try clear K); (try dsimp only [behind, qs])
        refine AWP_ret ?_; simp (disch := omega) only [go_sem, Nat.reduceBEq, Nat.reduceAdd]
  (repeat (first | (refine wo rfl (fun k hk => ?_); simp (disch := omega) only [go_sem, Nat.reduceBEq, Nat.reduceAdd]; refine hk _ _ ?_; clear hk k) | refine wkt rfl ?_ | with_reducible refine wk0 ?_ | with_reducible refine wt_seg ?_ | with_reducible refine wt_alt ?_ wt_no | with_reducible refine wt_done ?_))
  refine wt_alt ?_ (wt_alt ?_ (wt_alt ?_ wt_no))
  · refine cN rfl rfl rfl rfl (by exact kA) ?_; rintro v1 h1 st_h1 f1; obtain ⟨v1_0, v1_1, v1_2, v1_3, v1_4, v1_5, v1_6, v1_7, v1_8, v1_9, v1_10, v1_11, v1_12, v1_13, rfl, f1⟩ := f1.sa; (repeat (first | (refine wo rfl (fun k hk => ?_); simp (disch := omega) only [go_sem, Nat.reduceBEq, Nat.reduceAdd]; refine hk _ _ ?_; clear hk k) | refine wkt rfl ?_ | with_reducible refine wk0 ?_ | with_reducible refine wt_seg ?_ | with_reducible refine wt_alt ?_ wt_no | with_reducible refine wt_done ?_))
    refine wt_alt ?_ (wt_alt ?_ (wt_alt ?_ wt_no))
    · refine cN rfl rfl rfl rfl (by exact kB) ?_; rintro v2 h2 st_h2 f2; obtain ⟨v2_0, v2_1, v2_2, v2_3, v2_4, v2_5, v2_6, v2_7, v2_8, v2_9, v2_10, v2_11, v2_12, v2_13, rfl, f2⟩ := f2.sa; (repeat (first | (refine wo rfl (fun k hk => ?_); simp (disch := omega) only [go_sem, Nat.reduceBEq, Nat.reduceAdd]; refine hk _ _ ?_; clear hk k) | refine wkt rfl ?_ | with_reducible refine wk0 ?_ | with_reducible refine wt_seg ?_ | with_reducible refine wt_alt ?_ wt_no | with_reducible refine wt_done ?_))
      refine wt_alt ?_ (wt_alt ?_ wt_no)
      · (repeat (first | (refine wo rfl (fun k hk => ?_); simp (disch := omega) only [go_sem, Nat.reduceBEq, Nat.reduceAdd]; refine hk _ _ ?_; clear hk k) | refine wkt rfl ?_ | with_reducible refine wk0 ?_ | with_reducible refine wt_seg ?_ | with_reducible refine wt_alt ?_ wt_no | with_reducible refine wt_done ?_))
        refine rest _ _ _ _ [2, 3] f1.to f2.to ?_
        simp (disch := omega) only [go_sem, Nat.reduceBEq, Nat.reduceAdd, nodupB, true_or]
      · (repeat (first | (refine wo rfl (fun k hk => ?_); simp (disch := omega) only [go_sem, Nat.reduceBEq, Nat.reduceAdd]; refine hk _ _ ?_; clear hk k) | refine wkt rfl ?_ | with_reducible refine wk0 ?_ | with_reducible refine wt_seg ?_ | with_reducible refine wt_alt ?_ wt_no | with_reducible refine wt_done ?_))
        refine rest _ _ _ _ [3, 2] f1.to f2.to ?_
        simp (disch := omega) only [go_sem, Nat.reduceBEq, Nat.reduceAdd, nodupB, true_or]
    · (repeat (first | (refine wo rfl (fun k hk => ?_); simp (disch := omega) only [go_sem, Nat.reduceBEq, Nat.reduceAdd]; refine hk _ _ ?_; clear hk k) | refine wkt rfl ?_ | with_reducible refine wk0 ?_ | with_reducible refine wt_seg ?_ | with_reducible refine wt_alt ?_ wt_no | with_reducible refine wt_done ?_))
      refine wt_alt ?_ (wt_alt ?_ wt_no)
      · refine cN rfl rfl rfl rfl (by exact kB) ?_; rintro v2 h2 st_h2 f2; obtain ⟨v2_0, v2_1, v2_2, v2_3, v2_4, v2_5, v2_6, v2_7, v2_8, v2_9, v2_10, v2_11, v2_12, v2_13, rfl, f2⟩ := f2.sa; (repeat (first | (refine wo rfl (fun k hk => ?_); simp (disch := omega) only [go_sem, Nat.reduceBEq, Nat.reduceAdd]; refine hk _ _ ?_; clear hk k) | refine wkt rfl ?_ | with_reducible refine wk0 ?_ | with_reducible refine wt_seg ?_ | with_reducible refine wt_alt ?_ wt_no | with_reducible refine wt_done ?_))
        refine rest _ _ _ _ [2, 3] f1.to f2.to ?_
        simp (disch := omega) only [go_sem, Nat.reduceBEq, Nat.reduceAdd, nodupB, true_or]
      · (repeat (first | (refine wo rfl (fun k hk => ?_); simp (disch := omega) only [go_sem, Nat.reduceBEq, Nat.reduceAdd]; refine hk _ _ ?_; clear hk k) | refine wkt rfl ?_ | with_reducible refine wk0 ?_ | with_reducible refine wt_seg ?_ | with_reducible refine wt_alt ?_ wt_no | with_reducible refine wt_done ?_))
        refine cN rfl rfl rfl rfl (by exact kB) ?_; rintro v2 h2 st_h2 f2; obtain ⟨v2_0, v2_1, v2_2, v2_3, v2_4, v2_5, v2_6, v2_7, v2_8, v2_9, v2_10, v2_11, v2_12, v2_13, rfl, f2⟩ := f2.sa; (repeat (first | (refine wo rfl (fun k hk => ?_); simp (disch := omega) only [go_sem, Nat.reduceBEq, Nat.reduceAdd]; refine hk _ _ ?_; clear hk k) | refine wkt rfl ?_ | with_reducible refine wk0 ?_ | with_reducible refine wt_seg ?_ | with_reducible refine wt_alt ?_ wt_no | with_reducible refine wt_done ?_))
        refine rest _ _ _ _ [2, 3] f1.to f2.to ?_
        simp (disch := omega) only [go_sem, Nat.reduceBEq, Nat.reduceAdd, nodupB, true_or]
    · (repeat (first | (refine wo rfl (fun k hk => ?_); simp (disch := omega) only [go_sem, Nat.reduceBEq, Nat.reduceAdd]; refine hk _ _ ?_; clear hk k) | refine wkt rfl ?_ | with_reducible refine wk0 ?_ | with_reducible refine wt_seg ?_ | with_reducible refine wt_alt ?_ wt_no | with_reducible refine wt_done ?_))
      refine wt_alt ?_ (wt_alt ?_ wt_no)
      · refine cN rfl rfl rfl rfl (by exact kB) ?_; rintro v2 h2 st_h2 f2; obtain ⟨v2_0, v2_1, v2_2, v2_3, v2_4, v2_5, v2_6, v2_7, v2_8, v2_9, v2_10, v2_11, v2_12, v2_13, rfl, f2⟩ := f2.sa; (repeat (first | (refine wo rfl (fun k hk => ?_); simp (disch := omega) only [go_sem, Nat.reduceBEq, Nat.reduceAdd]; refine hk _ _ ?_; clear hk k) | refine wkt rfl ?_ | with_reducible refine wk0 ?_ | with_reducible refine wt_seg ?_ | with_reducible refine wt_alt ?_ wt_no | with_reducible refine wt_done ?_))
        refine rest _ _ _ _ [3, 2] f1.to f2.to ?_
        simp (disch := omega) only [go_sem, Nat.reduceBEq, Nat.reduceAdd, nodupB, true_or]
      · (repeat (first | (refine wo rfl (fun k hk => ?_); simp (disch := omega) only [go_sem, Nat.reduceBEq, Nat.reduceAdd]; refine hk _ _ ?_; clear hk k) | refine wkt rfl ?_ | with_reducible refine wk0 ?_ | with_reducible refine wt_seg ?_ | with_reducible refine wt_alt ?_ wt_no | with_reducible refine wt_done ?_))
        refine cN rfl rfl rfl rfl (by exact kB) ?_; rintro v2 h2 st_h2 f2; obtain ⟨v2_0, v2_1, v2_2, v2_3, v2_4, v2_5, v2_6, v2_7, v2_8, v2_9, v2_10, v2_11, v2_12, v2_13, rfl, f2⟩ := f2.sa; (repeat (first | (refine wo rfl (fun k hk => ?_); simp (disch := omega) only [go_sem, Nat.reduceBEq, Nat.reduceAdd]; refine hk _ _ ?_; clear hk k) | refine wkt rfl ?_ | with_reducible refine wk0 ?_ | with_reducible refine wt_seg ?_ | with_reducible refine wt_alt ?_ wt_no | with_reducible refine wt_done ?_))
        refine rest _ _ _ _ [3, 2] f1.to f2.to ?_
        simp (disch := omega) only [go_sem, Nat.reduceBEq, Nat.reduceAdd, nodupB, true_or]
  · (repeat (first | (refine wo rfl (fun k hk => ?_); simp (disch := omega) only [go_sem, Nat.reduceBEq, Nat.reduceAdd]; refine hk _ _ ?_; clear hk k) | refine wkt rfl ?_ | with_reducible refine wk0 ?_ | with_reducible refine wt_seg ?_ | with_reducible refine wt_alt ?_ wt_no | with_reducible refine wt_done ?_))
    refine wt_alt ?_ (wt_alt ?_ wt_no)
    · refine cN rfl rfl rfl rfl (by exact kA) ?_; rintro v1 h1 st_h1 f1; obtain ⟨v1_0, v1_1, v1_2, v1_3, v1_4, v1_5, v1_6, v1_7, v1_8, v1_9, v1_10, v1_11, v1_12, v1_13, rfl, f1⟩ := f1.sa; (repeat (first | (refine wo rfl (fun k hk => ?_); simp (disch := omega) only [go_sem, Nat.reduceBEq, Nat.reduceAdd]; refine hk _ _ ?_; clear hk k) | refine wkt rfl ?_ | with_reducible refine wk0 ?_ | with_reducible refine wt_seg ?_ | with_reducible refine wt_alt ?_ wt_no | with_reducible refine wt_done ?_))
      refine wt_alt ?_ (wt_alt ?_ wt_no)
      · refine cN rfl rfl rfl rfl (by exact kB) ?_; rintro v2 h2 st_h2 f2; obtain ⟨v2_0, v2_1, v2_2, v2_3, v2_4, v2_5, v2_6, v2_7, v2_8, v2_9, v2_10, v2_11, v2_12, v2_13, rfl, f2⟩ := f2.sa; (repeat (first | (refine wo rfl (fun k hk => ?_); simp (disch := omega) only [go_sem, Nat.reduceBEq, Nat.reduceAdd]; refine hk _ _ ?_; clear hk k) | refine wkt rfl ?_ | with_reducible refine wk0 ?_ | with_reducible refine wt_seg ?_ | with_reducible refine wt_alt ?_ wt_no | with_reducible refine wt_done ?_))
        refine rest _ _ _ _ [2, 3] f1.to f2.to ?_
        simp (disch := omega) only [go_sem, Nat.reduceBEq, Nat.reduceAdd, nodupB, true_or]
      · (repeat (first | (refine wo rfl (fun k hk => ?_); simp (disch := omega) only [go_sem, Nat.reduceBEq, Nat.reduceAdd]; refine hk _ _ ?_; clear hk k) | refine wkt rfl ?_ | with_reducible refine wk0 ?_ | with_reducible refine wt_seg ?_ | with_reducible refine wt_alt ?_ wt_no | with_reducible refine wt_done ?_))
        refine cN rfl rfl rfl rfl (by exact kB) ?_; rintro v2 h2 st_h2 f2; obtain ⟨v2_0, v2_1, v2_2, v2_3, v2_4, v2_5, v2_6, v2_7, v2_8, v2_9, v2_10, v2_11, v2_12, v2_13, rfl, f2⟩ := f2.sa; (repeat (first | (refine wo rfl (fun k hk => ?_); simp (disch := omega) only [go_sem, Nat.reduceBEq, Nat.reduceAdd]; refine hk _ _ ?_; clear hk k) | refine wkt rfl ?_ | with_reducible refine wk0 ?_ | with_reducible refine wt_seg ?_ | with_reducible refine wt_alt ?_ wt_no | with_reducible refine wt_done ?_))
        refine rest _ _ _ _ [2, 3] f1.to f2.to ?_
        simp (disch := omega) only [go_sem, Nat.reduceBEq, Nat.reduceAdd, nodupB, true_or]
    · (repeat (first | (refine wo rfl (fun k hk => ?_); simp (disch := omega) only [go_sem, Nat.reduceBEq, Nat.reduceAdd]; refine hk _ _ ?_; clear hk k) | refine wkt rfl ?_ | with_reducible refine wk0 ?_ | with_reducible refine wt_seg ?_ | with_reducible refine wt_alt ?_ wt_no | with_reducible refine wt_done ?_))
      refine cN rfl rfl rfl rfl (by exact kA) ?_; rintro v1 h1 st_h1 f1; obtain ⟨v1_0, v1_1, v1_2, v1_3, v1_4, v1_5, v1_6, v1_7, v1_8, v1_9, v1_10, v1_11, v1_12, v1_13, rfl, f1⟩ := f1.sa; (repeat (first | (refine wo rfl (fun k hk => ?_); simp (disch := omega) only [go_sem, Nat.reduceBEq, Nat.reduceAdd]; refine hk _ _ ?_; clear hk k) | refine wkt rfl ?_ | with_reducible refine wk0 ?_ | with_reducible refine wt_seg ?_ | with_reducible refine wt_alt ?_ wt_no | with_reducible refine wt_done ?_))
      refine cN rfl rfl rfl rfl (by exact kB) ?_; rintro v2 h2 st_h2 f2; obtain ⟨v2_0, v2_1, v2_2, v2_3, v2_4, v2_5, v2_6, v2_7, v2_8, v2_9, v2_10, v2_11, v2_12, v2_13, rfl, f2⟩ := f2.sa; (repeat (first | (refine wo rfl (fun k hk => ?_); simp (disch := omega) only [go_sem, Nat.reduceBEq, Nat.reduceAdd]; refine hk _ _ ?_; clear hk k) | refine wkt rfl ?_ | with_reducible refine wk0 ?_ | with_reducible refine wt_seg ?_ | with_reducible refine wt_alt ?_ wt_no | with_reducible refine wt_done ?_))
      refine rest _ _ _ _ [2, 3] f1.to f2.to ?_
      simp (disch := omega) only [go_sem, Nat.reduceBEq, Nat.reduceAdd, nodupB, true_or]
  · (repeat (first | (refine wo rfl (fun k hk => ?_); simp (disch := omega) only [go_sem, Nat.reduceBEq, Nat.reduceAdd]; refine hk _ _ ?_; clear hk k) | refine wkt rfl ?_ | with_reducible refine wk0 ?_ | with_reducible refine wt_seg ?_ | with_reducible refine wt_alt ?_ wt_no | with_reducible refine wt_done ?_))
    refine wt_alt ?_ (wt_alt ?_ wt_no)
    · refine cN rfl rfl rfl rfl (by exact kA) ?_; rintro v1 h1 st_h1 f1; obtain ⟨v1_0, v1_1, v1_2, v1_3, v1_4, v1_5, v1_6, v1_7, v1_8, v1_9, v1_10, v1_11, v1_12, v1_13, rfl, f1⟩ := f1.sa; (repeat (first | (refine wo rfl (fun k hk => ?_); simp (disch := omega) only [go_sem, Nat.reduceBEq, Nat.reduceAdd]; refine hk _ _ ?_; clear hk k) | refine wkt rfl ?_ | with_reducible refine wk0 ?_ | with_reducible refine wt_seg ?_ | with_reducible refine wt_alt ?_ wt_no | with_reducible refine wt_done ?_))
      refine wt_alt ?_ (wt_alt ?_ wt_no)
      · refine cN rfl rfl rfl rfl (by exact kB) ?_; rintro v2 h2 st_h2 f2; obtain ⟨v2_0, v2_1, v2_2, v2_3, v2_4, v2_5, v2_6, v2_7, v2_8, v2_9, v2_10, v2_11, v2_12, v2_13, rfl, f2⟩ := f2.sa; (repeat (first | (refine wo rfl (fun k hk => ?_); simp (disch := omega) only [go_sem, Nat.reduceBEq, Nat.reduceAdd]; refine hk _ _ ?_; clear hk k) | refine wkt rfl ?_ | with_reducible refine wk0 ?_ | with_reducible refine wt_seg ?_ | with_reducible refine wt_alt ?_ wt_no | with_reducible refine wt_done ?_))
        refine rest _ _ _ _ [3, 2] f1.to f2.to ?_
        simp (disch := omega) only [go_sem, Nat.reduceBEq, Nat.reduceAdd, nodupB, true_or]
      · (repeat (first | (refine wo rfl (fun k hk => ?_); simp (disch := omega) only [go_sem, Nat.reduceBEq, Nat.reduceAdd]; refine hk _ _ ?_; clear hk k) | refine wkt rfl ?_ | with_reducible refine wk0 ?_ | with_reducible refine wt_seg ?_ | with_reducible refine wt_alt ?_ wt_no | with_reducible refine wt_done ?_))
        refine cN rfl rfl rfl rfl (by exact kB) ?_; rintro v2 h2 st_h2 f2; obtain ⟨v2_0, v2_1, v2_2, v2_3, v2_4, v2_5, v2_6, v2_7, v2_8, v2_9, v2_10, v2_11, v2_12, v2_13, rfl, f2⟩ := f2.sa; (repeat (first | (refine wo rfl (fun k hk => ?_); simp (disch := omega) only [go_sem, Nat.reduceBEq, Nat.reduceAdd]; refine hk _ _ ?_; clear hk k) | refine wkt rfl ?_ | with_reducible refine wk0 ?_ | with_reducible refine wt_seg ?_ | with_reducible refine wt_alt ?_ wt_no | with_reducible refine wt_done ?_))
        refine rest _ _ _ _ [3, 2] f1.to f2.to ?_
        simp (disch := omega) only [go_sem, Nat.reduceBEq, Nat.reduceAdd, nodupB, true_or]
    · (repeat (first | (refine wo rfl (fun k hk => ?_); simp (disch := omega) only [go_sem, Nat.reduceBEq, Nat.reduceAdd]; refine hk _ _ ?_; clear hk k) | refine wkt rfl ?_ | with_reducible refine wk0 ?_ | with_reducible refine wt_seg ?_ | with_reducible refine wt_alt ?_ wt_no | with_reducible refine wt_done ?_))
      refine cN rfl rfl rfl rfl (by exact kA) ?_; rintro v1 h1 st_h1 f1; obtain ⟨v1_0, v1_1, v1_2, v1_3, v1_4, v1_5, v1_6, v1_7, v1_8, v1_9, v1_10, v1_11, v1_12, v1_13, rfl, f1⟩ := f1.sa; (repeat (first | (refine wo rfl (fun k hk => ?_); simp (disch := omega) only [go_sem, Nat.reduceBEq, Nat.reduceAdd]; refine hk _ _ ?_; clear hk k) | refine wkt rfl ?_ | with_reducible refine wk0 ?_ | with_reducible refine wt_seg ?_ | with_reducible refine wt_alt ?_ wt_no | with_reducible refine wt_done ?_))
      refine cN rfl rfl rfl rfl (by exact kB) ?_; rintro v2 h2 st_h2 f2; obtain ⟨v2_0, v2_1, v2_2, v2_3, v2_4, v2_5, v2_6, v2_7, v2_8, v2_9, v2_10, v2_11, v2_12, v2_13, rfl, f2⟩ := f2.sa; (repeat (first | (refine wo rfl (fun k hk => ?_); simp (disch := omega) only [go_sem, Nat.reduceBEq, Nat.reduceAdd]; refine hk _ _ ?_; clear hk k) | refine wkt rfl ?_ | with_reducible refine wk0 ?_ | with_reducible refine wt_seg ?_ | with_reducible refine wt_alt ?_ wt_no | with_reducible refine wt_done ?_))
      refine rest _ _ _ _ [3, 2] f1.to f2.to ?_
      simp (disch := omega) only [go_sem, Nat.reduceBEq, Nat.reduceAdd, nodupB, true_or]
theorem Is_spec {h0 h : PH} [Le h0 h] {r r' : Value} {b1 b2 : Value} {e1 e2 : Int} {o : Out} (h1 : r = .tuple #[b1, .int .i64 e1]) (h2 : r' = .tuple #[b2, .int .i64 e2]) (hr : Ir h0 r o) (hr' : Ir h0 r' o) (hx : ∀ x, o = .ok x → x.ok ∧ x.le 2048) (he : ∀ e, o = .error e → e ≠ 0) :
    Spec mach 11 #[b1, .int .i64 e1, b2, .int .i64 e2] h (fun r _ => r = .bool true) NP := by
  subst h1
  subst h2
  cases o with
  | error e =>
    have ne := he e rfl
    cases (hr : _ = _)
    cases (hr' : _ = _)
    unfold zIv
    refine Spec.enter (args := [_, _, _, _]) (n := 23) Tryz.func11 rfl (by kernel_rfl) rfl (by simp) [.tmp 8] rfl (fun C _ => ?_)
    repeat (first | (refine wo rfl (fun k hk => ?_); simp (disch := omega) only [go_sem, Nat.reduceBEq, Nat.reduceAdd]; refine hk _ _ ?_; clear hk k) | refine wkt rfl ?_ | refine wk0 ?_ | refine rg rfl rfl (fun K hK => ?_) | ((first | refine AWP_exit ?_ | refine AWP_skip ?_); simp (disch := decide) only [qs, qb, if_true, if_false, reduceIte]) | refine AWP_sq rfl (fun K hK => ?_) | refine ct rfl ?_ | ((try simp (disch := omega) only [go_sem, Nat.reduceBEq, Nat.reduceAdd]); (first | apply hK | (clear hK; apply hK) | (clear hK; clear hK; apply hK)); clear hK; (try clear K); (try dsimp only [behind, qs, qb])))
    refine cN rfl rfl rfl rfl (by exact None03) ?_; rintro v1 h1 s1 rfl
    repeat (first | (refine wo rfl (fun k hk => ?_); simp (disch := omega) only [go_sem, Nat.reduceBEq, Nat.reduceAdd]; refine hk _ _ ?_; clear hk k) | refine wkt rfl ?_ | refine wk0 ?_ | refine rg rfl rfl (fun K hK => ?_) | ((first | refine AWP_exit ?_ | refine AWP_skip ?_); simp (disch := decide) only [qs, qb, if_true, if_false, reduceIte]) | refine AWP_sq rfl (fun K hK => ?_) | refine ct rfl ?_ | ((try simp (disch := omega) only [go_sem, Nat.reduceBEq, Nat.reduceAdd]); (first | apply hK | (clear hK; apply hK) | (clear hK; clear hK; apply hK)); clear hK; (try clear K); (try dsimp only [behind, qs, qb])))
    refine AWP_ret ?_; simp (disch := omega) only [go_sem, Nat.reduceBEq, Nat.reduceAdd]
  | ok x =>
    obtain ⟨ho, hl⟩ := hx x rfl
    obtain ⟨u, e, c⟩ := hr
    obtain ⟨u', e', c'⟩ := hr'
    cases e
    cases e'
    have c0 := c
    have c0' := c'
    obtain ⟨_, _, _, _, _, _, _, _, _, _, _, _, _, _, rfl, _, _⟩ := c.fl
    obtain ⟨_, _, _, _, _, _, _, _, _, _, _, _, _, _, rfl, _, _⟩ := c'.fl
    refine Spec.enter (args := [_, _, _, _]) (n := 23) Tryz.func11 rfl (by kernel_rfl) rfl (by simp) [.tmp 8] rfl (fun C _ => ?_)
    repeat (first | (refine wo rfl (fun k hk => ?_); simp (disch := omega) only [go_sem, Nat.reduceBEq, Nat.reduceAdd]; refine hk _ _ ?_; clear hk k) | refine wkt rfl ?_ | refine wk0 ?_ | refine rg rfl rfl (fun K hK => ?_) | ((first | refine AWP_exit ?_ | refine AWP_skip ?_); simp (disch := decide) only [qs, qb, if_true, if_false, reduceIte]) | refine AWP_sq rfl (fun K hK => ?_) | refine ct rfl ?_ | ((try simp (disch := omega) only [go_sem, Nat.reduceBEq, Nat.reduceAdd]); (first | apply hK | (clear hK; apply hK) | (clear hK; clear hK; apply hK)); clear hK; (try clear K); (try dsimp only [behind, qs, qb])))
    refine cN rfl rfl rfl rfl (by exact RefCanonical c0 ho hl) ?_; rintro v1 h1 s1 rfl; (repeat (first | (refine wo rfl (fun k hk => ?_); simp (disch := omega) only [go_sem, Nat.reduceBEq, Nat.reduceAdd]; refine hk _ _ ?_; clear hk k) | refine wkt rfl ?_)); (try refine wk0 ?_)
    refine cN rfl rfl rfl rfl (by exact RefSame c0 c0' ho hl) ?_; rintro v2 h2 s2 rfl; (repeat (first | (refine wo rfl (fun k hk => ?_); simp (disch := omega) only [go_sem, Nat.reduceBEq, Nat.reduceAdd]; refine hk _ _ ?_; clear hk k) | refine wkt rfl ?_)); (try refine wk0 ?_)
    (try (simp (disch := omega) only [go_sem, Nat.reduceBEq, Nat.reduceAdd])); refine hK _ _ ?_; clear hK; (try clear K); (try dsimp only [behind, qs])
    refine AWP_ret ?_; simp (disch := omega) only [go_sem, Nat.reduceBEq, Nat.reduceAdd]
end Go.Q
namespace Go.Q
open Go.Proofs
set_option maxRecDepth 100000
set_option maxHeartbeats 4000000
theorem NS.le.sum {x y : NS} (hx : x.le 2048) (hy : y.le 2048) : (x.sum y).le (2 ^ 30) := by
  cases x with
  | e => rfl
  | i a b => cases y with
    | e => rfl
    | i c d =>
      rw [NS.le_i] at hx hy
      show NS.le _ (.i (oadd a c) (oadd b d))
      rw [NS.le_i]
      refine ⟨fun q e => ?_, fun q e => ?_⟩
      · cases a with
        | none => cases e
        | some a => cases c with
          | none => cases e
          | some c =>
            cases e
            have := sz_add a c
            have := hx.1 _ rfl
            have := hy.1 _ rfl
            omega
      · cases b with
        | none => cases e
        | some b => cases d with
          | none => cases e
          | some d =>
            cases e
            have := sz_add b d
            have := hx.2 _ rfl
            have := hy.2 _ rfl
            omega
theorem Sum1 {h0 h : PH} [Le h0 h] {s t : Value} {x y : NS} (hs : Sn h0 s x) (ht : Sn h0 t y) (gx : x.void = false) (gy : y.void = false) (lx : x.le (2 ^ 30)) (ly : y.le (2 ^ 30)) : Spec mach 53 #[s, t] h (fun v h' => Sn h' v (x.sum y)) NP := by
  cases x with
  | e => cases gx
  | i a b => cases y with
    | e => cases gy
    | i c d => exact sum_set hs ht lx ly
theorem void_minus (x : NS) : x.minus.void = x.void := by cases x <;> rfl
theorem Sub1 {h0 h : PH} [Le h0 h] {s t : Value} {x y : NS} (hs : Sn h0 s x) (ht : Sn h0 t y) (gx : x.void = false) (gy : y.void = false) (lx : x.le (2 ^ 30)) (ly : y.le (2 ^ 30)) : Spec mach 54 #[s, t] h (fun v h' => Sn h' v (x.sum y.minus)) NP := by
  obtain ⟨_, _, _, _, _, _, _, _, _, _, _, _, _, _, _, _, rfl, hs⟩ := hs.sa
  obtain ⟨_, _, _, _, _, _, _, _, _, _, _, _, _, _, _, _, rfl, ht⟩ := ht.sa
  refine Spec.go [] Tryz.func54 rfl rfl (by kernel_rfl) fun C _ => ?_
  try simp (maxSteps := 999999) (disch := omega) only [go_sem, Nat.reduceBEq, Nat.reduceAdd]
  refine caN (by exact Minus_set ht) ?_; rintro v1 h1 st1 hv1
  try simp (maxSteps := 999999) (disch := omega) only [go_sem, Nat.reduceBEq, Nat.reduceAdd]
  refine caN (by exact Sum1 (hs.to (h' := h1)) hv1 gx (by rw [void_minus]; exact gy) lx ly.minus) ?_; rintro _ h2 _ hv2; obtain ⟨_, _, _, _, _, _, _, _, _, _, _, _, _, _, _, _, rfl, hv2⟩ := hv2.sa
  try simp (maxSteps := 999999) (disch := omega) only [go_sem, Nat.reduceBEq, Nat.reduceAdd]
  exact hv2
theorem AddI_spec {h0 h : PH} [Le h0 h] {v w : Value} {x y : RI} {p : Int} (hv : Iv h0 v x) (hw : Iv h0 w y) : Spec mach 19 #[v, w, .int .i64 p] h (fun r h' => Ir h' r (x.fin2 y (rnd p x.set y.set (.ok (x.set.sum y.set))))) NP := by
  have hv0 := hv
  have hw0 := hw
  obtain ⟨a1, m1, c1, a2, m2, c2, a3, m3, c3, a4, m4, c4, rfl, _, _⟩ := hv.sa
  obtain ⟨a1', m1', c1', a2', m2', c2', a3', m3', c3', a4', m4', c4', rfl, _, _⟩ := hw.sa
  refine Spec.go [] Tryz.func19 rfl rfl (by kernel_rfl) fun C _ => ?_
  try simp (maxSteps := 999999) (disch := omega) only [go_sem, Nat.reduceBEq, Nat.reduceAdd]
  refine caN (by exact rounded_spec hv0 hw0 (fun g g' k k' h' _ s t hs ht => Does.mk (Sum1 hs.sn ht.sn k k' (RI.le30 g) (RI.le30 g'))) (fun g g' z e => by cases e; exact NS.le.sum (RI.le g) (RI.le g'))) ?_; rintro _ h3 _ hr3; obtain ⟨_, _, _, _, _, _, _, _, _, _, _, _, _, _, _, _, _, rfl, hr3⟩ := hr3.sa
  try simp (maxSteps := 999999) (disch := omega) only [go_sem, Nat.reduceBEq, Nat.reduceAdd]
  exact hr3
theorem SubI_spec {h0 h : PH} [Le h0 h] {v w : Value} {x y : RI} {p : Int} (hv : Iv h0 v x) (hw : Iv h0 w y) : Spec mach 20 #[v, w, .int .i64 p] h (fun r h' => Ir h' r (x.fin2 y (rnd p x.set y.set (.ok (x.set.sum y.set.minus))))) NP := by
  have hv0 := hv
  have hw0 := hw
  obtain ⟨a1, m1, c1, a2, m2, c2, a3, m3, c3, a4, m4, c4, rfl, _, _⟩ := hv.sa
  obtain ⟨a1', m1', c1', a2', m2', c2', a3', m3', c3', a4', m4', c4', rfl, _, _⟩ := hw.sa
  refine Spec.go [] Tryz.func20 rfl rfl (by kernel_rfl) fun C _ => ?_
  try simp (maxSteps := 999999) (disch := omega) only [go_sem, Nat.reduceBEq, Nat.reduceAdd]
  refine caN (by exact rounded_spec hv0 hw0 (fun g g' k k' h' _ s t hs ht => Does.mk (Sub1 hs.sn ht.sn k k' (RI.le30 g) (RI.le30 g'))) (fun g g' z e => by cases e; exact NS.le.sum (RI.le g) (NS.le.minus (RI.le g')))) ?_; rintro _ h3 _ hr3; obtain ⟨_, _, _, _, _, _, _, _, _, _, _, _, _, _, _, _, _, rfl, hr3⟩ := hr3.sa
  try simp (maxSteps := 999999) (disch := omega) only [go_sem, Nat.reduceBEq, Nat.reduceAdd]
  exact hr3
end Go.Q
namespace Go.Q
open Go.Proofs
set_option maxRecDepth 100000
set_option maxHeartbeats 4000000
theorem gdown_int (n : Int) (p : Nat) : gdown (n : Rat) 0 = n := by
  unfold gdown
  rw [show (2 : Rat) ^ 0 = 1 by rfl, Rat.mul_one, Rat.floor_intCast]
  grind
theorem gup_int (n : Int) (p : Nat) : gup (n : Rat) 0 = n := by
  unfold gup
  rw [show (2 : Rat) ^ 0 = 1 by rfl, Rat.mul_one, Rat.ceil_intCast]
  grind
theorem awake_out : RI.fin2 (NS.i (some 1) (some 2)).ri (NS.i (some 3) (some 4)).ri (rnd 0 (NS.i (some 1) (some 2)).ri.set (NS.i (some 3) (some 4)).ri.set (.ok ((NS.i (some 1) (some 2)).ri.set.sum (NS.i (some 3) (some 4)).ri.set))) = .ok (.i (some 4) (some 6)) := by
  have l1 : (NS.i (some 1) (some 2)).le 2048 := by decide
  have l2 : (NS.i (some 3) (some 4)).le 2048 := by decide
  have o1 : (NS.i (some 1) (some 2)).ok := by unfold NS.ok ordO; decide
  have o2 : (NS.i (some 3) (some 4)).ok := by unfold NS.ok ordO; decide
  rw [NS.ri_set o1, NS.ri_set o2]
  unfold RI.fin2 rnd Out.prec
  rw [NS.ri_big l1, NS.ri_big l2]
  have e0 : (1 : Rat) + 3 = 4 := by grind
  have e0' : (2 : Rat) + 4 = 6 := by grind
  have e1 : gdown (1 + 3) 0 = 4 := by
    have := gdown_int 4 0
    rw [e0]; simpa using this
  have e2 : gup (2 + 4) 0 = 6 := by
    have := gup_int 6 0
    rw [e0']; simpa using this
  have e3 : decide (NS.le 2048 (NS.i (some 4) (some 6))) = true := by decide
  simp [NS.sum, oadd, NS.void, bad, NS.hull, Out.fin, e1, e2, e3]
theorem digit_one {h : PH} {a : Option Addr} {m c n : Nat} (r : N32 h (.slice a m c) n) (h0 : n ≠ 0) (h1 : n < 4294967296) : m = 1 ∧ ∃ ad, a = some ad ∧ h.at ad = some (.int .u32 n) := by
  have hW : W 4294967296 n = [n] := by
    rw [W_pos (by decide) h0, Nat.mod_eq_of_lt h1, Nat.div_eq_of_lt h1, W_zero]
  obtain ⟨a', c', e, A⟩ := r
  rw [hW] at e A
  simp only [Value.slice.injEq, List.length_cons, List.length_nil] at e
  obtain ⟨rfl, rfl, rfl⟩ := e
  obtain ⟨ad, e1, e2⟩ := A.at_ 0 n rfl
  refine ⟨rfl, ad, e1, ?_⟩
  simpa [Addr.add] using e2
theorem digit_none {h : PH} {a : Option Addr} {m c : Nat} (r : N32 h (.slice a m c) 0) : m = 0 := by
  obtain ⟨a', c', e, A⟩ := r
  rw [W_zero] at e
  simp only [Value.slice.injEq, List.length_nil] at e
  exact e.2.1
theorem awake_spec {h : PH} : Spec mach 7 #[] h (fun r _ => r = .bool true) NP := by
  refine Spec.enter (args := []) (n := 74) Tryz.func7 rfl (by kernel_rfl) rfl (by simp) [.tmp 0] rfl (fun C _ => ?_)
  repeat (first | (refine wo rfl (fun k hk => ?_); simp (disch := omega) only [go_sem, Nat.reduceBEq, Nat.reduceAdd]; refine hk _ _ ?_; clear hk k) | refine wkt rfl ?_ | refine wk0 ?_ | refine rg rfl rfl (fun K hK => ?_) | ((first | refine AWP_exit ?_ | refine AWP_skip ?_); simp (disch := decide) only [qs, qb, if_true, if_false, reduceIte]) | refine AWP_sq rfl (fun K hK => ?_) | refine ct rfl ?_ | ((try simp (disch := omega) only [go_sem, Nat.reduceBEq, Nat.reduceAdd]); (first | apply hK | (clear hK; apply hK) | (clear hK; clear hK; apply hK)); clear hK; (try clear K); (try dsimp only [behind, qs, qb])))
  refine cN rfl rfl rfl rfl (by exact QInt_spec (n := 1) (by decide) (by decide)) ?_; rintro v1 h1 _ f1; obtain ⟨v1_0, v1_1, v1_2, v1_3, v1_4, v1_5, v1_6, rfl, f1⟩ := f1.sa; (repeat (first | (refine wo rfl (fun k hk => ?_); simp (disch := omega) only [go_sem, Nat.reduceBEq, Nat.reduceAdd]; refine hk _ _ ?_; clear hk k) | refine wkt rfl ?_)); (try refine wk0 ?_)
  refine cN rfl rfl rfl rfl (by exact QRat_spec f1 (by decide)) ?_; rintro v2 h2 _ f2; obtain ⟨v2_0, v2_1, v2_2, v2_3, v2_4, v2_5, v2_6, rfl, f2⟩ := f2.sa; (repeat (first | (refine wo rfl (fun k hk => ?_); simp (disch := omega) only [go_sem, Nat.reduceBEq, Nat.reduceAdd]; refine hk _ _ ?_; clear hk k) | refine wkt rfl ?_)); (try refine wk0 ?_)
  refine cN rfl rfl rfl rfl (by exact QInt_spec (n := 2) (by decide) (by decide)) ?_; rintro v3 h3 _ f3; obtain ⟨v3_0, v3_1, v3_2, v3_3, v3_4, v3_5, v3_6, rfl, f3⟩ := f3.sa; (repeat (first | (refine wo rfl (fun k hk => ?_); simp (disch := omega) only [go_sem, Nat.reduceBEq, Nat.reduceAdd]; refine hk _ _ ?_; clear hk k) | refine wkt rfl ?_)); (try refine wk0 ?_)
  refine cN rfl rfl rfl rfl (by exact QRat_spec f3 (by decide)) ?_; rintro v4 h4 _ f4; obtain ⟨v4_0, v4_1, v4_2, v4_3, v4_4, v4_5, v4_6, rfl, f4⟩ := f4.sa; (repeat (first | (refine wo rfl (fun k hk => ?_); simp (disch := omega) only [go_sem, Nat.reduceBEq, Nat.reduceAdd]; refine hk _ _ ?_; clear hk k) | refine wkt rfl ?_)); (try refine wk0 ?_)
  refine cN rfl rfl rfl rfl (by exact QInt_spec (n := 3) (by decide) (by decide)) ?_; rintro v5 h5 _ f5; obtain ⟨v5_0, v5_1, v5_2, v5_3, v5_4, v5_5, v5_6, rfl, f5⟩ := f5.sa; (repeat (first | (refine wo rfl (fun k hk => ?_); simp (disch := omega) only [go_sem, Nat.reduceBEq, Nat.reduceAdd]; refine hk _ _ ?_; clear hk k) | refine wkt rfl ?_)); (try refine wk0 ?_)
  refine cN rfl rfl rfl rfl (by exact QRat_spec f5 (by decide)) ?_; rintro v6 h6 _ f6; obtain ⟨v6_0, v6_1, v6_2, v6_3, v6_4, v6_5, v6_6, rfl, f6⟩ := f6.sa; (repeat (first | (refine wo rfl (fun k hk => ?_); simp (disch := omega) only [go_sem, Nat.reduceBEq, Nat.reduceAdd]; refine hk _ _ ?_; clear hk k) | refine wkt rfl ?_)); (try refine wk0 ?_)
  refine cN rfl rfl rfl rfl (by exact QInt_spec (n := 4) (by decide) (by decide)) ?_; rintro v7 h7 _ f7; obtain ⟨v7_0, v7_1, v7_2, v7_3, v7_4, v7_5, v7_6, rfl, f7⟩ := f7.sa; (repeat (first | (refine wo rfl (fun k hk => ?_); simp (disch := omega) only [go_sem, Nat.reduceBEq, Nat.reduceAdd]; refine hk _ _ ?_; clear hk k) | refine wkt rfl ?_)); (try refine wk0 ?_)
  refine cN rfl rfl rfl rfl (by exact QRat_spec f7 (by decide)) ?_; rintro v8 h8 _ f8; obtain ⟨v8_0, v8_1, v8_2, v8_3, v8_4, v8_5, v8_6, rfl, f8⟩ := f8.sa; (repeat (first | (refine wo rfl (fun k hk => ?_); simp (disch := omega) only [go_sem, Nat.reduceBEq, Nat.reduceAdd]; refine hk _ _ ?_; clear hk k) | refine wkt rfl ?_)); (try refine wk0 ?_)
  (try (simp (disch := omega) only [go_sem, Nat.reduceBEq, Nat.reduceAdd])); refine hK _ _ ?_; clear hK; (try clear K); (try dsimp only [behind, qs])
  refine rg rfl rfl (fun K hK => ?_); (repeat (first | (refine wo rfl (fun k hk => ?_); simp (disch := omega) only [go_sem, Nat.reduceBEq, Nat.reduceAdd]; refine hk _ _ ?_; clear hk k) | refine wkt rfl ?_)); (try refine wk0 ?_)
  have c1 : Cv h8 (.agg #[.bool v2_0, .slice v2_1 v2_2 v2_3, .slice v2_4 v2_5 v2_6, .bool v4_0, .slice v4_1 v4_2 v4_3, .slice v4_4 v4_5 v4_6, .bool false, .bool false]) (.i (some 1) (some 2)) := ⟨_, _, _, _, _, _, rfl, by simpa using f2.to (h' := h8), by simpa using f4.to (h' := h8)⟩
  have c2 : Cv h8 (.agg #[.bool v6_0, .slice v6_1 v6_2 v6_3, .slice v6_4 v6_5 v6_6, .bool v8_0, .slice v8_1 v8_2 v8_3, .slice v8_4 v8_5 v8_6, .bool false, .bool false]) (.i (some 3) (some 4)) := ⟨_, _, _, _, _, _, rfl, by simpa using f6.to (h' := h8), by simpa using f8⟩
  have kA := AddI_spec (h := h8) (p := 0) (c1.iv (by decide)) (c2.iv (by decide))
  rw [awake_out] at kA
  refine cN rfl rfl rfl rfl (by exact kA) ?_; rintro r h9 st9 r9; obtain ⟨u, rfl, c9⟩ := r9; obtain ⟨d1, w1, w2, w3, w4, w5, w6, d2, w7, w8, w9, w10, w11, w12, rfl, p1, p2⟩ := c9.fl; (repeat (first | (refine wo rfl (fun k hk => ?_); simp (disch := omega) only [go_sem, Nat.reduceBEq, Nat.reduceAdd]; refine hk _ _ ?_; clear hk k) | refine wkt rfl ?_)); (try refine wk0 ?_)
  have p1 : Cn h9 _ 4 := p1
  have p2 : Cn h9 _ 6 := p2
  obtain ⟨sn, sd, e1, n1, n2⟩ := p1
  obtain ⟨sn', sd', e2, n3, n4⟩ := p2
  simp only [Value.agg.injEq, Array.mk.injEq, List.cons.injEq, and_true] at e1 e2
  obtain ⟨_, rfl, rfl⟩ := e1
  obtain ⟨_, rfl, rfl⟩ := e2
  obtain ⟨rfl, ad, rfl, t1⟩ := digit_one (n := 4) n1 (by decide) (by decide)
  obtain ⟨rfl, ad', rfl, t2⟩ := digit_one (n := 6) n3 (by decide) (by decide)
  have := digit_none (by simpa using n4)
  subst this
  (try (simp (disch := omega) only [go_sem, Nat.reduceBEq, Nat.reduceAdd])); refine hK _ _ ?_; clear hK; (try clear K); (try dsimp only [behind, qs])
  refine rg rfl rfl (fun K hK => ?_); (repeat (first | (refine wo rfl (fun k hk => ?_); simp (disch := omega) only [go_sem, Nat.reduceBEq, Nat.reduceAdd]; refine hk _ _ ?_; clear hk k) | refine wkt rfl ?_)); (try refine wk0 ?_)
  refine wo rfl (fun k hk => ?_); simp (disch := omega) only [go_sem, Nat.reduceBEq, Nat.reduceAdd]; refine ⟨_, t1, ?_⟩; refine hk _ _ ?_; clear hk k; (repeat (first | (refine wo rfl (fun k hk => ?_); simp (disch := omega) only [go_sem, Nat.reduceBEq, Nat.reduceAdd]; refine hk _ _ ?_; clear hk k) | refine wkt rfl ?_)); (try refine wk0 ?_)
  refine wo rfl (fun k hk => ?_); simp (disch := omega) only [go_sem, Nat.reduceBEq, Nat.reduceAdd]; refine ⟨_, t2, ?_⟩; refine hk _ _ ?_; clear hk k; (repeat (first | (refine wo rfl (fun k hk => ?_); simp (disch := omega) only [go_sem, Nat.reduceBEq, Nat.reduceAdd]; refine hk _ _ ?_; clear hk k) | refine wkt rfl ?_)); (try refine wk0 ?_)
  (try (simp (disch := omega) only [go_sem, Nat.reduceBEq, Nat.reduceAdd])); refine hK _ _ ?_; clear hK; (try clear K); (try dsimp only [behind, qs])
  refine AWP_ret ?_; simp (disch := omega) only [go_sem, Nat.reduceBEq, Nat.reduceAdd]
  all_goals exact rfl
def Fit (o : Out) : Prop := (∀ x, o = .ok x → x.ok ∧ x.le 2048) ∧ ∀ e, o = .error e → e ≠ 0
theorem Fit.fin {o : Out} (h1 : ∀ x, o = .ok x → x.ok) (h2 : ∀ e, o = .error e → e ≠ 0) : Fit o.fin := by
  cases o with
  | error e => exact ⟨fun x k => (by cases k), fun e' k => h2 e' k⟩
  | ok z =>
    unfold Out.fin
    by_cases hz : z.le 2048
    · simp only [hz, decide_true, cond_true]
      exact ⟨fun x k => by cases k; exact ⟨h1 _ rfl, hz⟩, fun e k => (by cases k)⟩
    · simp only [hz, decide_false, cond_false]
      exact ⟨fun x k => (by cases k), fun e k => by cases k; decide⟩
theorem Fit.err {e : Int} (h : e ≠ 0) : Fit (.error e) := ⟨fun x k => (by cases k), fun e' k => by cases k; exact h⟩
theorem Fit.one {x : RI} {o : Out} (h : Fit o.fin) : Fit (x.fin o) := by
  unfold RI.fin
  cases x.big with
  | true => exact .err (by decide)
  | false => exact h
theorem Fit.two {x y : RI} {o : Out} (h : Fit o.fin) : Fit (x.fin2 y o) := by
  unfold RI.fin2
  cases x.big || y.big with
  | true => exact .err (by decide)
  | false => exact h
theorem Fit.prec {p : Int} {z : NS} (hz : z.ok) : Fit (Out.fin (Out.prec p (.ok z))) := by
  unfold Out.prec
  cases bad p with
  | true => exact .err (by decide)
  | false => exact Fit.fin (fun x k => by cases k; exact hz) (fun e k => (by cases k))
theorem Fit.of {z : NS} (hz : z.ok) : Fit (Out.fin (.ok z)) := Fit.fin (fun x k => by cases k; exact hz) (fun e k => (by cases k))
end Go.Q
namespace Go.Q
open Go.Proofs
set_option maxRecDepth 100000
set_option maxHeartbeats 4000000
theorem Ir.ea {h : PH} {r : Value} {e : Int} (k : Ir h r (.error e)) : r = .tuple #[.agg #[.bool false, .slice none 0 0, .slice none 0 0, .bool false, .slice none 0 0, .slice none 0 0, .bool false, .bool false], .int .i64 e] := k
theorem Ir.oa {h : PH} {r : Value} {x : NS} (k : Ir h r (.ok x)) : ∃ b1 a1 m1 c1 a2 m2 c2 b2 a3 m3 c3 a4 m4 c4 l u, r = .tuple #[.agg #[.bool b1, .slice a1 m1 c1, .slice a2 m2 c2, .bool b2, .slice a3 m3 c3, .slice a4 m4 c4, .bool l, .bool u], .int .i64 0] ∧
    Cv h (.agg #[.bool b1, .slice a1 m1 c1, .slice a2 m2 c2, .bool b2, .slice a3 m3 c3, .slice a4 m4 c4, .bool l, .bool u]) x := by
  obtain ⟨u, rfl, c⟩ := k
  obtain ⟨_, _, _, _, _, _, _, _, _, _, _, _, _, _, _, _, rfl, c⟩ := c.sa
  exact ⟨_, _, _, _, _, _, _, _, _, _, _, _, _, _, _, _, rfl, c⟩
theorem Cv.ir {h : PH} {v : Value} {x : NS} (c : Cv h v x) : Ir h (.tuple #[v, .int .i64 0]) (.ok x) := ⟨v, rfl, c⟩
theorem Fit.ok {x : NS} (h1 : x.ok) (h2 : x.le 2048) : Fit (.ok x) := ⟨fun z k => (by cases k; exact ⟨h1, h2⟩), fun e k => (by cases k)⟩
end Go.Q
namespace Go.Q
open Go.Proofs
open Go.RowKit (Below)
set_option maxRecDepth 100000
set_option maxHeartbeats 4000000
theorem idle_Bo (p q : Value) (w : World) : CallsD mach.P 98 #[p, q] .returning w fun e u' w' => e = .returned (.tuple #[]) ∧ u' = .returning ∧ w' = w := by
  refine callsD_of_wpS Tryz.func98 rfl fun c₀ cs hu => ?_
  apply wpS_seq
  apply wpS_region
  simp [wpOpsS, go_sem, recoverD, hu, Exit.thenS]
  have hnil : ∀ w : World, (binOp BinOp.eql 20 .nilIface .nilIface).run mach.P w = .ok (.bool true) w := fun _ => by kernel_rfl
  refine wpS_of_wp (wp_block (wp_seq_k fun K hK => ?_))
  apply wp_region
  simp [wpOps, go_sem, hnil, Oper.upon, Exit.then]
  refine .inl (hK _ _ ?_)
  clear hK K
  refine wp_cond_true ?_ ?_
  · simp [Act.eval]
  apply wp_region
  simp [wpOps, go_sem]
  cases c₀
  simp_all [bodyPostS, results, Tryz.results98, Exit.inBlock]
theorem caught_Bo {C : Ctx} {h : PH} {β : Nat → Nat} {w : World} {rv re : List Value} {e : Int} (hf : Fine mach C h w) (hr : Rows C h w β [rv, re]) (h8 : rv.length = 1) (h1 : re.length = 1) :
    CallsD mach.P 98 #[.pointer (some ⟨β 0, 0, none⟩), .pointer (some ⟨β 1, 0, none⟩)] (.panicking [{ v := .iface 108 (.agg #[.int .i64 e]), recovered := false }]) w fun en u' w' =>
      en = .returned (.tuple #[]) ∧ u' = .panicking [{ v := .iface 108 (.agg #[.int .i64 e]), recovered := true }] ∧
      Fine mach C h w' ∧ Rows C h w' β [[.bool false], [.int .i64 e]] := by
  have hnil : ∀ w : World, (binOp BinOp.eql 20 (.iface 108 (.agg #[.int .i64 e])) .nilIface).run mach.P w = .ok (.bool false) w := fun _ => by kernel_rfl
  have has : ∀ w : World, (Instr.typeAssert (.iface 108 (.agg #[.int .i64 e])) 20 108 true).run mach.P w = .ok (.tuple #[.agg #[.int .i64 e], .bool true]) w := fun _ => by kernel_rfl
  refine callsD_of_wpS Tryz.func98 rfl fun c₀ cs hu => ?_
  apply wpS_seq
  apply wpS_region
  simp [wpOpsS, go_sem, recoverD, hu, Exit.thenS]
  refine wpS_of_wp (wp_block (wp_seq_k fun K hK => ?_))
  apply wp_region
  simp [wpOps, go_sem, hnil, Oper.upon, Exit.then]
  refine .inl (hK _ _ ?_)
  clear hK K
  refine wp_cond_false ?_ ?_
  · simp [Act.eval]
  refine wp_seq_k fun K hK => ?_
  apply wp_region
  simp [wpOps, go_sem, has, Oper.upon, Exit.then]
  repeat refine Or.inl ?_
  refine hK _ _ ?_
  clear hK K
  refine wp_cond_true ?_ ?_
  · simp [Act.eval]
  match rv, re, h8, h1 with
  | [r0], [q0], _, _ =>
  refine wp_mono (AWP_use (M := mach) (n := 15) (C := ⟨C.w0, C.h0, [β 0, β 1], []⟩) (S := ⟨[(0, .p 0 0), (1, .p 1 0), (11, .v (.agg #[.int .i64 e]))], [[r0], [q0]]⟩) (h := h) (β := β) (E := NP)
    (Q := fun en S h' => en = .normal ∧ h' = h ∧ 2 ≤ S.bx.length ∧ S.box 0 = [.bool false] ∧ S.box 1 = [.int .i64 e]) ?_ ?_) ?_
  · refine ⟨by simp, rfl, hf.re rfl rfl, fun i cs hi hc => (hr.at_ i cs hi hc).re rfl, hr.inj, fun t => ?_, fun t i hi => ?_, by simp, fun i hi => ?_⟩
    · simp only [lk]
      by_cases h0 : t = 0
      · subst h0; exact .inr rfl
      · by_cases h1 : t = 1
        · subst h1; exact .inr rfl
        · by_cases h2 : t = 11
          · subst h2; exact .inr rfl
          · refine .inl ?_
            have e0 : (0 == t) = false := by simp; omega
            have e1 : (1 == t) = false := by simp; omega
            have e2 : (11 == t) = false := by simp; omega
            simp [e0, e1, e2]
    · simp only [lk] at hi
      by_cases h0 : t = 0
      · subst h0; simp [AV.ix] at hi; subst hi; simp
      · by_cases h1 : t = 1
        · subst h1; simp [AV.ix] at hi; subst hi; simp
        · have e0 : (0 == t) = false := by simp; omega
          have e1 : (1 == t) = false := by simp; omega
          rw [e0, e1] at hi
          cases hx : (11 == t) <;> rw [hx] at hi <;> cases hi
    · simp only [List.length_cons, List.length_nil] at hi
      match i, hi with
      | 0, _ => rfl
      | 1, _ => rfl
  · repeat (first | (refine rg rfl rfl (fun K hK => ?_); (repeat (first | (refine wo rfl (fun k hk => ?_); simp (disch := omega) only [go_sem, Nat.reduceBEq, Nat.reduceAdd]; refine hk _ _ ?_; clear hk k) | refine wkt rfl ?_)); (try refine wk0 ?_); refine hK _ _ ?_; clear hK K; (try dsimp only [behind, qs, qb])) | ((first | refine AWP_exit ?_ | refine AWP_skip ?_); simp (disch := decide) only [qs, qb, if_true, if_false, reduceIte]) | refine AWP_sq rfl (fun K hK => ?_) | refine ct rfl ?_ | ((first | refine hK _ _ ?_ | (clear hK; refine hK _ _ ?_) | (clear hK; clear hK; refine hK _ _ ?_)); clear hK; (try clear K)))
    refine AWP_yk (.alt 0 (.alt 1 (.alt 2 (.alt 3 (.alt 4 .done .no) .no) (.alt 3 (.alt 2 (.alt 4 .done .no) .no) .no)) (.alt 3 (.alt 1 (.alt 2 (.alt 4 .done .no) .no) .no) .no)) (.alt 1 (.alt 0 (.alt 2 (.alt 3 (.alt 4 .done .no) .no) (.alt 3 (.alt 2 (.alt 4 .done .no) .no) .no)) (.alt 2 (.alt 0 (.alt 3 (.alt 4 .done .no) .no) .no) .no)) .no)) (by decide +kernel) rfl (fun K hK => ?_)
    have fin : ∀ S h', h' = h → S.box 0 = [.bool false] → S.box 1 = [.int .i64 e] → 2 ≤ S.bx.length → K S h' := fun S h' e0 e1 e2 e3 => hK _ _ ⟨rfl, e0, e3, e1, e2⟩
    clear hK
    repeat' (first | exact wt_no | exact wt_done (fin _ _ rfl rfl rfl (by simp)) | refine wt_alt ?_ ?_ | (refine wk (fun k hk => ?_); simp (disch := omega) only [go_sem, Nat.reduceBEq, Nat.reduceAdd]; refine hk _ _ ?_; clear hk k; with_reducible refine wk0 ?_))
  · intro en a' w' hq
    cases en with
    | normal =>
      obtain ⟨S', h', β', g', _, rfl, hl, hb0, hb1⟩ := hq
      have e0 : β' 0 = β 0 := g'.pin.2 0 (by simp)
      have e1 : β' 1 = β 1 := g'.pin.2 1 (by simp)
      have x0 := g'.boxes 0 _ (box_get hl) (by rw [hb0]; simp)
      have x1 := g'.boxes 1 _ (box_get hl) (by rw [hb1]; simp)
      have ne := g'.inj 0 1 _ _ (box_get hl) (box_get hl) (by rw [hb0]; simp) (by rw [hb1]; simp)
      rw [e0, hb0] at x0
      rw [e1, hb1] at x1
      rw [e0, e1] at ne
      cases c₀
      simp only [Exit.inBlock, bodyPostS]
      refine ⟨g'.defers, _, rfl, _, results_none rfl _ _ _, rfl, rfl, g'.fine.re rfl rfl, rows_two (x0.re rfl) (x1.re rfl) (fun e => by simpa using ne e)⟩
    | panic ch => obtain ⟨_, _, _, hq⟩ := hq; exact (hq : False).elim
    | outgrown => exact (hq : False).elim
    | _ => obtain ⟨_, _, _, _, hq, _⟩ := hq; cases hq
def offBo (β : Nat → Nat) : Deferred := { target := .fn (.func 98) #[.pointer (some ⟨β 0, 0, none⟩), .pointer (some ⟨β 1, 0, none⟩)], args := #[] }
theorem try_Bo {h : PH} {f : FuncId} {cap : Array Value} {w : World} (hw : Has w h) (hg : Sub mach.gl h) (hc : callable mach.P f = true) {Y : Ending → World → Prop}
    (hk : ∀ (w1 : World), Has w1 h → Calls mach.P f cap w1 fun e w2 => ∃ h3, Below w1.heap.size w1 w2 ∧ Has w2 h3 ∧ Sub h h3 ∧ New w1.heap.size h h3 ∧ match e with
        | .returned v => (∃ r0, v = Value.bool r0 ∧ [Value.bool r0].all Value.oneCell' = true) ∧ ∀ w3, Fine mach ⟨w, h, [], []⟩ h3 w3 → Y (.returned (.tuple #[v, .int .i64 0])) w3
        | .panicked ch => ∃ e, ch = [{ v := .iface 108 (.agg #[.int .i64 e]), recovered := false }] ∧ ∀ w3, Fine mach ⟨w, h, [], []⟩ h3 w3 → Y (.returned (.tuple #[.bool false, .int .i64 e])) w3
        | .outgrown => False) : Calls mach.P 43 #[.func (.func f) #[] cap] w Y := by
  refine calls_of_wp_defers Tryz.func43 rfl ?_
  refine wp_seq (wp_mono (AWP_use (E := NP) (Q := fun e S h' => e = .normal ∧ h' = h ∧ S = ⟨[(3, .p 1 0), (2, .p 0 0), (0, .v (.func (.func f) #[] cap))], [[.bool false], [.int .i64 0]]⟩) (G.start (M := mach) (n := 7) (args := [(.func (.func f) #[] cap)]) [] rfl (by simp) hw hg) ?_) ?_)
  · refine AWP_s rfl ?_
    (repeat (first | (refine wo rfl (fun k hk => ?_); simp (disch := omega) only [go_sem, Nat.reduceBEq, Nat.reduceAdd]; refine hk _ _ ?_; clear hk k) | refine wkt rfl ?_)); (try refine wk0 ?_)
    exact ⟨rfl, rfl, rfl⟩
  · intro en a w1 hq
    cases en with
    | normal =>
      obtain ⟨S', h', β, g, _, rfl, rfl⟩ := hq
      refine wp_seq (wp_region_s ?_)
      show RWc _ _ _ [0, 1] _ _
      refine RWc_r (.func (.func 98) #[] #[.pointer (some ⟨β 0, 0, none⟩), .pointer (some ⟨β 1, 0, none⟩)]) rfl rfl rfl (fun w' hb => ?_) ?_
      · simp [execOp, Instr.makeFunc, (g.below hb).ev_p (x := .tmp 2) rfl, (g.below hb).ev_p (x := .tmp 3) rfl]
      · have g4 := g.put (d := some 4) (fun k hk => by cases hk; decide) (x := .top) (v := (.func (.func 98) #[] #[.pointer (some ⟨β 0, 0, none⟩), .pointer (some ⟨β 1, 0, none⟩)])) (.inl rfl) (fun i hi => by cases hi)
        have e4 : (a.put (some 4) (.func (.func 98) #[] #[.pointer (some ⟨β 0, 0, none⟩), .pointer (some ⟨β 1, 0, none⟩)])).eval (.tmp 4) = (.func (.func 98) #[] #[.pointer (some ⟨β 0, 0, none⟩), .pointer (some ⟨β 1, 0, none⟩)]) := by
          have := g.size
          simp [Act.eval, Act.put, this]
        refine RWc_i rfl (by decide) rfl (wp_off (offBo β) ?_ ⟨.inr (Below.refl _ _), ?_⟩)
        · simp [execOp, offBo, resolve, Deferred.ofValue, e4]
        · refine RWc_then (a' := { a.put (some 4) (.func (.func 98) #[] #[.pointer (some ⟨β 0, 0, none⟩), .pointer (some ⟨β 1, 0, none⟩)]) with defers := [offBo β] }) ?_ ?_
          · simp [Act.put, show a.defers = [] from g.defers]
          · have g5 := g4.re (C' := ⟨w, h', [β 0, β 1], [offBo β]⟩) rfl rfl [offBo β] rfl ⟨by simp [AS.put], fun i hi => by
              match i, hi with
              | 0, _ => rfl
              | 1, _ => rfl⟩
            generalize ({ a.put (some 4) (.func (.func 98) #[] #[.pointer (some ⟨β 0, 0, none⟩), .pointer (some ⟨β 1, 0, none⟩)]) with defers := [offBo β] } : Act) = a5 at g5 ⊢
            clear e4 g4 g
            simp only [AS.put, st, Nat.reduceBEq, cond_false] at g5
            refine wp_seq (wp_region_s ?_)
            show RWc _ _ _ [0, 1, 2, 3] _ _
            refine RWc_r (.func (.func f) #[] cap) rfl rfl rfl (fun w' hb => ?_) ?_
            · simp [execOp, (g5.below hb).ev_v (x := .tmp 0) rfl]
            · have g6 := g5.put (d := some 5) (fun k hk => by cases hk; decide) (x := .v (.func (.func f) #[] cap)) (v := (.func (.func f) #[] cap)) (.inr rfl) (fun i hi => by cases hi)
              refine RWc_i rfl (by decide) rfl (wp_enter (f := f) (args := cap) ?_ ?_)
              · exact run_fv g6 (t := 5) rfl rfl hc
              · refine (hk w1 g6.fine.has).mono fun en w2 hp => ?_
                obtain ⟨h3, hb, hh, hs, hn, hp⟩ := hp
                cases en with
                | outgrown => exact hp
                | returned v =>
                  obtain ⟨⟨r0, rfl, hone⟩, hY⟩ := hp
                  refine ⟨.inr hb, ?_⟩
                  have g7 := (g6.grow hb hh hs hn).put (d := some 6) (fun k hk => by cases hk; decide) (x := .v (Value.bool r0)) (v := Value.bool r0) (.inr rfl) (fun i hi => by cases hi)
                  refine RWc_to (Q := LQ mach 7 ⟨w, h', [β 0, β 1], [offBo β]⟩ (fun e S h'' => e = .normal ∧ h'' = h3 ∧ 2 ≤ S.bx.length ∧ lk S.sl 2 = .p 0 0 ∧ lk S.sl 3 = .p 1 0 ∧ S.box 0 = [Value.bool r0] ∧ S.box 1 = [.int .i64 0]) NP) ?_ ?_ ?_ [2, 3] _ _ (RWc_of_walk [.o 2, .o 3] _ _ _ _ _ _ rfl ?_ g7)
                  · rintro a8 w3 ⟨S8, h8, β8, g8, _, rfl, hl, l2, l3, b0, b1⟩
                    refine wp_ret ?_
                    show Leaves mach.P _ a8.tmps Y a8.defers .returning w3
                    rw [show a8.defers = [offBo β] from g8.defers]
                    refine leaves_cons (f := 98) (args := #[.pointer (some ⟨β 0, 0, none⟩), .pointer (some ⟨β 1, 0, none⟩)]) (by simp) (by simp [go_sem]; exact run_call (by kernel_rfl) _ _) ?_
                    refine (idle_Bo _ _ _).mono ?_
                    rintro e u' w'' ⟨rfl, rfl, rfl⟩
                    simp only [settle, Leaves]
                    refine ⟨_, res_run g8 (v := .tuple #[Value.bool r0, .int .i64 0]) ?_, hY _ (g8.fine.re rfl rfl)⟩
                    show resA mach.P S8 [.cell 2 4, .cell 3 29] = _
                    have b0' : S8.bx.getD 0 [] = _ := b0
                    have b1' : S8.bx.getD 1 [] = _ := b1
                    simp only [resA, resL, res1, l2, l3, ldb, b0', b1', go_sem]
                    all_goals rfl
                  · rintro ch a w ⟨_, _, _, hq⟩; exact (hq : False).elim
                  · intro a w hq; exact (hq : False).elim
                  · simp only [AS.put, st, Nat.reduceBEq, cond_false]
                    refine wk (fun k hk => ?_)
                    simp (disch := omega) only [go_sem, Nat.reduceBEq, Nat.reduceAdd]
                    (first | refine ⟨by simpa [Value.oneCell'] using hone, hk _ _ ?_⟩ | refine hk _ _ ?_)
                    clear hk k
                    (repeat (first | (refine wo rfl (fun k hk => ?_); simp (disch := omega) only [go_sem, Nat.reduceBEq, Nat.reduceAdd]; refine hk _ _ ?_; clear hk k) | refine wkt rfl ?_)); (try refine wk0 ?_)
                    exact ⟨trivial, rfl, by simp, rfl, rfl, rfl, rfl⟩
                | panicked ch =>
                  obtain ⟨e, rfl, hY⟩ := hp
                  have g7 := g6.grow hb hh hs hn
                  show Leaves mach.P _ (a5.put (some 5) (.func (.func f) #[] cap)).tmps Y (a5.put (some 5) (.func (.func f) #[] cap)).defers (.panicking _) w2
                  rw [show (a5.put (some 5) (.func (.func f) #[] cap)).defers = [offBo β] from g7.defers]
                  refine leaves_cons (f := 98) (args := #[.pointer (some ⟨β 0, 0, none⟩), .pointer (some ⟨β 1, 0, none⟩)]) (by simp) (by simp [go_sem]; exact run_call (by kernel_rfl) _ _) ?_
                  refine (caught_Bo g7.fine ⟨g7.boxes, g7.inj⟩ rfl rfl).mono ?_
                  rintro en u' w'' ⟨rfl, rfl, hf, hr⟩
                  simp only [settle, Leaves, List.dropWhile_nil]
                  have g9 : G mach ⟨w, h', [β 0, β 1], [offBo β]⟩ 7 ⟨_, [[.bool false], [.int .i64 e]]⟩ h3 β (a5.put (some 5) (.func (.func f) #[] cap)) w'' := ⟨g7.size, g7.defers, hf, hr.at_, hr.inj, g7.slots, g7.wf, g7.pin⟩
                  refine ⟨_, res_run g9 (v := .tuple #[.bool false, .int .i64 e]) ?_, hY _ (hf.re rfl rfl)⟩
                  show resA mach.P _ [.cell 2 4, .cell 3 29] = _
                  simp only [resA, resL, res1, ldb, go_sem]
                  all_goals rfl
    | panic ch => obtain ⟨_, _, _, hq⟩ := hq; exact (hq : False).elim
    | outgrown => exact (hq : False).elim
    | _ => obtain ⟨_, _, _, _, hq, _⟩ := hq; cases hq
theorem tryBo_ok {h : PH} {f : FuncId} {cap : Array Value} {R R' : Value → PH → Prop} (s : Spec mach f cap h R NP) (hR : ∀ v h', Sub h h' → R v h' → (∃ r0, v = Value.bool r0 ∧ [Value.bool r0].all Value.oneCell' = true) ∧ R' (.tuple #[v, .int .i64 0]) h') :
    Spec mach 43 #[.func (.func f) #[] cap] h R' NP := ⟨by kernel_rfl, fun w hw hg => try_Bo hw hg s.ok fun w1 hw1 => (s.run w1 hw1 hg).mono fun e w2 hp => by
  cases e with
  | outgrown => exact (hp : False).elim
  | panicked ch => obtain ⟨_, _, _, _, _, hp⟩ := hp; exact (hp : False).elim
  | returned v =>
    obtain ⟨h3, hb, hh, hs, hn, hr⟩ := hp
    obtain ⟨hv, hr⟩ := hR v h3 hs hr
    exact ⟨h3, hb, hh, hs, hn, hv, fun w3 hf => ⟨h3, hf.below, hf.has, hf.sub, hf.new, hr⟩⟩⟩
theorem tryBo_fail {h : PH} {f : FuncId} {cap : Array Value} {e : Int} {R' : Value → PH → Prop} (s : Spec mach f cap h NR (fail e)) (hR : ∀ h', Sub h h' → R' (.tuple #[.bool false, .int .i64 e]) h') :
    Spec mach 43 #[.func (.func f) #[] cap] h R' NP := ⟨by kernel_rfl, fun w hw hg => try_Bo hw hg s.ok fun w1 hw1 => (s.run w1 hw1 hg).mono fun en w2 hp => by
  cases en with
  | outgrown => exact (hp : False).elim
  | returned v => obtain ⟨_, _, _, _, _, hp⟩ := hp; exact (hp : False).elim
  | panicked ch =>
    obtain ⟨h3, hb, hh, hs, hn, hr⟩ := hp
    exact ⟨h3, hb, hh, hs, hn, e, hr, fun w3 hf => ⟨h3, hf.below, hf.has, hf.sub, hf.new, hR h3 hs⟩⟩⟩
end Go.Q
