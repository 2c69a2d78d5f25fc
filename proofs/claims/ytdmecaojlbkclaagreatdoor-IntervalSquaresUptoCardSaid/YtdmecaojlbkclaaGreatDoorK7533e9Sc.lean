/-
  The statements' own comparisons: canonical intervals, equal intervals, results as they are asked for. Conditions: the values are canonical intervals (Cv) of sets in order.
-/
import Derived.Test.YtdmecaojlbkclaaGreatDoorKa25014Sb
import Derived.Test.YtdmecaojlbkclaaGreatDoorKc142caBunM
import Derived.Test.YtdmecaojlbkclaaGreatDoorRaBunC
set_option linter.unusedVariables false
set_option linter.unusedSimpArgs false
namespace Go.Q
open Go.Proofs
set_option maxRecDepth 100000
set_option maxHeartbeats 4000000
namespace NS
def clo : NS → Rat
  | .e => 1
  | .i a _ => a.getD 0
def chi : NS → Rat
  | .e => 0
  | .i _ b => b.getD 0
theorem le_c {k : Nat} {x : NS} (hk : 1 ≤ k) (h : x.le k) : sz x.clo ≤ k ∧ sz x.chi ≤ k := by
  have h0 : sz 0 ≤ k := Nat.le_trans sz_zero hk
  have h1 : sz 1 ≤ k := Nat.le_trans (by decide) hk
  cases x with
  | e => exact ⟨h1, h0⟩
  | i a b =>
    rw [le_i] at h
    refine ⟨?_, ?_⟩
    · cases a with
      | none => exact h0
      | some a => exact h.1 _ rfl
    · cases b with
      | none => exact h0
      | some b => exact h.2 _ rfl
end NS
theorem Cv.fl {h : PH} {v : Value} {x : NS} (r : Cv h v x) : ∃ b1 a1 m1 c1 a2 m2 c2 b2 a3 m3 c3 a4 m4 c4, v = .agg #[.bool b1, .slice a1 m1 c1, .slice a2 m2 c2, .bool b2, .slice a3 m3 c3, .slice a4 m4 c4, .bool x.loN, .bool x.hiN] ∧
    Cn h (.agg #[.bool b1, .slice a1 m1 c1, .slice a2 m2 c2]) x.clo ∧ Cn h (.agg #[.bool b2, .slice a3 m3 c3, .slice a4 m4 c4]) x.chi := by
  have r0 := r
  obtain ⟨b1, x1, y1, b2, x2, y2, rfl, h1, h2⟩ := r
  obtain ⟨_, _, _, _, _, _, _, e1, _⟩ := h1.sa
  obtain ⟨_, _, _, _, _, _, _, e2, _⟩ := h2.sa
  simp only [Value.agg.injEq, Array.mk.injEq, List.cons.injEq, and_true] at e1 e2
  obtain ⟨_, rfl, rfl⟩ := e1
  obtain ⟨_, rfl, rfl⟩ := e2
  cases x with
  | e => exact ⟨_, _, _, _, _, _, _, _, _, _, _, _, _, _, rfl, h1, h2⟩
  | i a b => exact ⟨_, _, _, _, _, _, _, _, _, _, _, _, _, _, rfl, h1, h2⟩
def NS.ri (x : NS) : RI := ⟨decide (x.clo.num < 0), x.clo.num.natAbs, if x.clo.den = 1 then 0 else x.clo.den, decide (x.chi.num < 0), x.chi.num.natAbs, if x.chi.den = 1 then 0 else x.chi.den, x.loN, x.hiN⟩
theorem Cv.iv {h : PH} {v : Value} {x : NS} (r : Cv h v x) (hf : x.le 2048) : Iv h v x.ri := by
  obtain ⟨b1, a1, m1, c1, a2, m2, c2, b2, a3, m3, c3, a4, m4, c4, rfl, h1, h2⟩ := r.fl
  have hs := NS.le_c (by decide) hf
  exact Iv.mk (h1.rw (Nat.le_trans hs.1 (by decide))) (h2.rw (Nat.le_trans hs.2 (by decide))) _ _
theorem NS.ri_big {x : NS} (hf : x.le 2048) : x.ri.big = false := by
  have hs := NS.le_c (by decide) hf
  unfold RI.big NS.ri
  dsimp only
  have h1 : ¬ lg (decide (x.clo.num < 0)) x.clo.num.natAbs (if x.clo.den = 1 then 0 else x.clo.den) := by rw [lg_cn]; omega
  have h2 : ¬ lg (decide (x.chi.num < 0)) x.chi.num.natAbs (if x.chi.den = 1 then 0 else x.chi.den) := by rw [lg_cn]; omega
  simp only [h1, h2, decide_false, Bool.or_self]
theorem NS.ri_set {x : NS} (hx : x.ok) : x.ri.set = x := by
  unfold RI.set RI.lo RI.hi NS.ri
  dsimp only
  rw [qof_cn, qof_cn]
  cases x with
  | e => simp [NS.loN, NS.hiN, NS.clo, NS.chi, NS.mk', ordO, show decide ((0 : Rat) < 1) = true by decide]
  | i a b => cases a <;> cases b <;> simp [NS.loN, NS.hiN, NS.clo, NS.chi, NS.mk'] <;> simp [NS.ok] at hx <;> simp [hx] <;> rfl
theorem None01 {h : PH} : Spec mach 86 #[zRat] h (fun r _ => r = .bool true) NP := by
  unfold zRat
  refine Spec.enter (args := [_]) (n := 18) Tryz.func86 rfl (by kernel_rfl) rfl (by simp) [.tmp 2] rfl (fun C _ => ?_)
  repeat (first | (refine wo rfl (fun k hk => ?_); simp (disch := omega) only [go_sem, Nat.reduceBEq, Nat.reduceAdd]; refine hk _ _ ?_; clear hk k) | refine wkt rfl ?_ | refine wk0 ?_ | refine rg rfl rfl (fun K hK => ?_) | ((first | refine AWP_exit ?_ | refine AWP_skip ?_); simp (disch := decide) only [qs, qb, if_true, if_false, reduceIte]) | refine AWP_sq rfl (fun K hK => ?_) | refine ct rfl ?_ | ((try simp (disch := omega) only [go_sem, Nat.reduceBEq, Nat.reduceAdd]); (first | apply hK | (clear hK; apply hK) | (clear hK; clear hK; apply hK)); clear hK; (try clear K); (try dsimp only [behind, qs, qb])))
  refine AWP_ret ?_; simp (disch := omega) only [go_sem, Nat.reduceBEq, Nat.reduceAdd]
theorem None03 {h : PH} : Spec mach 35 #[zIv] h (fun r _ => r = .bool true) NP := by
  unfold zIv
  refine Spec.enter (args := [_]) (n := 21) Tryz.func35 rfl (by kernel_rfl) rfl (by simp) [.tmp 2] rfl (fun C _ => ?_)
  repeat (first | (refine wo rfl (fun k hk => ?_); simp (disch := omega) only [go_sem, Nat.reduceBEq, Nat.reduceAdd]; refine hk _ _ ?_; clear hk k) | refine wkt rfl ?_ | refine wk0 ?_ | refine rg rfl rfl (fun K hK => ?_) | ((first | refine AWP_exit ?_ | refine AWP_skip ?_); simp (disch := decide) only [qs, qb, if_true, if_false, reduceIte]) | refine AWP_sq rfl (fun K hK => ?_) | refine ct rfl ?_ | ((try simp (disch := omega) only [go_sem, Nat.reduceBEq, Nat.reduceAdd]); (first | apply hK | (clear hK; apply hK) | (clear hK; clear hK; apply hK)); clear hK; (try clear K); (try dsimp only [behind, qs, qb])))
  refine cN rfl rfl rfl rfl (by exact None01) ?_; rintro v1 h1 s1 rfl; (repeat (first | (refine wo rfl (fun k hk => ?_); simp (disch := omega) only [go_sem, Nat.reduceBEq, Nat.reduceAdd]; refine hk _ _ ?_; clear hk k) | refine wkt rfl ?_)); (try refine wk0 ?_)
  refine cN rfl rfl rfl rfl (by exact None01) ?_; rintro v2 h2 s2 rfl; (repeat (first | (refine wo rfl (fun k hk => ?_); simp (disch := omega) only [go_sem, Nat.reduceBEq, Nat.reduceAdd]; refine hk _ _ ?_; clear hk k) | refine wkt rfl ?_)); (try refine wk0 ?_)
  (try (simp (disch := omega) only [go_sem, Nat.reduceBEq, Nat.reduceAdd])); refine hK _ _ ?_; clear hK; (try clear K); (try dsimp only [behind, qs])
  refine AWP_ret ?_; simp (disch := omega) only [go_sem, Nat.reduceBEq, Nat.reduceAdd]
theorem RefCanonical {h0 h : PH} [Le h0 h] {v : Value} {x : NS} (hv : Cv h0 v x) (hx : x.ok) (hf : x.le 2048) : Spec mach 36 #[v] h (fun r _ => r = .bool true) NP := by
  have hi := hv.iv hf
  have hg := NS.ri_big hf
  have hset := NS.ri_set hx
  have hs := NS.le_c (by decide) hf
  obtain ⟨b1, a1, m1, c1, a2, m2, c2, b2, a3, m3, c3, a4, m4, c4, rfl, t1, t2⟩ := hv.fl
  have w1 := t1.rw (Nat.le_trans hs.1 (by decide))
  have w2 := t2.rw (Nat.le_trans hs.2 (by decide))
  obtain ⟨l, el⟩ : ∃ l, x.loN = l := ⟨_, rfl⟩
  obtain ⟨u, eu⟩ : ∃ u, x.hiN = u := ⟨_, rfl⟩
  have kO := fun {h} [Le h0 h] => RefOf (h := h) hi hg
  rw [hset] at kO
  rw [el, eu] at kO ⊢
  have key : ∀ h' [Le h0 h'] v', Cv h' v' x → ∃ b1 a1 m1 c1 a2 m2 c2 b2 a3 m3 c3 a4 m4 c4, v' = .agg #[.bool b1, .slice a1 m1 c1, .slice a2 m2 c2, .bool b2, .slice a3 m3 c3, .slice a4 m4 c4, .bool l, .bool u] ∧ Cn h' (.agg #[.bool b1, .slice a1 m1 c1, .slice a2 m2 c2]) x.clo ∧ Cn h' (.agg #[.bool b2, .slice a3 m3 c3, .slice a4 m4 c4]) x.chi := by
    intro h' _ v' r
    rw [← el, ← eu]; exact r.fl
  have z1 : sz x.clo ≤ 2 ^ 30 := Nat.le_trans hs.1 (by decide)
  have z2 : sz x.chi ≤ 2 ^ 30 := Nat.le_trans hs.2 (by decide)
  have z3 : sz (qof (decide (x.clo.num < 0)) x.clo.num.natAbs (if x.clo.den = 1 then 0 else x.clo.den)) ≤ 2 ^ 34 := by rw [qof_cn]; omega
  have z4 : sz (qof (decide (x.chi.num < 0)) x.chi.num.natAbs (if x.chi.den = 1 then 0 else x.chi.den)) ≤ 2 ^ 34 := by rw [qof_cn]; omega
  cases l <;> cases u <;>
  · refine Spec.enter (args := [_]) (n := 43) Tryz.func36 rfl (by kernel_rfl) rfl (by simp) [.tmp 2] rfl (fun C _ => ?_)
    repeat (first | (refine wo rfl (fun k hk => ?_); simp (disch := omega) only [go_sem, Nat.reduceBEq, Nat.reduceAdd]; refine hk _ _ ?_; clear hk k) | refine wkt rfl ?_ | refine wk0 ?_ | refine rg rfl rfl (fun K hK => ?_) | ((first | refine AWP_exit ?_ | refine AWP_skip ?_); simp (disch := decide) only [qs, qb, if_true, if_false, reduceIte]) | refine AWP_sq rfl (fun K hK => ?_) | refine ct rfl ?_ | ((try simp (disch := omega) only [go_sem, Nat.reduceBEq, Nat.reduceAdd]); (first | apply hK | (clear hK; apply hK) | (clear hK; clear hK; apply hK)); clear hK; (try clear K); (try dsimp only [behind, qs, qb])))
    refine cN rfl rfl rfl rfl (by exact Canonical_cn t1 z1) ?_; rintro v1 h1 s1 rfl; (repeat (first | (refine wo rfl (fun k hk => ?_); simp (disch := omega) only [go_sem, Nat.reduceBEq, Nat.reduceAdd]; refine hk _ _ ?_; clear hk k) | refine wkt rfl ?_)); (try refine wk0 ?_)
    refine cN rfl rfl rfl rfl (by exact Canonical_cn t2 z2) ?_; rintro v2 h2 s2 rfl
    repeat (first | (refine wo rfl (fun k hk => ?_); simp (disch := omega) only [go_sem, Nat.reduceBEq, Nat.reduceAdd]; refine hk _ _ ?_; clear hk k) | refine wkt rfl ?_ | refine wk0 ?_ | refine rg rfl rfl (fun K hK => ?_) | ((first | refine AWP_exit ?_ | refine AWP_skip ?_); simp (disch := decide) only [qs, qb, if_true, if_false, reduceIte]) | refine AWP_sq rfl (fun K hK => ?_) | refine ct rfl ?_ | ((try simp (disch := omega) only [go_sem, Nat.reduceBEq, Nat.reduceAdd]); (first | apply hK | (clear hK; apply hK) | (clear hK; clear hK; apply hK)); clear hK; (try clear K); (try dsimp only [behind, qs, qb])))
    refine cN rfl rfl rfl rfl (by exact kO) ?_; rintro v3 h3 s3 q3; (repeat (first | (refine wo rfl (fun k hk => ?_); simp (disch := omega) only [go_sem, Nat.reduceBEq, Nat.reduceAdd]; refine hk _ _ ?_; clear hk k) | refine wkt rfl ?_)); (try refine wk0 ?_)
    refine cN rfl rfl rfl rfl (by exact RefApi q3 (hf.up (by decide))) ?_; rintro v4 h4 s4 q4; obtain ⟨_, _, _, _, _, _, _, _, _, _, _, _, _, _, rfl, q5, q6⟩ := key _ _ q4; (repeat (first | (refine wo rfl (fun k hk => ?_); simp (disch := omega) only [go_sem, Nat.reduceBEq, Nat.reduceAdd]; refine hk _ _ ?_; clear hk k) | refine wkt rfl ?_)); (try refine wk0 ?_)
    (try (simp (disch := omega) only [go_sem, Nat.reduceBEq, Nat.reduceAdd])); refine hK _ _ ?_; clear hK; (try clear K); (try dsimp only [behind, qs])
    refine rg rfl rfl (fun K hK => ?_); (repeat (first | (refine wo rfl (fun k hk => ?_); simp (disch := omega) only [go_sem, Nat.reduceBEq, Nat.reduceAdd]; refine hk _ _ ?_; clear hk k) | refine wkt rfl ?_)); (try refine wk0 ?_)
    refine cN rfl rfl rfl rfl (by exact Same_spec (q5.rw z1) (w1.to (h' := h4)) z3 z3) ?_; rintro v5 h5 s5 q7; simp only [decide_true] at q7; subst q7; (repeat (first | (refine wo rfl (fun k hk => ?_); simp (disch := omega) only [go_sem, Nat.reduceBEq, Nat.reduceAdd]; refine hk _ _ ?_; clear hk k) | refine wkt rfl ?_)); (try refine wk0 ?_)
    refine cN rfl rfl rfl rfl (by exact Same_spec ((q6.rw z2).to (h' := h5)) (w2.to (h' := h5)) z4 z4) ?_; rintro v6 h6 s6 q8; simp only [decide_true] at q8; subst q8; (repeat (first | (refine wo rfl (fun k hk => ?_); simp (disch := omega) only [go_sem, Nat.reduceBEq, Nat.reduceAdd]; refine hk _ _ ?_; clear hk k) | refine wkt rfl ?_)); (try refine wk0 ?_)
    (try (simp (disch := omega) only [go_sem, Nat.reduceBEq, Nat.reduceAdd])); refine hK _ _ ?_; clear hK; (try clear K); (try dsimp only [behind, qs])
    refine AWP_ret ?_; simp (disch := omega) only [go_sem, Nat.reduceBEq, Nat.reduceAdd]
theorem cmpQ_self (q : Rat) : cmpQ q q = 0 := by unfold cmpQ; grind
theorem RefSame {h0 h : PH} [Le h0 h] {v w : Value} {x : NS} (hv : Cv h0 v x) (hw : Cv h0 w x) (hx : x.ok) (hf : x.le 2048) : Spec mach 37 #[v, w] h (fun r _ => r = .bool true) NP := by
  have hi := hv.iv hf
  have hj := hw.iv hf
  have hg := NS.ri_big hf
  have hset := NS.ri_set hx
  have hz := (NS.le_ends (by decide)).1 hf
  obtain ⟨_, _, _, _, _, _, _, _, _, _, _, _, _, _, rfl, _, _⟩ := hv.fl
  obtain ⟨_, _, _, _, _, _, _, _, _, _, _, _, _, _, rfl, _, _⟩ := hw.fl
  have kA := fun {h} [Le h0 h] => RefOf (h := h) hi hg
  have kB := fun {h} [Le h0 h] => RefOf (h := h) hj hg
  rw [hset] at kA kB
  clear hi hj hv hw
  refine Spec.enter (args := [_, _]) (n := 51) Tryz.func37 rfl (by kernel_rfl) rfl (by simp) [.tmp 4] rfl (fun C _ => ?_)
  repeat (first | (refine rg rfl rfl (fun K hK => ?_); (repeat (first | (refine wo rfl (fun k hk => ?_); simp (disch := omega) only [go_sem, Nat.reduceBEq, Nat.reduceAdd]; refine hk _ _ ?_; clear hk k) | refine wkt rfl ?_)); (try refine wk0 ?_); refine hK _ _ ?_; clear hK K; (try dsimp only [behind, qs, qb])) | ((first | refine AWP_exit ?_ | refine AWP_skip ?_); simp (disch := decide) only [qs, qb, if_true, if_false, reduceIte]) | refine AWP_sq rfl (fun K hK => ?_) | refine ct rfl ?_ | ((first | refine hK _ _ ?_ | (clear hK; refine hK _ _ ?_) | (clear hK; clear hK; refine hK _ _ ?_)); clear hK; (try clear K)))
  (first | refine AWP_t (.seg [.o 0, .o 2] (.alt 1 (.alt 3 (.alt 4 (.alt 5 (.alt 6 (.alt 7 .done .no) .no) .no) (.alt 5 (.alt 4 (.alt 6 (.alt 7 .done .no) .no) .no) .no)) (.alt 4 (.alt 3 (.alt 5 (.alt 6 (.alt 7 .done .no) .no) .no) (.alt 5 (.alt 3 (.alt 6 (.alt 7 .done .no) .no) .no) .no)) (.alt 5 (.alt 3 (.alt 4 (.alt 6 (.alt 7 .done .no) .no) .no) (.alt 4 (.alt 3 (.alt 6 (.alt 7 .done .no) .no) .no) .no)) .no))) (.alt 4 (.alt 1 (.alt 3 (.alt 5 (.alt 6 (.alt 7 .done .no) .no) .no) (.alt 5 (.alt 3 (.alt 6 (.alt 7 .done .no) .no) .no) .no)) (.alt 5 (.alt 1 (.alt 3 (.alt 6 (.alt 7 .done .no) .no) .no) .no) .no)) (.alt 5 (.alt 1 (.alt 3 (.alt 4 (.alt 6 (.alt 7 .done .no) .no) .no) (.alt 4 (.alt 3 (.alt 6 (.alt 7 .done .no) .no) .no) .no)) (.alt 4 (.alt 1 (.alt 3 (.alt 6 (.alt 7 .done .no) .no) .no) .no) .no)) .no)))) (by decide +kernel) rfl (fun K hK => ?_) | refine AWP_tk (.seg [.o 0, .o 2] (.alt 1 (.alt 3 (.alt 4 (.alt 5 (.alt 6 (.alt 7 .done .no) .no) .no) (.alt 5 (.alt 4 (.alt 6 (.alt 7 .done .no) .no) .no) .no)) (.alt 4 (.alt 3 (.alt 5 (.alt 6 (.alt 7 .done .no) .no) .no) (.alt 5 (.alt 3 (.alt 6 (.alt 7 .done .no) .no) .no) .no)) (.alt 5 (.alt 3 (.alt 4 (.alt 6 (.alt 7 .done .no) .no) .no) (.alt 4 (.alt 3 (.alt 6 (.alt 7 .done .no) .no) .no) .no)) .no))) (.alt 4 (.alt 1 (.alt 3 (.alt 5 (.alt 6 (.alt 7 .done .no) .no) .no) (.alt 5 (.alt 3 (.alt 6 (.alt 7 .done .no) .no) .no) .no)) (.alt 5 (.alt 1 (.alt 3 (.alt 6 (.alt 7 .done .no) .no) .no) .no) .no)) (.alt 5 (.alt 1 (.alt 3 (.alt 4 (.alt 6 (.alt 7 .done .no) .no) .no) (.alt 4 (.alt 3 (.alt 6 (.alt 7 .done .no) .no) .no) .no)) (.alt 4 (.alt 1 (.alt 3 (.alt 6 (.alt 7 .done .no) .no) .no) .no) .no)) .no)))) (by decide +kernel) rfl (fun K hK => ?_))
  have rest : ∀ (cs ds : List Value) (h' : PH) (S : AS) (ix : List Nat), Rr h' (.agg cs.toArray) x → Rr h' (.agg ds.toArray) x → S.leS ⟨[(5, .p 0 0), (6, .p 1 0)], [cs, ds]⟩ ix → K S h' := by
    intro cs ds h' S ix r1 r2 hS
    refine hK _ _ (AWP_leS _ _ hS ?_); clear hK K kA kB
    obtain ⟨_, _, _, _, _, _, _, _, _, _, _, _, _, _, e1, p1, p2⟩ := r1.sa
    obtain ⟨_, _, _, _, _, _, _, _, _, _, _, _, _, _, e2, p3, p4⟩ := r2.sa
    simp only [Value.agg.injEq, Array.mk.injEq] at e1 e2
    subst e1
    subst e2
    cases x with
    | e =>
      dsimp only [NS.loN, NS.hiN, NS.void]
      (repeat (first | (refine rg rfl rfl (fun K hK => ?_); (repeat (first | (refine wo rfl (fun k hk => ?_); simp (disch := omega) only [go_sem, Nat.reduceBEq, Nat.reduceAdd]; refine hk _ _ ?_; clear hk k) | refine wkt rfl ?_)); (try refine wk0 ?_); refine hK _ _ ?_; clear hK K; (try dsimp only [behind, qs, qb])) | ((first | refine AWP_exit ?_ | refine AWP_skip ?_); simp (disch := decide) only [qs, qb, if_true, if_false, reduceIte]) | refine AWP_sq rfl (fun K hK => ?_) | refine ct rfl ?_ | ((first | refine hK _ _ ?_ | (clear hK; refine hK _ _ ?_) | (clear hK; clear hK; refine hK _ _ ?_)); clear hK; (try clear K))))
      refine AWP_ret ?_; simp (disch := omega) only [go_sem, Nat.reduceBEq, Nat.reduceAdd]
    | i a b =>
      obtain ⟨l, el⟩ : ∃ l, (NS.i a b).loN = l := ⟨_, rfl⟩
      obtain ⟨u, eu⟩ : ∃ u, (NS.i a b).hiN = u := ⟨_, rfl⟩
      rw [el, eu]
      dsimp only [NS.void]
      have c1 := fun {h} [Le h' h] => QCmp_spec (h := h) p1 p3 (by omega) (by omega)
      have c2 := fun {h} [Le h' h] => QCmp_spec (h := h) p2 p4 (by omega) (by omega)
      rw [cmpQ_self] at c1 c2
      cases l <;> cases u <;>
      · (repeat (first | (refine rg rfl rfl (fun K hK => ?_); (repeat (first | (refine wo rfl (fun k hk => ?_); simp (disch := omega) only [go_sem, Nat.reduceBEq, Nat.reduceAdd]; refine hk _ _ ?_; clear hk k) | refine wkt rfl ?_)); (try refine wk0 ?_); refine hK _ _ ?_; clear hK K; (try dsimp only [behind, qs, qb])) | ((first | refine AWP_exit ?_ | refine AWP_skip ?_); simp (disch := decide) only [qs, qb, if_true, if_false, reduceIte]) | refine AWP_sq rfl (fun K hK => ?_) | refine ct rfl ?_ | ((first | refine hK _ _ ?_ | (clear hK; refine hK _ _ ?_) | (clear hK; clear hK; refine hK _ _ ?_)); clear hK; (try clear K)))); (refine rg rfl rfl (fun K hK => ?_); (repeat (first | (refine wo rfl (fun k hk => ?_); simp (disch := omega) only [go_sem, Nat.reduceBEq, Nat.reduceAdd]; refine hk _ _ ?_; clear hk k) | refine wkt rfl ?_ | with_reducible refine wk0 ?_ | with_reducible refine wt_seg ?_ | with_reducible refine wt_alt ?_ wt_no | with_reducible refine wt_done ?_)))
        refine cN rfl rfl rfl rfl (by exact c1) ?_; rintro v1 h1 s1 rfl; (repeat (first | (refine wo rfl (fun k hk => ?_); simp (disch := omega) only [go_sem, Nat.reduceBEq, Nat.reduceAdd]; refine hk _ _ ?_; clear hk k) | refine wkt rfl ?_ | with_reducible refine wk0 ?_ | with_reducible refine wt_seg ?_ | with_reducible refine wt_alt ?_ wt_no | with_reducible refine wt_done ?_))
        refine cN rfl rfl rfl rfl (by exact c2) ?_; rintro v2 h2 s2 rfl; (repeat (first | (refine wo rfl (fun k hk => ?_); simp (disch := omega) only [go_sem, Nat.reduceBEq, Nat.reduceAdd]; refine hk _ _ ?_; clear hk k) | refine wkt rfl ?_ | with_reducible refine wk0 ?_ | with_reducible refine wt_seg ?_ | with_reducible refine wt_alt ?_ wt_no | with_reducible refine wt_done ?_))
        (try (simp (disch := omega) only [go_sem, Nat.reduceBEq, Nat.reduceAdd])); refine hK _ _ ?_; clear hK; (try clear K); (try dsimp only [behind, qs])
        refine AWP_ret ?_; simp (disch := omega) only [go_sem, Nat.reduceBEq, Nat.reduceAdd]
  (repeat (first | (refine wo rfl (fun k hk => ?_); simp (disch := omega) only [go_sem, Nat.reduceBEq, Nat.reduceAdd]; refine hk _ _ ?_; clear hk k) | refine wkt rfl ?_ | with_reducible refine wk0 ?_ | with_reducible refine wt_seg ?_ | with_reducible refine wt_alt ?_ wt_no | with_reducible refine wt_done ?_))
  refine wt_alt ?_ (wt_alt ?_ (wt_alt ?_ wt_no))
  · refine cN rfl rfl rfl rfl (by exact kA) ?_; rintro v1 h1 st_h1 f1; obtain ⟨v1_0, v1_1, v1_2, v1_3, v1_4, v1_5, v1_6, v1_7, v1_8, v1_9, v1_10, v1_11, v1_12, v1_13, rfl, f1⟩ := f1.sa; (repeat (first | (refine wo rfl (fun k hk => ?_); simp (disch := omega) only [go_sem, Nat.reduceBEq, Nat.reduceAdd]; refine hk _ _ ?_; clear hk k) | refine wkt rfl ?_ | with_reducible refine wk0 ?_ | with_reducible refine wt_seg ?_ | with_reducible refine wt_alt ?_ wt_no | with_reducible refine wt_done ?_))
    refine wt_alt ?_ (wt_alt ?_ (wt_alt ?_ wt_no))
    · refine cN rfl rfl rfl rfl (by exact kB) ?_; rintro v2 h2 st_h2 f2; obtain ⟨v2_0, v2_1, v2_2, v2_3, v2_4, v2_5, v2_6, v2_7, v2_8, v2_9, v2_10, v2_11, v2_12, v2_13, rfl, f2⟩ := f2.sa; (repeat (first | (refine wo rfl (fun k hk => ?_); simp (disch := omega) only [go_sem, Nat.reduceBEq, Nat.reduceAdd]; refine hk _ _ ?_; clear hk k) | refine wkt rfl ?_ | with_reducible refine wk0 ?_ | with_reducible refine wt_seg ?_ | with_reducible refine wt_alt ?_ wt_no | with_reducible refine wt_done ?_))
      refine wt_alt ?_ (wt_alt ?_ wt_no)
      · (repeat (first | (refine wo rfl (fun k hk => ?_); simp (disch := omega) only [go_sem, Nat.reduceBEq, Nat.reduceAdd]; refine hk _ _ ?_; clear hk k) | refine wkt rfl ?_ | with_reducible refine wk0 ?_ | with_reducible refine wt_seg ?_ | with_reducible refine wt_alt ?_ wt_no | with_reducible refine wt_done ?_))
        refine rest _ _ _ _ [2, 3] f1.to f2.to ?_
        simp (disch := omega) only [go_sem, Nat.reduceBEq, Nat.reduceAdd, nodupB, true_or]
      · (repeat (first | (refine wo rfl (fun k hk => ?_); simp (disch := omega) only [go_sem, Nat.reduceBEq, Nat.reduceAdd]; refine hk _ _ ?_; clear hk k) | refine wkt rfl ?_ | with_reducible refine wk0 ?_ | with_reducible refine wt_seg ?_ | with_reducible refine wt_alt ?_ wt_no | with_reducible refine wt_done ?_))
        refine rest _ _ _ _ [3, 2] f1.to f2.to ?_
        simp (disch := omega) only [go_sem, Nat.reduceBEq, Nat.reduceAdd, nodupB, true_or]
    · (repeat (first | (refine wo rfl (fun k hk => ?_); simp (disch := omega) only [go_sem, Nat.reduceBEq, Nat.reduceAdd]; refine hk _ _ ?_; clear hk k) | refine wkt rfl ?_ | with_reducible refine wk0 ?_ | with_reducible refine wt_seg ?_ | with_reducible refine wt_alt ?_ wt_no | with_reducible refine wt_done ?_))
      refine wt_alt ?_ (wt_alt ?_ wt_no)
      · refine cN rfl rfl rfl rfl (by exact kB) ?_; rintro v2 h2 st_h2 f2; obtain ⟨v2_0, v2_1, v2_2, v2_3, v2_4, v2_5, v2_6, v2_7, v2_8, v2_9, v2_10, v2_11, v2_12, v2_13, rfl, f2⟩ := f2.sa; (repeat (first | (refine wo rfl (fun k hk => ?_); simp (disch := omega) only [go_sem, Nat.reduceBEq, Nat.reduceAdd]; refine hk _ _ ?_; clear hk k) | refine wkt rfl ?_ | with_reducible refine wk0 ?_ | with_reducible refine wt_seg ?_ | with_reducible refine wt_alt ?_ wt_no | with_reducible refine wt_done ?_))
        refine rest _ _ _ _ [2, 3] f1.to f2.to ?_
        simp (disch := omega) only [go_sem, Nat.reduceBEq, Nat.reduceAdd, nodupB, true_or]
      · (repeat (first | (refine wo rfl (fun k hk => ?_); simp (disch := omega) only [go_sem, Nat.reduceBEq, Nat.reduceAdd]; refine hk _ _ ?_; clear hk k) | refine wkt rfl ?_ | with_reducible refine wk0 ?_ | with_reducible refine wt_seg ?_ | with_reducible refine wt_alt ?_ wt_no | with_reducible refine wt_done ?_))
        refine cN rfl rfl rfl rfl (by exact kB) ?_; rintro v2 h2 st_h2 f2; obtain ⟨v2_0, v2_1, v2_2, v2_3, v2_4, v2_5, v2_6, v2_7, v2_8, v2_9, v2_10, v2_11, v2_12, v2_13, rfl, f2⟩ := f2.sa; (repeat (first | (refine wo rfl (fun k hk => ?_); simp (disch := omega) only [go_sem, Nat.reduceBEq, Nat.reduceAdd]; refine hk _ _ ?_; clear hk k) | refine wkt rfl ?_ | with_reducible refine wk0 ?_ | with_reducible refine wt_seg ?_ | with_reducible refine wt_alt ?_ wt_no | with_reducible refine wt_done ?_))
        refine rest _ _ _ _ [2, 3] f1.to f2.to ?_
        simp (disch := omega) only [go_sem, Nat.reduceBEq, Nat.reduceAdd, nodupB, true_or]
    · (repeat (first | (refine wo rfl (fun k hk => ?_); simp (disch := omega) only [go_sem, Nat.reduceBEq, Nat.reduceAdd]; refine hk _ _ ?_; clear hk k) | refine wkt rfl ?_ | with_reducible refine wk0 ?_ | with_reducible refine wt_seg ?_ | with_reducible refine wt_alt ?_ wt_no | with_reducible refine wt_done ?_))
      refine wt_alt ?_ (wt_alt ?_ wt_no)
      · refine cN rfl rfl rfl rfl (by exact kB) ?_; rintro v2 h2 st_h2 f2; obtain ⟨v2_0, v2_1, v2_2, v2_3, v2_4, v2_5, v2_6, v2_7, v2_8, v2_9, v2_10, v2_11, v2_12, v2_13, rfl, f2⟩ := f2.sa; (repeat (first | (refine wo rfl (fun k hk => ?_); simp (disch := omega) only [go_sem, Nat.reduceBEq, Nat.reduceAdd]; refine hk _ _ ?_; clear hk k) | refine wkt rfl ?_ | with_reducible refine wk0 ?_ | with_reducible refine wt_seg ?_ | with_reducible refine wt_alt ?_ wt_no | with_reducible refine wt_done ?_))
        refine rest _ _ _ _ [3, 2] f1.to f2.to ?_
        simp (disch := omega) only [go_sem, Nat.reduceBEq, Nat.reduceAdd, nodupB, true_or]
      · (repeat (first | (refine wo rfl (fun k hk => ?_); simp (disch := omega) only [go_sem, Nat.reduceBEq, Nat.reduceAdd]; refine hk _ _ ?_; clear hk k) | refine wkt rfl ?_ | with_reducible refine wk0 ?_ | with_reducible refine wt_seg ?_ | with_reducible refine wt_alt ?_ wt_no | with_reducible refine wt_done ?_))
        refine cN rfl rfl rfl rfl (by exact kB) ?_; rintro v2 h2 st_h2 f2; obtain ⟨v2_0, v2_1, v2_2, v2_3, v2_4, v2_5, v2_6, v2_7, v2_8, v2_9, v2_10, v2_11, v2_12, v2_13, rfl, f2⟩ := f2.sa; (repeat (first | (refine wo rfl (fun k hk => ?_); simp (disch := omega) only [go_sem, Nat.reduceBEq, Nat.reduceAdd]; refine hk _ _ ?_; clear hk k) | refine wkt rfl ?_ | with_reducible refine wk0 ?_ | with_reducible refine wt_seg ?_ | with_reducible refine wt_alt ?_ wt_no | with_reducible refine wt_done ?_))
        refine rest _ _ _ _ [3, 2] f1.to f2.to ?_
        simp (disch := omega) only [go_sem, Nat.reduceBEq, Nat.reduceAdd, nodupB, true_or]
  · (repeat (first | (refine wo rfl (fun k hk => ?_); simp (disch := omega) only [go_sem, Nat.reduceBEq, Nat.reduceAdd]; refine hk _ _ ?_; clear hk k) | refine wkt rfl ?_ | with_reducible refine wk0 ?_ | with_reducible refine wt_seg ?_ | with_reducible refine wt_alt ?_ wt_no | with_reducible refine wt_done ?_))
    refine wt_alt ?_ (wt_alt ?_ wt_no)
    · refine cN rfl rfl rfl rfl (by exact kA) ?_; rintro v1 h1 st_h1 f1; obtain ⟨v1_0, v1_1, v1_2, v1_3, v1_4, v1_5, v1_6, v1_7, v1_8, v1_9, v1_10, v1_11, v1_12, v1_13, rfl, f1⟩ := f1.sa; (repeat (first | (refine wo rfl (fun k hk => ?_); simp (disch := omega) only [go_sem, Nat.reduceBEq, Nat.reduceAdd]; refine hk _ _ ?_; clear hk k) | refine wkt rfl ?_ | with_reducible refine wk0 ?_ | with_reducible refine wt_seg ?_ | with_reducible refine wt_alt ?_ wt_no | with_reducible refine wt_done ?_))
      refine wt_alt ?_ (wt_alt ?_ wt_no)
      · refine cN rfl rfl rfl rfl (by exact kB) ?_; rintro v2 h2 st_h2 f2; obtain ⟨v2_0, v2_1, v2_2, v2_3, v2_4, v2_5, v2_6, v2_7, v2_8, v2_9, v2_10, v2_11, v2_12, v2_13, rfl, f2⟩ := f2.sa; (repeat (first | (refine wo rfl (fun k hk => ?_); simp (disch := omega) only [go_sem, Nat.reduceBEq, Nat.reduceAdd]; refine hk _ _ ?_; clear hk k) | refine wkt rfl ?_ | with_reducible refine wk0 ?_ | with_reducible refine wt_seg ?_ | with_reducible refine wt_alt ?_ wt_no | with_reducible refine wt_done ?_))
        refine rest _ _ _ _ [2, 3] f1.to f2.to ?_
        simp (disch := omega) only [go_sem, Nat.reduceBEq, Nat.reduceAdd, nodupB, true_or]
      · (repeat (first | (refine wo rfl (fun k hk => ?_); simp (disch := omega) only [go_sem, Nat.reduceBEq, Nat.reduceAdd]; refine hk _ _ ?_; clear hk k) | refine wkt rfl ?_ | with_reducible refine wk0 ?_ | with_reducible refine wt_seg ?_ | with_reducible refine wt_alt ?_ wt_no | with_reducible refine wt_done ?_))
        refine cN rfl rfl rfl rfl (by exact kB) ?_; rintro v2 h2 st_h2 f2; obtain ⟨v2_0, v2_1, v2_2, v2_3, v2_4, v2_5, v2_6, v2_7, v2_8, v2_9, v2_10, v2_11, v2_12, v2_13, rfl, f2⟩ := f2.sa; (repeat (first | (refine wo rfl (fun k hk => ?_); simp (disch := omega) only [go_sem, Nat.reduceBEq, Nat.reduceAdd]; refine hk _ _ ?_; clear hk k) | refine wkt rfl ?_ | with_reducible refine wk0 ?_ | with_reducible refine wt_seg ?_ | with_reducible refine wt_alt ?_ wt_no | with_reducible refine wt_done ?_))
        refine rest _ _ _ _ [2, 3] f1.to f2.to ?_
        simp (disch := omega) only [go_sem, Nat.reduceBEq, Nat.reduceAdd, nodupB, true_or]
    · (repeat (first | (refine wo rfl (fun k hk => ?_); simp (disch := omega) only [go_sem, Nat.reduceBEq, Nat.reduceAdd]; refine hk _ _ ?_; clear hk k) | refine wkt rfl ?_ | with_reducible refine wk0 ?_ | with_reducible refine wt_seg ?_ | with_reducible refine wt_alt ?_ wt_no | with_reducible refine wt_done ?_))
      refine cN rfl rfl rfl rfl (by exact kA) ?_; rintro v1 h1 st_h1 f1; obtain ⟨v1_0, v1_1, v1_2, v1_3, v1_4, v1_5, v1_6, v1_7, v1_8, v1_9, v1_10, v1_11, v1_12, v1_13, rfl, f1⟩ := f1.sa; (repeat (first | (refine wo rfl (fun k hk => ?_); simp (disch := omega) only [go_sem, Nat.reduceBEq, Nat.reduceAdd]; refine hk _ _ ?_; clear hk k) | refine wkt rfl ?_ | with_reducible refine wk0 ?_ | with_reducible refine wt_seg ?_ | with_reducible refine wt_alt ?_ wt_no | with_reducible refine wt_done ?_))
      refine cN rfl rfl rfl rfl (by exact kB) ?_; rintro v2 h2 st_h2 f2; obtain ⟨v2_0, v2_1, v2_2, v2_3, v2_4, v2_5, v2_6, v2_7, v2_8, v2_9, v2_10, v2_11, v2_12, v2_13, rfl, f2⟩ := f2.sa; (repeat (first | (refine wo rfl (fun k hk => ?_); simp (disch := omega) only [go_sem, Nat.reduceBEq, Nat.reduceAdd]; refine hk _ _ ?_; clear hk k) | refine wkt rfl ?_ | with_reducible refine wk0 ?_ | with_reducible refine wt_seg ?_ | with_reducible refine wt_alt ?_ wt_no | with_reducible refine wt_done ?_))
      refine rest _ _ _ _ [2, 3] f1.to f2.to ?_
      simp (disch := omega) only [go_sem, Nat.reduceBEq, Nat.reduceAdd, nodupB, true_or]
  · (repeat (first | (refine wo rfl (fun k hk => ?_); simp (disch := omega) only [go_sem, Nat.reduceBEq, Nat.reduceAdd]; refine hk _ _ ?_; clear hk k) | refine wkt rfl ?_ | with_reducible refine wk0 ?_ | with_reducible refine wt_seg ?_ | with_reducible refine wt_alt ?_ wt_no | with_reducible refine wt_done ?_))
    refine wt_alt ?_ (wt_alt ?_ wt_no)
    · refine cN rfl rfl rfl rfl (by exact kA) ?_; rintro v1 h1 st_h1 f1; obtain ⟨v1_0, v1_1, v1_2, v1_3, v1_4, v1_5, v1_6, v1_7, v1_8, v1_9, v1_10, v1_11, v1_12, v1_13, rfl, f1⟩ := f1.sa; (repeat (first | (refine wo rfl (fun k hk => ?_); simp (disch := omega) only [go_sem, Nat.reduceBEq, Nat.reduceAdd]; refine hk _ _ ?_; clear hk k) | refine wkt rfl ?_ | with_reducible refine wk0 ?_ | with_reducible refine wt_seg ?_ | with_reducible refine wt_alt ?_ wt_no | with_reducible refine wt_done ?_))
      refine wt_alt ?_ (wt_alt ?_ wt_no)
      · refine cN rfl rfl rfl rfl (by exact kB) ?_; rintro v2 h2 st_h2 f2; obtain ⟨v2_0, v2_1, v2_2, v2_3, v2_4, v2_5, v2_6, v2_7, v2_8, v2_9, v2_10, v2_11, v2_12, v2_13, rfl, f2⟩ := f2.sa; (repeat (first | (refine wo rfl (fun k hk => ?_); simp (disch := omega) only [go_sem, Nat.reduceBEq, Nat.reduceAdd]; refine hk _ _ ?_; clear hk k) | refine wkt rfl ?_ | with_reducible refine wk0 ?_ | with_reducible refine wt_seg ?_ | with_reducible refine wt_alt ?_ wt_no | with_reducible refine wt_done ?_))
        refine rest _ _ _ _ [3, 2] f1.to f2.to ?_
        simp (disch := omega) only [go_sem, Nat.reduceBEq, Nat.reduceAdd, nodupB, true_or]
      · (repeat (first | (refine wo rfl (fun k hk => ?_); simp (disch := omega) only [go_sem, Nat.reduceBEq, Nat.reduceAdd]; refine hk _ _ ?_; clear hk k) | refine wkt rfl ?_ | with_reducible refine wk0 ?_ | with_reducible refine wt_seg ?_ | with_reducible refine wt_alt ?_ wt_no | with_reducible refine wt_done ?_))
        refine cN rfl rfl rfl rfl (by exact kB) ?_; rintro v2 h2 st_h2 f2; obtain ⟨v2_0, v2_1, v2_2, v2_3, v2_4, v2_5, v2_6, v2_7, v2_8, v2_9, v2_10, v2_11, v2_12, v2_13, rfl, f2⟩ := f2.sa; (repeat (first | (refine wo rfl (fun k hk => ?_); simp (disch := omega) only [go_sem, Nat.reduceBEq, Nat.reduceAdd]; refine hk _ _ ?_; clear hk k) | refine wkt rfl ?_ | with_reducible refine wk0 ?_ | with_reducible refine wt_seg ?_ | with_reducible refine wt_alt ?_ wt_no | with_reducible refine wt_done ?_))
        refine rest _ _ _ _ [3, 2] f1.to f2.to ?_
        simp (disch := omega) only [go_sem, Nat.reduceBEq, Nat.reduceAdd, nodupB, true_or]
    · (repeat (first | (refine wo rfl (fun k hk => ?_); simp (disch := omega) only [go_sem, Nat.reduceBEq, Nat.reduceAdd]; refine hk _ _ ?_; clear hk k) | refine wkt rfl ?_ | with_reducible refine wk0 ?_ | with_reducible refine wt_seg ?_ | with_reducible refine wt_alt ?_ wt_no | with_reducible refine wt_done ?_))
      refine cN rfl rfl rfl rfl (by exact kA) ?_; rintro v1 h1 st_h1 f1; obtain ⟨v1_0, v1_1, v1_2, v1_3, v1_4, v1_5, v1_6, v1_7, v1_8, v1_9, v1_10, v1_11, v1_12, v1_13, rfl, f1⟩ := f1.sa; (repeat (first | (refine wo rfl (fun k hk => ?_); simp (disch := omega) only [go_sem, Nat.reduceBEq, Nat.reduceAdd]; refine hk _ _ ?_; clear hk k) | refine wkt rfl ?_ | with_reducible refine wk0 ?_ | with_reducible refine wt_seg ?_ | with_reducible refine wt_alt ?_ wt_no | with_reducible refine wt_done ?_))
      refine cN rfl rfl rfl rfl (by exact kB) ?_; rintro v2 h2 st_h2 f2; obtain ⟨v2_0, v2_1, v2_2, v2_3, v2_4, v2_5, v2_6, v2_7, v2_8, v2_9, v2_10, v2_11, v2_12, v2_13, rfl, f2⟩ := f2.sa; (repeat (first | (refine wo rfl (fun k hk => ?_); simp (disch := omega) only [go_sem, Nat.reduceBEq, Nat.reduceAdd]; refine hk _ _ ?_; clear hk k) | refine wkt rfl ?_ | with_reducible refine wk0 ?_ | with_reducible refine wt_seg ?_ | with_reducible refine wt_alt ?_ wt_no | with_reducible refine wt_done ?_))
      refine rest _ _ _ _ [3, 2] f1.to f2.to ?_
      simp (disch := omega) only [go_sem, Nat.reduceBEq, Nat.reduceAdd, nodupB, true_or]
theorem Is_spec {h0 h : PH} [Le h0 h] {r r' : Value} {b1 b2 : Value} {e1 e2 : Int} {o : Out} (h1 : r = .tuple #[b1, .int .i64 e1]) (h2 : r' = .tuple #[b2, .int .i64 e2]) (hr : Ir h0 r o) (hr' : Ir h0 r' o) (hx : ∀ x, o = .ok x → x.ok ∧ x.le 2048) (he : ∀ e, o = .error e → e ≠ 0) :
    Spec mach 9 #[b1, .int .i64 e1, b2, .int .i64 e2] h (fun r _ => r = .bool true) NP := by
  subst h1
  subst h2
  cases o with
  | error e =>
    have ne := he e rfl
    cases (hr : _ = _)
    cases (hr' : _ = _)
    unfold zIv
    refine Spec.enter (args := [_, _, _, _]) (n := 23) Tryz.func9 rfl (by kernel_rfl) rfl (by simp) [.tmp 8] rfl (fun C _ => ?_)
    repeat (first | (refine wo rfl (fun k hk => ?_); simp (disch := omega) only [go_sem, Nat.reduceBEq, Nat.reduceAdd]; refine hk _ _ ?_; clear hk k) | refine wkt rfl ?_ | refine wk0 ?_ | refine rg rfl rfl (fun K hK => ?_) | ((first | refine AWP_exit ?_ | refine AWP_skip ?_); simp (disch := decide) only [qs, qb, if_true, if_false, reduceIte]) | refine AWP_sq rfl (fun K hK => ?_) | refine ct rfl ?_ | ((try simp (disch := omega) only [go_sem, Nat.reduceBEq, Nat.reduceAdd]); (first | apply hK | (clear hK; apply hK) | (clear hK; clear hK; apply hK)); clear hK; (try clear K); (try dsimp only [behind, qs, qb])))
    refine cN rfl rfl rfl rfl (by exact None03) ?_; rintro v1 h1 s1 rfl
    repeat (first | (refine wo rfl (fun k hk => ?_); simp (disch := omega) only [go_sem, Nat.reduceBEq, Nat.reduceAdd]; refine hk _ _ ?_; clear hk k) | refine wkt rfl ?_ | refine wk0 ?_ | refine rg rfl rfl (fun K hK => ?_) | ((first | refine AWP_exit ?_ | refine AWP_skip ?_); simp (disch := decide) only [qs, qb, if_true, if_false, reduceIte]) | refine AWP_sq rfl (fun K hK => ?_) | refine ct rfl ?_ | ((try simp (disch := omega) only [go_sem, Nat.reduceBEq, Nat.reduceAdd]); (first | apply hK | (clear hK; apply hK) | (clear hK; clear hK; apply hK)); clear hK; (try clear K); (try dsimp only [behind, qs, qb])))
    refine AWP_ret ?_; simp (disch := omega) only [go_sem, Nat.reduceBEq, Nat.reduceAdd]
  | ok x =>
    obtain ⟨ho, hl⟩ := hx x rfl
    obtain ⟨u, e, c⟩ := hr
    obtain ⟨u', e', c'⟩ := hr'
    cases e
    cases e'
    have c0 := c
    have c0' := c'
    obtain ⟨_, _, _, _, _, _, _, _, _, _, _, _, _, _, rfl, _, _⟩ := c.fl
    obtain ⟨_, _, _, _, _, _, _, _, _, _, _, _, _, _, rfl, _, _⟩ := c'.fl
    refine Spec.enter (args := [_, _, _, _]) (n := 23) Tryz.func9 rfl (by kernel_rfl) rfl (by simp) [.tmp 8] rfl (fun C _ => ?_)
    repeat (first | (refine wo rfl (fun k hk => ?_); simp (disch := omega) only [go_sem, Nat.reduceBEq, Nat.reduceAdd]; refine hk _ _ ?_; clear hk k) | refine wkt rfl ?_ | refine wk0 ?_ | refine rg rfl rfl (fun K hK => ?_) | ((first | refine AWP_exit ?_ | refine AWP_skip ?_); simp (disch := decide) only [qs, qb, if_true, if_false, reduceIte]) | refine AWP_sq rfl (fun K hK => ?_) | refine ct rfl ?_ | ((try simp (disch := omega) only [go_sem, Nat.reduceBEq, Nat.reduceAdd]); (first | apply hK | (clear hK; apply hK) | (clear hK; clear hK; apply hK)); clear hK; (try clear K); (try dsimp only [behind, qs, qb])))
    refine cN rfl rfl rfl rfl (by exact RefCanonical c0 ho hl) ?_; rintro v1 h1 s1 rfl; (repeat (first | (refine wo rfl (fun k hk => ?_); simp (disch := omega) only [go_sem, Nat.reduceBEq, Nat.reduceAdd]; refine hk _ _ ?_; clear hk k) | refine wkt rfl ?_)); (try refine wk0 ?_)
    refine cN rfl rfl rfl rfl (by exact RefSame c0 c0' ho hl) ?_; rintro v2 h2 s2 rfl; (repeat (first | (refine wo rfl (fun k hk => ?_); simp (disch := omega) only [go_sem, Nat.reduceBEq, Nat.reduceAdd]; refine hk _ _ ?_; clear hk k) | refine wkt rfl ?_)); (try refine wk0 ?_)
    (try (simp (disch := omega) only [go_sem, Nat.reduceBEq, Nat.reduceAdd])); refine hK _ _ ?_; clear hK; (try clear K); (try dsimp only [behind, qs])
    refine AWP_ret ?_; simp (disch := omega) only [go_sem, Nat.reduceBEq, Nat.reduceAdd]
end Go.Q
