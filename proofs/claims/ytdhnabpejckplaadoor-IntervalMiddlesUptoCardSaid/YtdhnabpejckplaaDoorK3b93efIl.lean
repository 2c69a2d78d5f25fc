/-
  Contracts of package interval: what Has and Inside answer. Conditions: the values are intervals and numbers.
-/
import Derived.Test.YtdhnabpejckplaaDoorK3e58a7Tb
import Derived.Test.YtdhnabpejckplaaDoorKbcaed8Ih
import Derived.Test.YtdhnabpejckplaaDoorK12cfe0BunP
import Derived.Test.YtdhnabpejckplaaDoorK3468d0BunM
set_option linter.unusedVariables false
set_option linter.unusedSimpArgs false
namespace Go.Q
open Go.Proofs
set_option maxRecDepth 100000
set_option maxHeartbeats 4000000
def Bd (f : FuncId) (args : Array Value) (h : PH) : Except Int Bool → Prop
  | .ok b => Spec mach f args h (fun v _ => v = .bool b) NP
  | .error e => Spec mach f args h NR (fail e)
def Br (r : Value) : Except Int Bool → Prop
  | .ok b => r = .tuple #[.bool b, .int .i64 0]
  | .error e => r = .tuple #[.bool false, .int .i64 e]
theorem Br.sa {r : Value} {o : Except Int Bool} (k : Br r o) : ∃ b e, r = .tuple #[.bool b, .int .i64 e] ∧ Br (.tuple #[.bool b, .int .i64 e]) o := by
  cases o with
  | ok b => exact ⟨_, _, k, rfl⟩
  | error e => exact ⟨_, _, k, rfl⟩
theorem tryB_any {h : PH} {f : FuncId} {cap : Array Value} {o : Except Int Bool} (g : Bd f cap h o) : Spec mach 72 #[.func (.func f) #[] cap] h (fun r _ => Br r o) NP := by
  cases o with
  | ok b => exact tryBo_ok g (fun v h' _ r => by subst r; exact ⟨⟨b, rfl, rfl⟩, rfl⟩)
  | error e => exact tryBo_fail g (fun _ _ => rfl)
theorem Sf.sa {h : PH} {v : Value} {s : PS} (r : Sf h v s) : ∃ b1 a1 m1 c1 a2 m2 c2 b2 a3 m3 c3 a4 m4 c4, v = .agg #[.bool b1, .slice a1 m1 c1, .slice a2 m2 c2, .bool b2, .slice a3 m3 c3, .slice a4 m4 c4, .bool s.l, .bool s.u, .bool s.e] ∧
    Fr h (.agg #[.bool b1, .slice a1 m1 c1, .slice a2 m2 c2]) s.lo ∧ Fr h (.agg #[.bool b2, .slice a3 m3 c3, .slice a4 m4 c4]) s.hi := by
  obtain ⟨b1, x1, y1, b2, x2, y2, rfl, h1, h2⟩ := r
  obtain ⟨_, _, _, _, _, _, _, e1, _⟩ := h1.sa
  obtain ⟨_, _, _, _, _, _, _, e2, _⟩ := h2.sa
  simp only [Value.agg.injEq, Array.mk.injEq, List.cons.injEq, and_true] at e1 e2
  obtain ⟨_, rfl, rfl⟩ := e1
  obtain ⟨_, rfl, rfl⟩ := e2
  exact ⟨_, _, _, _, _, _, _, _, _, _, _, _, _, _, rfl, h1, h2⟩
theorem NS.has_one {x : NS} {q : Rat} (hx : x.ok) : (!(x.met (.i (some q) (some q))).void) = x.has q := by
  have h1 : (x.met (.i (some q) (some q))).has q = x.has q := by rw [NS.has_met]; simp [NS.has]
  have h2 : (x.met (.i (some q) (some q))).ok := NS.ok_met
  generalize hm : x.met (.i (some q) (some q)) = m at *
  cases m with
  | e => rw [← h1]; rfl
  | i a b =>
    obtain ⟨q', hq⟩ := NS.ne_has h2
    have h3 := hq
    rw [← hm, NS.has_met, Bool.and_eq_true, NS.has_i (a := some q)] at h3
    obtain ⟨h3, h4, h5⟩ := h3
    have : q' = q := Rat.le_antisymm (h5 _ rfl) (h4 _ rfl)
    subst this
    rw [h3]; rfl
theorem NS.le_one {q : Rat} {k : Nat} (h : sz q ≤ k) : (NS.i (some q) (some q)).le k := by
  rw [NS.le_i]; exact ⟨fun _ e => by cases e; exact h, fun _ e => by cases e; exact h⟩
def hasO (x : RI) (neg : Bool) (n d : Nat) : Except Int Bool := bif x.big || decide (lg neg n d) then .error 1 else .ok (x.set.has (qof neg n d))
theorem Has1 {h0 h : PH} [Le h0 h] {v w : Value} {x : RI} {neg : Bool} {n d : Nat} {b1 b2 : Nat} {cs ds : List Value} (hv : Iv h0 v x) (hw : Rw h0 w neg n d) (hc : v = .agg cs.toArray) (hl : cs.length = 8) (hb1 : h b1 = some cs.toArray) (hc' : w = .agg ds.toArray) (hl' : ds.length = 3) (hb2 : h b2 = some ds.toArray) :
    Bd 73 #[.pointer (some ⟨b1, 0, none⟩), .pointer (some ⟨b2, 0, none⟩)] h (hasO x neg n d) := by
  subst hc
  subst hc'
  unfold hasO
  cases g : x.big with
  | true =>
    simp only [Bool.true_or, cond_true]
    refine Spec.enter (args := [_, _]) (n := 13) Tryd.func73 rfl (by kernel_rfl) rfl (by simp) [.tmp 2] rfl (fun C _ => ?_)
    repeat (first | ((first | refine rg rfl rfl (fun K hK => ?_) | refine rd [.o 0, .o 1, .o 2, .o 3, .o 4, .o 5, .o 6, .o 7] rfl (by decide +kernel) rfl (fun K hK => ?_)); (repeat (first | (refine wo rfl (fun k hk => ?_); simp (disch := omega) only [go_sem, Nat.reduceBEq, Nat.reduceAdd]; refine hk _ _ ?_; clear hk k) | refine wkt rfl ?_)); (try refine wk0 ?_); refine hK _ _ ?_; clear hK K; (try dsimp only [behind, qs, qb])) | ((first | refine AWP_exit ?_ | refine AWP_skip ?_); simp (disch := decide) only [qs, qb, if_true, if_false, reduceIte]) | refine AWP_sq rfl (fun K hK => ?_) | refine ct rfl ?_ | ((first | refine hK _ _ ?_ | (clear hK; refine hK _ _ ?_) | (clear hK; clear hK; refine hK _ _ ?_)); clear hK; (try clear K)))
    (first | refine rg rfl rfl (fun K hK => ?_) | refine rd [.o 0, .o 1, .o 2, .o 3, .o 4, .o 5, .o 6, .o 7] rfl (by decide +kernel) rfl (fun K hK => ?_)); (repeat (first | (refine wo rfl (fun k hk => ?_); simp (disch := omega) only [go_sem, Nat.reduceBEq, Nat.reduceAdd]; refine hk _ _ ?_; clear hk k) | refine wkt rfl ?_)); (try refine wk0 ?_)
    refine wk (fun k hk => ?_); simp (disch := omega) only [go_sem, Nat.reduceBEq, Nat.reduceAdd]; refine ⟨cs, hl, at_row hb1, ?_⟩; refine hk _ _ ?_; clear hk k; (repeat (first | (refine wo rfl (fun k hk => ?_); simp (disch := omega) only [go_sem, Nat.reduceBEq, Nat.reduceAdd]; refine hk _ _ ?_; clear hk k) | refine wkt rfl ?_)); (try refine wk0 ?_)
    exact cF rfl rfl rfl rfl (by exact Read_fail' hv g) (fun _ _ h => h)
  | false =>
    by_cases gl : lg neg n d
    · simp only [gl, decide_true, Bool.or_true, cond_true]
      refine Spec.enter (args := [_, _]) (n := 13) Tryd.func73 rfl (by kernel_rfl) rfl (by simp) [.tmp 2] rfl (fun C _ => ?_)
      repeat (first | ((first | refine rg rfl rfl (fun K hK => ?_) | refine rd [.o 0, .o 1, .o 2, .o 3, .o 4, .o 5, .o 6, .o 7] rfl (by decide +kernel) rfl (fun K hK => ?_)); (repeat (first | (refine wo rfl (fun k hk => ?_); simp (disch := omega) only [go_sem, Nat.reduceBEq, Nat.reduceAdd]; refine hk _ _ ?_; clear hk k) | refine wkt rfl ?_)); (try refine wk0 ?_); refine hK _ _ ?_; clear hK K; (try dsimp only [behind, qs, qb])) | ((first | refine AWP_exit ?_ | refine AWP_skip ?_); simp (disch := decide) only [qs, qb, if_true, if_false, reduceIte]) | refine AWP_sq rfl (fun K hK => ?_) | refine ct rfl ?_ | ((first | refine hK _ _ ?_ | (clear hK; refine hK _ _ ?_) | (clear hK; clear hK; refine hK _ _ ?_)); clear hK; (try clear K)))
      (first | refine rg rfl rfl (fun K hK => ?_) | refine rd [.o 0, .o 1, .o 2, .o 3, .o 4, .o 5, .o 6, .o 7] rfl (by decide +kernel) rfl (fun K hK => ?_)); (repeat (first | (refine wo rfl (fun k hk => ?_); simp (disch := omega) only [go_sem, Nat.reduceBEq, Nat.reduceAdd]; refine hk _ _ ?_; clear hk k) | refine wkt rfl ?_)); (try refine wk0 ?_)
      refine wk (fun k hk => ?_); simp (disch := omega) only [go_sem, Nat.reduceBEq, Nat.reduceAdd]; refine ⟨cs, hl, at_row hb1, ?_⟩; refine hk _ _ ?_; clear hk k; (repeat (first | (refine wo rfl (fun k hk => ?_); simp (disch := omega) only [go_sem, Nat.reduceBEq, Nat.reduceAdd]; refine hk _ _ ?_; clear hk k) | refine wkt rfl ?_)); (try refine wk0 ?_)
      refine cN rfl rfl rfl rfl (by exact Read_set hv g) ?_; rintro s1 h1 st1 hs1; obtain ⟨_, _, _, _, _, _, _, _, _, _, _, _, _, _, _, _, rfl, hs1⟩ := hs1.sa; (repeat (first | (refine wo rfl (fun k hk => ?_); simp (disch := omega) only [go_sem, Nat.reduceBEq, Nat.reduceAdd]; refine hk _ _ ?_; clear hk k) | refine wkt rfl ?_)); (try refine wk0 ?_)
      (try (simp (disch := omega) only [go_sem, Nat.reduceBEq, Nat.reduceAdd])); refine hK _ _ ?_; clear hK; (try clear K); (try dsimp only [behind, qs])
      (first | refine rg rfl rfl (fun K hK => ?_) | refine rd [.o 0, .o 1, .o 2, .o 3, .o 4, .o 5, .o 6, .o 7] rfl (by decide +kernel) rfl (fun K hK => ?_)); (repeat (first | (refine wo rfl (fun k hk => ?_); simp (disch := omega) only [go_sem, Nat.reduceBEq, Nat.reduceAdd]; refine hk _ _ ?_; clear hk k) | refine wkt rfl ?_)); (try refine wk0 ?_)
      refine wk (fun k hk => ?_); simp (disch := omega) only [go_sem, Nat.reduceBEq, Nat.reduceAdd]; refine ⟨ds, hl', at_row (st1.sub _ _ hb2), ?_⟩; refine hk _ _ ?_; clear hk k; (repeat (first | (refine wo rfl (fun k hk => ?_); simp (disch := omega) only [go_sem, Nat.reduceBEq, Nat.reduceAdd]; refine hk _ _ ?_; clear hk k) | refine wkt rfl ?_)); (try refine wk0 ?_)
      exact cF rfl rfl rfl rfl (by exact number_fail hw gl) (fun _ _ h => h)
    · have z : sz (qof neg n d) ≤ 2 ^ 30 := by unfold lg at gl; omega
      simp only [gl, decide_false, Bool.or_false, cond_false]
      rw [← NS.has_one (RI.set_ok x)]
      refine Spec.enter (args := [_, _]) (n := 13) Tryd.func73 rfl (by kernel_rfl) rfl (by simp) [.tmp 2] rfl (fun C _ => ?_)
      repeat (first | ((first | refine rg rfl rfl (fun K hK => ?_) | refine rd [.o 0, .o 1, .o 2, .o 3, .o 4, .o 5, .o 6, .o 7] rfl (by decide +kernel) rfl (fun K hK => ?_)); (repeat (first | (refine wo rfl (fun k hk => ?_); simp (disch := omega) only [go_sem, Nat.reduceBEq, Nat.reduceAdd]; refine hk _ _ ?_; clear hk k) | refine wkt rfl ?_)); (try refine wk0 ?_); refine hK _ _ ?_; clear hK K; (try dsimp only [behind, qs, qb])) | ((first | refine AWP_exit ?_ | refine AWP_skip ?_); simp (disch := decide) only [qs, qb, if_true, if_false, reduceIte]) | refine AWP_sq rfl (fun K hK => ?_) | refine ct rfl ?_ | ((first | refine hK _ _ ?_ | (clear hK; refine hK _ _ ?_) | (clear hK; clear hK; refine hK _ _ ?_)); clear hK; (try clear K)))
      (first | refine rg rfl rfl (fun K hK => ?_) | refine rd [.o 0, .o 1, .o 2, .o 3, .o 4, .o 5, .o 6, .o 7] rfl (by decide +kernel) rfl (fun K hK => ?_)); (repeat (first | (refine wo rfl (fun k hk => ?_); simp (disch := omega) only [go_sem, Nat.reduceBEq, Nat.reduceAdd]; refine hk _ _ ?_; clear hk k) | refine wkt rfl ?_)); (try refine wk0 ?_)
      refine wk (fun k hk => ?_); simp (disch := omega) only [go_sem, Nat.reduceBEq, Nat.reduceAdd]; refine ⟨cs, hl, at_row hb1, ?_⟩; refine hk _ _ ?_; clear hk k; (repeat (first | (refine wo rfl (fun k hk => ?_); simp (disch := omega) only [go_sem, Nat.reduceBEq, Nat.reduceAdd]; refine hk _ _ ?_; clear hk k) | refine wkt rfl ?_)); (try refine wk0 ?_)
      refine cN rfl rfl rfl rfl (by exact Read_set hv g) ?_; rintro s1 h1 st1 hs1; obtain ⟨_, _, _, _, _, _, _, _, _, _, _, _, _, _, _, _, rfl, hs1⟩ := hs1.sa; (repeat (first | (refine wo rfl (fun k hk => ?_); simp (disch := omega) only [go_sem, Nat.reduceBEq, Nat.reduceAdd]; refine hk _ _ ?_; clear hk k) | refine wkt rfl ?_)); (try refine wk0 ?_)
      (try (simp (disch := omega) only [go_sem, Nat.reduceBEq, Nat.reduceAdd])); refine hK _ _ ?_; clear hK; (try clear K); (try dsimp only [behind, qs])
      (first | refine rg rfl rfl (fun K hK => ?_) | refine rd [.o 0, .o 1, .o 2, .o 3, .o 4, .o 5, .o 6, .o 7] rfl (by decide +kernel) rfl (fun K hK => ?_)); (repeat (first | (refine wo rfl (fun k hk => ?_); simp (disch := omega) only [go_sem, Nat.reduceBEq, Nat.reduceAdd]; refine hk _ _ ?_; clear hk k) | refine wkt rfl ?_)); (try refine wk0 ?_)
      refine wk (fun k hk => ?_); simp (disch := omega) only [go_sem, Nat.reduceBEq, Nat.reduceAdd]; refine ⟨ds, hl', at_row (st1.sub _ _ hb2), ?_⟩; refine hk _ _ ?_; clear hk k; (repeat (first | (refine wo rfl (fun k hk => ?_); simp (disch := omega) only [go_sem, Nat.reduceBEq, Nat.reduceAdd]; refine hk _ _ ?_; clear hk k) | refine wkt rfl ?_)); (try refine wk0 ?_)
      refine cN rfl rfl rfl rfl (by exact number_ok hw gl) ?_; rintro v2 h2 _ f2; obtain ⟨v2_0, v2_1, v2_2, v2_3, v2_4, v2_5, v2_6, rfl, f2⟩ := f2.sa; (repeat (first | (refine wo rfl (fun k hk => ?_); simp (disch := omega) only [go_sem, Nat.reduceBEq, Nat.reduceAdd]; refine hk _ _ ?_; clear hk k) | refine wkt rfl ?_)); (try refine wk0 ?_)
      refine cN rfl rfl rfl rfl (by exact one_set f2) ?_; rintro v3 h3 st_h3 hs3; obtain ⟨v3_0, v3_1, v3_2, v3_3, v3_4, v3_5, v3_6, v3_7, v3_8, v3_9, v3_10, v3_11, v3_12, v3_13, v3_14, v3_15, rfl, hs3⟩ := hs3.sa; (repeat (first | (refine wo rfl (fun k hk => ?_); simp (disch := omega) only [go_sem, Nat.reduceBEq, Nat.reduceAdd]; refine hk _ _ ?_; clear hk k) | refine wkt rfl ?_)); (try refine wk0 ?_)
      refine cN rfl rfl rfl rfl (by exact Met_set (hs1.to (h' := h3)) (show Sd h3 _ (.i (some _) (some _)) from hs3) (RI.le30 g) (NS.le_one z)) ?_; rintro v4 h4 st_h4 hs4; obtain ⟨v4_0, v4_1, v4_2, v4_3, v4_4, v4_5, v4_6, v4_7, v4_8, v4_9, v4_10, v4_11, v4_12, v4_13, v4_14, v4_15, rfl, hs4⟩ := hs4.sa; (repeat (first | (refine wo rfl (fun k hk => ?_); simp (disch := omega) only [go_sem, Nat.reduceBEq, Nat.reduceAdd]; refine hk _ _ ?_; clear hk k) | refine wkt rfl ?_)); (try refine wk0 ?_)
      (try (simp (disch := omega) only [go_sem, Nat.reduceBEq, Nat.reduceAdd])); refine hK _ _ ?_; clear hK; (try clear K); (try dsimp only [behind, qs])
      refine AWP_ret ?_; simp (disch := omega) only [go_sem, Nat.reduceBEq, Nat.reduceAdd]
theorem Has_spec {h0 h : PH} [Le h0 h] {v w : Value} {x : RI} {neg : Bool} {n d : Nat} (hv : Iv h0 v x) (hw : Rw h0 w neg n d) : Spec mach 29 #[v, w] h (fun r _ => Br r (hasO x neg n d)) NP := by
  have hv0 := hv
  have hw0 := hw
  obtain ⟨a1, m1, c1, a2, m2, c2, a3, m3, c3, a4, m4, c4, rfl, _, _⟩ := hv.sa
  obtain ⟨_, _, _, _, _, _, _, rfl, _⟩ := hw.sa
  refine Spec.enter (args := [_, _]) (n := 10) Tryd.func29 rfl (by kernel_rfl) rfl (by simp) [.tmp 4, .tmp 5] rfl (fun C _ => ?_)
  repeat (first | (refine rg rfl rfl (fun K hK => ?_); (repeat (first | (refine wo rfl (fun k hk => ?_); simp (disch := omega) only [go_sem, Nat.reduceBEq, Nat.reduceAdd]; refine hk _ _ ?_; clear hk k) | refine wkt rfl ?_)); (try refine wk0 ?_); refine hK _ _ ?_; clear hK K; (try dsimp only [behind, qs, qb])) | ((first | refine AWP_exit ?_ | refine AWP_skip ?_); simp (disch := decide) only [qs, qb, if_true, if_false, reduceIte]) | refine AWP_sq rfl (fun K hK => ?_) | refine ct rfl ?_ | ((first | refine hK _ _ ?_ | (clear hK; refine hK _ _ ?_) | (clear hK; clear hK; refine hK _ _ ?_)); clear hK; (try clear K)))
  refine AWP_rsp [.p 0, .p 1, .o 0, .o 1, .o 2, .o 3, .o 4, .o 5] rfl rfl (fun K hK => ?_); (repeat (first | (refine wo rfl (fun k hk => ?_); simp (disch := omega) only [go_sem, Nat.reduceBEq, Nat.reduceAdd]; refine hk _ _ ?_; clear hk k) | refine wkt rfl ?_)); (try refine wk0 ?_)
  refine wkp ?_; simp (disch := omega) only [go_sem, Nat.reduceBEq, Nat.reduceAdd]; intro b1 h1 st1 hb1; (repeat (first | (refine wo rfl (fun k hk => ?_); simp (disch := omega) only [go_sem, Nat.reduceBEq, Nat.reduceAdd]; refine hk _ _ ?_; clear hk k) | refine wkt rfl ?_)); (try refine wk0 ?_)
  refine wkp ?_; simp (disch := omega) only [go_sem, Nat.reduceBEq, Nat.reduceAdd]; intro b2 h2 st2 hb2; (repeat (first | (refine wo rfl (fun k hk => ?_); simp (disch := omega) only [go_sem, Nat.reduceBEq, Nat.reduceAdd]; refine hk _ _ ?_; clear hk k) | refine wkt rfl ?_)); (try refine wk0 ?_)
  have hb2 := hb2 (by simp)
  have hb1 := st2.sub _ _ (hb1 (by simp))
  refine cN rfl rfl rfl rfl (by exact tryB_any (Has1 (hv0.to (h' := h2)) (hw0.to (h' := h2)) rfl rfl hb1 rfl rfl hb2)) ?_; rintro r3 h3 st3 hr3; obtain ⟨_, _, rfl, hr3⟩ := hr3.sa; (repeat (first | (refine wo rfl (fun k hk => ?_); simp (disch := omega) only [go_sem, Nat.reduceBEq, Nat.reduceAdd]; refine hk _ _ ?_; clear hk k) | refine wkt rfl ?_)); (try refine wk0 ?_)
  (try (simp (disch := omega) only [go_sem, Nat.reduceBEq, Nat.reduceAdd])); refine hK _ _ ?_; clear hK; (try clear K); (try dsimp only [behind, qs])
  refine AWP_ret ?_; simp (disch := omega) only [go_sem, Nat.reduceBEq, Nat.reduceAdd]
  exact hr3
end Go.Q
