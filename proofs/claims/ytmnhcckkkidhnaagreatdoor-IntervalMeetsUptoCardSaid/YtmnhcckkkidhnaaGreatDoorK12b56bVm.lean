/-
  What Inside, Meet and Hull return. Conditions: the arguments are intervals.
-/
import Derived.Test.YtmnhcckkkidhnaaGreatDoorK7b0e6cVa
import Derived.Test.YtmnhcckkkidhnaaGreatDoorK923d84Sl
import Derived.Test.YtmnhcckkkidhnaaGreatDoorK5f7623Sf
set_option linter.unusedVariables false
set_option linter.unusedSimpArgs false
namespace Go.Q
open Go.Proofs
set_option maxRecDepth 100000
set_option maxHeartbeats 4000000
theorem Meets_law {h0 h : PH} [Le h0 h] {v w : Value} {x y : RI} (hv : Iv h0 v x) (hw : Iv h0 w y) : Spec mach 6 #[v, w] h (fun r _ => r = .bool true) NP := by
  have hv0 := hv
  have hw0 := hw
  have hg1 : Fit (x.fin2 y (.ok (x.set.met y.set))) := Fit.two (Fit.of NS.ok_met)
  have hg2 : Fit (x.fin2 y (.ok (x.set.joined y.set))) := Fit.two (Fit.of (NS.ok_joined (RI.set_ok x) (RI.set_ok y)))
  obtain ⟨a1, m1, c1, a2, m2, c2, a3, m3, c3, a4, m4, c4, rfl, _, _⟩ := hv.sa
  obtain ⟨a1', m1', c1', a2', m2', c2', a3', m3', c3', a4', m4', c4', rfl, _, _⟩ := hw.sa
  refine Spec.enter (args := [_, _]) (n := 75) Tryz.func6 rfl (by kernel_rfl) rfl (by simp) [.tmp 4] rfl (fun C _ => ?_)
  repeat (first | (refine rg rfl rfl (fun K hK => ?_); (repeat (first | (refine wo rfl (fun k hk => ?_); simp (disch := omega) only [go_sem, Nat.reduceBEq, Nat.reduceAdd]; refine hk _ _ ?_; clear hk k) | refine wkt rfl ?_)); (try refine wk0 ?_); refine hK _ _ ?_; clear hK K; (try dsimp only [behind, qs, qb])) | ((first | refine AWP_exit ?_ | refine AWP_skip ?_); simp (disch := decide) only [qs, qb, if_true, if_false, reduceIte]) | refine AWP_sq rfl (fun K hK => ?_) | refine ct rfl ?_ | ((first | refine hK _ _ ?_ | (clear hK; refine hK _ _ ?_) | (clear hK; clear hK; refine hK _ _ ?_)); clear hK; (try clear K)))
  refine rg rfl rfl (fun K hK => ?_); (repeat (first | (refine wo rfl (fun k hk => ?_); simp (disch := omega) only [go_sem, Nat.reduceBEq, Nat.reduceAdd]; refine hk _ _ ?_; clear hk k) | refine wkt rfl ?_)); (try refine wk0 ?_)
  refine cN rfl rfl rfl rfl (by exact InsideI_spec hv0 hw0) ?_; rintro v1 h1 s1 q1; obtain ⟨b1, e1, rfl, q1⟩ := q1.sa; (repeat (first | (refine wo rfl (fun k hk => ?_); simp (disch := omega) only [go_sem, Nat.reduceBEq, Nat.reduceAdd]; refine hk _ _ ?_; clear hk k) | refine wkt rfl ?_)); (try refine wk0 ?_)
  (try (simp (disch := omega) only [go_sem, Nat.reduceBEq, Nat.reduceAdd])); refine hK _ _ ?_; clear hK; (try clear K); (try dsimp only [behind, qs])
  refine rg rfl rfl (fun K hK => ?_); (repeat (first | (refine wo rfl (fun k hk => ?_); simp (disch := omega) only [go_sem, Nat.reduceBEq, Nat.reduceAdd]; refine hk _ _ ?_; clear hk k) | refine wkt rfl ?_)); (try refine wk0 ?_)
  refine cN rfl rfl rfl rfl (by exact RefInside hv0 hw0) ?_; rintro v2 h2 s2 q2; obtain rfl := q1.u q2; (repeat (first | (refine wo rfl (fun k hk => ?_); simp (disch := omega) only [go_sem, Nat.reduceBEq, Nat.reduceAdd]; refine hk _ _ ?_; clear hk k) | refine wkt rfl ?_)); (try refine wk0 ?_)
  (try (simp (disch := omega) only [go_sem, Nat.reduceBEq, Nat.reduceAdd])); refine hK _ _ ?_; clear hK; (try clear K); (try dsimp only [behind, qs])
  refine rg rfl rfl (fun K hK => ?_); (repeat (first | (refine wo rfl (fun k hk => ?_); simp (disch := omega) only [go_sem, Nat.reduceBEq, Nat.reduceAdd]; refine hk _ _ ?_; clear hk k) | refine wkt rfl ?_)); (try refine wk0 ?_)
  refine cN rfl rfl rfl rfl (by exact Meet_spec hv0 hw0) ?_; rintro r3 h3 st_h3 k3; obtain ⟨r3_0, r3_1, r3_2, r3_3, r3_4, r3_5, r3_6, r3_7, r3_8, r3_9, r3_10, r3_11, r3_12, r3_13, r3_14, r3_15, r3_16, rfl, k3⟩ := k3.sa; (repeat (first | (refine wo rfl (fun k hk => ?_); simp (disch := omega) only [go_sem, Nat.reduceBEq, Nat.reduceAdd]; refine hk _ _ ?_; clear hk k) | refine wkt rfl ?_)); (try refine wk0 ?_)
  (try (simp (disch := omega) only [go_sem, Nat.reduceBEq, Nat.reduceAdd])); refine hK _ _ ?_; clear hK; (try clear K); (try dsimp only [behind, qs])
  refine rg rfl rfl (fun K hK => ?_); (repeat (first | (refine wo rfl (fun k hk => ?_); simp (disch := omega) only [go_sem, Nat.reduceBEq, Nat.reduceAdd]; refine hk _ _ ?_; clear hk k) | refine wkt rfl ?_)); (try refine wk0 ?_)
  refine cN rfl rfl rfl rfl (by exact RefMeet hv0 hw0) ?_; rintro r4 h4 st_h4 k4; obtain ⟨r4_0, r4_1, r4_2, r4_3, r4_4, r4_5, r4_6, r4_7, r4_8, r4_9, r4_10, r4_11, r4_12, r4_13, r4_14, r4_15, r4_16, rfl, k4⟩ := k4.sa; (repeat (first | (refine wo rfl (fun k hk => ?_); simp (disch := omega) only [go_sem, Nat.reduceBEq, Nat.reduceAdd]; refine hk _ _ ?_; clear hk k) | refine wkt rfl ?_)); (try refine wk0 ?_)
  (try (simp (disch := omega) only [go_sem, Nat.reduceBEq, Nat.reduceAdd])); refine hK _ _ ?_; clear hK; (try clear K); (try dsimp only [behind, qs])
  refine rg rfl rfl (fun K hK => ?_); (repeat (first | (refine wo rfl (fun k hk => ?_); simp (disch := omega) only [go_sem, Nat.reduceBEq, Nat.reduceAdd]; refine hk _ _ ?_; clear hk k) | refine wkt rfl ?_)); (try refine wk0 ?_)
  refine cN rfl rfl rfl rfl (by exact Hull_spec hv0 hw0) ?_; rintro r5 h5 st_h5 k5; obtain ⟨r5_0, r5_1, r5_2, r5_3, r5_4, r5_5, r5_6, r5_7, r5_8, r5_9, r5_10, r5_11, r5_12, r5_13, r5_14, r5_15, r5_16, rfl, k5⟩ := k5.sa; (repeat (first | (refine wo rfl (fun k hk => ?_); simp (disch := omega) only [go_sem, Nat.reduceBEq, Nat.reduceAdd]; refine hk _ _ ?_; clear hk k) | refine wkt rfl ?_)); (try refine wk0 ?_)
  (try (simp (disch := omega) only [go_sem, Nat.reduceBEq, Nat.reduceAdd])); refine hK _ _ ?_; clear hK; (try clear K); (try dsimp only [behind, qs])
  refine rg rfl rfl (fun K hK => ?_); (repeat (first | (refine wo rfl (fun k hk => ?_); simp (disch := omega) only [go_sem, Nat.reduceBEq, Nat.reduceAdd]; refine hk _ _ ?_; clear hk k) | refine wkt rfl ?_)); (try refine wk0 ?_)
  refine cN rfl rfl rfl rfl (by exact RefHull hv0 hw0) ?_; rintro r6 h6 st_h6 k6; obtain ⟨r6_0, r6_1, r6_2, r6_3, r6_4, r6_5, r6_6, r6_7, r6_8, r6_9, r6_10, r6_11, r6_12, r6_13, r6_14, r6_15, r6_16, rfl, k6⟩ := k6.sa; (repeat (first | (refine wo rfl (fun k hk => ?_); simp (disch := omega) only [go_sem, Nat.reduceBEq, Nat.reduceAdd]; refine hk _ _ ?_; clear hk k) | refine wkt rfl ?_)); (try refine wk0 ?_)
  (try (simp (disch := omega) only [go_sem, Nat.reduceBEq, Nat.reduceAdd])); refine hK _ _ ?_; clear hK; (try clear K); (try dsimp only [behind, qs])
  refine rg rfl rfl (fun K hK => ?_); (repeat (first | (refine wo rfl (fun k hk => ?_); simp (disch := omega) only [go_sem, Nat.reduceBEq, Nat.reduceAdd]; refine hk _ _ ?_; clear hk k) | refine wkt rfl ?_)); (try refine wk0 ?_)
  refine cN rfl rfl rfl rfl (by exact yes_spec) ?_; rintro v7 h7 s7 rfl; (repeat (first | (refine wo rfl (fun k hk => ?_); simp (disch := omega) only [go_sem, Nat.reduceBEq, Nat.reduceAdd]; refine hk _ _ ?_; clear hk k) | refine wkt rfl ?_)); (try refine wk0 ?_)
  refine cN rfl rfl rfl rfl (by exact Is_spec (h := h7) rfl rfl (k3.to (h' := h7)) (k4.to (h' := h7)) hg1.1 hg1.2) ?_; rintro v8 h8 s8 rfl; (repeat (first | (refine wo rfl (fun k hk => ?_); simp (disch := omega) only [go_sem, Nat.reduceBEq, Nat.reduceAdd]; refine hk _ _ ?_; clear hk k) | refine wkt rfl ?_)); (try refine wk0 ?_)
  refine cN rfl rfl rfl rfl (by exact Is_spec (h := h8) rfl rfl (k5.to (h' := h8)) (k6.to (h' := h8)) hg2.1 hg2.2) ?_; rintro v9 h9 s9 rfl; (repeat (first | (refine wo rfl (fun k hk => ?_); simp (disch := omega) only [go_sem, Nat.reduceBEq, Nat.reduceAdd]; refine hk _ _ ?_; clear hk k) | refine wkt rfl ?_)); (try refine wk0 ?_)
  refine cN rfl rfl rfl rfl (by exact awake_spec) ?_; rintro va ha sa rfl; (repeat (first | (refine wo rfl (fun k hk => ?_); simp (disch := omega) only [go_sem, Nat.reduceBEq, Nat.reduceAdd]; refine hk _ _ ?_; clear hk k) | refine wkt rfl ?_)); (try refine wk0 ?_)
  (try (simp (disch := omega) only [go_sem, Nat.reduceBEq, Nat.reduceAdd])); refine hK _ _ ?_; clear hK; (try clear K); (try dsimp only [behind, qs])
  refine AWP_ret ?_; simp (disch := omega) only [go_sem, Nat.reduceBEq, Nat.reduceAdd]
end Go.Q
