/-
  Contracts of package interval: what Meet returns; laws of sizes. Conditions: the values are intervals.
-/
import Derived.Test.YtdhnabpejckplaaDoorKb9dd45Ih
import Derived.Test.YtdhnabpejckplaaDoorK9228bcBunP
import Derived.Test.YtdhnabpejckplaaDoorK923d6cBunM
set_option linter.unusedVariables false
set_option linter.unusedSimpArgs false
namespace Go.Q
open Go.Proofs
set_option maxRecDepth 100000
set_option maxHeartbeats 4000000
theorem Meet_spec {h0 h : PH} [Le h0 h] {v w : Value} {x y : RI} (hv : Iv h0 v x) (hw : Iv h0 w y) : Spec mach 36 #[v, w] h (fun r h' => Ir h' r (x.fin2 y (.ok (x.set.met y.set)))) NP := by
  have hv0 := hv
  have hw0 := hw
  obtain ⟨a1, m1, c1, a2, m2, c2, a3, m3, c3, a4, m4, c4, rfl, _, _⟩ := hv.sa
  obtain ⟨a1', m1', c1', a2', m2', c2', a3', m3', c3', a4', m4', c4', rfl, _, _⟩ := hw.sa
  refine Spec.enter (args := [_, _]) (n := 11) Tryd.func36 rfl (by kernel_rfl) rfl (by simp) [.cell 4 26, .tmp 5] rfl (fun C _ => ?_)
  repeat (first | (refine rg rfl rfl (fun K hK => ?_); (repeat (first | (refine wo rfl (fun k hk => ?_); simp (disch := omega) only [go_sem, Nat.reduceBEq, Nat.reduceAdd]; refine hk _ _ ?_; clear hk k) | refine wkt rfl ?_)); (try refine wk0 ?_); refine hK _ _ ?_; clear hK K; (try dsimp only [behind, qs, qb])) | ((first | refine AWP_exit ?_ | refine AWP_skip ?_); simp (disch := decide) only [qs, qb, if_true, if_false, reduceIte]) | refine AWP_sq rfl (fun K hK => ?_) | refine ct rfl ?_ | ((first | refine hK _ _ ?_ | (clear hK; refine hK _ _ ?_) | (clear hK; clear hK; refine hK _ _ ?_)); clear hK; (try clear K)))
  refine rg rfl rfl (fun K hK => ?_); (repeat (first | (refine wo rfl (fun k hk => ?_); simp (disch := omega) only [go_sem, Nat.reduceBEq, Nat.reduceAdd]; refine hk _ _ ?_; clear hk k) | refine wkt rfl ?_)); (try refine wk0 ?_)
  refine cN rfl rfl rfl rfl (by exact exact_spec hv0 hw0 (fun g g' h' _ s t hs ht => Does.mk (Met_set hs ht (RI.le30 g) (RI.le30 g')))) ?_; rintro r3 h3 st_h3 hr3; obtain ⟨r3_0, r3_1, r3_2, r3_3, r3_4, r3_5, r3_6, r3_7, r3_8, r3_9, r3_10, r3_11, r3_12, r3_13, r3_14, r3_15, r3_16, rfl, hr3⟩ := hr3.sa; (repeat (first | (refine wo rfl (fun k hk => ?_); simp (disch := omega) only [go_sem, Nat.reduceBEq, Nat.reduceAdd]; refine hk _ _ ?_; clear hk k) | refine wkt rfl ?_)); (try refine wk0 ?_)
  (try (simp (disch := omega) only [go_sem, Nat.reduceBEq, Nat.reduceAdd])); refine hK _ _ ?_; clear hK; (try clear K); (try dsimp only [behind, qs])
  refine AWP_ret ?_; simp (disch := omega) only [go_sem, Nat.reduceBEq, Nat.reduceAdd]
  exact hr3
theorem NS.le.met {x y : NS} {k : Nat} (hx : x.le k) (hy : y.le k) : (x.met y).le k := by
  cases x with
  | e => rfl
  | i a b =>
    cases y with
    | e => rfl
    | i c d =>
      rw [NS.le_i] at hx hy
      show NS.le k (NS.mk' (omax a c) (omin b d))
      have h1 : NS.le k (.i (omax a c) (omin b d)) := by
        rw [NS.le_i]
        refine ⟨fun q e => ?_, fun q e => ?_⟩
        · cases a with
          | none => exact hy.1 _ e
          | some a =>
            cases c with
            | none => exact hx.1 _ e
            | some c => cases e; exact sz_max (hx.1 _ rfl) (hy.1 _ rfl)
        · cases b with
          | none => exact hy.2 _ e
          | some b =>
            cases d with
            | none => exact hx.2 _ e
            | some d => cases e; exact sz_min (hx.2 _ rfl) (hy.2 _ rfl)
      unfold NS.mk'
      cases ordO (omax a c) (omin b d) with
      | true => exact h1
      | false => rfl
theorem NS.le.joined {x y : NS} {k : Nat} (hx : x.le k) (hy : y.le k) : (x.joined y).le k := by
  cases x with
  | e => cases y <;> exact hy
  | i a b =>
    cases y with
    | e => exact hx
    | i c d =>
      rw [NS.le_i] at hx hy
      show NS.le k (.i (jmin a c) (jmax b d))
      rw [NS.le_i]
      refine ⟨fun q e => ?_, fun q e => ?_⟩
      · cases a with
        | none => cases e
        | some a =>
          cases c with
          | none => cases e
          | some c => cases e; exact sz_min (hx.1 _ rfl) (hy.1 _ rfl)
      · cases b with
        | none => cases e
        | some b =>
          cases d with
          | none => cases e
          | some d => cases e; exact sz_max (hx.2 _ rfl) (hy.2 _ rfl)
theorem Meet_ok {h0 h : PH} [Le h0 h] {v w : Value} {x y : RI} (hv : Iv h0 v x) (hw : Iv h0 w y) (g : x.big = false) (g' : y.big = false) : Spec mach 36 #[v, w] h (fun r h' => Ir h' r (.ok (x.set.met y.set))) NP := by
  have k := Meet_spec (h := h) hv hw
  have e : x.fin2 y (.ok (x.set.met y.set)) = .ok (x.set.met y.set) := by
    unfold RI.fin2 Out.fin
    simp only [g, g', Bool.or_self, cond_false, (RI.le g).met (RI.le g'), decide_true, cond_true]
  rwa [e] at k
theorem Hull_ok {h0 h : PH} [Le h0 h] {v w : Value} {x y : RI} (hv : Iv h0 v x) (hw : Iv h0 w y) (g : x.big = false) (g' : y.big = false) : Spec mach 37 #[v, w] h (fun r h' => Ir h' r (.ok (x.set.joined y.set))) NP := by
  have k := Hull_spec (h := h) hv hw
  have e : x.fin2 y (.ok (x.set.joined y.set)) = .ok (x.set.joined y.set) := by
    unfold RI.fin2 Out.fin
    simp only [g, g', Bool.or_self, cond_false, (RI.le g).joined (RI.le g'), decide_true, cond_true]
  rwa [e] at k
end Go.Q
