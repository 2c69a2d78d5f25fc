/-
  A quotient lies in the product with the inverse. Conditions: the arguments are intervals.
-/
import Derived.Test.YtdmecaojlbkclaaDoorK4c3175Vu
import Derived.Test.YtdmecaojlbkclaaDoorK408947Im
import Derived.Test.YtdmecaojlbkclaaDoorK5664f7Pe
set_option linter.unusedVariables false
set_option linter.unusedSimpArgs false
namespace Go.Q
open Go.Proofs
set_option maxRecDepth 100000
set_option maxHeartbeats 8000000
def oneN : NS := .i (some ((1 : Int) : Rat)) (some ((1 : Int) : Rat))
theorem oneN_ok : oneN.ok := by show ordO _ _ = true; simp [ordO]
theorem oneN_le : oneN.le 2048 := by decide
theorem div_fit {x y : RI} {p : Int} (gp : bad p = false) : Fit (x.fin2 y (rnd p x.set y.set (divO x.set y.set))) := by
  unfold RI.fin2
  cases g : (x.big || y.big) with
  | true => exact .err (by decide)
  | false =>
    obtain ⟨g1, g2⟩ := Bool.or_eq_false_iff.1 g
    unfold rnd Out.prec divO
    rw [gp]
    cases (x.set.void || y.set.void) with
    | true => exact Fit.of (z := .e) trivial
    | false =>
      cases y.set.zero with
      | true => exact .err (by decide)
      | false => exact Fit.of (NS.ok_hull (prod_ok (RI.le g1) (inv_le (RI.le g2) (by decide))).1)
theorem div_ok {x y : RI} {p : Int} {c : NS} (gp : bad p = false) (h : x.fin2 y (rnd p x.set y.set (divO x.set y.set)) = .ok c) :
    x.big = false ∧ y.big = false ∧ ((x.set.void || y.set.void) = true ∧ c = .e ∨ (x.set.void || y.set.void) = false ∧ y.set.zero = false ∧ c = (x.set.prod y.set.inv).hull p.toNat) := by
  unfold RI.fin2 at h
  cases g : (x.big || y.big) with
  | true => rw [g] at h; cases h
  | false =>
    obtain ⟨g1, g2⟩ := Bool.or_eq_false_iff.1 g
    rw [g] at h
    obtain ⟨h, _⟩ := Out.fin_ok h
    refine ⟨g1, g2, ?_⟩
    unfold rnd Out.prec divO at h
    rw [gp] at h
    cases gv : (x.set.void || y.set.void) with
    | true => rw [gv] at h; cases h; exact .inl ⟨rfl, rfl⟩
    | false =>
      rw [gv] at h
      cases hz : y.set.zero with
      | true => rw [hz] at h; cases h
      | false => rw [hz] at h; cases h; exact .inr ⟨rfl, rfl, rfl⟩
theorem mul_out {x y : RI} {p : Int} {o : Out} (gp : bad p = false) (h : x.fin2 y (rnd p x.set y.set (.ok (x.set.prod y.set))) = o) :
    o = .error 1 ∨ ((x.set.void || y.set.void) = true ∧ o = .ok .e) ∨ ((x.set.void || y.set.void) = false ∧ o = .ok ((x.set.prod y.set).hull p.toNat)) := by
  subst h
  unfold RI.fin2
  cases (x.big || y.big) with
  | true => exact .inl rfl
  | false =>
    unfold rnd Out.prec
    rw [gp]
    cases gv : (x.set.void || y.set.void) with
    | true => exact .inr (.inl ⟨rfl, rfl⟩)
    | false =>
      show Out.fin (.ok _) = _ ∨ _ ∨ _
      unfold Out.fin
      by_cases hz : ((x.set.prod y.set).hull p.toNat).le 2048
      · refine .inr (.inr ⟨rfl, ?_⟩)
        show (bif decide _ then _ else _ : Out) = _
        simp only [hz, decide_true, cond_true]
      · refine .inl ?_
        show (bif decide _ then _ else _ : Out) = _
        simp only [hz, decide_false, cond_false]
theorem one_prod {l u : Rat} (h : l ≤ u) : oneN.prod (.i (some l) (some u)) = .i (some l) (some u) := by
  have e1 : ∀ q : Rat, ((1 : Int) : Rat) * q = q := fun q => by have : ((1 : Int) : Rat) = 1 := rfl; rw [this, Rat.one_mul]
  show fin3 (stp (stp (stp (stp (.e, false, false) (.fin (((1 : Int) : Rat) * l))) (.fin (((1 : Int) : Rat) * u))) (.fin (((1 : Int) : Rat) * l))) (.fin (((1 : Int) : Rat) * u))) = _
  rw [e1, e1]
  show NS.i (some (min (min (min l u) l) u)) (some (max (max (max l u) l) u)) = _
  have m1 : min (min (min l u) l) u = l := by grind
  have m2 : max (max (max l u) l) u = u := by grind
  rw [m1, m2]
theorem inv_pos' {q : Rat} (h : 0 < q) : 0 < q⁻¹ := by
  have h1 : q * q⁻¹ = 1 := Rat.mul_inv_cancel q (by grind)
  rcases (Rat.le_total : q⁻¹ ≤ 0 ∨ 0 ≤ q⁻¹) with k | k
  · have := Rat.mul_le_mul_of_nonneg_left k (show 0 ≤ q by grind)
    grind
  · by_cases h0 : q⁻¹ = 0
    · rw [h0] at h1; grind
    · grind
theorem inv_neg' {q : Rat} (h : q < 0) : q⁻¹ < 0 := by
  have h1 : q * q⁻¹ = 1 := Rat.mul_inv_cancel q (by grind)
  rcases (Rat.le_total : 0 ≤ q⁻¹ ∨ q⁻¹ ≤ 0) with k | k
  · have := Rat.mul_le_mul_of_nonneg_left k (show 0 ≤ -q by grind)
    grind
  · by_cases h0 : q⁻¹ = 0
    · rw [h0] at h1; grind
    · grind
theorem inv_anti {c d : Rat} (h : c ≤ d) (hs : 0 < c ∨ d < 0) : d⁻¹ ≤ c⁻¹ := by
  have hc : c * c⁻¹ = 1 := Rat.mul_inv_cancel c (by grind)
  have hd : d * d⁻¹ = 1 := Rat.mul_inv_cancel d (by grind)
  have hn : 0 ≤ c⁻¹ * d⁻¹ := by
    rcases hs with k | k
    · have h1 := inv_pos' k
      have h2 := inv_pos' (show 0 < d by grind)
      have := Rat.mul_le_mul_of_nonneg_left (show 0 ≤ d⁻¹ by grind) (show 0 ≤ c⁻¹ by grind)
      grind
    · have h1 := inv_neg' k
      have h2 := inv_neg' (show c < 0 by grind)
      have := Rat.mul_le_mul_of_nonneg_left (show 0 ≤ -d⁻¹ by grind) (show 0 ≤ -c⁻¹ by grind)
      grind
  have h3 := Rat.mul_le_mul_of_nonneg_left h hn
  have e1 : c⁻¹ * d⁻¹ * c = d⁻¹ := by
    have : c⁻¹ * d⁻¹ * c = (c * c⁻¹) * d⁻¹ := by grind
    rw [this, hc, Rat.one_mul]
  have e2 : c⁻¹ * d⁻¹ * d = c⁻¹ := by
    have : c⁻¹ * d⁻¹ * d = (d * d⁻¹) * c⁻¹ := by grind
    rw [this, hd, Rat.one_mul]
  rwa [e1, e2] at h3
theorem inv_ord {c d : Option Rat} (hz : (NS.i c d).zero = false) (ho : (NS.i c d).ok) : invO d ≤ invO c := by
  have h1 : ¬ ((NS.i c d).slo ≤ 0 ∧ 0 ≤ (NS.i c d).shi) := by
    intro k
    simp [NS.zero, NS.void, k.1, k.2] at hz
  have z0 : ((0 : Int) : Rat) = 0 := rfl
  cases c with
  | none =>
    cases d with
    | none => exact (h1 ⟨by decide, by decide⟩).elim
    | some d =>
      have h2 : ¬ 0 ≤ sgn3 d := fun k => h1 ⟨by show (-1 : Int) ≤ 0; decide, k⟩
      have h3 : d < 0 := by unfold sgn3 at h2; grind
      have := inv_neg' h3
      show d⁻¹ ≤ ((0 : Int) : Rat)
      grind
  | some c =>
    cases d with
    | none =>
      have h2 : ¬ sgn3 c ≤ 0 := fun k => h1 ⟨k, by show (0 : Int) ≤ 1; decide⟩
      have h3 : 0 < c := by unfold sgn3 at h2; grind
      have := inv_pos' h3
      show ((0 : Int) : Rat) ≤ c⁻¹
      grind
    | some d =>
      have h2 : ¬ (sgn3 c ≤ 0 ∧ 0 ≤ sgn3 d) := h1
      have h3 : ¬ d < c := by simpa [NS.ok, ordO] using ho
      have h4 : 0 < c ∨ d < 0 := by unfold sgn3 at h2; grind
      exact inv_anti (by grind) h4
theorem inverse_plain {X Y : NS} {k m : Nat} (hY : Y.ok) (hv : (X.void || Y.void) = false) (hz : Y.zero = false) : ((X.prod Y.inv).hull k).within ((X.prod ((oneN.prod Y.inv).hull m)).hull k) = true := by
  cases X with
  | e => cases hv
  | i a b =>
    cases Y with
    | e => cases hv
    | i c d =>
      have hl := inv_ord hz hY
      show (((NS.i a b).prod (.i (some (invO d)) (some (invO c)))).hull k).within _ = true
      have e1 : oneN.prod (NS.i c d).inv = .i (some (invO d)) (some (invO c)) := one_prod hl
      rw [e1]
      exact NS.hull_mono (prod_mono (gdown_le _ _) hl (le_gup _ _))
theorem inv_void {Y : NS} {m : Nat} (h : Y.void = false) : ((oneN.prod Y.inv).hull m).void = false := by
  cases Y with
  | e => cases h
  | i c d =>
    show (NS.hull m (fin3 (outer (lowP (some ((1 : Int) : Rat))) (highP (some ((1 : Int) : Rat))) (lowP (some (invO d))) (highP (some (invO c))) 2))).void = false
    generalize outer _ _ _ _ 2 = o
    obtain ⟨s, l, u⟩ := o
    cases s <;> rfl
theorem mul_ok_le {x y : RI} {p : Int} {z : NS} (h : x.fin2 y (rnd p x.set y.set (.ok (x.set.prod y.set))) = .ok z) : z.ok ∧ z.le 2048 := by
  unfold RI.fin2 at h
  cases g : (x.big || y.big) with
  | true => rw [g] at h; cases h
  | false =>
    obtain ⟨g1, g2⟩ := Bool.or_eq_false_iff.1 g
    rw [g] at h
    obtain ⟨h, hl⟩ := Out.fin_ok h
    refine ⟨?_, hl⟩
    unfold rnd Out.prec at h
    cases gb : bad p with
    | true => rw [gb] at h; cases h
    | false =>
      rw [gb] at h
      cases gv : (x.set.void || y.set.void) with
      | true => rw [gv] at h; cases h; trivial
      | false => rw [gv] at h; cases h; exact NS.ok_hull (prod_ok (RI.le g1) (RI.le g2)).1
theorem Inverse_1 {h0 h : PH} [Le h0 h] {v w : Value} {x y : RI} {p k : Int} (hv : Iv h0 v x) (hw : Iv h0 w y) (ew : IntKind.i64.wrap (p.tmod 64) = k) (hk : 0 ≤ k ∧ k < 64) : Spec mach 4 #[v, w, .int .u8 p] h (fun r _ => r = .bool true) NP := by
  have hv0 := hv
  have hw0 := hw
  have gp : bad k = false := by
    cases e : bad k with
    | false => rfl
    | true => have := bad_yes e; omega
  have gp2 : bad (2 * k) = false := by
    cases e : bad (2 * k) with
    | false => rfl
    | true => have := bad_yes e; omega
  have kC := fun {h} [Le h0 h] => DivI_spec (h := h) (p := k) hv hw
  obtain ⟨a1, m1, c1, a2, m2, c2, a3, m3, c3, a4, m4, c4, rfl, _, _⟩ := hv.sa
  obtain ⟨a1', m1', c1', a2', m2', c2', a3', m3', c3', a4', m4', c4', rfl, _, _⟩ := hw.sa
  cases oC : x.fin2 y (rnd k x.set y.set (divO x.set y.set)) with
  | error e =>
    have he := (div_fit gp).2 e oC
    rw [oC] at kC
    refine Spec.enter (args := [_, _, _]) (n := 64) Tryd.func4 rfl (by kernel_rfl) rfl (by simp) [.tmp 6] rfl (fun C _ => ?_)
    repeat (first | (refine rg rfl rfl (fun K hK => ?_); (repeat (first | (refine wo rfl (fun k hk => ?_); simp (disch := omega) only [go_sem, Nat.reduceBEq, Nat.reduceAdd, ew]; refine hk _ _ ?_; clear hk k) | refine wkt rfl ?_)); (try refine wk0 ?_); refine hK _ _ ?_; clear hK K; (try dsimp only [behind, qs, qb])) | ((first | refine AWP_exit ?_ | refine AWP_skip ?_); simp (disch := decide) only [qs, qb, if_true, if_false, reduceIte]) | refine AWP_sq rfl (fun K hK => ?_) | refine ct rfl ?_ | ((first | refine hK _ _ ?_ | (clear hK; refine hK _ _ ?_) | (clear hK; clear hK; refine hK _ _ ?_)); clear hK; (try clear K)))
    refine rg rfl rfl (fun K hK => ?_); (repeat (first | (refine wo rfl (fun k hk => ?_); simp (disch := omega) only [go_sem, Nat.reduceBEq, Nat.reduceAdd]; refine hk _ _ ?_; clear hk k) | refine wkt rfl ?_)); (try refine wk0 ?_)
    refine cN rfl rfl rfl rfl (by exact QInt_spec (n := 1) (by decide) (by decide)) ?_; rintro w1 g1 _ f1; obtain ⟨w1_0, w1_1, w1_2, w1_3, w1_4, w1_5, w1_6, rfl, f1⟩ := f1.sa; (repeat (first | (refine wo rfl (fun k hk => ?_); simp (disch := omega) only [go_sem, Nat.reduceBEq, Nat.reduceAdd]; refine hk _ _ ?_; clear hk k) | refine wkt rfl ?_)); (try refine wk0 ?_)
    refine cN rfl rfl rfl rfl (by exact QRat_spec f1 (by decide)) ?_; rintro w2 g2 _ f2; obtain ⟨w2_0, w2_1, w2_2, w2_3, w2_4, w2_5, w2_6, rfl, f2⟩ := f2.sa; (repeat (first | (refine wo rfl (fun k hk => ?_); simp (disch := omega) only [go_sem, Nat.reduceBEq, Nat.reduceAdd]; refine hk _ _ ?_; clear hk k) | refine wkt rfl ?_)); (try refine wk0 ?_)
    (try (simp (disch := omega) only [go_sem, Nat.reduceBEq, Nat.reduceAdd])); refine hK _ _ ?_; clear hK; (try clear K); (try dsimp only [behind, qs])
    repeat (first | (refine rg rfl rfl (fun K hK => ?_); (repeat (first | (refine wo rfl (fun k hk => ?_); simp (disch := omega) only [go_sem, Nat.reduceBEq, Nat.reduceAdd]; refine hk _ _ ?_; clear hk k) | refine wkt rfl ?_)); (try refine wk0 ?_); refine hK _ _ ?_; clear hK K; (try dsimp only [behind, qs, qb])) | ((first | refine AWP_exit ?_ | refine AWP_skip ?_); simp (disch := decide) only [qs, qb, if_true, if_false, reduceIte]) | refine AWP_sq rfl (fun K hK => ?_) | refine ct rfl ?_ | ((first | refine hK _ _ ?_ | (clear hK; refine hK _ _ ?_) | (clear hK; clear hK; refine hK _ _ ?_)); clear hK; (try clear K)))
    refine rg rfl rfl (fun K hK => ?_); (repeat (first | (refine wo rfl (fun k hk => ?_); simp (disch := omega) only [go_sem, Nat.reduceBEq, Nat.reduceAdd]; refine hk _ _ ?_; clear hk k) | refine wkt rfl ?_)); (try refine wk0 ?_)
    refine cN rfl rfl rfl rfl (by exact kC) ?_; rintro w3 g3 s3 q3; obtain rfl := q3.ea; (repeat (first | (refine wo rfl (fun k hk => ?_); simp (disch := omega) only [go_sem, Nat.reduceBEq, Nat.reduceAdd]; refine hk _ _ ?_; clear hk k) | refine wkt rfl ?_)); (try refine wk0 ?_)
    (try (simp (disch := omega) only [go_sem, Nat.reduceBEq, Nat.reduceAdd])); refine hK _ _ ?_; clear hK; (try clear K); (try dsimp only [behind, qs])
    repeat (first | (refine rg rfl rfl (fun K hK => ?_); (repeat (first | (refine wo rfl (fun k hk => ?_); simp (disch := omega) only [go_sem, Nat.reduceBEq, Nat.reduceAdd]; refine hk _ _ ?_; clear hk k) | refine wkt rfl ?_)); (try refine wk0 ?_); refine hK _ _ ?_; clear hK K; (try dsimp only [behind, qs, qb])) | ((first | refine AWP_exit ?_ | refine AWP_skip ?_); simp (disch := decide) only [qs, qb, if_true, if_false, reduceIte]) | refine AWP_sq rfl (fun K hK => ?_) | refine ct rfl ?_ | ((first | refine hK _ _ ?_ | (clear hK; refine hK _ _ ?_) | (clear hK; clear hK; refine hK _ _ ?_)); clear hK; (try clear K)))
    have cI : Cv g3 (.agg #[.bool w2_0, .slice w2_1 w2_2 w2_3, .slice w2_4 w2_5 w2_6, .bool w2_0, .slice w2_1 w2_2 w2_3, .slice w2_4 w2_5 w2_6, .bool false, .bool false]) oneN := ⟨_, _, _, _, _, _, rfl, f2.to (h' := g3), f2.to (h' := g3)⟩
    have kI := fun {h} [Le g3 h] => DivI_spec (h := h) (p := 2 * k) (cI.iv oneN_le) (hw0.to (h' := g3))
    refine rg rfl rfl (fun K hK => ?_); (repeat (first | (refine wo rfl (fun k hk => ?_); simp (disch := omega) only [go_sem, Nat.reduceBEq, Nat.reduceAdd]; refine hk _ _ ?_; clear hk k) | refine wkt rfl ?_)); (try refine wk0 ?_)
    refine cN rfl rfl rfl rfl (by exact kI) ?_; rintro w4 g4 st_g4 q4; obtain ⟨w4_0, w4_1, w4_2, w4_3, w4_4, w4_5, w4_6, w4_7, w4_8, w4_9, w4_10, w4_11, w4_12, w4_13, w4_14, w4_15, w4_16, rfl, q4⟩ := q4.sa; (repeat (first | (refine wo rfl (fun k hk => ?_); simp (disch := omega) only [go_sem, Nat.reduceBEq, Nat.reduceAdd]; refine hk _ _ ?_; clear hk k) | refine wkt rfl ?_)); (try refine wk0 ?_)
    (try (simp (disch := omega) only [go_sem, Nat.reduceBEq, Nat.reduceAdd])); refine hK _ _ ?_; clear hK; (try clear K); (try dsimp only [behind, qs])
    repeat (first | (refine rg rfl rfl (fun K hK => ?_); (repeat (first | (refine wo rfl (fun k hk => ?_); simp (disch := omega) only [go_sem, Nat.reduceBEq, Nat.reduceAdd]; refine hk _ _ ?_; clear hk k) | refine wkt rfl ?_)); (try refine wk0 ?_); refine hK _ _ ?_; clear hK K; (try dsimp only [behind, qs, qb])) | ((first | refine AWP_exit ?_ | refine AWP_skip ?_); simp (disch := decide) only [qs, qb, if_true, if_false, reduceIte]) | refine AWP_sq rfl (fun K hK => ?_) | refine ct rfl ?_ | ((first | refine hK _ _ ?_ | (clear hK; refine hK _ _ ?_) | (clear hK; clear hK; refine hK _ _ ?_)); clear hK; (try clear K)))
    refine rg rfl rfl (fun K hK => ?_); (repeat (first | (refine wo rfl (fun k hk => ?_); simp (disch := omega) only [go_sem, Nat.reduceBEq, Nat.reduceAdd]; refine hk _ _ ?_; clear hk k) | refine wkt rfl ?_)); (try refine wk0 ?_)
    refine cN rfl rfl rfl rfl (by exact awake_spec) ?_; rintro w5 g5 s5 rfl; (repeat (first | (refine wo rfl (fun k hk => ?_); simp (disch := omega) only [go_sem, Nat.reduceBEq, Nat.reduceAdd]; refine hk _ _ ?_; clear hk k) | refine wkt rfl ?_)); (try refine wk0 ?_)
    (try (simp (disch := omega) only [go_sem, Nat.reduceBEq, Nat.reduceAdd])); refine hK _ _ ?_; clear hK; (try clear K); (try dsimp only [behind, qs])
    repeat (first | (refine rg rfl rfl (fun K hK => ?_); (repeat (first | (refine wo rfl (fun k hk => ?_); simp (disch := omega) only [go_sem, Nat.reduceBEq, Nat.reduceAdd]; refine hk _ _ ?_; clear hk k) | refine wkt rfl ?_)); (try refine wk0 ?_); refine hK _ _ ?_; clear hK K; (try dsimp only [behind, qs, qb])) | ((first | refine AWP_exit ?_ | refine AWP_skip ?_); simp (disch := decide) only [qs, qb, if_true, if_false, reduceIte]) | refine AWP_sq rfl (fun K hK => ?_) | refine ct rfl ?_ | ((first | refine hK _ _ ?_ | (clear hK; refine hK _ _ ?_) | (clear hK; clear hK; refine hK _ _ ?_)); clear hK; (try clear K)))
    refine AWP_ret ?_; simp (disch := omega) only [go_sem, Nat.reduceBEq, Nat.reduceAdd]
  | ok Q =>
    obtain ⟨gx, gy, dC⟩ := div_ok gp oC
    obtain ⟨okC, lC⟩ := (div_fit gp).1 Q oC
    rw [oC] at kC
    have bI := div_fit (x := oneN.ri) (y := y) gp2
    cases oI : oneN.ri.fin2 y (rnd (2 * k) oneN.ri.set y.set (divO oneN.ri.set y.set)) with
    | error e =>
      have he := bI.2 e oI
      refine Spec.enter (args := [_, _, _]) (n := 64) Tryd.func4 rfl (by kernel_rfl) rfl (by simp) [.tmp 6] rfl (fun C _ => ?_)
      repeat (first | (refine rg rfl rfl (fun K hK => ?_); (repeat (first | (refine wo rfl (fun k hk => ?_); simp (disch := omega) only [go_sem, Nat.reduceBEq, Nat.reduceAdd, ew]; refine hk _ _ ?_; clear hk k) | refine wkt rfl ?_)); (try refine wk0 ?_); refine hK _ _ ?_; clear hK K; (try dsimp only [behind, qs, qb])) | ((first | refine AWP_exit ?_ | refine AWP_skip ?_); simp (disch := decide) only [qs, qb, if_true, if_false, reduceIte]) | refine AWP_sq rfl (fun K hK => ?_) | refine ct rfl ?_ | ((first | refine hK _ _ ?_ | (clear hK; refine hK _ _ ?_) | (clear hK; clear hK; refine hK _ _ ?_)); clear hK; (try clear K)))
      refine rg rfl rfl (fun K hK => ?_); (repeat (first | (refine wo rfl (fun k hk => ?_); simp (disch := omega) only [go_sem, Nat.reduceBEq, Nat.reduceAdd]; refine hk _ _ ?_; clear hk k) | refine wkt rfl ?_)); (try refine wk0 ?_)
      refine cN rfl rfl rfl rfl (by exact QInt_spec (n := 1) (by decide) (by decide)) ?_; rintro w1 g1 _ f1; obtain ⟨w1_0, w1_1, w1_2, w1_3, w1_4, w1_5, w1_6, rfl, f1⟩ := f1.sa; (repeat (first | (refine wo rfl (fun k hk => ?_); simp (disch := omega) only [go_sem, Nat.reduceBEq, Nat.reduceAdd]; refine hk _ _ ?_; clear hk k) | refine wkt rfl ?_)); (try refine wk0 ?_)
      refine cN rfl rfl rfl rfl (by exact QRat_spec f1 (by decide)) ?_; rintro w2 g2 _ f2; obtain ⟨w2_0, w2_1, w2_2, w2_3, w2_4, w2_5, w2_6, rfl, f2⟩ := f2.sa; (repeat (first | (refine wo rfl (fun k hk => ?_); simp (disch := omega) only [go_sem, Nat.reduceBEq, Nat.reduceAdd]; refine hk _ _ ?_; clear hk k) | refine wkt rfl ?_)); (try refine wk0 ?_)
      (try (simp (disch := omega) only [go_sem, Nat.reduceBEq, Nat.reduceAdd])); refine hK _ _ ?_; clear hK; (try clear K); (try dsimp only [behind, qs])
      repeat (first | (refine rg rfl rfl (fun K hK => ?_); (repeat (first | (refine wo rfl (fun k hk => ?_); simp (disch := omega) only [go_sem, Nat.reduceBEq, Nat.reduceAdd]; refine hk _ _ ?_; clear hk k) | refine wkt rfl ?_)); (try refine wk0 ?_); refine hK _ _ ?_; clear hK K; (try dsimp only [behind, qs, qb])) | ((first | refine AWP_exit ?_ | refine AWP_skip ?_); simp (disch := decide) only [qs, qb, if_true, if_false, reduceIte]) | refine AWP_sq rfl (fun K hK => ?_) | refine ct rfl ?_ | ((first | refine hK _ _ ?_ | (clear hK; refine hK _ _ ?_) | (clear hK; clear hK; refine hK _ _ ?_)); clear hK; (try clear K)))
      refine rg rfl rfl (fun K hK => ?_); (repeat (first | (refine wo rfl (fun k hk => ?_); simp (disch := omega) only [go_sem, Nat.reduceBEq, Nat.reduceAdd]; refine hk _ _ ?_; clear hk k) | refine wkt rfl ?_)); (try refine wk0 ?_)
      refine cN rfl rfl rfl rfl (by exact kC) ?_; rintro w3 g3 s3 q3; obtain ⟨_, _, _, _, _, _, _, _, _, _, _, _, _, _, _, _, rfl, q3c⟩ := q3.oa; (repeat (first | (refine wo rfl (fun k hk => ?_); simp (disch := omega) only [go_sem, Nat.reduceBEq, Nat.reduceAdd]; refine hk _ _ ?_; clear hk k) | refine wkt rfl ?_)); (try refine wk0 ?_)
      (try (simp (disch := omega) only [go_sem, Nat.reduceBEq, Nat.reduceAdd])); refine hK _ _ ?_; clear hK; (try clear K); (try dsimp only [behind, qs])
      repeat (first | (refine rg rfl rfl (fun K hK => ?_); (repeat (first | (refine wo rfl (fun k hk => ?_); simp (disch := omega) only [go_sem, Nat.reduceBEq, Nat.reduceAdd]; refine hk _ _ ?_; clear hk k) | refine wkt rfl ?_)); (try refine wk0 ?_); refine hK _ _ ?_; clear hK K; (try dsimp only [behind, qs, qb])) | ((first | refine AWP_exit ?_ | refine AWP_skip ?_); simp (disch := decide) only [qs, qb, if_true, if_false, reduceIte]) | refine AWP_sq rfl (fun K hK => ?_) | refine ct rfl ?_ | ((first | refine hK _ _ ?_ | (clear hK; refine hK _ _ ?_) | (clear hK; clear hK; refine hK _ _ ?_)); clear hK; (try clear K)))
      have cI : Cv g3 (.agg #[.bool w2_0, .slice w2_1 w2_2 w2_3, .slice w2_4 w2_5 w2_6, .bool w2_0, .slice w2_1 w2_2 w2_3, .slice w2_4 w2_5 w2_6, .bool false, .bool false]) oneN := ⟨_, _, _, _, _, _, rfl, f2.to (h' := g3), f2.to (h' := g3)⟩
      have kI := fun {h} [Le g3 h] => DivI_spec (h := h) (p := 2 * k) (cI.iv oneN_le) (hw0.to (h' := g3))
      rw [oI] at kI
      refine rg rfl rfl (fun K hK => ?_); (repeat (first | (refine wo rfl (fun k hk => ?_); simp (disch := omega) only [go_sem, Nat.reduceBEq, Nat.reduceAdd]; refine hk _ _ ?_; clear hk k) | refine wkt rfl ?_)); (try refine wk0 ?_)
      refine cN rfl rfl rfl rfl (by exact kI) ?_; rintro w4 g4 s4 q4; obtain rfl := q4.ea; (repeat (first | (refine wo rfl (fun k hk => ?_); simp (disch := omega) only [go_sem, Nat.reduceBEq, Nat.reduceAdd]; refine hk _ _ ?_; clear hk k) | refine wkt rfl ?_)); (try refine wk0 ?_)
      (try (simp (disch := omega) only [go_sem, Nat.reduceBEq, Nat.reduceAdd])); refine hK _ _ ?_; clear hK; (try clear K); (try dsimp only [behind, qs])
      repeat (first | (refine rg rfl rfl (fun K hK => ?_); (repeat (first | (refine wo rfl (fun k hk => ?_); simp (disch := omega) only [go_sem, Nat.reduceBEq, Nat.reduceAdd]; refine hk _ _ ?_; clear hk k) | refine wkt rfl ?_)); (try refine wk0 ?_); refine hK _ _ ?_; clear hK K; (try dsimp only [behind, qs, qb])) | ((first | refine AWP_exit ?_ | refine AWP_skip ?_); simp (disch := decide) only [qs, qb, if_true, if_false, reduceIte]) | refine AWP_sq rfl (fun K hK => ?_) | refine ct rfl ?_ | ((first | refine hK _ _ ?_ | (clear hK; refine hK _ _ ?_) | (clear hK; clear hK; refine hK _ _ ?_)); clear hK; (try clear K)))
      refine rg rfl rfl (fun K hK => ?_); (repeat (first | (refine wo rfl (fun k hk => ?_); simp (disch := omega) only [go_sem, Nat.reduceBEq, Nat.reduceAdd]; refine hk _ _ ?_; clear hk k) | refine wkt rfl ?_)); (try refine wk0 ?_)
      refine cN rfl rfl rfl rfl (by exact awake_spec) ?_; rintro w5 g5 s5 rfl; (repeat (first | (refine wo rfl (fun k hk => ?_); simp (disch := omega) only [go_sem, Nat.reduceBEq, Nat.reduceAdd]; refine hk _ _ ?_; clear hk k) | refine wkt rfl ?_)); (try refine wk0 ?_)
      (try (simp (disch := omega) only [go_sem, Nat.reduceBEq, Nat.reduceAdd])); refine hK _ _ ?_; clear hK; (try clear K); (try dsimp only [behind, qs])
      repeat (first | (refine rg rfl rfl (fun K hK => ?_); (repeat (first | (refine wo rfl (fun k hk => ?_); simp (disch := omega) only [go_sem, Nat.reduceBEq, Nat.reduceAdd]; refine hk _ _ ?_; clear hk k) | refine wkt rfl ?_)); (try refine wk0 ?_); refine hK _ _ ?_; clear hK K; (try dsimp only [behind, qs, qb])) | ((first | refine AWP_exit ?_ | refine AWP_skip ?_); simp (disch := decide) only [qs, qb, if_true, if_false, reduceIte]) | refine AWP_sq rfl (fun K hK => ?_) | refine ct rfl ?_ | ((first | refine hK _ _ ?_ | (clear hK; refine hK _ _ ?_) | (clear hK; clear hK; refine hK _ _ ?_)); clear hK; (try clear K)))
      refine AWP_ret ?_; simp (disch := omega) only [go_sem, Nat.reduceBEq, Nat.reduceAdd]
    | ok I =>
      obtain ⟨_, _, dI⟩ := div_ok gp2 oI
      obtain ⟨okI, lI⟩ := bI.1 I oI
      refine Spec.enter (args := [_, _, _]) (n := 64) Tryd.func4 rfl (by kernel_rfl) rfl (by simp) [.tmp 6] rfl (fun C _ => ?_)
      repeat (first | (refine rg rfl rfl (fun K hK => ?_); (repeat (first | (refine wo rfl (fun k hk => ?_); simp (disch := omega) only [go_sem, Nat.reduceBEq, Nat.reduceAdd, ew]; refine hk _ _ ?_; clear hk k) | refine wkt rfl ?_)); (try refine wk0 ?_); refine hK _ _ ?_; clear hK K; (try dsimp only [behind, qs, qb])) | ((first | refine AWP_exit ?_ | refine AWP_skip ?_); simp (disch := decide) only [qs, qb, if_true, if_false, reduceIte]) | refine AWP_sq rfl (fun K hK => ?_) | refine ct rfl ?_ | ((first | refine hK _ _ ?_ | (clear hK; refine hK _ _ ?_) | (clear hK; clear hK; refine hK _ _ ?_)); clear hK; (try clear K)))
      refine rg rfl rfl (fun K hK => ?_); (repeat (first | (refine wo rfl (fun k hk => ?_); simp (disch := omega) only [go_sem, Nat.reduceBEq, Nat.reduceAdd]; refine hk _ _ ?_; clear hk k) | refine wkt rfl ?_)); (try refine wk0 ?_)
      refine cN rfl rfl rfl rfl (by exact QInt_spec (n := 1) (by decide) (by decide)) ?_; rintro w1 g1 _ f1; obtain ⟨w1_0, w1_1, w1_2, w1_3, w1_4, w1_5, w1_6, rfl, f1⟩ := f1.sa; (repeat (first | (refine wo rfl (fun k hk => ?_); simp (disch := omega) only [go_sem, Nat.reduceBEq, Nat.reduceAdd]; refine hk _ _ ?_; clear hk k) | refine wkt rfl ?_)); (try refine wk0 ?_)
      refine cN rfl rfl rfl rfl (by exact QRat_spec f1 (by decide)) ?_; rintro w2 g2 _ f2; obtain ⟨w2_0, w2_1, w2_2, w2_3, w2_4, w2_5, w2_6, rfl, f2⟩ := f2.sa; (repeat (first | (refine wo rfl (fun k hk => ?_); simp (disch := omega) only [go_sem, Nat.reduceBEq, Nat.reduceAdd]; refine hk _ _ ?_; clear hk k) | refine wkt rfl ?_)); (try refine wk0 ?_)
      (try (simp (disch := omega) only [go_sem, Nat.reduceBEq, Nat.reduceAdd])); refine hK _ _ ?_; clear hK; (try clear K); (try dsimp only [behind, qs])
      repeat (first | (refine rg rfl rfl (fun K hK => ?_); (repeat (first | (refine wo rfl (fun k hk => ?_); simp (disch := omega) only [go_sem, Nat.reduceBEq, Nat.reduceAdd]; refine hk _ _ ?_; clear hk k) | refine wkt rfl ?_)); (try refine wk0 ?_); refine hK _ _ ?_; clear hK K; (try dsimp only [behind, qs, qb])) | ((first | refine AWP_exit ?_ | refine AWP_skip ?_); simp (disch := decide) only [qs, qb, if_true, if_false, reduceIte]) | refine AWP_sq rfl (fun K hK => ?_) | refine ct rfl ?_ | ((first | refine hK _ _ ?_ | (clear hK; refine hK _ _ ?_) | (clear hK; clear hK; refine hK _ _ ?_)); clear hK; (try clear K)))
      refine rg rfl rfl (fun K hK => ?_); (repeat (first | (refine wo rfl (fun k hk => ?_); simp (disch := omega) only [go_sem, Nat.reduceBEq, Nat.reduceAdd]; refine hk _ _ ?_; clear hk k) | refine wkt rfl ?_)); (try refine wk0 ?_)
      refine cN rfl rfl rfl rfl (by exact kC) ?_; rintro w3 g3 s3 q3; obtain ⟨_, _, _, _, _, _, _, _, _, _, _, _, _, _, _, _, rfl, q3c⟩ := q3.oa; (repeat (first | (refine wo rfl (fun k hk => ?_); simp (disch := omega) only [go_sem, Nat.reduceBEq, Nat.reduceAdd]; refine hk _ _ ?_; clear hk k) | refine wkt rfl ?_)); (try refine wk0 ?_)
      (try (simp (disch := omega) only [go_sem, Nat.reduceBEq, Nat.reduceAdd])); refine hK _ _ ?_; clear hK; (try clear K); (try dsimp only [behind, qs])
      repeat (first | (refine rg rfl rfl (fun K hK => ?_); (repeat (first | (refine wo rfl (fun k hk => ?_); simp (disch := omega) only [go_sem, Nat.reduceBEq, Nat.reduceAdd]; refine hk _ _ ?_; clear hk k) | refine wkt rfl ?_)); (try refine wk0 ?_); refine hK _ _ ?_; clear hK K; (try dsimp only [behind, qs, qb])) | ((first | refine AWP_exit ?_ | refine AWP_skip ?_); simp (disch := decide) only [qs, qb, if_true, if_false, reduceIte]) | refine AWP_sq rfl (fun K hK => ?_) | refine ct rfl ?_ | ((first | refine hK _ _ ?_ | (clear hK; refine hK _ _ ?_) | (clear hK; clear hK; refine hK _ _ ?_)); clear hK; (try clear K)))
      have cI : Cv g3 (.agg #[.bool w2_0, .slice w2_1 w2_2 w2_3, .slice w2_4 w2_5 w2_6, .bool w2_0, .slice w2_1 w2_2 w2_3, .slice w2_4 w2_5 w2_6, .bool false, .bool false]) oneN := ⟨_, _, _, _, _, _, rfl, f2.to (h' := g3), f2.to (h' := g3)⟩
      have kI := fun {h} [Le g3 h] => DivI_spec (h := h) (p := 2 * k) (cI.iv oneN_le) (hw0.to (h' := g3))
      rw [oI] at kI
      refine rg rfl rfl (fun K hK => ?_); (repeat (first | (refine wo rfl (fun k hk => ?_); simp (disch := omega) only [go_sem, Nat.reduceBEq, Nat.reduceAdd]; refine hk _ _ ?_; clear hk k) | refine wkt rfl ?_)); (try refine wk0 ?_)
      refine cN rfl rfl rfl rfl (by exact kI) ?_; rintro w4 g4 s4 q4; obtain ⟨_, _, _, _, _, _, _, _, _, _, _, _, _, _, _, _, rfl, q4c⟩ := q4.oa; (repeat (first | (refine wo rfl (fun k hk => ?_); simp (disch := omega) only [go_sem, Nat.reduceBEq, Nat.reduceAdd]; refine hk _ _ ?_; clear hk k) | refine wkt rfl ?_)); (try refine wk0 ?_)
      (try (simp (disch := omega) only [go_sem, Nat.reduceBEq, Nat.reduceAdd])); refine hK _ _ ?_; clear hK; (try clear K); (try dsimp only [behind, qs])
      repeat (first | (refine rg rfl rfl (fun K hK => ?_); (repeat (first | (refine wo rfl (fun k hk => ?_); simp (disch := omega) only [go_sem, Nat.reduceBEq, Nat.reduceAdd]; refine hk _ _ ?_; clear hk k) | refine wkt rfl ?_)); (try refine wk0 ?_); refine hK _ _ ?_; clear hK K; (try dsimp only [behind, qs, qb])) | ((first | refine AWP_exit ?_ | refine AWP_skip ?_); simp (disch := decide) only [qs, qb, if_true, if_false, reduceIte]) | refine AWP_sq rfl (fun K hK => ?_) | refine ct rfl ?_ | ((first | refine hK _ _ ?_ | (clear hK; refine hK _ _ ?_) | (clear hK; clear hK; refine hK _ _ ?_)); clear hK; (try clear K)))
      have kM := fun {h} [Le g4 h] => MulI_spec (h := h) (p := k) (hv0.to (h' := g4)) (q4c.iv lI)
      rw [NS.ri_set okI] at kM
      rcases mul_out (x := x) (y := I.ri) gp rfl with oM | ⟨vM, oM⟩ | ⟨vM, oM⟩
      · rw [NS.ri_set okI] at oM
        rw [oM] at kM
        refine rg rfl rfl (fun K hK => ?_); (repeat (first | (refine wo rfl (fun k hk => ?_); simp (disch := omega) only [go_sem, Nat.reduceBEq, Nat.reduceAdd]; refine hk _ _ ?_; clear hk k) | refine wkt rfl ?_)); (try refine wk0 ?_)
        refine cN rfl rfl rfl rfl (by exact kM) ?_; rintro w6 g6 s6 q6; obtain rfl := q6.ea; (repeat (first | (refine wo rfl (fun k hk => ?_); simp (disch := omega) only [go_sem, Nat.reduceBEq, Nat.reduceAdd]; refine hk _ _ ?_; clear hk k) | refine wkt rfl ?_)); (try refine wk0 ?_)
        (try (simp (disch := omega) only [go_sem, Nat.reduceBEq, Nat.reduceAdd])); refine hK _ _ ?_; clear hK; (try clear K); (try dsimp only [behind, qs])
        repeat (first | (refine rg rfl rfl (fun K hK => ?_); (repeat (first | (refine wo rfl (fun k hk => ?_); simp (disch := omega) only [go_sem, Nat.reduceBEq, Nat.reduceAdd]; refine hk _ _ ?_; clear hk k) | refine wkt rfl ?_)); (try refine wk0 ?_); refine hK _ _ ?_; clear hK K; (try dsimp only [behind, qs, qb])) | ((first | refine AWP_exit ?_ | refine AWP_skip ?_); simp (disch := decide) only [qs, qb, if_true, if_false, reduceIte]) | refine AWP_sq rfl (fun K hK => ?_) | refine ct rfl ?_ | ((first | refine hK _ _ ?_ | (clear hK; refine hK _ _ ?_) | (clear hK; clear hK; refine hK _ _ ?_)); clear hK; (try clear K)))
        refine rg rfl rfl (fun K hK => ?_); (repeat (first | (refine wo rfl (fun k hk => ?_); simp (disch := omega) only [go_sem, Nat.reduceBEq, Nat.reduceAdd]; refine hk _ _ ?_; clear hk k) | refine wkt rfl ?_)); (try refine wk0 ?_)
        refine cN rfl rfl rfl rfl (by exact awake_spec) ?_; rintro w7 g7 s7 rfl; (repeat (first | (refine wo rfl (fun k hk => ?_); simp (disch := omega) only [go_sem, Nat.reduceBEq, Nat.reduceAdd]; refine hk _ _ ?_; clear hk k) | refine wkt rfl ?_)); (try refine wk0 ?_)
        (try (simp (disch := omega) only [go_sem, Nat.reduceBEq, Nat.reduceAdd])); refine hK _ _ ?_; clear hK; (try clear K); (try dsimp only [behind, qs])
        repeat (first | (refine rg rfl rfl (fun K hK => ?_); (repeat (first | (refine wo rfl (fun k hk => ?_); simp (disch := omega) only [go_sem, Nat.reduceBEq, Nat.reduceAdd]; refine hk _ _ ?_; clear hk k) | refine wkt rfl ?_)); (try refine wk0 ?_); refine hK _ _ ?_; clear hK K; (try dsimp only [behind, qs, qb])) | ((first | refine AWP_exit ?_ | refine AWP_skip ?_); simp (disch := decide) only [qs, qb, if_true, if_false, reduceIte]) | refine AWP_sq rfl (fun K hK => ?_) | refine ct rfl ?_ | ((first | refine hK _ _ ?_ | (clear hK; refine hK _ _ ?_) | (clear hK; clear hK; refine hK _ _ ?_)); clear hK; (try clear K)))
        refine AWP_ret ?_; simp (disch := omega) only [go_sem, Nat.reduceBEq, Nat.reduceAdd]
      · rw [NS.ri_set okI] at oM vM
        rw [oM] at kM
        have hin : Q.within .e = true := by
          rcases dC with ⟨_, e⟩ | ⟨v, z, e⟩
          · rw [e]; rfl
          · exfalso
            rcases dI with ⟨vI, e'⟩ | ⟨vI, z', e'⟩
            · rw [NS.ri_set oneN_ok] at vI
              have : y.set.void = true := vI
              rw [this] at v; simp at v
            · have hx : x.set.void = false := by cases hx : x.set.void with | false => rfl | true => rw [hx] at v; cases v
              have hI : I.void = false := by rw [e', NS.ri_set oneN_ok]; exact inv_void (by cases hy : y.set.void with | false => rfl | true => rw [hy, Bool.or_true] at v; cases v) 
              rw [hx, hI] at vM; cases vM
        refine rg rfl rfl (fun K hK => ?_); (repeat (first | (refine wo rfl (fun k hk => ?_); simp (disch := omega) only [go_sem, Nat.reduceBEq, Nat.reduceAdd]; refine hk _ _ ?_; clear hk k) | refine wkt rfl ?_)); (try refine wk0 ?_)
        refine cN rfl rfl rfl rfl (by exact kM) ?_; rintro w6 g6 s6 q6; obtain ⟨_, _, _, _, _, _, _, _, _, _, _, _, _, _, _, _, rfl, q6c⟩ := q6.oa; (repeat (first | (refine wo rfl (fun k hk => ?_); simp (disch := omega) only [go_sem, Nat.reduceBEq, Nat.reduceAdd]; refine hk _ _ ?_; clear hk k) | refine wkt rfl ?_)); (try refine wk0 ?_)
        (try (simp (disch := omega) only [go_sem, Nat.reduceBEq, Nat.reduceAdd])); refine hK _ _ ?_; clear hK; (try clear K); (try dsimp only [behind, qs])
        repeat (first | (refine rg rfl rfl (fun K hK => ?_); (repeat (first | (refine wo rfl (fun k hk => ?_); simp (disch := omega) only [go_sem, Nat.reduceBEq, Nat.reduceAdd]; refine hk _ _ ?_; clear hk k) | refine wkt rfl ?_)); (try refine wk0 ?_); refine hK _ _ ?_; clear hK K; (try dsimp only [behind, qs, qb])) | ((first | refine AWP_exit ?_ | refine AWP_skip ?_); simp (disch := decide) only [qs, qb, if_true, if_false, reduceIte]) | refine AWP_sq rfl (fun K hK => ?_) | refine ct rfl ?_ | ((first | refine hK _ _ ?_ | (clear hK; refine hK _ _ ?_) | (clear hK; clear hK; refine hK _ _ ?_)); clear hK; (try clear K)))
        have kW := fun {h} [Le g6 h] => inside_law (h := h) ((q3c.to (h' := g6)).iv lC) (q6c.iv (show NS.le 2048 .e by rfl)) (NS.ri_big lC) (NS.ri_big rfl)
        rw [NS.ri_set okC, NS.ri_set (show NS.ok .e from trivial), hin] at kW
        refine rg rfl rfl (fun K hK => ?_); (repeat (first | (refine wo rfl (fun k hk => ?_); simp (disch := omega) only [go_sem, Nat.reduceBEq, Nat.reduceAdd]; refine hk _ _ ?_; clear hk k) | refine wkt rfl ?_)); (try refine wk0 ?_)
        refine cN rfl rfl rfl rfl (by exact kW) ?_; rintro w7 g7 s7 rfl; (repeat (first | (refine wo rfl (fun k hk => ?_); simp (disch := omega) only [go_sem, Nat.reduceBEq, Nat.reduceAdd]; refine hk _ _ ?_; clear hk k) | refine wkt rfl ?_)); (try refine wk0 ?_)
        refine cN rfl rfl rfl rfl (by exact awake_spec) ?_; rintro w8 g8 s8 rfl; (repeat (first | (refine wo rfl (fun k hk => ?_); simp (disch := omega) only [go_sem, Nat.reduceBEq, Nat.reduceAdd]; refine hk _ _ ?_; clear hk k) | refine wkt rfl ?_)); (try refine wk0 ?_)
        (try (simp (disch := omega) only [go_sem, Nat.reduceBEq, Nat.reduceAdd])); refine hK _ _ ?_; clear hK; (try clear K); (try dsimp only [behind, qs])
        refine AWP_ret ?_; simp (disch := omega) only [go_sem, Nat.reduceBEq, Nat.reduceAdd]
      · obtain ⟨okM, lM⟩ := mul_ok_le oM
        rw [NS.ri_set okI] at oM vM okM lM
        rw [oM] at kM
        have hin : Q.within ((x.set.prod I).hull k.toNat) = true := by
          rcases dC with ⟨_, e⟩ | ⟨v, z, e⟩
          · rw [e]; rfl
          · rcases dI with ⟨vI, e'⟩ | ⟨vI, z', e'⟩
            · rw [NS.ri_set oneN_ok] at vI
              have : y.set.void = true := vI
              rw [this] at v; simp at v
            · rw [e, e', NS.ri_set oneN_ok]; exact inverse_plain (RI.set_ok y) v z
        refine rg rfl rfl (fun K hK => ?_); (repeat (first | (refine wo rfl (fun k hk => ?_); simp (disch := omega) only [go_sem, Nat.reduceBEq, Nat.reduceAdd]; refine hk _ _ ?_; clear hk k) | refine wkt rfl ?_)); (try refine wk0 ?_)
        refine cN rfl rfl rfl rfl (by exact kM) ?_; rintro w6 g6 s6 q6; obtain ⟨_, _, _, _, _, _, _, _, _, _, _, _, _, _, _, _, rfl, q6c⟩ := q6.oa; (repeat (first | (refine wo rfl (fun k hk => ?_); simp (disch := omega) only [go_sem, Nat.reduceBEq, Nat.reduceAdd]; refine hk _ _ ?_; clear hk k) | refine wkt rfl ?_)); (try refine wk0 ?_)
        (try (simp (disch := omega) only [go_sem, Nat.reduceBEq, Nat.reduceAdd])); refine hK _ _ ?_; clear hK; (try clear K); (try dsimp only [behind, qs])
        repeat (first | (refine rg rfl rfl (fun K hK => ?_); (repeat (first | (refine wo rfl (fun k hk => ?_); simp (disch := omega) only [go_sem, Nat.reduceBEq, Nat.reduceAdd]; refine hk _ _ ?_; clear hk k) | refine wkt rfl ?_)); (try refine wk0 ?_); refine hK _ _ ?_; clear hK K; (try dsimp only [behind, qs, qb])) | ((first | refine AWP_exit ?_ | refine AWP_skip ?_); simp (disch := decide) only [qs, qb, if_true, if_false, reduceIte]) | refine AWP_sq rfl (fun K hK => ?_) | refine ct rfl ?_ | ((first | refine hK _ _ ?_ | (clear hK; refine hK _ _ ?_) | (clear hK; clear hK; refine hK _ _ ?_)); clear hK; (try clear K)))
        have kW := fun {h} [Le g6 h] => inside_law (h := h) ((q3c.to (h' := g6)).iv lC) (q6c.iv lM) (NS.ri_big lC) (NS.ri_big lM)
        rw [NS.ri_set okC, NS.ri_set okM, hin] at kW
        refine rg rfl rfl (fun K hK => ?_); (repeat (first | (refine wo rfl (fun k hk => ?_); simp (disch := omega) only [go_sem, Nat.reduceBEq, Nat.reduceAdd]; refine hk _ _ ?_; clear hk k) | refine wkt rfl ?_)); (try refine wk0 ?_)
        refine cN rfl rfl rfl rfl (by exact kW) ?_; rintro w7 g7 s7 rfl; (repeat (first | (refine wo rfl (fun k hk => ?_); simp (disch := omega) only [go_sem, Nat.reduceBEq, Nat.reduceAdd]; refine hk _ _ ?_; clear hk k) | refine wkt rfl ?_)); (try refine wk0 ?_)
        refine cN rfl rfl rfl rfl (by exact awake_spec) ?_; rintro w8 g8 s8 rfl; (repeat (first | (refine wo rfl (fun k hk => ?_); simp (disch := omega) only [go_sem, Nat.reduceBEq, Nat.reduceAdd]; refine hk _ _ ?_; clear hk k) | refine wkt rfl ?_)); (try refine wk0 ?_)
        (try (simp (disch := omega) only [go_sem, Nat.reduceBEq, Nat.reduceAdd])); refine hK _ _ ?_; clear hK; (try clear K); (try dsimp only [behind, qs])
        refine AWP_ret ?_; simp (disch := omega) only [go_sem, Nat.reduceBEq, Nat.reduceAdd]
theorem Inverse_law {h0 h : PH} [Le h0 h] {v w : Value} {x y : RI} {p : Int} (hv : Iv h0 v x) (hw : Iv h0 w y) (hp : 0 ≤ p ∧ p ≤ 255) : Spec mach 4 #[v, w, .int .u8 p] h (fun r _ => r = .bool true) NP := by
  refine Inverse_1 (k := p % 64) hv hw ?_ (by omega)
  rw [Int.tmod_eq_emod_of_nonneg hp.1]
  exact wi64 (by omega) (by omega)
end Go.Q
