/-
  Products of sets, plain: they hold the products of the ends, they are the least that do, and they are greater for a greater second factor. Conditions: none.
-/
import Derived.Test.YtdmecaojlbkclaaDoorK30f17dPd
set_option linter.unusedVariables false
set_option linter.unusedSimpArgs false
namespace Go.Q
def NS.hasP : NS → Pt → Bool
  | x, .fin q => x.has q
  | .i _ b, .inf true => b.isNone
  | .i a _, .inf false => a.isNone
  | .e, .inf _ => false
def cov (o : NS × Bool × Bool) : Pt → Bool
  | .fin q => o.1.has q
  | .inf true => o.2.2
  | .inf false => o.2.1
theorem has_joined_l {x y : NS} {q : Rat} (h : x.has q = true) : (x.joined y).has q = true := by
  cases x with
  | e => cases h
  | i a b =>
    cases y with
    | e => exact h
    | i c d =>
      show (NS.i (jmin a c) (jmax b d)).has q = true
      rw [NS.has_i] at h ⊢
      refine ⟨fun z e => ?_, fun z e => ?_⟩
      · cases a with
        | none => cases e
        | some a => cases c with
          | none => cases e
          | some c => cases e; have := h.1 _ rfl; grind
      · cases b with
        | none => cases e
        | some b => cases d with
          | none => cases e
          | some d => cases e; have := h.2 _ rfl; grind
theorem has_pt {q : Rat} : (NS.i (some q) (some q)).has q = true := by
  rw [NS.has_i]; exact ⟨fun _ e => by cases e; grind, fun _ e => by cases e; grind⟩
theorem cov_stp {o : NS × Bool × Bool} {z w : Pt} (h : cov o z = true) : cov (stp o w) z = true := by
  obtain ⟨s, l, u⟩ := o
  cases w with
  | fin p => cases z with
    | fin q => exact has_joined_l h
    | inf v => cases v <;> exact h
  | inf p => cases z with
    | fin q => cases p <;> exact h
    | inf v => cases v <;> cases p <;> first | exact h | rfl
theorem cov_new {o : NS × Bool × Bool} {z : Pt} : cov (stp o z) z = true := by
  obtain ⟨s, l, u⟩ := o
  cases z with
  | fin q => show (s.joined _).has q = true; rw [NS.joined_comm]; exact has_joined_l has_pt
  | inf v => cases v <;> rfl
theorem cov_fin3 {o : NS × Bool × Bool} {z : Pt} (h : cov o z = true) : (fin3 o).hasP z = true := by
  obtain ⟨s, l, u⟩ := o
  cases z with
  | inf v => cases v <;> (have h : _ = true := h; simp only [cov] at h; subst h; cases s <;> rfl)
  | fin q =>
    cases s with
    | e => cases h
    | i a b =>
      have k : (NS.i a b).has q = true := h
      show (NS.i _ _).has q = true
      rw [NS.has_i] at k ⊢
      refine ⟨fun z e => ?_, fun z e => ?_⟩
      · cases l with
        | true => cases e
        | false => exact k.1 _ e
      · cases u with
        | true => cases e
        | false => exact k.2 _ e
theorem join_within {x y p : NS} (hx : x.within p = true) (hy : y.within p = true) : (x.joined y).within p = true := by
  cases x with
  | e => cases y <;> exact hy
  | i a b =>
    cases y with
    | e => exact hx
    | i c d =>
      cases p with
      | e => cases hx
      | i l u =>
        have hx : (NS.lowIn l a && NS.highIn u b) = true := hx
        have hy : (NS.lowIn l c && NS.highIn u d) = true := hy
        show (NS.lowIn l (jmin a c) && NS.highIn u (jmax b d)) = true
        simp only [Bool.and_eq_true] at hx hy ⊢
        refine ⟨?_, ?_⟩
        · cases l with
          | none => rfl
          | some l => cases a with
            | none => cases hx.1
            | some a => cases c with
              | none => cases hy.1
              | some c =>
                have h1 : ¬ a < l := by simpa [NS.lowIn] using hx.1
                have h2 : ¬ c < l := by simpa [NS.lowIn] using hy.1
                have h3 : ¬ min a c < l := by grind
                simp [NS.lowIn, jmin, h3]
        · cases u with
          | none => rfl
          | some u => cases b with
            | none => cases hx.2
            | some b => cases d with
              | none => cases hy.2
              | some d =>
                have h1 : ¬ u < b := by simpa [NS.highIn] using hx.2
                have h2 : ¬ u < d := by simpa [NS.highIn] using hy.2
                have h3 : ¬ u < max b d := by grind
                simp [NS.highIn, jmax, h3]
def insd (o : NS × Bool × Bool) (p : NS) : Prop := o.1.within p = true ∧ (o.2.1 = true → p.hasP (.inf false) = true) ∧ (o.2.2 = true → p.hasP (.inf true) = true)
theorem pt_within {p : NS} {q : Rat} (h : p.has q = true) : (NS.i (some q) (some q)).within p = true := by
  cases p with
  | e => cases h
  | i l u =>
    rw [NS.has_i] at h
    show (NS.lowIn l (some q) && NS.highIn u (some q)) = true
    simp only [Bool.and_eq_true]
    refine ⟨?_, ?_⟩
    · cases l with
      | none => rfl
      | some l => have := h.1 _ rfl; have h3 : ¬ q < l := by grind
                  simp [NS.lowIn, h3]
    · cases u with
      | none => rfl
      | some u => have := h.2 _ rfl; have h3 : ¬ u < q := by grind
                  simp [NS.highIn, h3]
theorem insd_stp {o : NS × Bool × Bool} {p : NS} {z : Pt} (h : insd o p) (hz : p.hasP z = true) : insd (stp o z) p := by
  obtain ⟨s, l, u⟩ := o
  cases z with
  | fin q => exact ⟨join_within h.1 (pt_within (by cases p <;> exact hz)), h.2.1, h.2.2⟩
  | inf v => cases v with
    | true => exact ⟨h.1, h.2.1, fun _ => hz⟩
    | false => exact ⟨h.1, fun _ => hz, h.2.2⟩
theorem fin3_within {o : NS × Bool × Bool} {p : NS} (h : insd o p) (he : o.1 = .e → o.2 = (true, true)) : (fin3 o).within p = true := by
  obtain ⟨s, l, u⟩ := o
  cases s with
  | e =>
    have := he rfl
    cases this
    have h1 := h.2.1 rfl
    have h2 := h.2.2 rfl
    cases p with
    | e => cases h1
    | i a b => cases a with
      | some a => cases h1
      | none => cases b with
        | some b => cases h2
        | none => rfl
  | i x y =>
    cases p with
    | e => cases h.1
    | i a b =>
      have h0 : (NS.lowIn a x && NS.highIn b y) = true := h.1
      show (NS.lowIn a (bif l then none else x) && NS.highIn b (bif u then none else y)) = true
      simp only [Bool.and_eq_true] at h0 ⊢
      refine ⟨?_, ?_⟩
      · cases l with
        | false => exact h0.1
        | true => have := h.2.1 rfl; cases a with
          | none => rfl
          | some a => cases this
      · cases u with
        | false => exact h0.2
        | true => have := h.2.2 rfl; cases b with
          | none => rfl
          | some b => cases this
theorem prod_has {a b c d : Option Rat} {x y : Pt} (hx : x = lowP a ∨ x = highP b) (hy : y = lowP c ∨ y = highP d) : ((NS.i a b).prod (.i c d)).hasP (x.mul y) = true := by
  show (fin3 (stp (stp (stp (stp (.e, false, false) ((lowP a).mul (lowP c))) ((lowP a).mul (highP d))) ((highP b).mul (lowP c))) ((highP b).mul (highP d)))).hasP _ = true
  refine cov_fin3 ?_
  rcases hx with rfl | rfl <;> rcases hy with rfl | rfl
  · exact cov_stp (cov_stp (cov_stp cov_new))
  · exact cov_stp (cov_stp cov_new)
  · exact cov_stp cov_new
  · exact cov_new
theorem hasP_conv {p : NS} {q r s : Rat} (h1 : p.has q = true) (h2 : p.has r = true) (h3 : (q ≤ s ∧ s ≤ r) ∨ (r ≤ s ∧ s ≤ q)) : p.has s = true := by
  cases p with
  | e => cases h1
  | i a b =>
    rw [NS.has_i] at *
    refine ⟨fun z e => ?_, fun z e => ?_⟩
    · have := h1.1 z e; have := h2.1 z e; grind
    · have := h1.2 z e; have := h2.2 z e; grind
theorem mul_between {p l u q : Rat} (h1 : l ≤ q) (h2 : q ≤ u) : (p * l ≤ p * q ∧ p * q ≤ p * u) ∨ (p * u ≤ p * q ∧ p * q ≤ p * l) := by
  by_cases hp : 0 ≤ p
  · exact .inl ⟨Rat.mul_le_mul_of_nonneg_left h1 hp, Rat.mul_le_mul_of_nonneg_left h2 hp⟩
  · have hn : 0 ≤ -p := by grind
    have k1 := Rat.mul_le_mul_of_nonneg_left h1 hn
    have k2 := Rat.mul_le_mul_of_nonneg_left h2 hn
    right
    grind
theorem mul_in {p : NS} {e : Pt} {l u q : Rat} (h1 : l ≤ q) (h2 : q ≤ u) (k1 : p.hasP (e.mul (.fin l)) = true) (k2 : p.hasP (e.mul (.fin u)) = true) : p.hasP (e.mul (.fin q)) = true := by
  cases e with
  | fin r =>
    have k1 : p.has (r * l) = true := by cases p <;> exact k1
    have k2 : p.has (r * u) = true := by cases p <;> exact k2
    have := hasP_conv k1 k2 (mul_between (p := r) h1 h2)
    cases p <;> exact this
  | inf up =>
    simp only [Pt.mul] at k1 k2 ⊢
    by_cases hq : q = 0
    · rw [if_pos hq]
      by_cases hl : l = 0
      · rwa [if_pos hl] at k1
      · by_cases hu : u = 0
        · rwa [if_pos hu] at k2
        · rw [if_neg hl, decide_eq_false (by grind)] at k1
          rw [if_neg hu, decide_eq_true (by grind)] at k2
          cases p with
          | e => cases up <;> cases k1
          | i a b =>
            cases up with
            | true =>
              have j1 : a.isNone = true := k1
              have j2 : b.isNone = true := k2
              cases a <;> cases b <;> first | rfl | (cases j1; done) | (cases j2; done)
            | false =>
              have j1 : b.isNone = true := k1
              have j2 : a.isNone = true := k2
              cases a <;> cases b <;> first | rfl | (cases j1; done) | (cases j2; done)
    · rw [if_neg hq]
      by_cases hp : 0 < q
      · have hu : 0 < u := by grind
        rw [if_neg (by grind), decide_eq_true hu] at k2
        rw [decide_eq_true hp]; exact k2
      · have hl : ¬ 0 < l := by grind
        rw [if_neg (by grind), decide_eq_false hl] at k1
        rw [decide_eq_false hp]; exact k1
theorem prod_mono {a b : Option Rat} {l u l' u' : Rat} (h1 : l' ≤ l) (h2 : l ≤ u) (h3 : u ≤ u') : ((NS.i a b).prod (.i (some l) (some u))).within ((NS.i a b).prod (.i (some l') (some u'))) = true := by
  have key : ∀ e : Pt, e = lowP a ∨ e = highP b → ∀ q, l' ≤ q → q ≤ u' → ((NS.i a b).prod (.i (some l') (some u'))).hasP (e.mul (.fin q)) = true := fun e he q k1 k2 =>
    mul_in k1 k2 (prod_has (y := .fin l') he (.inl rfl)) (prod_has (y := .fin u') he (.inr rfl))
  have h4 : l ≤ u' := Rat.le_trans h2 h3
  have h5 : l' ≤ u := Rat.le_trans h1 h2
  refine fin3_within (insd_stp (insd_stp (insd_stp (insd_stp ⟨rfl, fun k => (by cases k), fun k => (by cases k)⟩ (key _ (.inl rfl) l h1 h4)) (key _ (.inl rfl) u h5 h3)) (key _ (.inr rfl) l h1 h4)) (key _ (.inr rfl) u h5 h3)) outer_e
end Go.Q
