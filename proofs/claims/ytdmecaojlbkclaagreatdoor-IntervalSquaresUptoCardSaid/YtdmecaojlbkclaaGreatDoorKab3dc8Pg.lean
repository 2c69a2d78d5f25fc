/-
  Products of sets, plain: they hold the products of all numbers of the sets, and grow with both; squares. Conditions: ends in order (ok) where named.
-/
import Derived.Test.YtdmecaojlbkclaaGreatDoorK4d514bPe
import Derived.Test.YtdmecaojlbkclaaGreatDoorK4359f5Pf
set_option linter.unusedVariables false
set_option linter.unusedSimpArgs false
namespace Go.Q
theorem hasP_fin {p : NS} {q : Rat} : p.hasP (.fin q) = p.has q := by cases p <;> rfl
theorem hasP_e {z : Pt} : NS.e.hasP z = false := by
  cases z with
  | fin q => rfl
  | inf v => cases v <;> rfl
theorem mulr_le {p q u : Rat} (hp : 0 ≤ p) (h : q ≤ u) : p * q ≤ p * u := Rat.mul_le_mul_of_nonneg_left h hp
theorem mulr_ge {p q u : Rat} (hp : p ≤ 0) (h : q ≤ u) : p * u ≤ p * q := by
  have := Rat.mul_le_mul_of_nonneg_left h (show 0 ≤ -p by grind)
  grind
theorem hasP_le {p : NS} {q r : Rat} (h : p.hasP (.inf false) = true) (h1 : p.has q = true) (hr : r ≤ q) : p.has r = true := by
  cases p with
  | e => cases h1
  | i a b =>
    cases a with
    | some a => cases h
    | none =>
      rw [NS.has_i] at *
      exact ⟨fun z e => (by cases e), fun z e => Rat.le_trans hr (h1.2 z e)⟩
theorem hasP_ge {p : NS} {q r : Rat} (h : p.hasP (.inf true) = true) (h1 : p.has q = true) (hr : q ≤ r) : p.has r = true := by
  cases p with
  | e => cases h1
  | i a b =>
    cases b with
    | some b => cases h
    | none =>
      rw [NS.has_i] at *
      exact ⟨fun z e => Rat.le_trans (h1.1 z e) hr, fun z e => (by cases e)⟩
theorem hasP_all {p : NS} (h : p.hasP (.inf false) = true) (h1 : p.hasP (.inf true) = true) (q : Rat) : p.has q = true := by
  cases p with
  | e => cases h
  | i a b =>
    cases a with
    | some a => cases h
    | none => cases b with
      | some b => cases h1
      | none => rfl
theorem mul_inP {p : NS} {e : Pt} {c d : Option Rat} {q : Rat} (hq : (NS.i c d).has q = true) (k1 : p.hasP (e.mul (lowP c)) = true) (k2 : p.hasP (e.mul (highP d)) = true) : p.hasP (e.mul (.fin q)) = true := by
  rw [NS.has_i] at hq
  cases c with
  | some c =>
    cases d with
    | some d => exact mul_in (hq.1 _ rfl) (hq.2 _ rfl) k1 k2
    | none =>
      have hc : c ≤ q := hq.1 _ rfl
      cases e with
      | fin r =>
        have k1 : p.has (r * c) = true := by rw [← hasP_fin]; exact k1
        have k2 : p.hasP (if r = 0 then .fin 0 else .inf (true == decide (0 < r))) = true := k2
        show p.hasP (.fin (r * q)) = true
        rw [hasP_fin]
        by_cases hr : r = 0
        · subst hr; rw [Rat.zero_mul] at k1 ⊢; exact k1
        · rw [if_neg hr] at k2
          by_cases hp : 0 < r
          · rw [decide_eq_true hp] at k2
            exact hasP_ge k2 k1 (mulr_le (by grind) hc)
          · rw [decide_eq_false hp] at k2
            exact hasP_le k2 k1 (mulr_ge (by grind) hc)
      | inf v =>
        have k2 : p.hasP (.inf (v == true)) = true := k2
        have k1 : p.hasP (if c = 0 then .fin 0 else .inf (v == decide (0 < c))) = true := k1
        show p.hasP (if q = 0 then .fin 0 else .inf (v == decide (0 < q))) = true
        by_cases h0 : q = 0
        · rw [if_pos h0]
          by_cases c0 : c = 0
          · rwa [if_pos c0] at k1
          · rw [if_neg c0, decide_eq_false (by grind)] at k1
            rw [hasP_fin]
            cases v
            · exact hasP_all k2 k1 0
            · exact hasP_all k1 k2 0
        · rw [if_neg h0]
          by_cases hp : 0 < q
          · rw [decide_eq_true hp]; exact k2
          · rw [decide_eq_false hp]
            rw [if_neg (by grind), decide_eq_false (by grind)] at k1
            exact k1
  | none =>
    cases d with
    | some d =>
      have hd : q ≤ d := hq.2 _ rfl
      cases e with
      | fin r =>
        have k2 : p.has (r * d) = true := by rw [← hasP_fin]; exact k2
        have k1 : p.hasP (if r = 0 then .fin 0 else .inf (false == decide (0 < r))) = true := k1
        show p.hasP (.fin (r * q)) = true
        rw [hasP_fin]
        by_cases hr : r = 0
        · subst hr; rw [Rat.zero_mul] at k2 ⊢; exact k2
        · rw [if_neg hr] at k1
          by_cases hp : 0 < r
          · rw [decide_eq_true hp] at k1
            exact hasP_le k1 k2 (mulr_le (by grind) hd)
          · rw [decide_eq_false hp] at k1
            exact hasP_ge k1 k2 (mulr_ge (by grind) hd)
      | inf v =>
        have k1 : p.hasP (.inf (v == false)) = true := k1
        have k2 : p.hasP (if d = 0 then .fin 0 else .inf (v == decide (0 < d))) = true := k2
        show p.hasP (if q = 0 then .fin 0 else .inf (v == decide (0 < q))) = true
        by_cases h0 : q = 0
        · rw [if_pos h0]
          by_cases d0 : d = 0
          · rwa [if_pos d0] at k2
          · rw [if_neg d0, decide_eq_true (by grind)] at k2
            rw [hasP_fin]
            cases v
            · exact hasP_all k2 k1 0
            · exact hasP_all k1 k2 0
        · rw [if_neg h0]
          by_cases hp : 0 < q
          · rw [decide_eq_true hp]
            rw [if_neg (by grind), decide_eq_true (by grind)] at k2
            exact k2
          · rw [decide_eq_false hp]; exact k1
    | none =>
      cases e with
      | fin r =>
        have k1 : p.hasP (if r = 0 then .fin 0 else .inf (false == decide (0 < r))) = true := k1
        have k2 : p.hasP (if r = 0 then .fin 0 else .inf (true == decide (0 < r))) = true := k2
        show p.hasP (.fin (r * q)) = true
        by_cases hr : r = 0
        · rw [if_pos hr] at k1; subst hr; rw [Rat.zero_mul]; exact k1
        · rw [if_neg hr] at k1 k2
          rw [hasP_fin]
          cases hp : decide (0 < r) <;> rw [hp] at k1 k2
          · exact hasP_all k2 k1 _
          · exact hasP_all k1 k2 _
      | inf v =>
        have k1 : p.hasP (.inf (v == false)) = true := k1
        have k2 : p.hasP (.inf (v == true)) = true := k2
        show p.hasP (if q = 0 then .fin 0 else .inf (v == decide (0 < q))) = true
        split
        · rw [hasP_fin]
          cases v
          · exact hasP_all k2 k1 0
          · exact hasP_all k1 k2 0
        · cases decide (0 < q)
          · exact k1
          · exact k2
theorem hasP_end {c d : Option Rat} {z : Pt} (h : (NS.i c d).hasP z = true) : z = lowP c ∨ z = highP d ∨ ∃ q, z = .fin q ∧ (NS.i c d).has q = true := by
  cases z with
  | fin q => exact .inr (.inr ⟨q, rfl, h⟩)
  | inf v => cases v with
    | false => cases c with
      | none => exact .inl rfl
      | some c => cases h
    | true => cases d with
      | none => exact .inr (.inl rfl)
      | some d => cases h
theorem mul_inP' {p : NS} {e z : Pt} {c d : Option Rat} (hz : (NS.i c d).hasP z = true) (k1 : p.hasP (e.mul (lowP c)) = true) (k2 : p.hasP (e.mul (highP d)) = true) : p.hasP (e.mul z) = true := by
  rcases hasP_end hz with rfl | rfl | ⟨q, rfl, hq⟩
  · exact k1
  · exact k2
  · exact mul_inP hq k1 k2
theorem prod_memP {x y : NS} {z w : Pt} (hz : x.hasP z = true) (hw : y.hasP w = true) : (x.prod y).hasP (z.mul w) = true := by
  cases x with
  | e => rw [hasP_e] at hz; cases hz
  | i a b =>
    cases y with
    | e => rw [hasP_e] at hw; cases hw
    | i c d =>
      have k1 := mul_inP' hw (prod_has (a := a) (b := b) (x := lowP a) (.inl rfl) (.inl rfl)) (prod_has (a := a) (b := b) (x := lowP a) (.inl rfl) (.inr rfl))
      have k2 := mul_inP' hw (prod_has (a := a) (b := b) (x := highP b) (.inr rfl) (.inl rfl)) (prod_has (a := a) (b := b) (x := highP b) (.inr rfl) (.inr rfl))
      rw [Pt.mul_comm] at k1 k2 ⊢
      exact mul_inP' hz k1 k2
theorem prod_mem {x y : NS} {p q : Rat} (hp : x.has p = true) (hq : y.has q = true) : (x.prod y).has (p * q) = true := by
  have := prod_memP (z := .fin p) (w := .fin q) (by rw [hasP_fin]; exact hp) (by rw [hasP_fin]; exact hq)
  rwa [← hasP_fin]
theorem within_ends {a b : Option Rat} {p : NS} (h1 : p.hasP (lowP a) = true) (h2 : p.hasP (highP b) = true) : (NS.i a b).within p = true := by
  cases p with
  | e => cases a <;> cases h1
  | i l u =>
    show (NS.lowIn l a && NS.highIn u b) = true
    simp only [Bool.and_eq_true]
    refine ⟨?_, ?_⟩
    · cases a with
      | none => cases l with
        | none => rfl
        | some l => cases h1
      | some a => cases l with
        | none => rfl
        | some l =>
          have : l ≤ a := (NS.has_i.1 (show (NS.i (some l) u).has a = true from h1)).1 l rfl
          have h3 : ¬ a < l := by grind
          simp [NS.lowIn, h3]
    · cases b with
      | none => cases u with
        | none => rfl
        | some u => cases h2
      | some b => cases u with
        | none => rfl
        | some u =>
          have : b ≤ u := (NS.has_i.1 (show (NS.i l (some u)).has b = true from h2)).2 u rfl
          have h3 : ¬ u < b := by grind
          simp [NS.highIn, h3]
theorem low_hasP {a b : Option Rat} (h : (NS.i a b).ok) : (NS.i a b).hasP (lowP a) = true := by
  cases a with
  | none => rfl
  | some a => exact NS.lo_has h
theorem high_hasP {a b : Option Rat} (h : (NS.i a b).ok) : (NS.i a b).hasP (highP b) = true := by
  cases b with
  | none => rfl
  | some b => exact NS.hi_has h
theorem sq_eq (q : Rat) : q ^ 2 = q * q := by rw [Rat.pow_succ, Rat.pow_one]
theorem prod_sq {a : Rat} {b : Option Rat} (ha : 0 ≤ a) (hx : (NS.i (some a) b).ok) : (NS.i (some a) b).prod (.i (some a) b) = (NS.i (some a) b).powr 2 := by
  cases b with
  | some b =>
    have h0 : a ≤ b := by have : ¬ b < a := by simpa [NS.ok, ordO] using hx
                          grind
    have h1 : a * a ≤ a * b := mulr_le ha h0
    have h2 : a * b ≤ b * b := by have := mulr_le (show 0 ≤ b by grind) h0; rw [Rat.mul_comm b a] at this; exact this
    show fin3 (stp (stp (stp (stp (.e, false, false) (.fin (a * a))) (.fin (a * b))) (.fin (b * a))) (.fin (b * b))) = .i (some (a ^ 2)) (some (b ^ 2))
    rw [sq_eq, sq_eq, Rat.mul_comm b a]
    show NS.i (some (min (min (min (a * a) (a * b)) (a * b)) (b * b))) (some (max (max (max (a * a) (a * b)) (a * b)) (b * b))) = _
    have m1 : min (min (min (a * a) (a * b)) (a * b)) (b * b) = a * a := by grind
    have m2 : max (max (max (a * a) (a * b)) (a * b)) (b * b) = b * b := by grind
    rw [m1, m2]
  | none =>
    show fin3 (stp (stp (stp (stp (.e, false, false) (.fin (a * a))) (if a = 0 then .fin 0 else .inf (true == decide (0 < a)))) (if a = 0 then .fin 0 else .inf (true == decide (0 < a)))) (.inf true)) = .i (some (a ^ 2)) none
    rw [sq_eq]
    by_cases h : a = 0
    · subst h
      simp only [if_true]
      show NS.i (some (min (min ((0 : Rat) * 0) 0) 0)) none = _
      have : min (min ((0 : Rat) * 0) 0) 0 = 0 * 0 := by rw [Rat.zero_mul]; grind
      rw [this]
    · rw [if_neg h, decide_eq_true (by grind)]
      rfl
theorem pow2_i {a b : Option Rat} : (NS.i a b).pow 2 = (NS.i a b).size.powr 2 := rfl
theorem size_sq {x : NS} (hx : x.ok) : x.size.prod x.size = x.pow 2 := by
  cases x with
  | e => rfl
  | i a b =>
    rw [pow2_i]
    have h1 := NS.ok_size hx
    generalize hs : (NS.i a b).size = s at *
    cases s with
    | e => rfl
    | i c d =>
      obtain ⟨p, rfl, hp⟩ := NS.size_low hx hs
      exact prod_sq hp h1
theorem pow2_in {x : NS} (hx : x.ok) : (x.pow 2).within (x.prod x) = true := by
  have sg' : ∀ {q : Rat}, sgn3 q ≤ 0 → q ≤ 0 := fun {q} k => by unfold sgn3 at k; grind
  have sg2 : ∀ {q : Rat}, ¬ 0 ≤ sgn3 q → q ≤ 0 := fun {q} k => by unfold sgn3 at k; grind
  have sg3 : ∀ {q : Rat}, ¬ sgn3 q ≤ 0 → 0 ≤ q := fun {q} k => by unfold sgn3 at k; grind
  cases x with
  | e => rfl
  | i a b =>
    rw [pow2_i, NS.size_i]
    have kl := prod_memP (low_hasP hx) (low_hasP hx)
    have kh := prod_memP (high_hasP hx) (high_hasP hx)
    split
    · rename_i h1
      cases a with
      | none => exact absurd h1 (by show ¬ (0 : Int) ≤ -1; decide)
      | some a =>
        refine within_ends (a := some (a ^ 2)) ?_ ?_
        · show NS.hasP _ (.fin (a ^ 2)) = true
          rw [sq_eq]; exact kl
        · cases b with
          | none => exact kh
          | some b => show NS.hasP _ (.fin (b ^ 2)) = true
                      rw [sq_eq]; exact kh
    · split
      · rename_i h1
        cases b with
        | none => exact absurd h1 (by show ¬ (1 : Int) ≤ 0; decide)
        | some b =>
          refine within_ends (a := some ((-b) ^ 2)) (b := (a.map (-·)).map (· ^ 2)) ?_ ?_
          · show NS.hasP _ (.fin ((-b) ^ 2)) = true
            rw [sq_eq, show -b * -b = b * b by grind]; exact kh
          · cases a with
            | none => exact kl
            | some a => show NS.hasP _ (.fin ((-a) ^ 2)) = true
                        rw [sq_eq, show -a * -a = a * a by grind]; exact kl
      · rename_i h1 h2
        have h0 : (NS.i a b).has 0 = true := by
          rw [NS.has_i]
          refine ⟨fun q e => ?_, fun q e => ?_⟩
          · subst e; exact sg2 h1
          · subst e; exact sg3 h2
        have kz := prod_mem h0 h0
        refine within_ends (a := some (((0 : Int) : Rat) ^ 2)) (b := (jmax (a.map (-·)) b).map (· ^ 2)) ?_ ?_
        · show NS.hasP _ (.fin (((0 : Int) : Rat) ^ 2)) = true
          rw [sq_eq, hasP_fin]; exact kz
        · cases a with
          | none => exact kl
          | some a =>
            cases b with
            | none => exact kh
            | some b =>
              show NS.hasP _ (.fin ((max (-a) b) ^ 2)) = true
              by_cases hm : -a ≤ b
              · rw [show max (-a) b = b by grind, sq_eq]; exact kh
              · rw [show max (-a) b = -a by grind, sq_eq, show -a * -a = a * a by grind]; exact kl
end Go.Q
