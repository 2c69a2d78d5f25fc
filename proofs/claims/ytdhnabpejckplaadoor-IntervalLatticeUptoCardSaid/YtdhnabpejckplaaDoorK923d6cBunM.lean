/-
  Intervals as plain sets: two ends, each a number or infinite, or empty; the operations on them. Conditions: none.
  Plain laws of intervals: membership, meets, hulls, grids. Conditions: ends in order (ok).
-/
import Derived.Test.YtdhnabpejckplaaDoorRaBunH
set_option linter.unusedVariables false
set_option linter.unusedSimpArgs false
namespace Go.Q
inductive NS where
  | e
  | i (lo hi : Option Rat)
def omax : Option Rat → Option Rat → Option Rat
  | none, b => b
  | some x, none => some x
  | some x, some y => some (max x y)
def omin : Option Rat → Option Rat → Option Rat
  | none, b => b
  | some x, none => some x
  | some x, some y => some (min x y)
def jmin : Option Rat → Option Rat → Option Rat
  | some x, some y => some (min x y)
  | _, _ => none
def jmax : Option Rat → Option Rat → Option Rat
  | some x, some y => some (max x y)
  | _, _ => none
def oadd : Option Rat → Option Rat → Option Rat
  | some x, some y => some (x + y)
  | _, _ => none
def ordO : Option Rat → Option Rat → Bool
  | some x, some y => !decide (y < x)
  | _, _ => true
namespace NS
def mk' (a b : Option Rat) : NS := bif ordO a b then .i a b else .e
def hull (p : Nat) : NS → NS
  | .e => .e
  | .i a b => .i (a.map (gdown · p)) (b.map (gup · p))
def met : NS → NS → NS
  | .i a b, .i c d => mk' (omax a c) (omin b d)
  | _, _ => .e
def joined : NS → NS → NS
  | .e, y => y
  | x, .e => x
  | .i a b, .i c d => .i (jmin a c) (jmax b d)
def sum : NS → NS → NS
  | .i a b, .i c d => .i (oadd a c) (oadd b d)
  | _, _ => .e
def void : NS → Bool
  | .e => true
  | _ => false
def ok : NS → Prop
  | .e => True
  | .i a b => ordO a b = true
def all (f : Rat → Bool) : NS → Bool
  | .e => true
  | .i a b => a.all f && b.all f
def le (k : Nat) (x : NS) : Prop := x.all (fun q => decide (sz q ≤ k)) = true
instance (k : Nat) (x : NS) : Decidable (x.le k) := by unfold le; infer_instance
def slo : NS → Int
  | .e => 0
  | .i a _ => match a with
    | none => -1
    | some q => sgn3 q
def shi : NS → Int
  | .e => 0
  | .i _ b => match b with
    | none => 1
    | some q => sgn3 q
def zero (x : NS) : Bool := !x.void && decide (x.slo ≤ 0) && decide (0 ≤ x.shi)
def lowIn : Option Rat → Option Rat → Bool
  | none, _ => true
  | some _, none => false
  | some c, some a => !decide (a < c)
def highIn : Option Rat → Option Rat → Bool
  | none, _ => true
  | some _, none => false
  | some d, some b => !decide (d < b)
def within : NS → NS → Bool
  | .e, _ => true
  | _, .e => false
  | .i a b, .i c d => lowIn c a && highIn d b
def has : NS → Rat → Bool
  | .e, _ => false
  | .i a b, q => a.all (fun x => !decide (q < x)) && b.all (fun x => !decide (x < q))
end NS
abbrev Out := Except Int NS
def Out.fin : Out → Out
  | .error e => .error e
  | .ok x => bif decide (x.le 2048) then .ok x else .error 1
end Go.Q
namespace Go.Q
namespace NS
theorem has_i {a b : Option Rat} {q : Rat} : (NS.i a b).has q = true ↔ (∀ x, a = some x → x ≤ q) ∧ (∀ x, b = some x → q ≤ x) := by
  cases a <;> cases b <;> simp [has] <;> grind
theorem ne_has {a b : Option Rat} (h : ordO a b = true) : ∃ q, (NS.i a b).has q = true := by
  cases a with
  | none => cases b with
    | none => exact ⟨0, by simp [has]⟩
    | some b => exact ⟨b, by simp [has] <;> grind⟩
  | some a => cases b with
    | none => exact ⟨a, by simp [has] <;> grind⟩
    | some b => exact ⟨a, by simp [ordO] at h; simp [has]; grind⟩
theorem low_has {b : Option Rat} (c : Rat) : ∃ q, q < c ∧ (NS.i none b).has q = true := by
  cases b with
  | none => exact ⟨c - 1, by grind, by simp [has]⟩
  | some b => exact ⟨min (c - 1) b, by grind, by simp [has] <;> grind⟩
theorem high_has {a : Option Rat} (c : Rat) : ∃ q, c < q ∧ (NS.i a none).has q = true := by
  cases a with
  | none => exact ⟨c + 1, by grind, by simp [has]⟩
  | some a => exact ⟨max (c + 1) a, by grind, by simp [has] <;> grind⟩
theorem lo_has {a : Rat} {b : Option Rat} (h : ordO (some a) b = true) : (NS.i (some a) b).has a = true := by
  cases b with
  | none => simp [has] <;> grind
  | some b => simp [ordO] at h; simp [has]; grind
theorem hi_has {a : Option Rat} {b : Rat} (h : ordO a (some b) = true) : (NS.i a (some b)).has b = true := by
  cases a with
  | none => simp [has] <;> grind
  | some a => simp [ordO] at h; simp [has]; grind
theorem within_iff {x y : NS} (hx : x.ok) : x.within y = true ↔ ∀ q, x.has q = true → y.has q = true := by
  cases x with
  | e => simp [within, has]
  | i a b =>
    cases y with
    | e =>
      obtain ⟨q, hq⟩ := ne_has hx
      simp only [within, has, Bool.false_eq_true, false_iff]
      exact fun h => h q hq
    | i c d =>
      constructor
      · intro h q hq
        rw [has_i] at hq ⊢
        cases a <;> cases b <;> cases c <;> cases d <;> simp [within, lowIn, highIn] at h hq ⊢ <;> grind
      · intro h
        have h1 : lowIn c a = true := by
          cases c with
          | none => rfl
          | some c => cases a with
            | none =>
              obtain ⟨q, hc, hq⟩ := low_has (b := b) c
              have := has_i.1 (h q hq)
              have := this.1 c rfl
              grind
            | some a =>
              have := has_i.1 (h a (lo_has hx))
              have := this.1 c rfl
              simp [lowIn, highIn]; grind
        have h2 : highIn d b = true := by
          cases d with
          | none => rfl
          | some d => cases b with
            | none =>
              obtain ⟨q, hc, hq⟩ := high_has (a := a) d
              have := has_i.1 (h q hq)
              have := this.2 d rfl
              grind
            | some b =>
              have := has_i.1 (h b (hi_has hx))
              have := this.2 d rfl
              simp [lowIn, highIn]; grind
        simp only [within, h1, h2, Bool.and_self]
theorem anti {x y : NS} (hx : x.ok) (hy : y.ok) (h1 : x.within y = true) (h2 : y.within x = true) : x = y := by
  cases x with
  | e => cases y with
    | e => rfl
    | i c d => cases h2
  | i a b => cases y with
    | e => cases h1
    | i c d =>
      cases a <;> cases b <;> cases c <;> cases d <;> simp [within, lowIn, highIn] at h1 h2 ⊢ <;> grind
theorem ext {x y : NS} (hx : x.ok) (hy : y.ok) (h : ∀ q, x.has q = y.has q) : x = y :=
  anti hx hy ((within_iff hx).2 fun q k => by rw [← h]; exact k) ((within_iff hy).2 fun q k => by rw [h]; exact k)
theorem ok_mk {a b : Option Rat} : (mk' a b).ok := by
  unfold mk'
  cases h : ordO a b with
  | true => exact h
  | false => trivial
theorem has_mk {a b : Option Rat} {q : Rat} : (mk' a b).has q = (NS.i a b).has q := by
  unfold mk'
  cases h : ordO a b with
  | true => rfl
  | false =>
    cases a <;> cases b <;> simp [ordO] at h
    simp only [has, cond_false]
    symm
    simp [has]; grind
theorem has_met {x y : NS} {q : Rat} : (met x y).has q = (x.has q && y.has q) := by
  cases x with
  | e => cases y <;> simp [met, has]
  | i a b => cases y with
    | e => simp [met, has]
    | i c d =>
      simp only [met, has_mk]
      rw [Bool.eq_iff_iff, Bool.and_eq_true]
      cases a <;> cases b <;> cases c <;> cases d <;> simp [has, omax, omin] <;> grind
theorem ok_met {x y : NS} : (met x y).ok := by
  cases x <;> cases y <;> first | trivial | exact ok_mk
theorem met_comm (x y : NS) : met x y = met y x := ext ok_met ok_met fun q => by rw [has_met, has_met, Bool.and_comm]
theorem met_assoc (x y z : NS) : met (met x y) z = met x (met y z) := ext ok_met ok_met fun q => by simp only [has_met, Bool.and_assoc]
theorem ok_joined {x y : NS} (hx : x.ok) (hy : y.ok) : (joined x y).ok := by
  cases x with
  | e => exact hy
  | i a b => cases y with
    | e => exact hx
    | i c d => cases a <;> cases b <;> cases c <;> cases d <;> simp [ok, ordO, joined, jmin, jmax] at hx hy ⊢ <;> grind
theorem joined_comm (x y : NS) : joined x y = joined y x := by
  cases x with
  | e => cases y <;> rfl
  | i a b => cases y with
    | e => rfl
    | i c d => cases a <;> cases b <;> cases c <;> cases d <;> simp [joined, jmin, jmax] <;> grind
theorem joined_assoc (x y z : NS) : joined (joined x y) z = joined x (joined y z) := by
  cases x with
  | e => rfl
  | i a b => cases y with
    | e => rfl
    | i c d => cases z with
      | e => rfl
      | i f g =>
        simp only [joined, NS.i.injEq]
        constructor
        · cases a <;> cases c <;> cases f <;> simp [jmin] <;> grind
        · cases b <;> cases d <;> cases g <;> simp [jmax] <;> grind
theorem within_joined {x y : NS} (hx : x.ok) : x.within (joined x y) = true := by
  cases x with
  | e => rfl
  | i a b => cases y with
    | e => cases a <;> cases b <;> simp [joined, within, lowIn, highIn] <;> grind
    | i c d => cases a <;> cases b <;> cases c <;> cases d <;> simp [joined, within, lowIn, highIn, jmin, jmax] <;> grind
theorem within_met {x y : NS} : (met x y).within x = true := by
  rw [within_iff ok_met]
  intro q hq
  rw [has_met, Bool.and_eq_true] at hq
  exact hq.1
theorem met_joined {x y : NS} (hx : x.ok) : met x (joined x y) = x := ext ok_met hx fun q => by
  rw [has_met]
  have := (within_iff (y := joined x y) hx).1 (within_joined hx) q
  cases h : x.has q with
  | true => simp [this h]
  | false => rfl
theorem joined_met {x y : NS} (hx : x.ok) : joined x (met x y) = x := by
  cases x with
  | e => cases y <;> rfl
  | i a b => cases y with
    | e => rfl
    | i c d =>
      simp only [met, mk']
      cases ordO (omax a c) (omin b d) with
      | false => rfl
      | true =>
        simp only [cond_true, joined, NS.i.injEq]
        constructor
        · cases a <;> cases c <;> simp [omax, jmin] <;> grind
        · cases b <;> cases d <;> simp [omin, jmax] <;> grind
theorem within_eq_met {x y : NS} (hx : x.ok) : x.within y = true ↔ met x y = x := by
  rw [within_iff hx]
  constructor
  · intro h
    refine ext ok_met hx fun q => ?_
    rw [has_met]
    cases hq : x.has q with
    | true => simp [h q hq]
    | false => rfl
  · intro h q hq
    rw [← h, has_met, Bool.and_eq_true] at hq
    exact hq.2
end NS
namespace NS
end NS
end Go.Q
