/-
  Contracts of package interval: products of sets. Conditions: the values denote the intervals named, their ends of at most 2048 binary digits.
-/
import Derived.Test.YtdmecaojlbkclaaGreatDoorK17f0ddPa
import Derived.Test.YtdmecaojlbkclaaGreatDoorK22bd1dBunP
import Derived.Test.YtdmecaojlbkclaaGreatDoorKc142caBunM
set_option linter.unusedVariables false
set_option linter.unusedSimpArgs false
namespace Go.Q
open Go.Proofs
set_option maxRecDepth 100000
set_option maxHeartbeats 8000000
def stp (o : NS × Bool × Bool) : Pt → NS × Bool × Bool
  | .fin q => (o.1.joined (.i (some q) (some q)), o.2.1, o.2.2)
  | .inf true => (o.1, o.2.1, true)
  | .inf false => (o.1, true, o.2.2)
def inn (x y1 y2 : Pt) (o : NS × Bool × Bool) : Nat → NS × Bool × Bool
  | 0 => o
  | 1 => stp o (x.mul y1)
  | _ + 2 => stp (stp o (x.mul y1)) (x.mul y2)
def fin3 (o : NS × Bool × Bool) : NS :=
  match o.1 with
  | .e => .i (bif o.2.1 then none else some 0) (bif o.2.2 then none else some 0)
  | .i l h => .i (bif o.2.1 then none else l) (bif o.2.2 then none else h)
def outer (x1 x2 y1 y2 : Pt) : Nat → NS × Bool × Bool
  | 0 => (.e, false, false)
  | 1 => inn x1 y1 y2 (.e, false, false) 2
  | _ + 2 => inn x2 y1 y2 (inn x1 y1 y2 (.e, false, false) 2) 2
def NS.prod : NS → NS → NS
  | .i a b, .i c d => fin3 (outer (lowP a) (highP b) (lowP c) (highP d) 2)
  | _, _ => .e
theorem Pt.mul_comm (x y : Pt) : x.mul y = y.mul x := by
  cases x with
  | fin p => cases y with
    | fin q => show Pt.fin (p * q) = .fin (q * p); rw [Rat.mul_comm]
    | inf u => rfl
  | inf u => cases y with
    | fin q => rfl
    | inf w => show Pt.inf (u == w) = .inf (w == u); cases u <;> cases w <;> rfl
def NS.pts (k : Nat) (o : NS × Bool × Bool) : Prop := o.1.ok ∧ o.1.le k ∧ (o.1 = .e ∨ ∃ a b, o.1 = .i (some a) (some b))
theorem le_pt {q : Rat} {k : Nat} (h : sz q ≤ k) : (NS.i (some q) (some q)).le k := by
  rw [NS.le_i]; exact ⟨fun _ e => by cases e; exact h, fun _ e => by cases e; exact h⟩
theorem le_jn {x y : NS} {k : Nat} (hx : x.le k) (hy : y.le k) : (x.joined y).le k := by
  cases x with
  | e => cases y <;> exact hy
  | i a b =>
    cases y with
    | e => exact hx
    | i c d =>
      rw [NS.le_i] at hx hy
      show NS.le k (.i (jmin a c) (jmax b d))
      rw [NS.le_i]
      refine ⟨fun q e => ?_, fun q e => ?_⟩
      · cases a with
        | none => cases e
        | some a =>
          cases c with
          | none => cases e
          | some c => cases e; exact sz_min (hx.1 _ rfl) (hy.1 _ rfl)
      · cases b with
        | none => cases e
        | some b =>
          cases d with
          | none => cases e
          | some d => cases e; exact sz_max (hx.2 _ rfl) (hy.2 _ rfl)
theorem stp_pts {k : Nat} {o : NS × Bool × Bool} {z : Pt} (ho : NS.pts k o) (hz : z.le k) : NS.pts k (stp o z) := by
  obtain ⟨s, l, u⟩ := o
  cases z with
  | inf u => cases u <;> exact ho
  | fin q =>
    have hq : (NS.i (some q) (some q)).ok := by simp [NS.ok, ordO]
    refine ⟨NS.ok_joined ho.1 hq, le_jn ho.2.1 (le_pt hz), .inr ?_⟩
    rcases ho.2.2 with e | ⟨a, b, e⟩
    · cases (e : s = .e); exact ⟨q, q, rfl⟩
    · cases (e : s = .i _ _); exact ⟨min a q, max b q, rfl⟩
theorem mul_le {k : Nat} {x y : Pt} (hx : x.le k) (hy : y.le k) (hk : 1 ≤ k) : (x.mul y).le (2 * k) := by
  cases x with
  | fin p => cases y with
    | fin q =>
      have := sz_mul p q
      have h1 : sz p ≤ k := hx
      have h2 : sz q ≤ k := hy
      show sz (p * q) ≤ 2 * k
      omega
    | inf u =>
      show Pt.le _ (if p = 0 then .fin 0 else .inf _)
      split
      · exact Nat.le_trans (show sz 0 ≤ 1 by decide) (by omega)
      · trivial
  | inf u => cases y with
    | fin q =>
      show Pt.le _ (if q = 0 then .fin 0 else .inf _)
      split
      · exact Nat.le_trans (show sz 0 ≤ 1 by decide) (by omega)
      · trivial
    | inf w => trivial
theorem outer_e {a b c d : Option Rat} : (outer (lowP a) (highP b) (lowP c) (highP d) 2).1 = .e → (outer (lowP a) (highP b) (lowP c) (highP d) 2).2 = (true, true) := by
  have hj : ∀ (s : NS) (q : Rat), s.joined (.i (some q) (some q)) ≠ .e := fun s q k => by cases s <;> cases k
  have key : ∀ z1 z2 z3 z4 : Pt, (stp (stp (stp (stp (.e, false, false) z1) z2) z3) z4).1 = .e → ∃ u1 u2 u3 u4, z1 = .inf u1 ∧ z2 = .inf u2 ∧ z3 = .inf u3 ∧ z4 = .inf u4 := by
    intro z1 z2 z3 z4 k
    have h4 : ∀ (o : NS × Bool × Bool) (z : Pt), (stp o z).1 = .e → o.1 = .e ∧ ∃ u, z = .inf u := by
      intro o z k
      cases z with
      | fin q => exact (hj _ _ k).elim
      | inf u => refine ⟨?_, u, rfl⟩; cases u <;> exact k
    obtain ⟨k, u4, e4⟩ := h4 _ _ k
    obtain ⟨k, u3, e3⟩ := h4 _ _ k
    obtain ⟨k, u2, e2⟩ := h4 _ _ k
    obtain ⟨k, u1, e1⟩ := h4 _ _ k
    exact ⟨u1, u2, u3, u4, e1, e2, e3, e4⟩
  intro k
  obtain ⟨u1, u2, u3, u4, e1, e2, e3, e4⟩ := key _ _ _ _ k
  show (stp (stp (stp (stp (.e, false, false) ((lowP a).mul (lowP c))) ((lowP a).mul (highP d))) ((highP b).mul (lowP c))) ((highP b).mul (highP d))).2 = _
  rw [e1, e2, e3, e4]
  have m1 : ∀ {p : Rat} {u v : Bool}, Pt.mul (.fin p) (.inf u) = .inf v → v = (u == decide (0 < p)) := by
    intro p u v k
    simp only [Pt.mul] at k
    split at k
    · cases k
    · cases k; rfl
  have m2 : ∀ {p : Rat} {u v : Bool}, Pt.mul (.inf u) (.fin p) = .inf v → v = (u == decide (0 < p)) := by
    intro p u v k
    simp only [Pt.mul] at k
    split at k
    · cases k
    · cases k; rfl
  cases a with
  | some a =>
    cases c with
    | some c => cases e1
    | none => cases d with
      | some d => cases e2
      | none =>
        have := m1 e1; have := m1 e2
        subst u1 u2
        cases decide (0 < a) <;> cases u3 <;> cases u4 <;> rfl
  | none =>
    cases b with
    | some b =>
      cases c with
      | some c => cases e3
      | none => cases d with
        | some d => cases e4
        | none =>
          have := m1 e3; have := m1 e4
          subst u3 u4
          cases decide (0 < b) <;> cases u1 <;> cases u2 <;> rfl
    | none =>
      cases c with
      | some c =>
        have := m2 e1; have := m2 e3
        subst u1 u3
        cases decide (0 < c) <;> cases u2 <;> cases u4 <;> rfl
      | none =>
        have e1' : u1 = true := by cases e1; rfl
        have e3' : u3 = false := by cases e3; rfl
        subst e1' e3'
        cases u2 <;> cases u4 <;> rfl
end Go.Q
