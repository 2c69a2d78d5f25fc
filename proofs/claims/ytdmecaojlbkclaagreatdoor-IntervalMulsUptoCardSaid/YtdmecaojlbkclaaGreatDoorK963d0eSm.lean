/-
  Contracts of the reference: products of numbers, of ends of sets. Conditions: the values denote the numbers and ends named, of at most 2^30 binary digits.
-/
import Derived.Test.YtdmecaojlbkclaaGreatDoorK7384a1Se
import Derived.Test.YtdmecaojlbkclaaGreatDoorKd47ff4Pb
set_option linter.unusedVariables false
set_option linter.unusedSimpArgs false
namespace Go.Q
open Go.Proofs
set_option maxRecDepth 100000
set_option maxHeartbeats 8000000
theorem Prod_spec {h0 h : PH} [Le h0 h] {v w : Value} {x y : Rat} (hx : Qr h0 v x) (hy : Qr h0 w y) (bx : sz x ≤ 2 ^ 35) (by_ : sz y ≤ 2 ^ 35) :
    Spec mach 146 #[v, w] h (fun v h' => Qr h' v (x * y)) NP := by
  have hx0 := hx
  have hy0 := hy
  obtain ⟨na, nl, nc, da, dl, dc, e, rfl, hn, hd, he⟩ := hx.sl
  obtain ⟨na', nl', nc', da', dl', dc', e', rfl, hn', hd', he'⟩ := hy.sl
  have b1 := sz_num x; have b2 := sz_den x; have b3 := sz_num y; have b4 := sz_den y
  have b5 := bl_mul x.num.natAbs y.num.natAbs
  have b6 := bl_mul x.den y.den
  refine Spec.enter (args := [_, _]) (n := 21) Tryz.func146 rfl (by kernel_rfl) rfl (by simp) [.cell 4 56] rfl (fun C _ => ?_)
  repeat (first | (refine wo rfl (fun k hk => ?_); simp (disch := omega) only [go_sem, Nat.reduceBEq, Nat.reduceAdd]; refine hk _ _ ?_; clear hk k) | refine wkt rfl ?_ | refine wk0 ?_ | refine rg rfl rfl (fun K hK => ?_) | refine rd [.o 0, .o 1, .o 2, .o 3, .o 4, .o 5, .o 6, .o 7, .o 8, .o 10, .o 12, .o 9, .o 11, .o 13, .o 14, .o 15, .o 16] rfl (by decide +kernel) rfl (fun K hK => ?_) | ((first | refine AWP_exit ?_ | refine AWP_skip ?_); simp (disch := decide) only [qs, qb, if_true, if_false, reduceIte]) | refine AWP_sq rfl (fun K hK => ?_) | refine ct rfl ?_ | ((try simp (disch := omega) only [go_sem, Nat.reduceBEq, Nat.reduceAdd]); (first | apply hK | (clear hK; apply hK) | (clear hK; clear hK; apply hK)); clear hK; (try clear K); (try dsimp only [behind, qs, qb])))
  refine cN rfl rfl rfl rfl (by exact NatMul_spec hn hn' (by omega) (by omega)) ?_; rintro v1 h1 _ hv1; obtain ⟨v1, v1_l, v1_c, rfl, hv1⟩ := hv1.sl; (repeat (first | (refine wo rfl (fun k hk => ?_); simp (disch := omega) only [go_sem, Nat.reduceBEq, Nat.reduceAdd]; refine hk _ _ ?_; clear hk k) | refine wkt rfl ?_)); (try refine wk0 ?_)
  refine cN rfl rfl rfl rfl (by exact den_spec hx0) ?_; rintro d1 g1 _ hd1; obtain ⟨d1, d1_l, d1_c, rfl, hd1⟩ := hd1.sl; (repeat (first | (refine wo rfl (fun k hk => ?_); simp (disch := omega) only [go_sem, Nat.reduceBEq, Nat.reduceAdd]; refine hk _ _ ?_; clear hk k) | refine wkt rfl ?_)); (try refine wk0 ?_)
  refine cN rfl rfl rfl rfl (by exact den_spec hy0) ?_; rintro d2 g2 _ hd2; obtain ⟨d2, d2_l, d2_c, rfl, hd2⟩ := hd2.sl; (repeat (first | (refine wo rfl (fun k hk => ?_); simp (disch := omega) only [go_sem, Nat.reduceBEq, Nat.reduceAdd]; refine hk _ _ ?_; clear hk k) | refine wkt rfl ?_)); (try refine wk0 ?_)
  refine cN rfl rfl rfl rfl (by exact NatMul_spec (hd1.to (h' := g2)) hd2 (by omega) (by omega)) ?_; rintro v2 h2 _ hv2; obtain ⟨v2, v2_l, v2_c, rfl, hv2⟩ := hv2.sl; (repeat (first | (refine wo rfl (fun k hk => ?_); simp (disch := omega) only [go_sem, Nat.reduceBEq, Nat.reduceAdd]; refine hk _ _ ?_; clear hk k) | refine wkt rfl ?_)); (try refine wk0 ?_)
  refine cN rfl rfl rfl rfl (by exact Make_spec (hv1.to (h' := h2)) hv2 (by omega) (by omega)) ?_; rintro v3 h3 _ hv3; obtain ⟨v3_0, v3_1, v3_2, v3_3, v3_4, v3_5, v3_6, rfl, hv3⟩ := hv3.sa; (repeat (first | (refine wo rfl (fun k hk => ?_); simp (disch := omega) only [go_sem, Nat.reduceBEq, Nat.reduceAdd]; refine hk _ _ ?_; clear hk k) | refine wkt rfl ?_)); (try refine wk0 ?_)
  (try (simp (disch := omega) only [go_sem, Nat.reduceBEq, Nat.reduceAdd])); refine hK _ _ ?_; clear hK; (try clear K); (try dsimp only [behind, qs])
  refine AWP_ret ?_; simp (disch := omega) only [go_sem, Nat.reduceBEq, Nat.reduceAdd]
  rw [sgn_mul] at hv3
  exact hv3
@[reducible] def Pt.val : Pt → Rat
  | .fin q => q
  | .inf _ => 0
def Re (h : PH) (v : Value) (z : Pt) : Prop := ∃ b x y, v = .agg #[.int .i64 z.side, .bool b, x, y] ∧ Qr h (.agg #[.bool b, x, y]) z.val
theorem Re.to {h h' : PH} {v : Value} {z : Pt} (r : Re h v z) [Le h h'] : Re h' v z := let ⟨a, b, c, h1, h2⟩ := r; ⟨a, b, c, h1, h2.to⟩
theorem Re.sa {h : PH} {v : Value} {z : Pt} (r : Re h v z) : ∃ b a1 m1 c1 a2 m2 c2, v = .agg #[.int .i64 z.side, .bool b, .slice a1 m1 c1, .slice a2 m2 c2] ∧ Qr h (.agg #[.bool b, .slice a1 m1 c1, .slice a2 m2 c2]) z.val := by
  obtain ⟨b, x, y, rfl, h1⟩ := r
  obtain ⟨_, _, _, _, _, _, _, e1, _⟩ := h1.sa
  simp only [Value.agg.injEq, Array.mk.injEq, List.cons.injEq, and_true] at e1
  obtain ⟨_, rfl, rfl⟩ := e1
  exact ⟨_, _, _, _, _, _, _, rfl, h1⟩
def Pt.sg : Pt → Int
  | .fin q => sgn3 q
  | .inf u => if u = true then 1 else -1
theorem RefSign_end {h0 h : PH} [Le h0 h] {v : Value} {z : Pt} (hv : Re h0 v z) : Spec mach 145 #[v] h (fun r _ => r = .int .i64 z.sg) NP := by
  obtain ⟨b, a1, m1, c1, a2, m2, c2, rfl, e1⟩ := hv.sa
  cases z with
  | fin p =>
    dsimp only [Pt.side, Pt.sg, Pt.val] at *
    refine Spec.enter (args := [_]) (n := 11) Tryz.func145 rfl (by kernel_rfl) rfl (by simp) [.tmp 2] rfl (fun C _ => ?_)
    repeat (first | (refine wo rfl (fun k hk => ?_); simp (disch := omega) only [go_sem, Nat.reduceBEq, Nat.reduceAdd]; refine hk _ _ ?_; clear hk k) | refine wkt rfl ?_ | refine wk0 ?_ | refine rg rfl rfl (fun K hK => ?_) | ((first | refine AWP_exit ?_ | refine AWP_skip ?_); simp (disch := decide) only [qs, qb, if_true, if_false, reduceIte]) | refine AWP_sq rfl (fun K hK => ?_) | refine ct rfl ?_ | ((try simp (disch := omega) only [go_sem, Nat.reduceBEq, Nat.reduceAdd]); (first | apply hK | (clear hK; apply hK) | (clear hK; clear hK; apply hK)); clear hK; (try clear K); (try dsimp only [behind, qs, qb])))
    refine cN rfl rfl rfl rfl (by exact Sgn_spec e1) ?_; rintro v1 h1 s1 rfl
    repeat (first | (refine wo rfl (fun k hk => ?_); simp (disch := omega) only [go_sem, Nat.reduceBEq, Nat.reduceAdd]; refine hk _ _ ?_; clear hk k) | refine wkt rfl ?_ | refine wk0 ?_ | refine rg rfl rfl (fun K hK => ?_) | ((first | refine AWP_exit ?_ | refine AWP_skip ?_); simp (disch := decide) only [qs, qb, if_true, if_false, reduceIte]) | refine AWP_sq rfl (fun K hK => ?_) | refine ct rfl ?_ | ((try simp (disch := omega) only [go_sem, Nat.reduceBEq, Nat.reduceAdd]); (first | apply hK | (clear hK; apply hK) | (clear hK; clear hK; apply hK)); clear hK; (try clear K); (try dsimp only [behind, qs, qb])))
    refine AWP_ret ?_; simp (disch := omega) only [go_sem, Nat.reduceBEq, Nat.reduceAdd]
  | inf u =>
    cases u <;>
    · dsimp only [Pt.side, Pt.sg, Pt.val] at *
      simp only [if_true, if_false, Bool.false_eq_true, reduceIte]
      refine Spec.enter (args := [_]) (n := 11) Tryz.func145 rfl (by kernel_rfl) rfl (by simp) [.tmp 2] rfl (fun C _ => ?_)
      repeat (first | (refine wo rfl (fun k hk => ?_); simp (disch := omega) only [go_sem, Nat.reduceBEq, Nat.reduceAdd]; refine hk _ _ ?_; clear hk k) | refine wkt rfl ?_ | refine wk0 ?_ | refine rg rfl rfl (fun K hK => ?_) | ((first | refine AWP_exit ?_ | refine AWP_skip ?_); simp (disch := decide) only [qs, qb, if_true, if_false, reduceIte]) | refine AWP_sq rfl (fun K hK => ?_) | refine ct rfl ?_ | ((try simp (disch := omega) only [go_sem, Nat.reduceBEq, Nat.reduceAdd]); (first | apply hK | (clear hK; apply hK) | (clear hK; clear hK; apply hK)); clear hK; (try clear K); (try dsimp only [behind, qs, qb])))
      refine AWP_ret ?_; simp (disch := omega) only [go_sem, Nat.reduceBEq, Nat.reduceAdd]
theorem Pt.sg_bd (z : Pt) : z.sg = -1 ∨ z.sg = 0 ∨ z.sg = 1 := by
  cases z with
  | fin q => exact sg3_bd
  | inf u => cases u <;> simp [Pt.sg]
theorem Pt.mul_zero {x y : Pt} (h : x.sg = 0 ∨ y.sg = 0) : x.mul y = .fin 0 := by
  cases x with
  | fin p => cases y with
    | fin q =>
      show Pt.fin (p * q) = _
      rcases h with h | h
      · have := sgn3_zero.1 (show sgn3 p = 0 from h); subst this; rw [Rat.zero_mul]
      · have := sgn3_zero.1 (show sgn3 q = 0 from h); subst this; rw [Rat.mul_zero]
    | inf u =>
      have := sgn3_zero.1 (show sgn3 p = 0 from h.resolve_right (by cases u <;> simp [Pt.sg])); subst this; simp [Pt.mul]
  | inf u => cases y with
    | fin q =>
      have := sgn3_zero.1 (show sgn3 q = 0 from h.resolve_left (by cases u <;> simp [Pt.sg])); subst this; simp [Pt.mul]
    | inf w => rcases h with h | h <;> (revert h; cases u <;> cases w <;> simp [Pt.sg])
theorem Pt.mul_inf {x y : Pt} (hx : x.sg ≠ 0) (hy : y.sg ≠ 0) (h : x.side ≠ 0 ∨ y.side ≠ 0) : x.mul y = .inf (decide (x.sg = y.sg)) := by
  have key : ∀ {p : Rat}, sgn3 p ≠ 0 → ((0 < p ∧ sgn3 p = 1) ∨ (¬ 0 < p ∧ sgn3 p = -1)) := by
    intro p hp
    have := sgn3_pos (q := p); have := sg3_bd (q := p); grind
  cases x with
  | fin p =>
    cases y with
    | fin q => rcases h with h | h <;> exact (h rfl).elim
    | inf u =>
      have hp : p ≠ 0 := fun k => hx (sgn3_zero.2 k)
      show (if p = 0 then Pt.fin 0 else .inf (u == decide (0 < p))) = _
      rw [if_neg hp]
      rcases key (show sgn3 p ≠ 0 from hx) with ⟨k1, k2⟩ | ⟨k1, k2⟩ <;> (show Pt.inf _ = Pt.inf (decide (sgn3 p = _)); rw [k2]; simp only [k1, decide_true, decide_false]; cases u <;> rfl)
  | inf u =>
    cases y with
    | fin q =>
      have hq : q ≠ 0 := fun k => hy (sgn3_zero.2 k)
      show (if q = 0 then Pt.fin 0 else .inf (u == decide (0 < q))) = _
      rw [if_neg hq]
      rcases key (show sgn3 q ≠ 0 from hy) with ⟨k1, k2⟩ | ⟨k1, k2⟩ <;> (show Pt.inf _ = Pt.inf (decide (_ = sgn3 q)); rw [k2]; simp only [k1, decide_true, decide_false]; cases u <;> rfl)
    | inf w => cases u <;> cases w <;> rfl
theorem Pt.side_fin {x : Pt} (h : x.side = 0) : ∃ q, x = .fin q := by
  cases x with
  | fin q => exact ⟨q, rfl⟩
  | inf u => cases u <;> simp [Pt.side] at h
theorem Pt.side_bd (z : Pt) : z.side = -1 ∨ z.side = 0 ∨ z.side = 1 := by
  cases z with
  | fin q => exact .inr (.inl rfl)
  | inf u => cases u <;> simp [Pt.side]
theorem Pt.sg_side {z : Pt} (h : z.side ≠ 0) : z.sg = z.side := by
  cases z with
  | fin q => exact (h rfl).elim
  | inf u => rfl
theorem RefTimes_end {h0 h : PH} [Le h0 h] {v w : Value} {x y : Pt} (hv : Re h0 v x) (hw : Re h0 w y) (lx : x.le (2 ^ 30)) (ly : y.le (2 ^ 30)) : Spec mach 108 #[v, w] h (fun r h' => Re h' r (x.mul y)) NP := by
  have k1 := fun {h} [Le h0 h] => RefSign_end (h := h) hv
  have k2 := fun {h} [Le h0 h] => RefSign_end (h := h) hw
  obtain ⟨b, a1, m1, c1, a2, m2, c2, rfl, e1⟩ := hv.sa
  obtain ⟨b', a1', m1', c1', a2', m2', c2', rfl, e2⟩ := hw.sa
  by_cases hz : x.sg = 0 ∨ y.sg = 0
  · rw [Pt.mul_zero hz]
    have hx := Pt.sg_bd x
    have hy := Pt.sg_bd y
    generalize x.sg = m at *
    generalize y.sg = n at *
    have hm : (m = 0 ∧ n = -1) ∨ (m = 0 ∧ n = 0) ∨ (m = 0 ∧ n = 1) ∨ (m = -1 ∧ n = 0) ∨ (m = 1 ∧ n = 0) := by omega
    clear hx hy hz
    rcases hm with ⟨rfl, rfl⟩ | ⟨rfl, rfl⟩ | ⟨rfl, rfl⟩ | ⟨rfl, rfl⟩ | ⟨rfl, rfl⟩ <;>
    · refine Spec.enter (args := [_, _]) (n := 30) Tryz.func108 rfl (by kernel_rfl) rfl (by simp) [.cell 4 122] rfl (fun C _ => ?_)
      repeat (first | (refine wo rfl (fun k hk => ?_); simp (disch := omega) only [go_sem, Nat.reduceBEq, Nat.reduceAdd]; refine hk _ _ ?_; clear hk k) | refine wkt rfl ?_ | refine wk0 ?_ | refine rg rfl rfl (fun K hK => ?_) | refine rd [.o 0, .o 2, .o 1, .o 3, .o 4, .o 5] rfl (by decide +kernel) rfl (fun K hK => ?_) | ((first | refine AWP_exit ?_ | refine AWP_skip ?_); simp (disch := decide) only [qs, qb, if_true, if_false, reduceIte]) | refine AWP_sq rfl (fun K hK => ?_) | refine ct rfl ?_ | ((try simp (disch := omega) only [go_sem, Nat.reduceBEq, Nat.reduceAdd]); (first | apply hK | (clear hK; apply hK) | (clear hK; clear hK; apply hK)); clear hK; (try clear K); (try dsimp only [behind, qs, qb])))
      refine cN rfl rfl rfl rfl (by exact k1) ?_; rintro v1 h1 s1 rfl; (repeat (first | (refine wo rfl (fun k hk => ?_); simp (disch := omega) only [go_sem, Nat.reduceBEq, Nat.reduceAdd]; refine hk _ _ ?_; clear hk k) | refine wkt rfl ?_)); (try refine wk0 ?_)
      refine cN rfl rfl rfl rfl (by exact k2) ?_; rintro v2 h2 s2 rfl
      repeat (first | (refine wo rfl (fun k hk => ?_); simp (disch := omega) only [go_sem, Nat.reduceBEq, Nat.reduceAdd]; refine hk _ _ ?_; clear hk k) | refine wkt rfl ?_ | refine wk0 ?_ | refine rg rfl rfl (fun K hK => ?_) | refine rd [.o 0, .o 2, .o 1, .o 3, .o 4, .o 5] rfl (by decide +kernel) rfl (fun K hK => ?_) | ((first | refine AWP_exit ?_ | refine AWP_skip ?_); simp (disch := decide) only [qs, qb, if_true, if_false, reduceIte]) | refine AWP_sq rfl (fun K hK => ?_) | refine ct rfl ?_ | ((try simp (disch := omega) only [go_sem, Nat.reduceBEq, Nat.reduceAdd]); (first | apply hK | (clear hK; apply hK) | (clear hK; clear hK; apply hK)); clear hK; (try clear K); (try dsimp only [behind, qs, qb])))
      refine AWP_ret ?_; simp (disch := omega) only [go_sem, Nat.reduceBEq, Nat.reduceAdd]
      exact ⟨_, _, _, rfl, Qr.none _⟩
  · have hx0 : x.sg ≠ 0 := fun k => hz (.inl k)
    have hy0 : y.sg ≠ 0 := fun k => hz (.inr k)
    by_cases hs : x.side ≠ 0 ∨ y.side ≠ 0
    · rw [Pt.mul_inf hx0 hy0 hs]
      have hx := Pt.sg_bd x
      have hy := Pt.sg_bd y
      have tx := Pt.side_bd x
      have ty := Pt.side_bd y
      have gx := fun k => Pt.sg_side (z := x) k
      have gy := fun k => Pt.sg_side (z := y) k
      have hD : ∀ k : Bool, ∃ i, (Pt.inf k).side = i := fun k => ⟨_, rfl⟩
      generalize x.sg = m at *
      generalize y.sg = n at *
      generalize x.side = s at *
      generalize y.side = t at *
      have hm : ((m = 1 ∨ m = -1) ∧ (n = 1 ∨ n = -1)) ∧ ((s = m ∧ t = 0) ∨ (s = m ∧ t = n) ∨ (s = 0 ∧ t = n)) := by
        have := gx; have := gy
        refine ⟨by omega, ?_⟩
        rcases tx with k | k | k <;> rcases ty with k' | k' | k' <;> (try have := gx (by omega)) <;> (try have := gy (by omega)) <;> omega
      clear hx hy hz tx ty gx gy hx0 hy0 hs hD
      obtain ⟨⟨rfl | rfl, rfl | rfl⟩, ⟨rfl, rfl⟩ | ⟨rfl, rfl⟩ | ⟨rfl, rfl⟩⟩ := hm <;>
      · refine Spec.enter (args := [_, _]) (n := 30) Tryz.func108 rfl (by kernel_rfl) rfl (by simp) [.cell 4 122] rfl (fun C _ => ?_)
        repeat (first | (refine wo rfl (fun k hk => ?_); simp (disch := omega) only [go_sem, Nat.reduceBEq, Nat.reduceAdd]; refine hk _ _ ?_; clear hk k) | refine wkt rfl ?_ | refine wk0 ?_ | refine rg rfl rfl (fun K hK => ?_) | refine rd [.o 0, .o 2, .o 1, .o 3, .o 4, .o 5] rfl (by decide +kernel) rfl (fun K hK => ?_) | ((first | refine AWP_exit ?_ | refine AWP_skip ?_); simp (disch := decide) only [qs, qb, if_true, if_false, reduceIte]) | refine AWP_sq rfl (fun K hK => ?_) | refine ct rfl ?_ | ((try simp (disch := omega) only [go_sem, Nat.reduceBEq, Nat.reduceAdd]); (first | apply hK | (clear hK; apply hK) | (clear hK; clear hK; apply hK)); clear hK; (try clear K); (try dsimp only [behind, qs, qb])))
        refine cN rfl rfl rfl rfl (by exact k1) ?_; rintro v1 h1 s1 rfl; (repeat (first | (refine wo rfl (fun k hk => ?_); simp (disch := omega) only [go_sem, Nat.reduceBEq, Nat.reduceAdd]; refine hk _ _ ?_; clear hk k) | refine wkt rfl ?_)); (try refine wk0 ?_)
        refine cN rfl rfl rfl rfl (by exact k2) ?_; rintro v2 h2 s2 rfl
        repeat (first | (refine wo rfl (fun k hk => ?_); simp (disch := omega) only [go_sem, Nat.reduceBEq, Nat.reduceAdd]; refine hk _ _ ?_; clear hk k) | refine wkt rfl ?_ | refine wk0 ?_ | refine rg rfl rfl (fun K hK => ?_) | refine rd [.o 0, .o 2, .o 1, .o 3, .o 4, .o 5] rfl (by decide +kernel) rfl (fun K hK => ?_) | ((first | refine AWP_exit ?_ | refine AWP_skip ?_); simp (disch := decide) only [qs, qb, if_true, if_false, reduceIte]) | refine AWP_sq rfl (fun K hK => ?_) | refine ct rfl ?_ | ((try simp (disch := omega) only [go_sem, Nat.reduceBEq, Nat.reduceAdd]); (first | apply hK | (clear hK; apply hK) | (clear hK; clear hK; apply hK)); clear hK; (try clear K); (try dsimp only [behind, qs, qb])))
        refine AWP_ret ?_; simp (disch := omega) only [go_sem, Nat.reduceBEq, Nat.reduceAdd]
        exact ⟨_, _, _, rfl, Qr.none _⟩
    · have s1 : x.side = 0 := Decidable.byContradiction fun k => hs (.inl k)
      have s2 : y.side = 0 := Decidable.byContradiction fun k => hs (.inr k)
      obtain ⟨p, rfl⟩ := Pt.side_fin s1
      obtain ⟨q, rfl⟩ := Pt.side_fin s2
      show Spec _ _ _ _ (fun r h' => Re h' r (.fin (p * q))) _
      have lp : sz p ≤ 2 ^ 30 := lx
      have lq : sz q ≤ 2 ^ 30 := ly
      have hx := Pt.sg_bd (.fin p)
      have hy := Pt.sg_bd (.fin q)
      dsimp only [Pt.side, Pt.val] at *
      clear hz hs s1 s2
      generalize (Pt.fin p).sg = m at *
      generalize (Pt.fin q).sg = n at *
      have hm : (m = 1 ∨ m = -1) ∧ (n = 1 ∨ n = -1) := by omega
      clear hx hy hx0 hy0
      obtain ⟨rfl | rfl, rfl | rfl⟩ := hm <;>
      · refine Spec.enter (args := [_, _]) (n := 30) Tryz.func108 rfl (by kernel_rfl) rfl (by simp) [.cell 4 122] rfl (fun C _ => ?_)
        repeat (first | (refine wo rfl (fun k hk => ?_); simp (disch := omega) only [go_sem, Nat.reduceBEq, Nat.reduceAdd]; refine hk _ _ ?_; clear hk k) | refine wkt rfl ?_ | refine wk0 ?_ | refine rg rfl rfl (fun K hK => ?_) | refine rd [.o 0, .o 2, .o 1, .o 3, .o 4, .o 5] rfl (by decide +kernel) rfl (fun K hK => ?_) | ((first | refine AWP_exit ?_ | refine AWP_skip ?_); simp (disch := decide) only [qs, qb, if_true, if_false, reduceIte]) | refine AWP_sq rfl (fun K hK => ?_) | refine ct rfl ?_ | ((try simp (disch := omega) only [go_sem, Nat.reduceBEq, Nat.reduceAdd]); (first | apply hK | (clear hK; apply hK) | (clear hK; clear hK; apply hK)); clear hK; (try clear K); (try dsimp only [behind, qs, qb])))
        refine cN rfl rfl rfl rfl (by exact k1) ?_; rintro v1 h1 s1 rfl; (repeat (first | (refine wo rfl (fun k hk => ?_); simp (disch := omega) only [go_sem, Nat.reduceBEq, Nat.reduceAdd]; refine hk _ _ ?_; clear hk k) | refine wkt rfl ?_)); (try refine wk0 ?_)
        refine cN rfl rfl rfl rfl (by exact k2) ?_; rintro v2 h2 s2 rfl
        repeat (first | (refine wo rfl (fun k hk => ?_); simp (disch := omega) only [go_sem, Nat.reduceBEq, Nat.reduceAdd]; refine hk _ _ ?_; clear hk k) | refine wkt rfl ?_ | refine wk0 ?_ | refine rg rfl rfl (fun K hK => ?_) | refine rd [.o 0, .o 2, .o 1, .o 3, .o 4, .o 5] rfl (by decide +kernel) rfl (fun K hK => ?_) | ((first | refine AWP_exit ?_ | refine AWP_skip ?_); simp (disch := decide) only [qs, qb, if_true, if_false, reduceIte]) | refine AWP_sq rfl (fun K hK => ?_) | refine ct rfl ?_ | ((try simp (disch := omega) only [go_sem, Nat.reduceBEq, Nat.reduceAdd]); (first | apply hK | (clear hK; apply hK) | (clear hK; clear hK; apply hK)); clear hK; (try clear K); (try dsimp only [behind, qs, qb])))
        refine cN rfl rfl rfl rfl (by exact Prod_spec (e1.to (h' := h2)) (e2.to (h' := h2)) (by omega) (by omega)) ?_; rintro v3 h3 _ f3; obtain ⟨v3_0, v3_1, v3_2, v3_3, v3_4, v3_5, v3_6, rfl, f3⟩ := f3.sa
        repeat (first | (refine wo rfl (fun k hk => ?_); simp (disch := omega) only [go_sem, Nat.reduceBEq, Nat.reduceAdd]; refine hk _ _ ?_; clear hk k) | refine wkt rfl ?_ | refine wk0 ?_ | refine rg rfl rfl (fun K hK => ?_) | refine rd [.o 0, .o 2, .o 1, .o 3, .o 4, .o 5] rfl (by decide +kernel) rfl (fun K hK => ?_) | ((first | refine AWP_exit ?_ | refine AWP_skip ?_); simp (disch := decide) only [qs, qb, if_true, if_false, reduceIte]) | refine AWP_sq rfl (fun K hK => ?_) | refine ct rfl ?_ | ((try simp (disch := omega) only [go_sem, Nat.reduceBEq, Nat.reduceAdd]); (first | apply hK | (clear hK; apply hK) | (clear hK; clear hK; apply hK)); clear hK; (try clear K); (try dsimp only [behind, qs, qb])))
        refine AWP_ret ?_; simp (disch := omega) only [go_sem, Nat.reduceBEq, Nat.reduceAdd]
        exact ⟨_, _, _, rfl, f3⟩
def Pt.bef : Pt → Pt → Bool
  | .fin p, .fin q => decide (p < q)
  | .inf u, .inf w => !u && w
  | .inf u, .fin _ => !u
  | .fin _, .inf u => u
theorem RefBefore {h0 h : PH} [Le h0 h] {v w : Value} {x y : Pt} (hv : Re h0 v x) (hw : Re h0 w y) (lx : x.le (2 ^ 30)) (ly : y.le (2 ^ 30)) : Spec mach 109 #[v, w] h (fun r _ => r = .bool (x.bef y)) NP := by
  obtain ⟨b, a1, m1, c1, a2, m2, c2, rfl, e1⟩ := hv.sa
  obtain ⟨b', a1', m1', c1', a2', m2', c2', rfl, e2⟩ := hw.sa
  cases x with
  | fin p =>
    cases y with
    | fin q =>
      have lp : sz p ≤ 2 ^ 30 := lx
      have lq : sz q ≤ 2 ^ 30 := ly
      dsimp only [Pt.side, Pt.bef, Pt.val] at *
      by_cases hc : p < q
      · have e3 : cmpQ p q < 0 := by unfold cmpQ; grind
        rw [decide_eq_true hc]
        refine Spec.enter (args := [_, _]) (n := 26) Tryz.func109 rfl (by kernel_rfl) rfl (by simp) [.tmp 4] rfl (fun C _ => ?_)
        repeat (first | (refine wo rfl (fun k hk => ?_); simp (disch := omega) only [go_sem, Nat.reduceBEq, Nat.reduceAdd]; refine hk _ _ ?_; clear hk k) | refine wkt rfl ?_ | refine wk0 ?_ | refine rg rfl rfl (fun K hK => ?_) | ((first | refine AWP_exit ?_ | refine AWP_skip ?_); simp (disch := decide) only [qs, qb, if_true, if_false, reduceIte]) | refine AWP_sq rfl (fun K hK => ?_) | refine ct rfl ?_ | ((try simp (disch := omega) only [go_sem, Nat.reduceBEq, Nat.reduceAdd]); (first | apply hK | (clear hK; apply hK) | (clear hK; clear hK; apply hK)); clear hK; (try clear K); (try dsimp only [behind, qs, qb])))
        refine cN rfl rfl rfl rfl (by exact QCmp_spec e1 e2 (by omega) (by omega)) ?_; rintro v1 h1 s1 rfl; (repeat (first | (refine wo rfl (fun k hk => ?_); simp (disch := omega) only [go_sem, Nat.reduceBEq, Nat.reduceAdd]; refine hk _ _ ?_; clear hk k) | refine wkt rfl ?_)); (try refine wk0 ?_)
        (try (simp (disch := omega) only [go_sem, Nat.reduceBEq, Nat.reduceAdd])); refine hK _ _ ?_; clear hK; (try clear K); (try dsimp only [behind, qs])
        refine AWP_ret ?_; simp (disch := omega) only [go_sem, Nat.reduceBEq, Nat.reduceAdd]
      · have e3 : ¬ cmpQ p q < 0 := by unfold cmpQ; grind
        rw [decide_eq_false hc]
        refine Spec.enter (args := [_, _]) (n := 26) Tryz.func109 rfl (by kernel_rfl) rfl (by simp) [.tmp 4] rfl (fun C _ => ?_)
        repeat (first | (refine wo rfl (fun k hk => ?_); simp (disch := omega) only [go_sem, Nat.reduceBEq, Nat.reduceAdd]; refine hk _ _ ?_; clear hk k) | refine wkt rfl ?_ | refine wk0 ?_ | refine rg rfl rfl (fun K hK => ?_) | ((first | refine AWP_exit ?_ | refine AWP_skip ?_); simp (disch := decide) only [qs, qb, if_true, if_false, reduceIte]) | refine AWP_sq rfl (fun K hK => ?_) | refine ct rfl ?_ | ((try simp (disch := omega) only [go_sem, Nat.reduceBEq, Nat.reduceAdd]); (first | apply hK | (clear hK; apply hK) | (clear hK; clear hK; apply hK)); clear hK; (try clear K); (try dsimp only [behind, qs, qb])))
        refine cN rfl rfl rfl rfl (by exact QCmp_spec e1 e2 (by omega) (by omega)) ?_; rintro v1 h1 s1 rfl; (repeat (first | (refine wo rfl (fun k hk => ?_); simp (disch := omega) only [go_sem, Nat.reduceBEq, Nat.reduceAdd]; refine hk _ _ ?_; clear hk k) | refine wkt rfl ?_)); (try refine wk0 ?_)
        (try (simp (disch := omega) only [go_sem, Nat.reduceBEq, Nat.reduceAdd])); refine hK _ _ ?_; clear hK; (try clear K); (try dsimp only [behind, qs])
        refine AWP_ret ?_; simp (disch := omega) only [go_sem, Nat.reduceBEq, Nat.reduceAdd]
    | inf u =>
      cases u <;>
      · dsimp only [Pt.side, Pt.bef, Pt.val] at *
        simp only [if_true, if_false, Bool.false_eq_true, reduceIte]
        refine Spec.enter (args := [_, _]) (n := 26) Tryz.func109 rfl (by kernel_rfl) rfl (by simp) [.tmp 4] rfl (fun C _ => ?_)
        repeat (first | (refine wo rfl (fun k hk => ?_); simp (disch := omega) only [go_sem, Nat.reduceBEq, Nat.reduceAdd]; refine hk _ _ ?_; clear hk k) | refine wkt rfl ?_ | refine wk0 ?_ | refine rg rfl rfl (fun K hK => ?_) | ((first | refine AWP_exit ?_ | refine AWP_skip ?_); simp (disch := decide) only [qs, qb, if_true, if_false, reduceIte]) | refine AWP_sq rfl (fun K hK => ?_) | refine ct rfl ?_ | ((try simp (disch := omega) only [go_sem, Nat.reduceBEq, Nat.reduceAdd]); (first | apply hK | (clear hK; apply hK) | (clear hK; clear hK; apply hK)); clear hK; (try clear K); (try dsimp only [behind, qs, qb])))
        refine AWP_ret ?_; simp (disch := omega) only [go_sem, Nat.reduceBEq, Nat.reduceAdd]
        try rfl
  | inf u =>
    cases y with
    | fin q =>
      cases u <;>
      · dsimp only [Pt.side, Pt.bef, Pt.val] at *
        simp only [if_true, if_false, Bool.false_eq_true, reduceIte]
        refine Spec.enter (args := [_, _]) (n := 26) Tryz.func109 rfl (by kernel_rfl) rfl (by simp) [.tmp 4] rfl (fun C _ => ?_)
        repeat (first | (refine wo rfl (fun k hk => ?_); simp (disch := omega) only [go_sem, Nat.reduceBEq, Nat.reduceAdd]; refine hk _ _ ?_; clear hk k) | refine wkt rfl ?_ | refine wk0 ?_ | refine rg rfl rfl (fun K hK => ?_) | ((first | refine AWP_exit ?_ | refine AWP_skip ?_); simp (disch := decide) only [qs, qb, if_true, if_false, reduceIte]) | refine AWP_sq rfl (fun K hK => ?_) | refine ct rfl ?_ | ((try simp (disch := omega) only [go_sem, Nat.reduceBEq, Nat.reduceAdd]); (first | apply hK | (clear hK; apply hK) | (clear hK; clear hK; apply hK)); clear hK; (try clear K); (try dsimp only [behind, qs, qb])))
        refine AWP_ret ?_; simp (disch := omega) only [go_sem, Nat.reduceBEq, Nat.reduceAdd]
        try rfl
    | inf w =>
      cases u <;> cases w <;>
      · dsimp only [Pt.side, Pt.bef, Pt.val] at *
        simp only [if_true, if_false, Bool.false_eq_true, reduceIte]
        refine Spec.enter (args := [_, _]) (n := 26) Tryz.func109 rfl (by kernel_rfl) rfl (by simp) [.tmp 4] rfl (fun C _ => ?_)
        repeat (first | (refine wo rfl (fun k hk => ?_); simp (disch := omega) only [go_sem, Nat.reduceBEq, Nat.reduceAdd]; refine hk _ _ ?_; clear hk k) | refine wkt rfl ?_ | refine wk0 ?_ | refine rg rfl rfl (fun K hK => ?_) | ((first | refine AWP_exit ?_ | refine AWP_skip ?_); simp (disch := decide) only [qs, qb, if_true, if_false, reduceIte]) | refine AWP_sq rfl (fun K hK => ?_) | refine ct rfl ?_ | ((try simp (disch := omega) only [go_sem, Nat.reduceBEq, Nat.reduceAdd]); (first | apply hK | (clear hK; apply hK) | (clear hK; clear hK; apply hK)); clear hK; (try clear K); (try dsimp only [behind, qs, qb])))
        refine AWP_ret ?_; simp (disch := omega) only [go_sem, Nat.reduceBEq, Nat.reduceAdd]
        try rfl
theorem RefEnds {h0 h : PH} [Le h0 h] {v : Value} {a b : Option Rat} (hv : Rr h0 v (.i a b)) : Spec mach 107 #[v] h (fun r h' => ∃ b1 a1 m1 c1 a2 m2 c2 b2 a3 m3 c3 a4 m4 c4, r = .agg #[.int .i64 (lowP a).side, .bool b1, .slice a1 m1 c1, .slice a2 m2 c2, .int .i64 (highP b).side, .bool b2, .slice a3 m3 c3, .slice a4 m4 c4] ∧
    Re h' (.agg #[.int .i64 (lowP a).side, .bool b1, .slice a1 m1 c1, .slice a2 m2 c2]) (lowP a) ∧ Re h' (.agg #[.int .i64 (highP b).side, .bool b2, .slice a3 m3 c3, .slice a4 m4 c4]) (highP b)) NP := by
  obtain ⟨_, _, _, _, _, _, _, _, _, _, _, _, _, _, rfl, t1, t2⟩ := hv.sa
  dsimp only [NS.void, NS.loN, NS.hiN, NS.lo0, NS.hi0] at *
  cases a <;> cases b <;>
  · dsimp only [Option.isNone, Option.getD] at *
    refine Spec.enter (args := [_]) (n := 20) Tryz.func107 rfl (by kernel_rfl) rfl (by simp) [.cell 2 123] rfl (fun C _ => ?_)
    repeat (first | (refine wo rfl (fun k hk => ?_); simp (disch := omega) only [go_sem, Nat.reduceBEq, Nat.reduceAdd]; refine hk _ _ ?_; clear hk k) | refine wkt rfl ?_ | refine wk0 ?_ | refine rg rfl rfl (fun K hK => ?_) | ((first | refine AWP_exit ?_ | refine AWP_skip ?_); simp (disch := decide) only [qs, qb, if_true, if_false, reduceIte]) | refine AWP_sq rfl (fun K hK => ?_) | refine ct rfl ?_ | ((try simp (disch := omega) only [go_sem, Nat.reduceBEq, Nat.reduceAdd]); (first | apply hK | (clear hK; apply hK) | (clear hK; clear hK; apply hK)); clear hK; (try clear K); (try dsimp only [behind, qs, qb])))
    refine AWP_ret ?_; simp (disch := omega) only [go_sem, Nat.reduceBEq, Nat.reduceAdd]
    exact ⟨_, _, _, _, _, _, _, _, _, _, _, _, _, _, rfl, ⟨_, _, _, rfl, by first | exact t1.to | exact Qr.none _⟩, ⟨_, _, _, rfl, by first | exact t2.to | exact Qr.none _⟩⟩
def rlow (o : NS × Bool × Bool) : Pt := bif o.2.1 then .inf false else match o.1 with
  | .e => .inf true
  | .i (some a) _ => .fin a
  | .i none _ => .inf false
def rhigh (o : NS × Bool × Bool) : Pt := bif o.2.2 then .inf true else match o.1 with
  | .e => .inf false
  | .i _ (some b) => .fin b
  | .i _ none => .inf true
theorem rlow_stp {o : NS × Bool × Bool} {z : Pt} (ho : o.1 = .e ∨ ∃ a b, o.1 = .i (some a) (some b)) : rlow (stp o z) = bif z.bef (rlow o) then z else rlow o := by
  obtain ⟨s, l, u⟩ := o
  rcases ho with e | ⟨a, b, e⟩ <;> (dsimp only at e; subst e) <;> cases z with
  | fin q => cases l with
    | true => rfl
    | false => first | rfl | (show Pt.fin (min a q) = bif decide (q < a) then .fin q else .fin a; by_cases h : q < a <;> simp only [h, decide_true, decide_false, cond_true, cond_false] <;> congr 1 <;> grind)
  | inf v => cases v <;> cases l <;> rfl
theorem rhigh_stp {o : NS × Bool × Bool} {z : Pt} (ho : o.1 = .e ∨ ∃ a b, o.1 = .i (some a) (some b)) : rhigh (stp o z) = bif (rhigh o).bef z then z else rhigh o := by
  obtain ⟨s, l, u⟩ := o
  rcases ho with e | ⟨a, b, e⟩ <;> (dsimp only at e; subst e) <;> cases z with
  | fin q => cases u with
    | true => rfl
    | false => first | rfl | (show Pt.fin (max b q) = bif decide (b < q) then .fin q else .fin b; by_cases h : b < q <;> simp only [h, decide_true, decide_false, cond_true, cond_false] <;> congr 1 <;> grind)
  | inf v => cases v <;> cases u <;> rfl
theorem rlow_le {o : NS × Bool × Bool} {k : Nat} (h : NS.pts k o) : (rlow o).le k := by
  obtain ⟨s, l, u⟩ := o
  obtain ⟨_, h2, h3⟩ := h
  dsimp only at h2 h3
  cases l with
  | true => trivial
  | false =>
    rcases h3 with e | ⟨a, b, e⟩ <;> subst e
    · trivial
    · exact ((NS.le_i).1 h2).1 a rfl
theorem rhigh_le {o : NS × Bool × Bool} {k : Nat} (h : NS.pts k o) : (rhigh o).le k := by
  obtain ⟨s, l, u⟩ := o
  obtain ⟨_, h2, h3⟩ := h
  dsimp only at h2 h3
  cases u with
  | true => trivial
  | false =>
    rcases h3 with e | ⟨a, b, e⟩ <;> subst e
    · trivial
    · exact ((NS.le_i).1 h2).2 b rfl
end Go.Q
