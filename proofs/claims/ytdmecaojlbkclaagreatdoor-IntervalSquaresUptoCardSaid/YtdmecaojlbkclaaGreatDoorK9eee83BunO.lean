/-
  Contracts of package interval, said of plain intervals (NS): reading, giving, rounding, opposites, signs, comparisons. Conditions: the values denote the intervals named, their ends of at most 2^30 binary digits.
  Contracts of package interval: signs, single numbers, the lesser and the greater of two numbers. Conditions: the values denote the intervals named, their ends of at most 2^30 binary digits.
-/
import Derived.Test.YtdmecaojlbkclaaGreatDoorK3d35b9BunN
import Derived.Test.YtdmecaojlbkclaaGreatDoorKc142caBunM
set_option linter.unusedVariables false
set_option linter.unusedSimpArgs false
namespace Go.Q
open Go.Proofs
set_option maxRecDepth 100000
set_option maxHeartbeats 4000000
structure En (h : PH) (b : Bool) (x y : Value) (o : Option Rat) : Prop where
  jk : ∃ n d, Jk h b x y n d
  fr : ∀ q, o = some q → Fr h (.agg #[.bool b, x, y]) q
theorem En.to {h h' : PH} {b : Bool} {x y : Value} {o : Option Rat} (r : En h b x y o) [Le h h'] : En h' b x y o := ⟨let ⟨n, d, j⟩ := r.jk; ⟨n, d, j.to⟩, fun q e => (r.fr q e).to⟩
theorem En.of {h : PH} {b : Bool} {x y : Value} {q : Rat} (r : Fr h (.agg #[.bool b, x, y]) q) : En h b x y (some q) := ⟨⟨_, _, r.jk'⟩, fun q' e => by cases e; exact r⟩
theorem En.num {h : PH} {b : Bool} {x y : Value} {q : Rat} (r : En h b x y (some q)) : Fr h (.agg #[.bool b, x, y]) q := r.fr q rfl
theorem En.junk {h : PH} {b : Bool} {x y : Value} {o : Option Rat} (r : En h b x y o) : En h b x y none := ⟨r.jk, fun _ e => by cases e⟩
theorem En.nil (h : PH) : En h false (.slice none 0 0) (.slice none 0 0) none := ⟨⟨0, 0, N32.zero h, N32.zero h⟩, fun _ e => by cases e⟩
theorem En.sl {h : PH} {b : Bool} {x y : Value} {o : Option Rat} (r : En h b x y o) : ∃ na nl nc da dl dc, x = .slice na nl nc ∧ y = .slice da dl dc := let ⟨_, _, j⟩ := r.jk; j.sl
def Sn (h : PH) (v : Value) : NS → Prop
  | .e => ∃ b1 x1 y1 b2 x2 y2 l u, v = .agg #[.bool b1, x1, y1, .bool b2, x2, y2, .bool l, .bool u, .bool true] ∧ En h b1 x1 y1 none ∧ En h b2 x2 y2 none
  | .i lo hi => ∃ b1 x1 y1 b2 x2 y2, v = .agg #[.bool b1, x1, y1, .bool b2, x2, y2, .bool lo.isNone, .bool hi.isNone, .bool false] ∧ En h b1 x1 y1 lo ∧ En h b2 x2 y2 hi
theorem Sn.to {h h' : PH} {v : Value} {x : NS} (r : Sn h v x) [Le h h'] : Sn h' v x := by
  cases x with
  | e => obtain ⟨b1, x1, y1, b2, x2, y2, l, u, hv, h1, h2⟩ := r; exact ⟨b1, x1, y1, b2, x2, y2, l, u, hv, h1.to, h2.to⟩
  | i a b => obtain ⟨b1, x1, y1, b2, x2, y2, hv, h1, h2⟩ := r; exact ⟨b1, x1, y1, b2, x2, y2, hv, h1.to, h2.to⟩
theorem Sn.ee {h : PH} {v : Value} (r : Sn h v .e) : ∃ b1 a1 m1 c1 a2 m2 c2 b2 a3 m3 c3 a4 m4 c4 l u, v = .agg #[.bool b1, .slice a1 m1 c1, .slice a2 m2 c2, .bool b2, .slice a3 m3 c3, .slice a4 m4 c4, .bool l, .bool u, .bool true] ∧
    En h b1 (.slice a1 m1 c1) (.slice a2 m2 c2) none ∧ En h b2 (.slice a3 m3 c3) (.slice a4 m4 c4) none := by
  obtain ⟨b1, x1, y1, b2, x2, y2, l, u, rfl, h1, h2⟩ := r
  obtain ⟨_, _, _, _, _, _, rfl, rfl⟩ := h1.sl
  obtain ⟨_, _, _, _, _, _, rfl, rfl⟩ := h2.sl
  exact ⟨_, _, _, _, _, _, _, _, _, _, _, _, _, _, _, _, rfl, h1, h2⟩
theorem Sn.ie {h : PH} {v : Value} {lo hi : Option Rat} (r : Sn h v (.i lo hi)) : ∃ b1 a1 m1 c1 a2 m2 c2 b2 a3 m3 c3 a4 m4 c4, v = .agg #[.bool b1, .slice a1 m1 c1, .slice a2 m2 c2, .bool b2, .slice a3 m3 c3, .slice a4 m4 c4, .bool lo.isNone, .bool hi.isNone, .bool false] ∧
    En h b1 (.slice a1 m1 c1) (.slice a2 m2 c2) lo ∧ En h b2 (.slice a3 m3 c3) (.slice a4 m4 c4) hi := by
  obtain ⟨b1, x1, y1, b2, x2, y2, rfl, h1, h2⟩ := r
  obtain ⟨_, _, _, _, _, _, rfl, rfl⟩ := h1.sl
  obtain ⟨_, _, _, _, _, _, rfl, rfl⟩ := h2.sl
  exact ⟨_, _, _, _, _, _, _, _, _, _, _, _, _, _, rfl, h1, h2⟩
theorem Sn.sa {h : PH} {v : Value} {x : NS} (r : Sn h v x) : ∃ b1 a1 m1 c1 a2 m2 c2 b2 a3 m3 c3 a4 m4 c4 l u, v = .agg #[.bool b1, .slice a1 m1 c1, .slice a2 m2 c2, .bool b2, .slice a3 m3 c3, .slice a4 m4 c4, .bool l, .bool u, .bool x.void] ∧
    Sn h (.agg #[.bool b1, .slice a1 m1 c1, .slice a2 m2 c2, .bool b2, .slice a3 m3 c3, .slice a4 m4 c4, .bool l, .bool u, .bool x.void]) x := by
  cases x with
  | e => obtain ⟨b1, a1, m1, c1, a2, m2, c2, b2, a3, m3, c3, a4, m4, c4, l, u, rfl, h1, h2⟩ := r.ee; exact ⟨_, _, _, _, _, _, _, _, _, _, _, _, _, _, _, _, rfl, _, _, _, _, _, _, _, _, rfl, h1, h2⟩
  | i a b => obtain ⟨b1, a1, m1, c1, a2, m2, c2, b2, a3, m3, c3, a4, m4, c4, rfl, h1, h2⟩ := r.ie; exact ⟨_, _, _, _, _, _, _, _, _, _, _, _, _, _, _, _, rfl, _, _, _, _, _, _, rfl, h1, h2⟩
def PS.n (s : PS) : NS := bif s.e then .e else .i (bif s.l then none else some s.lo) (bif s.u then none else some s.hi)
theorem Sr.sn {h : PH} {v : Value} {s : PS} (r : Sr h v s) : Sn h v s.n := by
  obtain ⟨lo, hi, l, u, e⟩ := s
  obtain ⟨b1, x1, y1, b2, x2, y2, rfl, j1, j2, f1, f2⟩ := r
  dsimp only at *
  cases e with
  | true => exact ⟨b1, x1, y1, b2, x2, y2, l, u, rfl, ⟨j1, (fun _ e => by cases e)⟩, ⟨j2, (fun _ e => by cases e)⟩⟩
  | false =>
    cases l <;> cases u <;> refine ⟨b1, x1, y1, b2, x2, y2, rfl, ⟨j1, fun q e => ?_⟩, ⟨j2, fun q e => ?_⟩⟩ <;> simp at e
    · subst e; exact f1 rfl rfl
    · subst e; exact f2 rfl rfl
    · subst e; exact f1 rfl rfl
    · subst e; exact f2 rfl rfl
theorem Sn.sr {h : PH} {v : Value} {x : NS} (r : Sn h v x) : ∃ s, Sr h v s ∧ s.n = x := by
  cases x with
  | e =>
    obtain ⟨b1, x1, y1, b2, x2, y2, l, u, rfl, h1, h2⟩ := r
    exact ⟨⟨0, 0, l, u, true⟩, ⟨b1, x1, y1, b2, x2, y2, rfl, h1.jk, h2.jk, (fun _ e => by cases e), (fun _ e => by cases e)⟩, rfl⟩
  | i a b =>
    obtain ⟨b1, x1, y1, b2, x2, y2, rfl, h1, h2⟩ := r
    refine ⟨⟨a.getD 0, b.getD 0, a.isNone, b.isNone, false⟩, ⟨b1, x1, y1, b2, x2, y2, rfl, h1.jk, h2.jk, fun e _ => ?_, fun e _ => ?_⟩, ?_⟩
    · cases a with
      | none => cases e
      | some a => exact h1.num
    · cases b with
      | none => cases e
      | some b => exact h2.num
    · cases a <;> cases b <;> rfl
structure RI where
  n1 : Bool
  a1 : Nat
  d1 : Nat
  n2 : Bool
  a2 : Nat
  d2 : Nat
  l : Bool
  u : Bool
def Iv (h : PH) (v : Value) (x : RI) : Prop := Iw h v x.n1 x.a1 x.d1 x.n2 x.a2 x.d2 x.l x.u
theorem Iv.to {h h' : PH} {v : Value} {x : RI} (r : Iv h v x) [Le h h'] : Iv h' v x := let ⟨a, b, c, d, e, h1, h2⟩ := r; ⟨a, b, c, d, e, h1.to, h2.to⟩
theorem Iv.sa {h : PH} {v : Value} {x : RI} (r : Iv h v x) : ∃ a1 m1 c1 a2 m2 c2 a3 m3 c3 a4 m4 c4, v = .agg #[.bool x.n1, .slice a1 m1 c1, .slice a2 m2 c2, .bool x.n2, .slice a3 m3 c3, .slice a4 m4 c4, .bool x.l, .bool x.u] ∧
    Rw h (.agg #[.bool x.n1, .slice a1 m1 c1, .slice a2 m2 c2]) x.n1 x.a1 x.d1 ∧ Rw h (.agg #[.bool x.n2, .slice a3 m3 c3, .slice a4 m4 c4]) x.n2 x.a2 x.d2 := by
  obtain ⟨x1, y1, x2, y2, rfl, h1, h2⟩ := r
  have e1 := h1
  have e2 := h2
  obtain ⟨_, _, _, _, _, _, e1, _⟩ := e1
  obtain ⟨_, _, _, _, _, _, e2, _⟩ := e2
  simp only [Value.agg.injEq, Array.mk.injEq, List.cons.injEq, and_true, true_and] at e1 e2
  obtain ⟨rfl, rfl⟩ := e1
  obtain ⟨rfl, rfl⟩ := e2
  exact ⟨_, _, _, _, _, _, _, _, _, _, _, _, rfl, h1, h2⟩
namespace RI
def lo (x : RI) : Option Rat := bif x.l then none else some (qof x.n1 x.a1 x.d1)
def hi (x : RI) : Option Rat := bif x.u then none else some (qof x.n2 x.a2 x.d2)
def set (x : RI) : NS := NS.mk' x.lo x.hi
def big (x : RI) : Bool := decide (Go.Q.lg x.n1 x.a1 x.d1) || decide (Go.Q.lg x.n2 x.a2 x.d2)
theorem set_ok (x : RI) : x.set.ok := by
  unfold set NS.mk'
  cases h : ordO x.lo x.hi with
  | true => exact h
  | false => trivial
theorem small {x : RI} (h : x.big = false) : ¬ Go.Q.lg x.n1 x.a1 x.d1 ∧ ¬ Go.Q.lg x.n2 x.a2 x.d2 := by
  unfold big at h
  simpa using h
theorem large {x : RI} (h : x.big = true) : Go.Q.lg x.n1 x.a1 x.d1 ∨ Go.Q.lg x.n2 x.a2 x.d2 := by
  unfold big at h
  simpa using h
theorem set_eq (x : RI) : (rdS (qof x.n1 x.a1 x.d1) (qof x.n2 x.a2 x.d2) x.l x.u).n = x.set := by
  unfold set lo hi rdS PS.n NS.mk'
  generalize qof x.n1 x.a1 x.d1 = a
  generalize qof x.n2 x.a2 x.d2 = b
  cases x.l <;> cases x.u <;> simp [ordO]
theorem le {x : RI} (h : x.big = false) : x.set.le 2048 := by
  obtain ⟨h1, h2⟩ := small h
  have z1 : sz (qof x.n1 x.a1 x.d1) ≤ 2048 := by unfold Go.Q.lg at h1; omega
  have z2 : sz (qof x.n2 x.a2 x.d2) ≤ 2048 := by unfold Go.Q.lg at h2; omega
  unfold set lo hi NS.mk'
  cases x.l <;> cases x.u <;> simp [ordO]
  · generalize qof x.n1 x.a1 x.d1 = a at *
    generalize qof x.n2 x.a2 x.d2 = b at *
    by_cases h : b < a <;> simp [h, NS.le, NS.all, z1, z2]
  · simp [NS.le, NS.all, z1]
  · simp [NS.le, NS.all, z2]
  · simp [NS.le, NS.all]
end RI
theorem NS.le_i {k : Nat} {a b : Option Rat} : (NS.i a b).le k ↔ (∀ q, a = some q → sz q ≤ k) ∧ (∀ q, b = some q → sz q ≤ k) := by
  unfold NS.le NS.all
  cases a <;> cases b <;> simp
theorem NS.le.up {k m : Nat} {x : NS} (h : x.le k) (hm : k ≤ m) : x.le m := by
  cases x with
  | e => rfl
  | i a b =>
    rw [NS.le_i] at h ⊢
    exact ⟨fun q e => Nat.le_trans (h.1 q e) hm, fun q e => Nat.le_trans (h.2 q e) hm⟩
theorem PS.fin_n {s : PS} {k : Nat} : s.fin k ↔ s.n.le k := by
  obtain ⟨lo, hi, l, u, e⟩ := s
  unfold PS.fin PS.n
  cases e with
  | true => simp [NS.le, NS.all]
  | false =>
    dsimp only [cond_false]
    rw [NS.le_i]
    cases l <;> cases u <;> simp
theorem Read_fail' {h0 h : PH} [Le h0 h] {v : Value} {x : RI} (hv : Iv h0 v x) (g : x.big = true) : Spec mach 64 #[v] h NR (fail 1) := read_fail hv (RI.large g)
theorem Hull_set {h0 h : PH} [Le h0 h] {v : Value} {x : NS} {p : Nat} (hv : Sn h0 v x) (hf : x.le (2 ^ 30)) (hp : p ≤ 2 ^ 30) :
    Spec mach 45 #[v, .int .i64 p] h (fun v h' => Sn h' v (x.hull p)) NP := by
  obtain ⟨s, hs, rfl⟩ := hv.sr
  refine (hull_spec hs (PS.fin_n.2 hf) hp).mono (fun v h' _ r => ?_) (fun _ _ _ e => e)
  have : (hullS s p).n = s.n.hull p := by
    obtain ⟨lo, hi, l, u, e⟩ := s
    cases e <;> cases l <;> cases u <;> rfl
  rw [← this]
  exact r.sn
theorem Minus_set {h0 h : PH} [Le h0 h] {v : Value} {x : NS} (hv : Sn h0 v x) : Spec mach 57 #[v] h (fun v h' => Sn h' v x.minus) NP := by
  obtain ⟨s, hs, rfl⟩ := hv.sr
  refine (minus_spec hs).mono (fun v h' _ r => ?_) (fun _ _ _ e => e)
  have : (minusS s).n = s.n.minus := by
    obtain ⟨lo, hi, l, u, e⟩ := s
    cases e <;> cases l <;> cases u <;> rfl
  rw [← this]
  exact r.sn
def Cv (h : PH) (v : Value) (x : NS) : Prop := Ci h v (match x with | .e => ⟨1, 0, false, false, true⟩ | .i a b => ⟨a.getD 0, b.getD 0, a.isNone, b.isNone, false⟩)
theorem Cv.to {h h' : PH} {v : Value} {x : NS} (r : Cv h v x) [Le h h'] : Cv h' v x := Ci.to r
theorem canS_n (s : PS) : canS s = (match s.n with | .e => ⟨1, 0, false, false, true⟩ | .i a b => ⟨a.getD 0, b.getD 0, a.isNone, b.isNone, false⟩ : PS) := by
  obtain ⟨lo, hi, l, u, e⟩ := s
  cases e <;> cases l <;> cases u <;> rfl
theorem Give_set {h0 h : PH} [Le h0 h] {v : Value} {x : NS} (hv : Sn h0 v x) (hf : x.le 2048) : Spec mach 65 #[v] h (fun v h' => Cv h' v x) NP := by
  obtain ⟨s, hs, rfl⟩ := hv.sr
  refine (give_ok hs (PS.fin_n.2 hf)).mono (fun v h' _ r => ?_) (fun _ _ _ e => e)
  unfold Cv
  rw [← canS_n]
  exact r
theorem Give_fail {h0 h : PH} [Le h0 h] {v : Value} {x : NS} (hv : Sn h0 v x) (hf : ¬ x.le 2048) : Spec mach 65 #[v] h NR (fail 1) := by
  obtain ⟨s, hs, rfl⟩ := hv.sr
  exact give_fail hs (fun k => hf (PS.fin_n.1 k))
end Go.Q
namespace Go.Q
open Go.Proofs
set_option maxRecDepth 100000
set_option maxHeartbeats 4000000
theorem signs_set {h0 h : PH} [Le h0 h] {v : Value} {a b : Option Rat} (hv : Sn h0 v (.i a b)) :
    Spec mach 22 #[v] h (fun r _ => r = .tuple #[.int .i64 (NS.i a b).slo, .int .i64 (NS.i a b).shi]) NP := by
  obtain ⟨b1, a1, m1, c1, a2, m2, c2, b2, a3, m3, c3, a4, m4, c4, rfl, h1, h2⟩ := hv.ie
  cases a with
  | none =>
    cases b with
    | none =>
      dsimp only [Option.isNone]
      refine Spec.enter (args := [_]) (n := 20) Tryz.func22 rfl (by kernel_rfl) rfl (by simp) [.tmp 2, .tmp 3] rfl (fun C _ => ?_)
      repeat (first | (refine wo rfl (fun k hk => ?_); simp (disch := omega) only [go_sem, Nat.reduceBEq, Nat.reduceAdd]; refine hk _ _ ?_; clear hk k) | refine wkt rfl ?_ | refine wk0 ?_ | refine rg rfl rfl (fun K hK => ?_) | ((first | refine AWP_exit ?_ | refine AWP_skip ?_); simp (disch := decide) only [qs, qb, if_true, if_false, reduceIte]) | refine AWP_sq rfl (fun K hK => ?_) | refine ct rfl ?_ | ((try simp (disch := omega) only [go_sem, Nat.reduceBEq, Nat.reduceAdd]); (first | apply hK | (clear hK; apply hK) | (clear hK; clear hK; apply hK)); clear hK; (try clear K); (try dsimp only [behind, qs, qb])))
      refine AWP_ret ?_; simp (disch := omega) only [go_sem, Nat.reduceBEq, Nat.reduceAdd]
      rfl
    | some b =>
      dsimp only [Option.isNone]
      refine Spec.enter (args := [_]) (n := 20) Tryz.func22 rfl (by kernel_rfl) rfl (by simp) [.tmp 2, .tmp 3] rfl (fun C _ => ?_)
      repeat (first | (refine wo rfl (fun k hk => ?_); simp (disch := omega) only [go_sem, Nat.reduceBEq, Nat.reduceAdd]; refine hk _ _ ?_; clear hk k) | refine wkt rfl ?_ | refine wk0 ?_ | refine rg rfl rfl (fun K hK => ?_) | ((first | refine AWP_exit ?_ | refine AWP_skip ?_); simp (disch := decide) only [qs, qb, if_true, if_false, reduceIte]) | refine AWP_sq rfl (fun K hK => ?_) | refine ct rfl ?_ | ((try simp (disch := omega) only [go_sem, Nat.reduceBEq, Nat.reduceAdd]); (first | apply hK | (clear hK; apply hK) | (clear hK; clear hK; apply hK)); clear hK; (try clear K); (try dsimp only [behind, qs, qb])))
      refine cN rfl rfl rfl rfl (by exact Sign_spec h2.num) ?_; rintro v1 h1 s1 rfl
      repeat (first | (refine wo rfl (fun k hk => ?_); simp (disch := omega) only [go_sem, Nat.reduceBEq, Nat.reduceAdd]; refine hk _ _ ?_; clear hk k) | refine wkt rfl ?_ | refine wk0 ?_ | refine rg rfl rfl (fun K hK => ?_) | ((first | refine AWP_exit ?_ | refine AWP_skip ?_); simp (disch := decide) only [qs, qb, if_true, if_false, reduceIte]) | refine AWP_sq rfl (fun K hK => ?_) | refine ct rfl ?_ | ((try simp (disch := omega) only [go_sem, Nat.reduceBEq, Nat.reduceAdd]); (first | apply hK | (clear hK; apply hK) | (clear hK; clear hK; apply hK)); clear hK; (try clear K); (try dsimp only [behind, qs, qb])))
      refine AWP_ret ?_; simp (disch := omega) only [go_sem, Nat.reduceBEq, Nat.reduceAdd]
      rfl
  | some a =>
    cases b with
    | none =>
      dsimp only [Option.isNone]
      refine Spec.enter (args := [_]) (n := 20) Tryz.func22 rfl (by kernel_rfl) rfl (by simp) [.tmp 2, .tmp 3] rfl (fun C _ => ?_)
      repeat (first | (refine wo rfl (fun k hk => ?_); simp (disch := omega) only [go_sem, Nat.reduceBEq, Nat.reduceAdd]; refine hk _ _ ?_; clear hk k) | refine wkt rfl ?_ | refine wk0 ?_ | refine rg rfl rfl (fun K hK => ?_) | ((first | refine AWP_exit ?_ | refine AWP_skip ?_); simp (disch := decide) only [qs, qb, if_true, if_false, reduceIte]) | refine AWP_sq rfl (fun K hK => ?_) | refine ct rfl ?_ | ((try simp (disch := omega) only [go_sem, Nat.reduceBEq, Nat.reduceAdd]); (first | apply hK | (clear hK; apply hK) | (clear hK; clear hK; apply hK)); clear hK; (try clear K); (try dsimp only [behind, qs, qb])))
      refine cN rfl rfl rfl rfl (by exact Sign_spec h1.num) ?_; rintro v1 h1 s1 rfl
      repeat (first | (refine wo rfl (fun k hk => ?_); simp (disch := omega) only [go_sem, Nat.reduceBEq, Nat.reduceAdd]; refine hk _ _ ?_; clear hk k) | refine wkt rfl ?_ | refine wk0 ?_ | refine rg rfl rfl (fun K hK => ?_) | ((first | refine AWP_exit ?_ | refine AWP_skip ?_); simp (disch := decide) only [qs, qb, if_true, if_false, reduceIte]) | refine AWP_sq rfl (fun K hK => ?_) | refine ct rfl ?_ | ((try simp (disch := omega) only [go_sem, Nat.reduceBEq, Nat.reduceAdd]); (first | apply hK | (clear hK; apply hK) | (clear hK; clear hK; apply hK)); clear hK; (try clear K); (try dsimp only [behind, qs, qb])))
      refine AWP_ret ?_; simp (disch := omega) only [go_sem, Nat.reduceBEq, Nat.reduceAdd]
      rfl
    | some b =>
      dsimp only [Option.isNone]
      refine Spec.enter (args := [_]) (n := 20) Tryz.func22 rfl (by kernel_rfl) rfl (by simp) [.tmp 2, .tmp 3] rfl (fun C _ => ?_)
      repeat (first | (refine wo rfl (fun k hk => ?_); simp (disch := omega) only [go_sem, Nat.reduceBEq, Nat.reduceAdd]; refine hk _ _ ?_; clear hk k) | refine wkt rfl ?_ | refine wk0 ?_ | refine rg rfl rfl (fun K hK => ?_) | ((first | refine AWP_exit ?_ | refine AWP_skip ?_); simp (disch := decide) only [qs, qb, if_true, if_false, reduceIte]) | refine AWP_sq rfl (fun K hK => ?_) | refine ct rfl ?_ | ((try simp (disch := omega) only [go_sem, Nat.reduceBEq, Nat.reduceAdd]); (first | apply hK | (clear hK; apply hK) | (clear hK; clear hK; apply hK)); clear hK; (try clear K); (try dsimp only [behind, qs, qb])))
      refine cN rfl rfl rfl rfl (by exact Sign_spec h1.num) ?_; rintro v1 h1 s1 rfl
      repeat (first | (refine wo rfl (fun k hk => ?_); simp (disch := omega) only [go_sem, Nat.reduceBEq, Nat.reduceAdd]; refine hk _ _ ?_; clear hk k) | refine wkt rfl ?_ | refine wk0 ?_ | refine rg rfl rfl (fun K hK => ?_) | ((first | refine AWP_exit ?_ | refine AWP_skip ?_); simp (disch := decide) only [qs, qb, if_true, if_false, reduceIte]) | refine AWP_sq rfl (fun K hK => ?_) | refine ct rfl ?_ | ((try simp (disch := omega) only [go_sem, Nat.reduceBEq, Nat.reduceAdd]); (first | apply hK | (clear hK; apply hK) | (clear hK; clear hK; apply hK)); clear hK; (try clear K); (try dsimp only [behind, qs, qb])))
      refine cN rfl rfl rfl rfl (by exact Sign_spec h2.num) ?_; rintro v2 h2 s2 rfl
      repeat (first | (refine wo rfl (fun k hk => ?_); simp (disch := omega) only [go_sem, Nat.reduceBEq, Nat.reduceAdd]; refine hk _ _ ?_; clear hk k) | refine wkt rfl ?_ | refine wk0 ?_ | refine rg rfl rfl (fun K hK => ?_) | ((first | refine AWP_exit ?_ | refine AWP_skip ?_); simp (disch := decide) only [qs, qb, if_true, if_false, reduceIte]) | refine AWP_sq rfl (fun K hK => ?_) | refine ct rfl ?_ | ((try simp (disch := omega) only [go_sem, Nat.reduceBEq, Nat.reduceAdd]); (first | apply hK | (clear hK; apply hK) | (clear hK; clear hK; apply hK)); clear hK; (try clear K); (try dsimp only [behind, qs, qb])))
      refine AWP_ret ?_; simp (disch := omega) only [go_sem, Nat.reduceBEq, Nat.reduceAdd]
      rfl
theorem signs_void {h0 h : PH} [Le h0 h] {v : Value} (hv : Sn h0 v .e) :
    Spec mach 22 #[v] h (fun r _ => ∃ m n, r = .tuple #[.int .i64 m, .int .i64 n]) NP := by
  obtain ⟨b1, a1, m1, c1, a2, m2, c2, b2, a3, m3, c3, a4, m4, c4, l, u, rfl, h1, h2⟩ := hv.ee
  obtain ⟨n1, d1, j1⟩ := h1.jk
  obtain ⟨n2, d2, j2⟩ := h2.jk
  cases l <;> cases u
  · refine Spec.enter (args := [_]) (n := 20) Tryz.func22 rfl (by kernel_rfl) rfl (by simp) [.tmp 2, .tmp 3] rfl (fun C _ => ?_)
    repeat (first | (refine wo rfl (fun k hk => ?_); simp (disch := omega) only [go_sem, Nat.reduceBEq, Nat.reduceAdd]; refine hk _ _ ?_; clear hk k) | refine wkt rfl ?_ | refine wk0 ?_ | refine rg rfl rfl (fun K hK => ?_) | ((first | refine AWP_exit ?_ | refine AWP_skip ?_); simp (disch := decide) only [qs, qb, if_true, if_false, reduceIte]) | refine AWP_sq rfl (fun K hK => ?_) | refine ct rfl ?_ | ((try simp (disch := omega) only [go_sem, Nat.reduceBEq, Nat.reduceAdd]); (first | apply hK | (clear hK; apply hK) | (clear hK; clear hK; apply hK)); clear hK; (try clear K); (try dsimp only [behind, qs, qb])))
    refine cN rfl rfl rfl rfl (by exact Sign_raw j1) ?_; rintro v1 h1 s1 rfl
    repeat (first | (refine wo rfl (fun k hk => ?_); simp (disch := omega) only [go_sem, Nat.reduceBEq, Nat.reduceAdd]; refine hk _ _ ?_; clear hk k) | refine wkt rfl ?_ | refine wk0 ?_ | refine rg rfl rfl (fun K hK => ?_) | ((first | refine AWP_exit ?_ | refine AWP_skip ?_); simp (disch := decide) only [qs, qb, if_true, if_false, reduceIte]) | refine AWP_sq rfl (fun K hK => ?_) | refine ct rfl ?_ | ((try simp (disch := omega) only [go_sem, Nat.reduceBEq, Nat.reduceAdd]); (first | apply hK | (clear hK; apply hK) | (clear hK; clear hK; apply hK)); clear hK; (try clear K); (try dsimp only [behind, qs, qb])))
    refine cN rfl rfl rfl rfl (by exact Sign_raw j2) ?_; rintro v2 h2 s2 rfl
    repeat (first | (refine wo rfl (fun k hk => ?_); simp (disch := omega) only [go_sem, Nat.reduceBEq, Nat.reduceAdd]; refine hk _ _ ?_; clear hk k) | refine wkt rfl ?_ | refine wk0 ?_ | refine rg rfl rfl (fun K hK => ?_) | ((first | refine AWP_exit ?_ | refine AWP_skip ?_); simp (disch := decide) only [qs, qb, if_true, if_false, reduceIte]) | refine AWP_sq rfl (fun K hK => ?_) | refine ct rfl ?_ | ((try simp (disch := omega) only [go_sem, Nat.reduceBEq, Nat.reduceAdd]); (first | apply hK | (clear hK; apply hK) | (clear hK; clear hK; apply hK)); clear hK; (try clear K); (try dsimp only [behind, qs, qb])))
    refine AWP_ret ?_; simp (disch := omega) only [go_sem, Nat.reduceBEq, Nat.reduceAdd]
    exact ⟨_, _, rfl⟩
  · refine Spec.enter (args := [_]) (n := 20) Tryz.func22 rfl (by kernel_rfl) rfl (by simp) [.tmp 2, .tmp 3] rfl (fun C _ => ?_)
    repeat (first | (refine wo rfl (fun k hk => ?_); simp (disch := omega) only [go_sem, Nat.reduceBEq, Nat.reduceAdd]; refine hk _ _ ?_; clear hk k) | refine wkt rfl ?_ | refine wk0 ?_ | refine rg rfl rfl (fun K hK => ?_) | ((first | refine AWP_exit ?_ | refine AWP_skip ?_); simp (disch := decide) only [qs, qb, if_true, if_false, reduceIte]) | refine AWP_sq rfl (fun K hK => ?_) | refine ct rfl ?_ | ((try simp (disch := omega) only [go_sem, Nat.reduceBEq, Nat.reduceAdd]); (first | apply hK | (clear hK; apply hK) | (clear hK; clear hK; apply hK)); clear hK; (try clear K); (try dsimp only [behind, qs, qb])))
    refine cN rfl rfl rfl rfl (by exact Sign_raw j1) ?_; rintro v1 h1 s1 rfl
    repeat (first | (refine wo rfl (fun k hk => ?_); simp (disch := omega) only [go_sem, Nat.reduceBEq, Nat.reduceAdd]; refine hk _ _ ?_; clear hk k) | refine wkt rfl ?_ | refine wk0 ?_ | refine rg rfl rfl (fun K hK => ?_) | ((first | refine AWP_exit ?_ | refine AWP_skip ?_); simp (disch := decide) only [qs, qb, if_true, if_false, reduceIte]) | refine AWP_sq rfl (fun K hK => ?_) | refine ct rfl ?_ | ((try simp (disch := omega) only [go_sem, Nat.reduceBEq, Nat.reduceAdd]); (first | apply hK | (clear hK; apply hK) | (clear hK; clear hK; apply hK)); clear hK; (try clear K); (try dsimp only [behind, qs, qb])))
    refine AWP_ret ?_; simp (disch := omega) only [go_sem, Nat.reduceBEq, Nat.reduceAdd]
    exact ⟨_, _, rfl⟩
  · refine Spec.enter (args := [_]) (n := 20) Tryz.func22 rfl (by kernel_rfl) rfl (by simp) [.tmp 2, .tmp 3] rfl (fun C _ => ?_)
    repeat (first | (refine wo rfl (fun k hk => ?_); simp (disch := omega) only [go_sem, Nat.reduceBEq, Nat.reduceAdd]; refine hk _ _ ?_; clear hk k) | refine wkt rfl ?_ | refine wk0 ?_ | refine rg rfl rfl (fun K hK => ?_) | ((first | refine AWP_exit ?_ | refine AWP_skip ?_); simp (disch := decide) only [qs, qb, if_true, if_false, reduceIte]) | refine AWP_sq rfl (fun K hK => ?_) | refine ct rfl ?_ | ((try simp (disch := omega) only [go_sem, Nat.reduceBEq, Nat.reduceAdd]); (first | apply hK | (clear hK; apply hK) | (clear hK; clear hK; apply hK)); clear hK; (try clear K); (try dsimp only [behind, qs, qb])))
    refine cN rfl rfl rfl rfl (by exact Sign_raw j2) ?_; rintro v2 h2 s2 rfl
    repeat (first | (refine wo rfl (fun k hk => ?_); simp (disch := omega) only [go_sem, Nat.reduceBEq, Nat.reduceAdd]; refine hk _ _ ?_; clear hk k) | refine wkt rfl ?_ | refine wk0 ?_ | refine rg rfl rfl (fun K hK => ?_) | ((first | refine AWP_exit ?_ | refine AWP_skip ?_); simp (disch := decide) only [qs, qb, if_true, if_false, reduceIte]) | refine AWP_sq rfl (fun K hK => ?_) | refine ct rfl ?_ | ((try simp (disch := omega) only [go_sem, Nat.reduceBEq, Nat.reduceAdd]); (first | apply hK | (clear hK; apply hK) | (clear hK; clear hK; apply hK)); clear hK; (try clear K); (try dsimp only [behind, qs, qb])))
    refine AWP_ret ?_; simp (disch := omega) only [go_sem, Nat.reduceBEq, Nat.reduceAdd]
    exact ⟨_, _, rfl⟩
  · refine Spec.enter (args := [_]) (n := 20) Tryz.func22 rfl (by kernel_rfl) rfl (by simp) [.tmp 2, .tmp 3] rfl (fun C _ => ?_)
    repeat (first | (refine wo rfl (fun k hk => ?_); simp (disch := omega) only [go_sem, Nat.reduceBEq, Nat.reduceAdd]; refine hk _ _ ?_; clear hk k) | refine wkt rfl ?_ | refine wk0 ?_ | refine rg rfl rfl (fun K hK => ?_) | ((first | refine AWP_exit ?_ | refine AWP_skip ?_); simp (disch := decide) only [qs, qb, if_true, if_false, reduceIte]) | refine AWP_sq rfl (fun K hK => ?_) | refine ct rfl ?_ | ((try simp (disch := omega) only [go_sem, Nat.reduceBEq, Nat.reduceAdd]); (first | apply hK | (clear hK; apply hK) | (clear hK; clear hK; apply hK)); clear hK; (try clear K); (try dsimp only [behind, qs, qb])))
    refine AWP_ret ?_; simp (disch := omega) only [go_sem, Nat.reduceBEq, Nat.reduceAdd]
    exact ⟨_, _, rfl⟩
theorem one_set {h0 h : PH} [Le h0 h] {v : Value} {q : Rat} (hv : Fr h0 v q) : Spec mach 92 #[v] h (fun v h' => Sn h' v (.i (some q) (some q))) NP := by
  obtain ⟨_, _, _, _, _, _, _, rfl, hv⟩ := hv.sa
  refine Spec.enter (args := [_]) (n := 6) Tryz.func92 rfl (by kernel_rfl) rfl (by simp) [.cell 2 43] rfl (fun C _ => ?_)
  repeat (first | (refine wo rfl (fun k hk => ?_); simp (disch := omega) only [go_sem, Nat.reduceBEq, Nat.reduceAdd]; refine hk _ _ ?_; clear hk k) | refine wkt rfl ?_ | refine wk0 ?_ | refine rg rfl rfl (fun K hK => ?_) | ((first | refine AWP_exit ?_ | refine AWP_skip ?_); simp (disch := decide) only [qs, qb, if_true, if_false, reduceIte]) | refine AWP_sq rfl (fun K hK => ?_) | refine ct rfl ?_ | ((try simp (disch := omega) only [go_sem, Nat.reduceBEq, Nat.reduceAdd]); (first | apply hK | (clear hK; apply hK) | (clear hK; clear hK; apply hK)); clear hK; (try clear K); (try dsimp only [behind, qs, qb])))
  refine AWP_ret ?_; simp (disch := omega) only [go_sem, Nat.reduceBEq, Nat.reduceAdd]
  exact ⟨_, _, _, _, _, _, rfl, (En.of hv).to, (En.of hv).to⟩
theorem least_spec {h0 h : PH} [Le h0 h] {v w : Value} {x y : Rat} (hx : Fr h0 v x) (hy : Fr h0 w y) (bx : sz x ≤ 2 ^ 36) (by_ : sz y ≤ 2 ^ 36) :
    Spec mach 144 #[v, w] h (fun v h' => Fr h' v (min x y)) NP := by
  obtain ⟨_, _, _, _, _, _, _, rfl, hx⟩ := hx.sa
  obtain ⟨_, _, _, _, _, _, _, rfl, hy⟩ := hy.sa
  refine Spec.enter (args := [_, _]) (n := 11) Tryz.func144 rfl (by kernel_rfl) rfl (by simp) [.cell 4 41] rfl (fun C _ => ?_)
  repeat (first | (refine wo rfl (fun k hk => ?_); simp (disch := omega) only [go_sem, Nat.reduceBEq, Nat.reduceAdd]; refine hk _ _ ?_; clear hk k) | refine wkt rfl ?_ | refine wk0 ?_ | refine rg rfl rfl (fun K hK => ?_) | ((first | refine AWP_exit ?_ | refine AWP_skip ?_); simp (disch := decide) only [qs, qb, if_true, if_false, reduceIte]) | refine AWP_sq rfl (fun K hK => ?_) | refine ct rfl ?_ | ((try simp (disch := omega) only [go_sem, Nat.reduceBEq, Nat.reduceAdd]); (first | apply hK | (clear hK; apply hK) | (clear hK; clear hK; apply hK)); clear hK; (try clear K); (try dsimp only [behind, qs, qb])))
  refine cN rfl rfl rfl rfl (by exact Cmp_frac hy hx by_ bx) ?_; rintro v1 h1 s1 rfl; (repeat (first | (refine wo rfl (fun k hk => ?_); simp (disch := omega) only [go_sem, Nat.reduceBEq, Nat.reduceAdd]; refine hk _ _ ?_; clear hk k) | refine wkt rfl ?_)); (try refine wk0 ?_)
  by_cases hc : y < x
  · have e1 : cmpQ y x < 0 := by simp [cmpQ, hc]
    repeat (first | (refine wo rfl (fun k hk => ?_); simp (disch := omega) only [go_sem, Nat.reduceBEq, Nat.reduceAdd]; refine hk _ _ ?_; clear hk k) | refine wkt rfl ?_ | refine wk0 ?_ | refine rg rfl rfl (fun K hK => ?_) | ((first | refine AWP_exit ?_ | refine AWP_skip ?_); simp (disch := decide) only [qs, qb, if_true, if_false, reduceIte]) | refine AWP_sq rfl (fun K hK => ?_) | refine ct rfl ?_ | ((try simp (disch := omega) only [go_sem, Nat.reduceBEq, Nat.reduceAdd]); (first | apply hK | (clear hK; apply hK) | (clear hK; clear hK; apply hK)); clear hK; (try clear K); (try dsimp only [behind, qs, qb])))
    refine AWP_ret ?_; simp (disch := omega) only [go_sem, Nat.reduceBEq, Nat.reduceAdd]
    have : min x y = y := by grind
    rw [this]; exact hy.to
  · have e1 : ¬ cmpQ y x < 0 := by unfold cmpQ; rw [if_neg hc]; split <;> decide
    repeat (first | (refine wo rfl (fun k hk => ?_); simp (disch := omega) only [go_sem, Nat.reduceBEq, Nat.reduceAdd]; refine hk _ _ ?_; clear hk k) | refine wkt rfl ?_ | refine wk0 ?_ | refine rg rfl rfl (fun K hK => ?_) | ((first | refine AWP_exit ?_ | refine AWP_skip ?_); simp (disch := decide) only [qs, qb, if_true, if_false, reduceIte]) | refine AWP_sq rfl (fun K hK => ?_) | refine ct rfl ?_ | ((try simp (disch := omega) only [go_sem, Nat.reduceBEq, Nat.reduceAdd]); (first | apply hK | (clear hK; apply hK) | (clear hK; clear hK; apply hK)); clear hK; (try clear K); (try dsimp only [behind, qs, qb])))
    refine AWP_ret ?_; simp (disch := omega) only [go_sem, Nat.reduceBEq, Nat.reduceAdd]
    have : min x y = x := by grind
    rw [this]; exact hx.to
theorem greatest_spec {h0 h : PH} [Le h0 h] {v w : Value} {x y : Rat} (hx : Fr h0 v x) (hy : Fr h0 w y) (bx : sz x ≤ 2 ^ 36) (by_ : sz y ≤ 2 ^ 36) :
    Spec mach 59 #[v, w] h (fun v h' => Fr h' v (max x y)) NP := by
  obtain ⟨_, _, _, _, _, _, _, rfl, hx⟩ := hx.sa
  obtain ⟨_, _, _, _, _, _, _, rfl, hy⟩ := hy.sa
  refine Spec.enter (args := [_, _]) (n := 11) Tryz.func59 rfl (by kernel_rfl) rfl (by simp) [.cell 4 41] rfl (fun C _ => ?_)
  repeat (first | (refine wo rfl (fun k hk => ?_); simp (disch := omega) only [go_sem, Nat.reduceBEq, Nat.reduceAdd]; refine hk _ _ ?_; clear hk k) | refine wkt rfl ?_ | refine wk0 ?_ | refine rg rfl rfl (fun K hK => ?_) | ((first | refine AWP_exit ?_ | refine AWP_skip ?_); simp (disch := decide) only [qs, qb, if_true, if_false, reduceIte]) | refine AWP_sq rfl (fun K hK => ?_) | refine ct rfl ?_ | ((try simp (disch := omega) only [go_sem, Nat.reduceBEq, Nat.reduceAdd]); (first | apply hK | (clear hK; apply hK) | (clear hK; clear hK; apply hK)); clear hK; (try clear K); (try dsimp only [behind, qs, qb])))
  refine cN rfl rfl rfl rfl (by exact Cmp_frac hy hx by_ bx) ?_; rintro v1 h1 s1 rfl; (repeat (first | (refine wo rfl (fun k hk => ?_); simp (disch := omega) only [go_sem, Nat.reduceBEq, Nat.reduceAdd]; refine hk _ _ ?_; clear hk k) | refine wkt rfl ?_)); (try refine wk0 ?_)
  by_cases hc : x < y
  · have e1 : 0 < cmpQ y x := by unfold cmpQ; grind
    repeat (first | (refine wo rfl (fun k hk => ?_); simp (disch := omega) only [go_sem, Nat.reduceBEq, Nat.reduceAdd]; refine hk _ _ ?_; clear hk k) | refine wkt rfl ?_ | refine wk0 ?_ | refine rg rfl rfl (fun K hK => ?_) | ((first | refine AWP_exit ?_ | refine AWP_skip ?_); simp (disch := decide) only [qs, qb, if_true, if_false, reduceIte]) | refine AWP_sq rfl (fun K hK => ?_) | refine ct rfl ?_ | ((try simp (disch := omega) only [go_sem, Nat.reduceBEq, Nat.reduceAdd]); (first | apply hK | (clear hK; apply hK) | (clear hK; clear hK; apply hK)); clear hK; (try clear K); (try dsimp only [behind, qs, qb])))
    refine AWP_ret ?_; simp (disch := omega) only [go_sem, Nat.reduceBEq, Nat.reduceAdd]
    have : max x y = y := by grind
    rw [this]; exact hy.to
  · have e1 : ¬ 0 < cmpQ y x := by unfold cmpQ; grind
    repeat (first | (refine wo rfl (fun k hk => ?_); simp (disch := omega) only [go_sem, Nat.reduceBEq, Nat.reduceAdd]; refine hk _ _ ?_; clear hk k) | refine wkt rfl ?_ | refine wk0 ?_ | refine rg rfl rfl (fun K hK => ?_) | ((first | refine AWP_exit ?_ | refine AWP_skip ?_); simp (disch := decide) only [qs, qb, if_true, if_false, reduceIte]) | refine AWP_sq rfl (fun K hK => ?_) | refine ct rfl ?_ | ((try simp (disch := omega) only [go_sem, Nat.reduceBEq, Nat.reduceAdd]); (first | apply hK | (clear hK; apply hK) | (clear hK; clear hK; apply hK)); clear hK; (try clear K); (try dsimp only [behind, qs, qb])))
    refine AWP_ret ?_; simp (disch := omega) only [go_sem, Nat.reduceBEq, Nat.reduceAdd]
    have : max x y = x := by grind
    rw [this]; exact hx.to
theorem zero_set {h0 h : PH} [Le h0 h] {v : Value} {x : NS} (hv : Sn h0 v x) : Spec mach 42 #[v] h (fun r _ => r = .bool x.zero) NP := by
  obtain ⟨b1, a1, m1, c1, a2, m2, c2, b2, a3, m3, c3, a4, m4, c4, l, u, rfl, hv⟩ := hv.sa
  refine Spec.enter (args := [_]) (n := 21) Tryz.func42 rfl (by kernel_rfl) rfl (by simp) [.tmp 2] rfl (fun C _ => ?_)
  cases x with
  | e =>
    dsimp only [NS.void] at hv ⊢
    repeat (first | (refine wo rfl (fun k hk => ?_); simp (disch := omega) only [go_sem, Nat.reduceBEq, Nat.reduceAdd]; refine hk _ _ ?_; clear hk k) | refine wkt rfl ?_ | refine wk0 ?_ | refine rg rfl rfl (fun K hK => ?_) | ((first | refine AWP_exit ?_ | refine AWP_skip ?_); simp (disch := decide) only [qs, qb, if_true, if_false, reduceIte]) | refine AWP_sq rfl (fun K hK => ?_) | refine ct rfl ?_ | ((try simp (disch := omega) only [go_sem, Nat.reduceBEq, Nat.reduceAdd]); (first | apply hK | (clear hK; apply hK) | (clear hK; clear hK; apply hK)); clear hK; (try clear K); (try dsimp only [behind, qs, qb])))
    refine cN rfl rfl rfl rfl (by exact signs_void hv) ?_; rintro v1 h1 s1 ⟨m, n, rfl⟩
    repeat (first | (refine wo rfl (fun k hk => ?_); simp (disch := omega) only [go_sem, Nat.reduceBEq, Nat.reduceAdd]; refine hk _ _ ?_; clear hk k) | refine wkt rfl ?_ | refine wk0 ?_ | refine rg rfl rfl (fun K hK => ?_) | ((first | refine AWP_exit ?_ | refine AWP_skip ?_); simp (disch := decide) only [qs, qb, if_true, if_false, reduceIte]) | refine AWP_sq rfl (fun K hK => ?_) | refine ct rfl ?_ | ((try simp (disch := omega) only [go_sem, Nat.reduceBEq, Nat.reduceAdd]); (first | apply hK | (clear hK; apply hK) | (clear hK; clear hK; apply hK)); clear hK; (try clear K); (try dsimp only [behind, qs, qb])))
    refine AWP_ret ?_; simp (disch := omega) only [go_sem, Nat.reduceBEq, Nat.reduceAdd]
    rfl
  | i a b =>
    dsimp only [NS.void] at hv ⊢
    repeat (first | (refine wo rfl (fun k hk => ?_); simp (disch := omega) only [go_sem, Nat.reduceBEq, Nat.reduceAdd]; refine hk _ _ ?_; clear hk k) | refine wkt rfl ?_ | refine wk0 ?_ | refine rg rfl rfl (fun K hK => ?_) | ((first | refine AWP_exit ?_ | refine AWP_skip ?_); simp (disch := decide) only [qs, qb, if_true, if_false, reduceIte]) | refine AWP_sq rfl (fun K hK => ?_) | refine ct rfl ?_ | ((try simp (disch := omega) only [go_sem, Nat.reduceBEq, Nat.reduceAdd]); (first | apply hK | (clear hK; apply hK) | (clear hK; clear hK; apply hK)); clear hK; (try clear K); (try dsimp only [behind, qs, qb])))
    refine cN rfl rfl rfl rfl (by exact signs_set hv) ?_; rintro v1 h1 s1 rfl; (repeat (first | (refine wo rfl (fun k hk => ?_); simp (disch := omega) only [go_sem, Nat.reduceBEq, Nat.reduceAdd]; refine hk _ _ ?_; clear hk k) | refine wkt rfl ?_)); (try refine wk0 ?_)
    (try (simp (disch := omega) only [go_sem, Nat.reduceBEq, Nat.reduceAdd])); refine hK _ _ ?_; clear hK; (try clear K); (try dsimp only [behind, qs])
    by_cases g1 : (NS.i a b).slo ≤ 0
    · by_cases g2 : 0 ≤ (NS.i a b).shi
      · have : (NS.i a b).zero = true := by simp [NS.zero, NS.void, g1, g2]
        rw [this]
        repeat (first | (refine wo rfl (fun k hk => ?_); simp (disch := omega) only [go_sem, Nat.reduceBEq, Nat.reduceAdd]; refine hk _ _ ?_; clear hk k) | refine wkt rfl ?_ | refine wk0 ?_ | refine rg rfl rfl (fun K hK => ?_) | ((first | refine AWP_exit ?_ | refine AWP_skip ?_); simp (disch := decide) only [qs, qb, if_true, if_false, reduceIte]) | refine AWP_sq rfl (fun K hK => ?_) | refine ct rfl ?_ | ((try simp (disch := omega) only [go_sem, Nat.reduceBEq, Nat.reduceAdd]); (first | apply hK | (clear hK; apply hK) | (clear hK; clear hK; apply hK)); clear hK; (try clear K); (try dsimp only [behind, qs, qb])))
        refine AWP_ret ?_; simp (disch := omega) only [go_sem, Nat.reduceBEq, Nat.reduceAdd]
      · have : (NS.i a b).zero = false := by simp [NS.zero, g2]
        rw [this]
        repeat (first | (refine wo rfl (fun k hk => ?_); simp (disch := omega) only [go_sem, Nat.reduceBEq, Nat.reduceAdd]; refine hk _ _ ?_; clear hk k) | refine wkt rfl ?_ | refine wk0 ?_ | refine rg rfl rfl (fun K hK => ?_) | ((first | refine AWP_exit ?_ | refine AWP_skip ?_); simp (disch := decide) only [qs, qb, if_true, if_false, reduceIte]) | refine AWP_sq rfl (fun K hK => ?_) | refine ct rfl ?_ | ((try simp (disch := omega) only [go_sem, Nat.reduceBEq, Nat.reduceAdd]); (first | apply hK | (clear hK; apply hK) | (clear hK; clear hK; apply hK)); clear hK; (try clear K); (try dsimp only [behind, qs, qb])))
        refine AWP_ret ?_; simp (disch := omega) only [go_sem, Nat.reduceBEq, Nat.reduceAdd]
    · have : (NS.i a b).zero = false := by simp [NS.zero, g1]
      rw [this]
      repeat (first | (refine wo rfl (fun k hk => ?_); simp (disch := omega) only [go_sem, Nat.reduceBEq, Nat.reduceAdd]; refine hk _ _ ?_; clear hk k) | refine wkt rfl ?_ | refine wk0 ?_ | refine rg rfl rfl (fun K hK => ?_) | ((first | refine AWP_exit ?_ | refine AWP_skip ?_); simp (disch := decide) only [qs, qb, if_true, if_false, reduceIte]) | refine AWP_sq rfl (fun K hK => ?_) | refine ct rfl ?_ | ((try simp (disch := omega) only [go_sem, Nat.reduceBEq, Nat.reduceAdd]); (first | apply hK | (clear hK; apply hK) | (clear hK; clear hK; apply hK)); clear hK; (try clear K); (try dsimp only [behind, qs, qb])))
      refine AWP_ret ?_; simp (disch := omega) only [go_sem, Nat.reduceBEq, Nat.reduceAdd]
end Go.Q
