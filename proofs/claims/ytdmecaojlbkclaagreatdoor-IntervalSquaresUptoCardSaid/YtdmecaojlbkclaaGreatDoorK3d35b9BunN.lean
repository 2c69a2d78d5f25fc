/-
  Contracts of package interval: operations that are ended, and reading. Conditions: the values are intervals (Rw at both ends).
  Contracts of package interval: sets, and reading them. Conditions: the values are intervals (Rw at both ends).
  Contracts of package interval: hulls, opposites, signs. Conditions: the values are sets (Sr), their ends of at most 2^30 binary digits.
  Contracts of package interval: giving sets back. Conditions: the values are sets (Sr).
-/
import Derived.Test.YtdmecaojlbkclaaGreatDoorRaBunH
import Derived.Test.YtdmecaojlbkclaaGreatDoorRaBunC
set_option linter.unusedVariables false
set_option linter.unusedSimpArgs false
namespace Go.Q
open Go.Proofs
set_option maxRecDepth 100000
set_option maxHeartbeats 4000000
def fail (e : Int) : List PanicEntry → PH → Prop := fun ch _ => ch = [{ v := .iface 91 (.agg #[.int .i64 e]), recovered := false }]
def NR : Value → PH → Prop := fun _ _ => False
theorem must_ok {h : PH} : Spec mach 23 #[.int .i64 0] h (fun _ _ => True) NP := by
  refine Spec.enter (args := [_]) (n := 7) Tryz.func23 rfl (by kernel_rfl) rfl (by simp) [] rfl (fun C _ => ?_)
  repeat (first | (refine rg rfl rfl (fun K hK => ?_); (repeat (first | (refine wo rfl (fun k hk => ?_); simp (disch := omega) only [go_sem, Nat.reduceBEq, Nat.reduceAdd]; refine hk _ _ ?_; clear hk k) | refine wkt rfl ?_)); (try refine wk0 ?_); refine hK _ _ ?_; clear hK K; (try dsimp only [behind, qs, qb])) | ((first | refine AWP_exit ?_ | refine AWP_skip ?_); simp (disch := decide) only [qs, qb, if_true, if_false, reduceIte]) | refine AWP_sq rfl (fun K hK => ?_) | refine ct rfl ?_ | ((first | refine hK _ _ ?_ | (clear hK; refine hK _ _ ?_) | (clear hK; clear hK; refine hK _ _ ?_)); clear hK; (try clear K)))
  refine AWP_skip ?_
  simp (disch := omega) only [go_sem, Nat.reduceBEq, Nat.reduceAdd]
theorem must_fail {h : PH} {e : Int} (he : e ≠ 0) : Spec mach 23 #[.int .i64 e] h NR (fail e) := by
  refine Spec.enter (args := [_]) (n := 7) Tryz.func23 rfl (by kernel_rfl) rfl (by simp) [] rfl (fun C _ => ?_)
  repeat (first | (refine wo rfl (fun k hk => ?_); simp (disch := omega) only [go_sem, Nat.reduceBEq, Nat.reduceAdd]; refine hk _ _ ?_; clear hk k) | refine wkt rfl ?_ | refine wk0 ?_ | refine rg rfl rfl (fun K hK => ?_) | ((first | refine AWP_exit ?_ | refine AWP_skip ?_); simp (disch := decide) only [qs, qb, if_true, if_false, reduceIte]) | refine AWP_sq rfl (fun K hK => ?_) | refine ct rfl ?_ | ((try simp (disch := omega) only [go_sem, Nat.reduceBEq, Nat.reduceAdd]); (first | apply hK | (clear hK; apply hK) | (clear hK; clear hK; apply hK)); clear hK; (try clear K); (try dsimp only [behind, qs, qb])))
  refine wo rfl (fun k hk => ?_); simp (disch := omega) only [go_sem, Nat.reduceBEq, Nat.reduceAdd]
  refine ⟨by kernel_rfl, ?_⟩
  refine hk _ _ ?_; clear hk k
  refine wo rfl (fun k hk => ?_); simp (disch := omega) only [go_sem, Nat.reduceBEq, Nat.reduceAdd]
  exact rfl
theorem precise_ok {h : PH} {n a b : Int} (h1 : a ≤ n) (h2 : n ≤ b) : Spec mach 21 #[.int .i64 n, .int .i64 a, .int .i64 b] h (fun _ _ => True) NP := by
  refine Spec.enter (args := [_, _, _]) (n := 15) Tryz.func21 rfl (by kernel_rfl) rfl (by simp) [] rfl (fun C _ => ?_)
  repeat (first | (refine rg rfl rfl (fun K hK => ?_); (repeat (first | (refine wo rfl (fun k hk => ?_); simp (disch := omega) only [go_sem, Nat.reduceBEq, Nat.reduceAdd]; refine hk _ _ ?_; clear hk k) | refine wkt rfl ?_)); (try refine wk0 ?_); refine hK _ _ ?_; clear hK K; (try dsimp only [behind, qs, qb])) | ((first | refine AWP_exit ?_ | refine AWP_skip ?_); simp (disch := decide) only [qs, qb, if_true, if_false, reduceIte]) | refine AWP_sq rfl (fun K hK => ?_) | refine ct rfl ?_ | ((first | refine hK _ _ ?_ | (clear hK; refine hK _ _ ?_) | (clear hK; clear hK; refine hK _ _ ?_)); clear hK; (try clear K)))
  refine AWP_skip ?_
  simp (disch := omega) only [go_sem, Nat.reduceBEq, Nat.reduceAdd]
theorem precise_fail {h : PH} {n a b : Int} (h1 : n < a ∨ b < n) : Spec mach 21 #[.int .i64 n, .int .i64 a, .int .i64 b] h NR (fail 2) := by
  refine Spec.enter (args := [_, _, _]) (n := 15) Tryz.func21 rfl (by kernel_rfl) rfl (by simp) [] rfl (fun C _ => ?_)
  by_cases h2 : n < a
  · repeat (first | (refine wo rfl (fun k hk => ?_); simp (disch := omega) only [go_sem, Nat.reduceBEq, Nat.reduceAdd]; refine hk _ _ ?_; clear hk k) | refine wkt rfl ?_ | refine wk0 ?_ | refine rg rfl rfl (fun K hK => ?_) | ((first | refine AWP_exit ?_ | refine AWP_skip ?_); simp (disch := decide) only [qs, qb, if_true, if_false, reduceIte]) | refine AWP_sq rfl (fun K hK => ?_) | refine ct rfl ?_ | ((try simp (disch := omega) only [go_sem, Nat.reduceBEq, Nat.reduceAdd]); (first | apply hK | (clear hK; apply hK) | (clear hK; clear hK; apply hK)); clear hK; (try clear K); (try dsimp only [behind, qs, qb])))
    exact cF rfl rfl rfl rfl (by exact must_fail (by decide)) (fun _ _ h => h)
  · have h3 : b < n := h1.resolve_left h2
    repeat (first | (refine wo rfl (fun k hk => ?_); simp (disch := omega) only [go_sem, Nat.reduceBEq, Nat.reduceAdd]; refine hk _ _ ?_; clear hk k) | refine wkt rfl ?_ | refine wk0 ?_ | refine rg rfl rfl (fun K hK => ?_) | ((first | refine AWP_exit ?_ | refine AWP_skip ?_); simp (disch := decide) only [qs, qb, if_true, if_false, reduceIte]) | refine AWP_sq rfl (fun K hK => ?_) | refine ct rfl ?_ | ((try simp (disch := omega) only [go_sem, Nat.reduceBEq, Nat.reduceAdd]); (first | apply hK | (clear hK; apply hK) | (clear hK; clear hK; apply hK)); clear hK; (try clear K); (try dsimp only [behind, qs, qb])))
    exact cF rfl rfl rfl rfl (by exact must_fail (by decide)) (fun _ _ h => h)
theorem number_ok {h0 h : PH} [Le h0 h] {v : Value} {neg : Bool} {n d : Nat} (hv : Rw h0 v neg n d) (hl : ¬ lg neg n d) : Spec mach 24 #[v] h (fun v h' => Fr h' v (qof neg n d)) NP := by
  obtain ⟨_, _, _, _, _, _, _, rfl, hv⟩ := hv.sa
  refine Spec.enter (args := [_]) (n := 14) Tryz.func24 rfl (by kernel_rfl) rfl (by simp) [.cell 2 41] rfl (fun C _ => ?_)
  repeat (first | (refine wo rfl (fun k hk => ?_); simp (disch := omega) only [go_sem, Nat.reduceBEq, Nat.reduceAdd]; refine hk _ _ ?_; clear hk k) | refine wkt rfl ?_ | refine wk0 ?_ | refine rg rfl rfl (fun K hK => ?_) | ((first | refine AWP_exit ?_ | refine AWP_skip ?_); simp (disch := decide) only [qs, qb, if_true, if_false, reduceIte]) | refine AWP_sq rfl (fun K hK => ?_) | refine ct rfl ?_ | ((try simp (disch := omega) only [go_sem, Nat.reduceBEq, Nat.reduceAdd]); (first | apply hK | (clear hK; apply hK) | (clear hK; clear hK; apply hK)); clear hK; (try clear K); (try dsimp only [behind, qs, qb])))
  refine cN rfl rfl rfl rfl (by exact Read_ok hv hl) ?_; rintro v1 h1 s1 ⟨f, rfl, hf⟩; obtain ⟨_, _, _, _, _, _, _, rfl, hf⟩ := hf.sa
  repeat (first | (refine wo rfl (fun k hk => ?_); simp (disch := omega) only [go_sem, Nat.reduceBEq, Nat.reduceAdd]; refine hk _ _ ?_; clear hk k) | refine wkt rfl ?_ | refine wk0 ?_ | refine rg rfl rfl (fun K hK => ?_) | ((first | refine AWP_exit ?_ | refine AWP_skip ?_); simp (disch := decide) only [qs, qb, if_true, if_false, reduceIte]) | refine AWP_sq rfl (fun K hK => ?_) | refine ct rfl ?_ | ((try simp (disch := omega) only [go_sem, Nat.reduceBEq, Nat.reduceAdd]); (first | apply hK | (clear hK; apply hK) | (clear hK; clear hK; apply hK)); clear hK; (try clear K); (try dsimp only [behind, qs, qb])))
  refine AWP_ret ?_; simp (disch := omega) only [go_sem, Nat.reduceBEq, Nat.reduceAdd]
  exact hf.to
theorem number_fail {h0 h : PH} [Le h0 h] {v : Value} {neg : Bool} {n d : Nat} (hv : Rw h0 v neg n d) (hl : lg neg n d) : Spec mach 24 #[v] h NR (fail 1) := by
  obtain ⟨_, _, _, _, _, _, _, rfl, hv⟩ := hv.sa
  refine Spec.enter (args := [_]) (n := 14) Tryz.func24 rfl (by kernel_rfl) rfl (by simp) [.cell 2 41] rfl (fun C _ => ?_)
  repeat (first | (refine wo rfl (fun k hk => ?_); simp (disch := omega) only [go_sem, Nat.reduceBEq, Nat.reduceAdd]; refine hk _ _ ?_; clear hk k) | refine wkt rfl ?_ | refine wk0 ?_ | refine rg rfl rfl (fun K hK => ?_) | ((first | refine AWP_exit ?_ | refine AWP_skip ?_); simp (disch := decide) only [qs, qb, if_true, if_false, reduceIte]) | refine AWP_sq rfl (fun K hK => ?_) | refine ct rfl ?_ | ((try simp (disch := omega) only [go_sem, Nat.reduceBEq, Nat.reduceAdd]); (first | apply hK | (clear hK; apply hK) | (clear hK; clear hK; apply hK)); clear hK; (try clear K); (try dsimp only [behind, qs, qb])))
  refine cN rfl rfl rfl rfl (by exact Read_no hv hl) ?_; rintro v1 h1 s1 ⟨b, a, l, c, a', l', c', rfl⟩
  repeat (first | (refine wo rfl (fun k hk => ?_); simp (disch := omega) only [go_sem, Nat.reduceBEq, Nat.reduceAdd]; refine hk _ _ ?_; clear hk k) | refine wkt rfl ?_ | refine wk0 ?_ | refine rg rfl rfl (fun K hK => ?_) | ((first | refine AWP_exit ?_ | refine AWP_skip ?_); simp (disch := decide) only [qs, qb, if_true, if_false, reduceIte]) | refine AWP_sq rfl (fun K hK => ?_) | refine ct rfl ?_ | ((try simp (disch := omega) only [go_sem, Nat.reduceBEq, Nat.reduceAdd]); (first | apply hK | (clear hK; apply hK) | (clear hK; clear hK; apply hK)); clear hK; (try clear K); (try dsimp only [behind, qs, qb])))
  exact cF rfl rfl rfl rfl (by exact must_fail (by decide)) (fun _ _ h => h)
theorem have_ok {h0 h : PH} [Le h0 h] {v : Value} {x : Rat} (hv : Cn h0 v x) : Spec mach 25 #[v, .int .i64 0] h (fun w _ => w = v) NP := by
  obtain ⟨_, _, _, _, _, _, _, rfl, hv⟩ := hv.sa
  refine Spec.enter (args := [_, _]) (n := 8) Tryz.func25 rfl (by kernel_rfl) rfl (by simp) [.cell 4 24] rfl (fun C _ => ?_)
  repeat (first | (refine wo rfl (fun k hk => ?_); simp (disch := omega) only [go_sem, Nat.reduceBEq, Nat.reduceAdd]; refine hk _ _ ?_; clear hk k) | refine wkt rfl ?_ | refine wk0 ?_ | refine rg rfl rfl (fun K hK => ?_) | ((first | refine AWP_exit ?_ | refine AWP_skip ?_); simp (disch := decide) only [qs, qb, if_true, if_false, reduceIte]) | refine AWP_sq rfl (fun K hK => ?_) | refine ct rfl ?_ | ((try simp (disch := omega) only [go_sem, Nat.reduceBEq, Nat.reduceAdd]); (first | apply hK | (clear hK; apply hK) | (clear hK; clear hK; apply hK)); clear hK; (try clear K); (try dsimp only [behind, qs, qb])))
  refine cN rfl rfl rfl rfl (by exact must_ok) ?_; rintro v1 h1 s1 _
  repeat (first | (refine wo rfl (fun k hk => ?_); simp (disch := omega) only [go_sem, Nat.reduceBEq, Nat.reduceAdd]; refine hk _ _ ?_; clear hk k) | refine wkt rfl ?_ | refine wk0 ?_ | refine rg rfl rfl (fun K hK => ?_) | ((first | refine AWP_exit ?_ | refine AWP_skip ?_); simp (disch := decide) only [qs, qb, if_true, if_false, reduceIte]) | refine AWP_sq rfl (fun K hK => ?_) | refine ct rfl ?_ | ((try simp (disch := omega) only [go_sem, Nat.reduceBEq, Nat.reduceAdd]); (first | apply hK | (clear hK; apply hK) | (clear hK; clear hK; apply hK)); clear hK; (try clear K); (try dsimp only [behind, qs, qb])))
  refine AWP_ret ?_; simp (disch := omega) only [go_sem, Nat.reduceBEq, Nat.reduceAdd]
  exact rfl
theorem have_fail {h : PH} {e : Int} (he : e ≠ 0) : Spec mach 25 #[zRat, .int .i64 e] h NR (fail e) := by
  unfold zRat
  refine Spec.enter (args := [_, _]) (n := 8) Tryz.func25 rfl (by kernel_rfl) rfl (by simp) [.cell 4 24] rfl (fun C _ => ?_)
  repeat (first | (refine wo rfl (fun k hk => ?_); simp (disch := omega) only [go_sem, Nat.reduceBEq, Nat.reduceAdd]; refine hk _ _ ?_; clear hk k) | refine wkt rfl ?_ | refine wk0 ?_ | refine rg rfl rfl (fun K hK => ?_) | ((first | refine AWP_exit ?_ | refine AWP_skip ?_); simp (disch := decide) only [qs, qb, if_true, if_false, reduceIte]) | refine AWP_sq rfl (fun K hK => ?_) | refine ct rfl ?_ | ((try simp (disch := omega) only [go_sem, Nat.reduceBEq, Nat.reduceAdd]); (first | apply hK | (clear hK; apply hK) | (clear hK; clear hK; apply hK)); clear hK; (try clear K); (try dsimp only [behind, qs, qb])))
  exact cF rfl rfl rfl rfl (by exact must_fail he) (fun _ _ h => h)
end Go.Q
namespace Go.Q
open Go.Proofs
set_option maxRecDepth 100000
set_option maxHeartbeats 4000000
structure PS where
  lo : Rat
  hi : Rat
  l : Bool
  u : Bool
  e : Bool
def Iw (h : PH) (v : Value) (n1 : Bool) (a1 d1 : Nat) (n2 : Bool) (a2 d2 : Nat) (l u : Bool) : Prop :=
  ∃ x1 y1 x2 y2, v = .agg #[.bool n1, x1, y1, .bool n2, x2, y2, .bool l, .bool u] ∧ Rw h (.agg #[.bool n1, x1, y1]) n1 a1 d1 ∧ Rw h (.agg #[.bool n2, x2, y2]) n2 a2 d2
def Sr (h : PH) (v : Value) (s : PS) : Prop := ∃ b1 x1 y1 b2 x2 y2, v = .agg #[.bool b1, x1, y1, .bool b2, x2, y2, .bool s.l, .bool s.u, .bool s.e] ∧ (∃ n d, Jk h b1 x1 y1 n d) ∧ (∃ n d, Jk h b2 x2 y2 n d) ∧
  (s.l = false → s.e = false → Fr h (.agg #[.bool b1, x1, y1]) s.lo) ∧ (s.u = false → s.e = false → Fr h (.agg #[.bool b2, x2, y2]) s.hi)
def Sf (h : PH) (v : Value) (s : PS) : Prop := ∃ b1 x1 y1 b2 x2 y2, v = .agg #[.bool b1, x1, y1, .bool b2, x2, y2, .bool s.l, .bool s.u, .bool s.e] ∧ Fr h (.agg #[.bool b1, x1, y1]) s.lo ∧ Fr h (.agg #[.bool b2, x2, y2]) s.hi
theorem Sf.to {h h' : PH} {v : Value} {s : PS} (r : Sf h v s) [Le h h'] : Sf h' v s := let ⟨a, b, c, d, e, f, h1, h2, h3⟩ := r; ⟨a, b, c, d, e, f, h1, h2.to, h3.to⟩
theorem Sr.to {h h' : PH} {v : Value} {s : PS} (r : Sr h v s) [Le h h'] : Sr h' v s := let ⟨a, b, c, d, e, f, h1, ⟨m, n, h2⟩, ⟨m', n', h3⟩, h4, h5⟩ := r; ⟨a, b, c, d, e, f, h1, ⟨m, n, h2.to⟩, ⟨m', n', h3.to⟩, fun x y => (h4 x y).to, fun x y => (h5 x y).to⟩
theorem Fr.jk' {h : PH} {b : Bool} {x y : Value} {q : Rat} (r : Fr h (.agg #[.bool b, x, y]) q) : Jk h b x y q.num.natAbs q.den := by
  obtain ⟨sn, sd, h1, h2, h3⟩ := r
  simp only [Value.agg.injEq, Array.mk.injEq, List.cons.injEq, and_true] at h1
  obtain ⟨_, rfl, rfl⟩ := h1
  exact ⟨h2, h3⟩
theorem Sf.sr {h : PH} {v : Value} {s : PS} (r : Sf h v s) : Sr h v s := let ⟨a, b, c, d, e, f, h1, h2, h3⟩ := r; ⟨a, b, c, d, e, f, h1, ⟨_, _, h2.jk'⟩, ⟨_, _, h3.jk'⟩, fun _ _ => h2, fun _ _ => h3⟩
def rdS (q1 q2 : Rat) (l u : Bool) : PS := ⟨q1, q2, l, u, !l && !u && decide (q2 < q1)⟩
theorem read_ok {h0 h : PH} [Le h0 h] {v : Value} {n1 n2 : Bool} {a1 d1 a2 d2 : Nat} {l u : Bool} (hv : Iw h0 v n1 a1 d1 n2 a2 d2 l u) (g1 : ¬ lg n1 a1 d1) (g2 : ¬ lg n2 a2 d2) :
    Spec mach 64 #[v] h (fun v h' => Sf h' v (rdS (qof n1 a1 d1) (qof n2 a2 d2) l u)) NP := by
  obtain ⟨x1, y1, x2, y2, rfl, hx, hy⟩ := hv
  have hx0 := hx
  have hy0 := hy
  obtain ⟨_, _, _, _, _, _, e1, _⟩ := hx
  obtain ⟨_, _, _, _, _, _, e2, _⟩ := hy
  simp only [Value.agg.injEq, Array.mk.injEq, List.cons.injEq, and_true, true_and] at e1 e2
  obtain ⟨rfl, rfl⟩ := e1
  obtain ⟨rfl, rfl⟩ := e2
  refine Spec.enter (args := [_]) (n := 33) Tryz.func64 rfl (by kernel_rfl) rfl (by simp) [.cell 2 43] rfl (fun C _ => ?_)
  repeat (first | (refine rg rfl rfl (fun K hK => ?_); (repeat (first | (refine wo rfl (fun k hk => ?_); simp (disch := omega) only [go_sem, Nat.reduceBEq, Nat.reduceAdd]; refine hk _ _ ?_; clear hk k) | refine wkt rfl ?_)); (try refine wk0 ?_); refine hK _ _ ?_; clear hK K; (try dsimp only [behind, qs, qb])) | ((first | refine AWP_exit ?_ | refine AWP_skip ?_); simp (disch := decide) only [qs, qb, if_true, if_false, reduceIte]) | refine AWP_sq rfl (fun K hK => ?_) | refine ct rfl ?_ | ((first | refine hK _ _ ?_ | (clear hK; refine hK _ _ ?_) | (clear hK; clear hK; refine hK _ _ ?_)); clear hK; (try clear K)))
  have z1 : sz (qof n1 a1 d1) ≤ 2048 := by unfold lg at g1; omega
  have z2 : sz (qof n2 a2 d2) ≤ 2048 := by unfold lg at g2; omega
  obtain ⟨q1, hq1⟩ : ∃ q, qof n1 a1 d1 = q := ⟨_, rfl⟩
  obtain ⟨q2, hq2⟩ : ∃ q, qof n2 a2 d2 = q := ⟨_, rfl⟩
  rw [hq1] at z1 ⊢
  rw [hq2] at z2 ⊢
  (first | refine AWP_t (.seg [.o 0, .o 1, .o 3, .o 4, .o 6, .o 7, .o 8, .o 9] (.alt 2 (.alt 5 (.seg [.o 10] (.alt 11 (.alt 12 .done .no) .no)) (.alt 11 (.alt 5 (.seg [.o 10] (.alt 12 .done .no)) .no) .no)) (.alt 11 (.alt 2 (.alt 5 (.seg [.o 10] (.alt 12 .done .no)) .no) .no) .no))) (by decide +kernel) rfl (fun K hK => ?_) | refine AWP_tk (.seg [.o 0, .o 1, .o 3, .o 4, .o 6, .o 7, .o 8, .o 9] (.alt 2 (.alt 5 (.seg [.o 10] (.alt 11 (.alt 12 .done .no) .no)) (.alt 11 (.alt 5 (.seg [.o 10] (.alt 12 .done .no)) .no) .no)) (.alt 11 (.alt 2 (.alt 5 (.seg [.o 10] (.alt 12 .done .no)) .no) .no) .no))) (by decide +kernel) rfl (fun K hK => ?_))
  have rest : ∀ (b1 : Bool) (xa : Option Addr) (xl xc : Nat) (ya : Option Addr) (yl yc : Nat) (b2 : Bool) (xa' : Option Addr) (xl' xc' : Nat) (ya' : Option Addr) (yl' yc' : Nat) (h' : PH) (S : AS), Fr h' (.agg #[.bool b1, .slice xa xl xc, .slice ya yl yc]) q1 → Fr h' (.agg #[.bool b2, .slice xa' xl' xc', .slice ya' yl' yc']) q2 →
      S.le ⟨[(2, .p 1 0), (3, .p 2 0)], [[], [.bool false, .slice none 0 0, .slice none 0 0, .bool false, .slice none 0 0, .slice none 0 0, .bool false, .bool false, .bool false], [.bool b1, .slice xa xl xc, .slice ya yl yc, .bool b2, .slice xa' xl' xc', .slice ya' yl' yc', .bool l, .bool u, .bool false]]⟩ → K S h' := by
    intro b1 xa xl xc ya yl yc b2 xa' xl' xc' ya' yl' yc' h' S hf1 hf2 hS
    refine hK _ _ (AWP_le _ hS ?_); clear hK K
    cases l with
    | true =>
      (repeat (first | (refine rg rfl rfl (fun K hK => ?_); (repeat (first | (refine wo rfl (fun k hk => ?_); simp (disch := omega) only [go_sem, Nat.reduceBEq, Nat.reduceAdd]; refine hk _ _ ?_; clear hk k) | refine wkt rfl ?_)); (try refine wk0 ?_); refine hK _ _ ?_; clear hK K; (try dsimp only [behind, qs, qb])) | ((first | refine AWP_exit ?_ | refine AWP_skip ?_); simp (disch := decide) only [qs, qb, if_true, if_false, reduceIte]) | refine AWP_sq rfl (fun K hK => ?_) | refine ct rfl ?_ | ((first | refine hK _ _ ?_ | (clear hK; refine hK _ _ ?_) | (clear hK; clear hK; refine hK _ _ ?_)); clear hK; (try clear K))))
      refine AWP_ret ?_; simp (disch := omega) only [go_sem, Nat.reduceBEq, Nat.reduceAdd]
      exact ⟨_, _, _, _, _, _, rfl, hf1.to, hf2.to⟩
    | false =>
      cases u with
      | true =>
        (repeat (first | (refine rg rfl rfl (fun K hK => ?_); (repeat (first | (refine wo rfl (fun k hk => ?_); simp (disch := omega) only [go_sem, Nat.reduceBEq, Nat.reduceAdd]; refine hk _ _ ?_; clear hk k) | refine wkt rfl ?_)); (try refine wk0 ?_); refine hK _ _ ?_; clear hK K; (try dsimp only [behind, qs, qb])) | ((first | refine AWP_exit ?_ | refine AWP_skip ?_); simp (disch := decide) only [qs, qb, if_true, if_false, reduceIte]) | refine AWP_sq rfl (fun K hK => ?_) | refine ct rfl ?_ | ((first | refine hK _ _ ?_ | (clear hK; refine hK _ _ ?_) | (clear hK; clear hK; refine hK _ _ ?_)); clear hK; (try clear K))))
        refine AWP_ret ?_; simp (disch := omega) only [go_sem, Nat.reduceBEq, Nat.reduceAdd]
        exact ⟨_, _, _, _, _, _, rfl, hf1.to, hf2.to⟩
      | false =>
        by_cases hc : q2 < q1
        · have e1 : 0 < cmpQ q1 q2 := by unfold cmpQ; grind
          have e2 : rdS q1 q2 false false = ⟨q1, q2, false, false, true⟩ := by simp [rdS, hc]
          rw [e2]
          (repeat (first | (refine rg rfl rfl (fun K hK => ?_); (repeat (first | (refine wo rfl (fun k hk => ?_); simp (disch := omega) only [go_sem, Nat.reduceBEq, Nat.reduceAdd]; refine hk _ _ ?_; clear hk k) | refine wkt rfl ?_)); (try refine wk0 ?_); refine hK _ _ ?_; clear hK K; (try dsimp only [behind, qs, qb])) | ((first | refine AWP_exit ?_ | refine AWP_skip ?_); simp (disch := decide) only [qs, qb, if_true, if_false, reduceIte]) | refine AWP_sq rfl (fun K hK => ?_) | refine ct rfl ?_ | ((first | refine hK _ _ ?_ | (clear hK; refine hK _ _ ?_) | (clear hK; clear hK; refine hK _ _ ?_)); clear hK; (try clear K)))); (refine rg rfl rfl (fun K hK => ?_); (repeat (first | (refine wo rfl (fun k hk => ?_); simp (disch := omega) only [go_sem, Nat.reduceBEq, Nat.reduceAdd]; refine hk _ _ ?_; clear hk k) | refine wkt rfl ?_ | with_reducible refine wk0 ?_ | with_reducible refine wt_seg ?_ | with_reducible refine wt_alt ?_ wt_no | with_reducible refine wt_done ?_)))
          refine cN rfl rfl rfl rfl (by exact Cmp_frac hf1 hf2 (by omega) (by omega)) ?_; rintro v1 h1 s1 rfl; (repeat (first | (refine wo rfl (fun k hk => ?_); simp (disch := omega) only [go_sem, Nat.reduceBEq, Nat.reduceAdd]; refine hk _ _ ?_; clear hk k) | refine wkt rfl ?_ | with_reducible refine wk0 ?_ | with_reducible refine wt_seg ?_ | with_reducible refine wt_alt ?_ wt_no | with_reducible refine wt_done ?_))
          ((try (simp (disch := omega) only [go_sem, Nat.reduceBEq, Nat.reduceAdd])); refine hK _ _ ?_; clear hK; (try clear K); (try dsimp only [behind, qs])); (repeat (first | (refine rg rfl rfl (fun K hK => ?_); (repeat (first | (refine wo rfl (fun k hk => ?_); simp (disch := omega) only [go_sem, Nat.reduceBEq, Nat.reduceAdd]; refine hk _ _ ?_; clear hk k) | refine wkt rfl ?_)); (try refine wk0 ?_); refine hK _ _ ?_; clear hK K; (try dsimp only [behind, qs, qb])) | ((first | refine AWP_exit ?_ | refine AWP_skip ?_); simp (disch := decide) only [qs, qb, if_true, if_false, reduceIte]) | refine AWP_sq rfl (fun K hK => ?_) | refine ct rfl ?_ | ((first | refine hK _ _ ?_ | (clear hK; refine hK _ _ ?_) | (clear hK; clear hK; refine hK _ _ ?_)); clear hK; (try clear K))))
          refine AWP_ret ?_; simp (disch := omega) only [go_sem, Nat.reduceBEq, Nat.reduceAdd]
          exact ⟨_, _, _, _, _, _, rfl, hf1.to, hf2.to⟩
        · have e1 : ¬ 0 < cmpQ q1 q2 := by unfold cmpQ; grind
          have e2 : rdS q1 q2 false false = ⟨q1, q2, false, false, false⟩ := by simp [rdS, hc]
          rw [e2]
          (repeat (first | (refine rg rfl rfl (fun K hK => ?_); (repeat (first | (refine wo rfl (fun k hk => ?_); simp (disch := omega) only [go_sem, Nat.reduceBEq, Nat.reduceAdd]; refine hk _ _ ?_; clear hk k) | refine wkt rfl ?_)); (try refine wk0 ?_); refine hK _ _ ?_; clear hK K; (try dsimp only [behind, qs, qb])) | ((first | refine AWP_exit ?_ | refine AWP_skip ?_); simp (disch := decide) only [qs, qb, if_true, if_false, reduceIte]) | refine AWP_sq rfl (fun K hK => ?_) | refine ct rfl ?_ | ((first | refine hK _ _ ?_ | (clear hK; refine hK _ _ ?_) | (clear hK; clear hK; refine hK _ _ ?_)); clear hK; (try clear K)))); (refine rg rfl rfl (fun K hK => ?_); (repeat (first | (refine wo rfl (fun k hk => ?_); simp (disch := omega) only [go_sem, Nat.reduceBEq, Nat.reduceAdd]; refine hk _ _ ?_; clear hk k) | refine wkt rfl ?_ | with_reducible refine wk0 ?_ | with_reducible refine wt_seg ?_ | with_reducible refine wt_alt ?_ wt_no | with_reducible refine wt_done ?_)))
          refine cN rfl rfl rfl rfl (by exact Cmp_frac hf1 hf2 (by omega) (by omega)) ?_; rintro v1 h1 s1 rfl; (repeat (first | (refine wo rfl (fun k hk => ?_); simp (disch := omega) only [go_sem, Nat.reduceBEq, Nat.reduceAdd]; refine hk _ _ ?_; clear hk k) | refine wkt rfl ?_ | with_reducible refine wk0 ?_ | with_reducible refine wt_seg ?_ | with_reducible refine wt_alt ?_ wt_no | with_reducible refine wt_done ?_))
          ((try (simp (disch := omega) only [go_sem, Nat.reduceBEq, Nat.reduceAdd])); refine hK _ _ ?_; clear hK; (try clear K); (try dsimp only [behind, qs])); (repeat (first | (refine rg rfl rfl (fun K hK => ?_); (repeat (first | (refine wo rfl (fun k hk => ?_); simp (disch := omega) only [go_sem, Nat.reduceBEq, Nat.reduceAdd]; refine hk _ _ ?_; clear hk k) | refine wkt rfl ?_)); (try refine wk0 ?_); refine hK _ _ ?_; clear hK K; (try dsimp only [behind, qs, qb])) | ((first | refine AWP_exit ?_ | refine AWP_skip ?_); simp (disch := decide) only [qs, qb, if_true, if_false, reduceIte]) | refine AWP_sq rfl (fun K hK => ?_) | refine ct rfl ?_ | ((first | refine hK _ _ ?_ | (clear hK; refine hK _ _ ?_) | (clear hK; clear hK; refine hK _ _ ?_)); clear hK; (try clear K))))
          refine AWP_ret ?_; simp (disch := omega) only [go_sem, Nat.reduceBEq, Nat.reduceAdd]
          exact ⟨_, _, _, _, _, _, rfl, hf1.to, hf2.to⟩
  (repeat (first | (refine wo rfl (fun k hk => ?_); simp (disch := omega) only [go_sem, Nat.reduceBEq, Nat.reduceAdd]; refine hk _ _ ?_; clear hk k) | refine wkt rfl ?_ | with_reducible refine wk0 ?_ | with_reducible refine wt_seg ?_ | with_reducible refine wt_alt ?_ wt_no | with_reducible refine wt_done ?_))
  refine wt_alt ?_ (wt_alt ?_ wt_no)
  · refine cN rfl rfl rfl rfl (by exact number_ok hx0 g1) ?_; rintro v1 h1 _ hv1; obtain ⟨v1_0, v1_1, v1_2, v1_3, v1_4, v1_5, v1_6, rfl, hv1⟩ := hv1.sa; (repeat (first | (refine wo rfl (fun k hk => ?_); simp (disch := omega) only [go_sem, Nat.reduceBEq, Nat.reduceAdd]; refine hk _ _ ?_; clear hk k) | refine wkt rfl ?_ | with_reducible refine wk0 ?_ | with_reducible refine wt_seg ?_ | with_reducible refine wt_alt ?_ wt_no | with_reducible refine wt_done ?_))
    refine wt_alt ?_ (wt_alt ?_ wt_no)
    · refine cN rfl rfl rfl rfl (by exact number_ok hy0 g2) ?_; rintro v2 h2 _ hv2; obtain ⟨v2_0, v2_1, v2_2, v2_3, v2_4, v2_5, v2_6, rfl, hv2⟩ := hv2.sa; (repeat (first | (refine wo rfl (fun k hk => ?_); simp (disch := omega) only [go_sem, Nat.reduceBEq, Nat.reduceAdd]; refine hk _ _ ?_; clear hk k) | refine wkt rfl ?_ | with_reducible refine wk0 ?_ | with_reducible refine wt_seg ?_ | with_reducible refine wt_alt ?_ wt_no | with_reducible refine wt_done ?_))
      rw [hq1] at hv1
      rw [hq2] at hv2
      refine rest _ _ _ _ _ _ _ _ _ _ _ _ _ _ _ _ hv1.to hv2 ?_
      simp (disch := omega) only [go_sem, Nat.reduceBEq, Nat.reduceAdd, true_or]
    · (repeat (first | (refine wo rfl (fun k hk => ?_); simp (disch := omega) only [go_sem, Nat.reduceBEq, Nat.reduceAdd]; refine hk _ _ ?_; clear hk k) | refine wkt rfl ?_ | with_reducible refine wk0 ?_ | with_reducible refine wt_seg ?_ | with_reducible refine wt_alt ?_ wt_no | with_reducible refine wt_done ?_))
      refine cN rfl rfl rfl rfl (by exact number_ok hy0 g2) ?_; rintro v2 h2 _ hv2; obtain ⟨v2_0, v2_1, v2_2, v2_3, v2_4, v2_5, v2_6, rfl, hv2⟩ := hv2.sa; (repeat (first | (refine wo rfl (fun k hk => ?_); simp (disch := omega) only [go_sem, Nat.reduceBEq, Nat.reduceAdd]; refine hk _ _ ?_; clear hk k) | refine wkt rfl ?_ | with_reducible refine wk0 ?_ | with_reducible refine wt_seg ?_ | with_reducible refine wt_alt ?_ wt_no | with_reducible refine wt_done ?_))
      rw [hq1] at hv1
      rw [hq2] at hv2
      refine rest _ _ _ _ _ _ _ _ _ _ _ _ _ _ _ _ hv1.to hv2 ?_
      simp (disch := omega) only [go_sem, Nat.reduceBEq, Nat.reduceAdd, true_or]
  · (repeat (first | (refine wo rfl (fun k hk => ?_); simp (disch := omega) only [go_sem, Nat.reduceBEq, Nat.reduceAdd]; refine hk _ _ ?_; clear hk k) | refine wkt rfl ?_ | with_reducible refine wk0 ?_ | with_reducible refine wt_seg ?_ | with_reducible refine wt_alt ?_ wt_no | with_reducible refine wt_done ?_))
    refine cN rfl rfl rfl rfl (by exact number_ok hx0 g1) ?_; rintro v1 h1 _ hv1; obtain ⟨v1_0, v1_1, v1_2, v1_3, v1_4, v1_5, v1_6, rfl, hv1⟩ := hv1.sa; (repeat (first | (refine wo rfl (fun k hk => ?_); simp (disch := omega) only [go_sem, Nat.reduceBEq, Nat.reduceAdd]; refine hk _ _ ?_; clear hk k) | refine wkt rfl ?_ | with_reducible refine wk0 ?_ | with_reducible refine wt_seg ?_ | with_reducible refine wt_alt ?_ wt_no | with_reducible refine wt_done ?_))
    refine cN rfl rfl rfl rfl (by exact number_ok hy0 g2) ?_; rintro v2 h2 _ hv2; obtain ⟨v2_0, v2_1, v2_2, v2_3, v2_4, v2_5, v2_6, rfl, hv2⟩ := hv2.sa; (repeat (first | (refine wo rfl (fun k hk => ?_); simp (disch := omega) only [go_sem, Nat.reduceBEq, Nat.reduceAdd]; refine hk _ _ ?_; clear hk k) | refine wkt rfl ?_ | with_reducible refine wk0 ?_ | with_reducible refine wt_seg ?_ | with_reducible refine wt_alt ?_ wt_no | with_reducible refine wt_done ?_))
    rw [hq1] at hv1
    rw [hq2] at hv2
    refine rest _ _ _ _ _ _ _ _ _ _ _ _ _ _ _ _ hv1.to hv2 ?_
    simp (disch := omega) only [go_sem, Nat.reduceBEq, Nat.reduceAdd, true_or]
theorem read_fail {h0 h : PH} [Le h0 h] {v : Value} {n1 n2 : Bool} {a1 d1 a2 d2 : Nat} {l u : Bool} (hv : Iw h0 v n1 a1 d1 n2 a2 d2 l u) (g : lg n1 a1 d1 ∨ lg n2 a2 d2) :
    Spec mach 64 #[v] h NR (fail 1) := by
  obtain ⟨x1, y1, x2, y2, rfl, hx, hy⟩ := hv
  have hx0 := hx
  have hy0 := hy
  obtain ⟨_, _, _, _, _, _, e1, _⟩ := hx
  obtain ⟨_, _, _, _, _, _, e2, _⟩ := hy
  simp only [Value.agg.injEq, Array.mk.injEq, List.cons.injEq, and_true, true_and] at e1 e2
  obtain ⟨rfl, rfl⟩ := e1
  obtain ⟨rfl, rfl⟩ := e2
  refine Spec.enter (args := [_]) (n := 33) Tryz.func64 rfl (by kernel_rfl) rfl (by simp) [.cell 2 43] rfl (fun C _ => ?_)
  repeat (first | (refine rg rfl rfl (fun K hK => ?_); (repeat (first | (refine wo rfl (fun k hk => ?_); simp (disch := omega) only [go_sem, Nat.reduceBEq, Nat.reduceAdd]; refine hk _ _ ?_; clear hk k) | refine wkt rfl ?_)); (try refine wk0 ?_); refine hK _ _ ?_; clear hK K; (try dsimp only [behind, qs, qb])) | ((first | refine AWP_exit ?_ | refine AWP_skip ?_); simp (disch := decide) only [qs, qb, if_true, if_false, reduceIte]) | refine AWP_sq rfl (fun K hK => ?_) | refine ct rfl ?_ | ((first | refine hK _ _ ?_ | (clear hK; refine hK _ _ ?_) | (clear hK; clear hK; refine hK _ _ ?_)); clear hK; (try clear K)))
  (first | refine AWP_t (.seg [.o 0, .o 1, .o 3, .o 4, .o 6, .o 7, .o 8, .o 9] (.alt 2 (.alt 5 (.seg [.o 10] (.alt 11 (.alt 12 .done .no) .no)) (.alt 11 (.alt 5 (.seg [.o 10] (.alt 12 .done .no)) .no) .no)) (.alt 11 (.alt 2 (.alt 5 (.seg [.o 10] (.alt 12 .done .no)) .no) .no) .no))) (by decide +kernel) rfl (fun K hK => ?_) | refine AWP_tk (.seg [.o 0, .o 1, .o 3, .o 4, .o 6, .o 7, .o 8, .o 9] (.alt 2 (.alt 5 (.seg [.o 10] (.alt 11 (.alt 12 .done .no) .no)) (.alt 11 (.alt 5 (.seg [.o 10] (.alt 12 .done .no)) .no) .no)) (.alt 11 (.alt 2 (.alt 5 (.seg [.o 10] (.alt 12 .done .no)) .no) .no) .no))) (by decide +kernel) rfl (fun K hK => ?_))
  (repeat (first | (refine wo rfl (fun k hk => ?_); simp (disch := omega) only [go_sem, Nat.reduceBEq, Nat.reduceAdd]; refine hk _ _ ?_; clear hk k) | refine wkt rfl ?_ | with_reducible refine wk0 ?_ | with_reducible refine wt_seg ?_ | with_reducible refine wt_alt ?_ wt_no | with_reducible refine wt_done ?_))
  by_cases g1 : lg n1 a1 d1
  · refine wt_alt ?_ (wt_alt ?_ wt_no)
    · exact cF rfl rfl rfl rfl (by exact number_fail hx0 g1) (fun _ _ h => h)
    · (repeat (first | (refine wo rfl (fun k hk => ?_); simp (disch := omega) only [go_sem, Nat.reduceBEq, Nat.reduceAdd]; refine hk _ _ ?_; clear hk k) | refine wkt rfl ?_ | with_reducible refine wk0 ?_ | with_reducible refine wt_seg ?_ | with_reducible refine wt_alt ?_ wt_no | with_reducible refine wt_done ?_))
      exact cF rfl rfl rfl rfl (by exact number_fail hx0 g1) (fun _ _ h => h)
  · have g2 := g.resolve_left g1
    refine wt_alt ?_ (wt_alt ?_ wt_no)
    · refine cN rfl rfl rfl rfl (by exact number_ok hx0 g1) ?_; rintro v1 h1 _ hv1; obtain ⟨v1_0, v1_1, v1_2, v1_3, v1_4, v1_5, v1_6, rfl, hv1⟩ := hv1.sa; (repeat (first | (refine wo rfl (fun k hk => ?_); simp (disch := omega) only [go_sem, Nat.reduceBEq, Nat.reduceAdd]; refine hk _ _ ?_; clear hk k) | refine wkt rfl ?_ | with_reducible refine wk0 ?_ | with_reducible refine wt_seg ?_ | with_reducible refine wt_alt ?_ wt_no | with_reducible refine wt_done ?_))
      refine wt_alt ?_ (wt_alt ?_ wt_no)
      · exact cF rfl rfl rfl rfl (by exact number_fail hy0 g2) (fun _ _ h => h)
      · (repeat (first | (refine wo rfl (fun k hk => ?_); simp (disch := omega) only [go_sem, Nat.reduceBEq, Nat.reduceAdd]; refine hk _ _ ?_; clear hk k) | refine wkt rfl ?_ | with_reducible refine wk0 ?_ | with_reducible refine wt_seg ?_ | with_reducible refine wt_alt ?_ wt_no | with_reducible refine wt_done ?_))
        exact cF rfl rfl rfl rfl (by exact number_fail hy0 g2) (fun _ _ h => h)
    · (repeat (first | (refine wo rfl (fun k hk => ?_); simp (disch := omega) only [go_sem, Nat.reduceBEq, Nat.reduceAdd]; refine hk _ _ ?_; clear hk k) | refine wkt rfl ?_ | with_reducible refine wk0 ?_ | with_reducible refine wt_seg ?_ | with_reducible refine wt_alt ?_ wt_no | with_reducible refine wt_done ?_))
      refine cN rfl rfl rfl rfl (by exact number_ok hx0 g1) ?_; rintro v1 h1 _ hv1; obtain ⟨v1_0, v1_1, v1_2, v1_3, v1_4, v1_5, v1_6, rfl, hv1⟩ := hv1.sa; (repeat (first | (refine wo rfl (fun k hk => ?_); simp (disch := omega) only [go_sem, Nat.reduceBEq, Nat.reduceAdd]; refine hk _ _ ?_; clear hk k) | refine wkt rfl ?_ | with_reducible refine wk0 ?_ | with_reducible refine wt_seg ?_ | with_reducible refine wt_alt ?_ wt_no | with_reducible refine wt_done ?_))
      exact cF rfl rfl rfl rfl (by exact number_fail hy0 g2) (fun _ _ h => h)
end Go.Q
namespace Go.Q
open Go.Proofs
set_option maxRecDepth 100000
set_option maxHeartbeats 4000000
theorem Jk.sl {h : PH} {b : Bool} {x y : Value} {n d : Nat} (r : Jk h b x y n d) : ∃ na nl nc da dl dc, x = .slice na nl nc ∧ y = .slice da dl dc := by
  obtain ⟨_, _, _, rfl, _⟩ := r.num.sl
  obtain ⟨_, _, _, rfl, _⟩ := r.den.sl
  exact ⟨_, _, _, _, _, _, rfl, rfl⟩
def PS.fin (s : PS) (k : Nat) : Prop := (s.l = false → s.e = false → sz s.lo ≤ k) ∧ (s.u = false → s.e = false → sz s.hi ≤ k)
theorem Sr.parts {h : PH} {v : Value} {s : PS} (r : Sr h v s) : ∃ b1 a1 m1 c1 a2 m2 c2 b2 a3 m3 c3 a4 m4 c4, v = .agg #[.bool b1, .slice a1 m1 c1, .slice a2 m2 c2, .bool b2, .slice a3 m3 c3, .slice a4 m4 c4, .bool s.l, .bool s.u, .bool s.e] ∧
    (∃ n d, Jk h b1 (.slice a1 m1 c1) (.slice a2 m2 c2) n d) ∧ (∃ n d, Jk h b2 (.slice a3 m3 c3) (.slice a4 m4 c4) n d) ∧
    (s.l = false → s.e = false → Fr h (.agg #[.bool b1, .slice a1 m1 c1, .slice a2 m2 c2]) s.lo) ∧ (s.u = false → s.e = false → Fr h (.agg #[.bool b2, .slice a3 m3 c3, .slice a4 m4 c4]) s.hi) := by
  obtain ⟨b1, x1, y1, b2, x2, y2, rfl, ⟨n, d, j1⟩, ⟨n', d', j2⟩, f1, f2⟩ := r
  obtain ⟨_, _, _, _, _, _, rfl, rfl⟩ := j1.sl
  obtain ⟨_, _, _, _, _, _, rfl, rfl⟩ := j2.sl
  exact ⟨_, _, _, _, _, _, _, _, _, _, _, _, _, _, rfl, ⟨n, d, j1⟩, ⟨n', d', j2⟩, f1, f2⟩
def hullS (s : PS) (p : Nat) : PS := ⟨gdown s.lo p, gup s.hi p, s.l, s.u, s.e⟩
theorem hull_spec {h0 h : PH} [Le h0 h] {v : Value} {s : PS} {p : Nat} (hv : Sr h0 v s) (hf : s.fin (2 ^ 30)) (hp : p ≤ 2 ^ 30) :
    Spec mach 45 #[v, .int .i64 p] h (fun v h' => Sr h' v (hullS s p)) NP := by
  obtain ⟨lo, hi, l, u, e⟩ := s
  obtain ⟨b1, a1, m1, c1, a2, m2, c2, b2, a3, m3, c3, a4, m4, c4, rfl, ⟨n, d, j1⟩, ⟨n', d', j2⟩, f1, f2⟩ := hv.parts
  obtain ⟨k1, k2⟩ := hf
  dsimp only at f1 f2 k1 k2 ⊢
  refine Spec.enter (args := [_, _]) (n := 25) Tryz.func45 rfl (by kernel_rfl) rfl (by simp) [.cell 4 43] rfl (fun C _ => ?_)
  cases e with
  | true =>
    repeat (first | (refine wo rfl (fun k hk => ?_); simp (disch := omega) only [go_sem, Nat.reduceBEq, Nat.reduceAdd]; refine hk _ _ ?_; clear hk k) | refine wkt rfl ?_ | refine wk0 ?_ | refine rg rfl rfl (fun K hK => ?_) | ((first | refine AWP_exit ?_ | refine AWP_skip ?_); simp (disch := decide) only [qs, qb, if_true, if_false, reduceIte]) | refine AWP_sq rfl (fun K hK => ?_) | refine ct rfl ?_ | ((try simp (disch := omega) only [go_sem, Nat.reduceBEq, Nat.reduceAdd]); (first | apply hK | (clear hK; apply hK) | (clear hK; clear hK; apply hK)); clear hK; (try clear K); (try dsimp only [behind, qs, qb])))
    refine AWP_ret ?_; simp (disch := omega) only [go_sem, Nat.reduceBEq, Nat.reduceAdd]
    exact ⟨_, _, _, _, _, _, rfl, ⟨n, d, j1.to⟩, ⟨n', d', j2.to⟩, (fun _ e => by cases e), (fun _ e => by cases e)⟩
  | false =>
    cases l with
    | true =>
      cases u with
      | true =>
        repeat (first | (refine wo rfl (fun k hk => ?_); simp (disch := omega) only [go_sem, Nat.reduceBEq, Nat.reduceAdd]; refine hk _ _ ?_; clear hk k) | refine wkt rfl ?_ | refine wk0 ?_ | refine rg rfl rfl (fun K hK => ?_) | ((first | refine AWP_exit ?_ | refine AWP_skip ?_); simp (disch := decide) only [qs, qb, if_true, if_false, reduceIte]) | refine AWP_sq rfl (fun K hK => ?_) | refine ct rfl ?_ | ((try simp (disch := omega) only [go_sem, Nat.reduceBEq, Nat.reduceAdd]); (first | apply hK | (clear hK; apply hK) | (clear hK; clear hK; apply hK)); clear hK; (try clear K); (try dsimp only [behind, qs, qb])))
        refine AWP_ret ?_; simp (disch := omega) only [go_sem, Nat.reduceBEq, Nat.reduceAdd]
        exact ⟨_, _, _, _, _, _, rfl, ⟨n, d, j1.to⟩, ⟨n', d', j2.to⟩, (fun e _ => by cases e), (fun e _ => by cases e)⟩
      | false =>
        have g2 := f2 rfl rfl
        have z2 := k2 rfl rfl
        repeat (first | (refine wo rfl (fun k hk => ?_); simp (disch := omega) only [go_sem, Nat.reduceBEq, Nat.reduceAdd]; refine hk _ _ ?_; clear hk k) | refine wkt rfl ?_ | refine wk0 ?_ | refine rg rfl rfl (fun K hK => ?_) | ((first | refine AWP_exit ?_ | refine AWP_skip ?_); simp (disch := decide) only [qs, qb, if_true, if_false, reduceIte]) | refine AWP_sq rfl (fun K hK => ?_) | refine ct rfl ?_ | ((try simp (disch := omega) only [go_sem, Nat.reduceBEq, Nat.reduceAdd]); (first | apply hK | (clear hK; apply hK) | (clear hK; clear hK; apply hK)); clear hK; (try clear K); (try dsimp only [behind, qs, qb])))
        refine cN rfl rfl rfl rfl (by exact Grid_spec (p := p) (u := true) g2 (by omega) (by omega)) ?_; rintro v1 h1 _ hv1; obtain ⟨v1_0, v1_1, v1_2, v1_3, v1_4, v1_5, v1_6, rfl, hv1⟩ := hv1.sa
        repeat (first | (refine wo rfl (fun k hk => ?_); simp (disch := omega) only [go_sem, Nat.reduceBEq, Nat.reduceAdd]; refine hk _ _ ?_; clear hk k) | refine wkt rfl ?_ | refine wk0 ?_ | refine rg rfl rfl (fun K hK => ?_) | ((first | refine AWP_exit ?_ | refine AWP_skip ?_); simp (disch := decide) only [qs, qb, if_true, if_false, reduceIte]) | refine AWP_sq rfl (fun K hK => ?_) | refine ct rfl ?_ | ((try simp (disch := omega) only [go_sem, Nat.reduceBEq, Nat.reduceAdd]); (first | apply hK | (clear hK; apply hK) | (clear hK; clear hK; apply hK)); clear hK; (try clear K); (try dsimp only [behind, qs, qb])))
        refine AWP_ret ?_; simp (disch := omega) only [go_sem, Nat.reduceBEq, Nat.reduceAdd]
        exact ⟨_, _, _, _, _, _, rfl, ⟨n, d, j1.to⟩, ⟨_, _, hv1.jk'⟩, (fun e _ => by cases e), fun _ _ => hv1⟩
    | false =>
      have g1 := f1 rfl rfl
      have z1 := k1 rfl rfl
      cases u with
      | true =>
        repeat (first | (refine wo rfl (fun k hk => ?_); simp (disch := omega) only [go_sem, Nat.reduceBEq, Nat.reduceAdd]; refine hk _ _ ?_; clear hk k) | refine wkt rfl ?_ | refine wk0 ?_ | refine rg rfl rfl (fun K hK => ?_) | ((first | refine AWP_exit ?_ | refine AWP_skip ?_); simp (disch := decide) only [qs, qb, if_true, if_false, reduceIte]) | refine AWP_sq rfl (fun K hK => ?_) | refine ct rfl ?_ | ((try simp (disch := omega) only [go_sem, Nat.reduceBEq, Nat.reduceAdd]); (first | apply hK | (clear hK; apply hK) | (clear hK; clear hK; apply hK)); clear hK; (try clear K); (try dsimp only [behind, qs, qb])))
        refine cN rfl rfl rfl rfl (by exact Grid_spec (p := p) (u := false) g1 (by omega) (by omega)) ?_; rintro v1 h1 _ hv1; obtain ⟨v1_0, v1_1, v1_2, v1_3, v1_4, v1_5, v1_6, rfl, hv1⟩ := hv1.sa
        repeat (first | (refine wo rfl (fun k hk => ?_); simp (disch := omega) only [go_sem, Nat.reduceBEq, Nat.reduceAdd]; refine hk _ _ ?_; clear hk k) | refine wkt rfl ?_ | refine wk0 ?_ | refine rg rfl rfl (fun K hK => ?_) | ((first | refine AWP_exit ?_ | refine AWP_skip ?_); simp (disch := decide) only [qs, qb, if_true, if_false, reduceIte]) | refine AWP_sq rfl (fun K hK => ?_) | refine ct rfl ?_ | ((try simp (disch := omega) only [go_sem, Nat.reduceBEq, Nat.reduceAdd]); (first | apply hK | (clear hK; apply hK) | (clear hK; clear hK; apply hK)); clear hK; (try clear K); (try dsimp only [behind, qs, qb])))
        refine AWP_ret ?_; simp (disch := omega) only [go_sem, Nat.reduceBEq, Nat.reduceAdd]
        exact ⟨_, _, _, _, _, _, rfl, ⟨_, _, hv1.jk'⟩, ⟨n', d', j2.to⟩, fun _ _ => hv1, (fun e _ => by cases e)⟩
      | false =>
        have g2 := f2 rfl rfl
        have z2 := k2 rfl rfl
        repeat (first | (refine wo rfl (fun k hk => ?_); simp (disch := omega) only [go_sem, Nat.reduceBEq, Nat.reduceAdd]; refine hk _ _ ?_; clear hk k) | refine wkt rfl ?_ | refine wk0 ?_ | refine rg rfl rfl (fun K hK => ?_) | ((first | refine AWP_exit ?_ | refine AWP_skip ?_); simp (disch := decide) only [qs, qb, if_true, if_false, reduceIte]) | refine AWP_sq rfl (fun K hK => ?_) | refine ct rfl ?_ | ((try simp (disch := omega) only [go_sem, Nat.reduceBEq, Nat.reduceAdd]); (first | apply hK | (clear hK; apply hK) | (clear hK; clear hK; apply hK)); clear hK; (try clear K); (try dsimp only [behind, qs, qb])))
        refine cN rfl rfl rfl rfl (by exact Grid_spec (p := p) (u := false) g1 (by omega) (by omega)) ?_; rintro v1 h1 _ hv1; obtain ⟨v1_0, v1_1, v1_2, v1_3, v1_4, v1_5, v1_6, rfl, hv1⟩ := hv1.sa
        repeat (first | (refine wo rfl (fun k hk => ?_); simp (disch := omega) only [go_sem, Nat.reduceBEq, Nat.reduceAdd]; refine hk _ _ ?_; clear hk k) | refine wkt rfl ?_ | refine wk0 ?_ | refine rg rfl rfl (fun K hK => ?_) | ((first | refine AWP_exit ?_ | refine AWP_skip ?_); simp (disch := decide) only [qs, qb, if_true, if_false, reduceIte]) | refine AWP_sq rfl (fun K hK => ?_) | refine ct rfl ?_ | ((try simp (disch := omega) only [go_sem, Nat.reduceBEq, Nat.reduceAdd]); (first | apply hK | (clear hK; apply hK) | (clear hK; clear hK; apply hK)); clear hK; (try clear K); (try dsimp only [behind, qs, qb])))
        refine cN rfl rfl rfl rfl (by exact Grid_spec (p := p) (u := true) g2 (by omega) (by omega)) ?_; rintro v2 h2 _ hv2; obtain ⟨v2_0, v2_1, v2_2, v2_3, v2_4, v2_5, v2_6, rfl, hv2⟩ := hv2.sa
        repeat (first | (refine wo rfl (fun k hk => ?_); simp (disch := omega) only [go_sem, Nat.reduceBEq, Nat.reduceAdd]; refine hk _ _ ?_; clear hk k) | refine wkt rfl ?_ | refine wk0 ?_ | refine rg rfl rfl (fun K hK => ?_) | ((first | refine AWP_exit ?_ | refine AWP_skip ?_); simp (disch := decide) only [qs, qb, if_true, if_false, reduceIte]) | refine AWP_sq rfl (fun K hK => ?_) | refine ct rfl ?_ | ((try simp (disch := omega) only [go_sem, Nat.reduceBEq, Nat.reduceAdd]); (first | apply hK | (clear hK; apply hK) | (clear hK; clear hK; apply hK)); clear hK; (try clear K); (try dsimp only [behind, qs, qb])))
        refine AWP_ret ?_; simp (disch := omega) only [go_sem, Nat.reduceBEq, Nat.reduceAdd]
        exact ⟨_, _, _, _, _, _, rfl, ⟨_, _, hv1.to.jk'⟩, ⟨_, _, hv2.jk'⟩, fun _ _ => hv1.to, fun _ _ => hv2⟩
theorem N32.inj {h : PH} {v : Value} {m n : Nat} (r : N32 h v m) (q : N32 h v n) : m = n := by
  obtain ⟨a, c, rfl, A⟩ := r
  obtain ⟨a', c', h2, A'⟩ := q
  simp only [Value.slice.injEq] at h2
  obtain ⟨rfl, hl, rfl⟩ := h2
  have : W 4294967296 m = W 4294967296 n := by
    refine List.ext_getElem hl (fun i h1 h2 => ?_)
    obtain ⟨ad, e1, e2⟩ := A.at_ i _ (List.getElem?_eq_getElem h1)
    obtain ⟨ad', e3, e4⟩ := A'.at_ i _ (List.getElem?_eq_getElem h2)
    obtain rfl : ad = ad' := by rw [e1] at e3; exact Option.some.inj e3
    rw [e2] at e4
    simp only [Option.some.injEq, Value.int.injEq, true_and] at e4
    omega
  rw [← val_W B32 m, this, val_W B32]
theorem Fr.neg {h : PH} {b : Bool} {x y : Value} {n d : Nat} {q : Rat} (r : Fr h (.agg #[.bool b, x, y]) q) (j : Jk h b x y n d) : Fr h (.agg #[.bool (!b && !decide (n = 0)), x, y]) (-q) := by
  obtain ⟨sn, sd, h1, h2, h3⟩ := r
  simp only [Value.agg.injEq, Array.mk.injEq, List.cons.injEq, and_true, Value.bool.injEq] at h1
  obtain ⟨rfl, rfl, rfl⟩ := h1
  obtain rfl := j.num.inj h2
  refine ⟨x, y, ?_, by simpa using h2, by simpa using h3⟩
  have : (!decide (q.num < 0) && !decide (q.num.natAbs = 0)) = decide ((-q).num < 0) := by
    rw [Bool.eq_iff_iff]; simp only [Bool.and_eq_true, Bool.not_eq_true', decide_eq_false_iff_not, decide_eq_true_eq, Rat.neg_num]; omega
  rw [this]
def minusS (s : PS) : PS := ⟨-s.hi, -s.lo, s.u, s.l, s.e⟩
theorem minus_spec {h0 h : PH} [Le h0 h] {v : Value} {s : PS} (hv : Sr h0 v s) :
    Spec mach 57 #[v] h (fun v h' => Sr h' v (minusS s)) NP := by
  obtain ⟨lo, hi, l, u, e⟩ := s
  obtain ⟨b1, a1, m1, c1, a2, m2, c2, b2, a3, m3, c3, a4, m4, c4, rfl, ⟨n, d, j1⟩, ⟨n', d', j2⟩, f1, f2⟩ := hv.parts
  dsimp only at f1 f2 ⊢
  refine Spec.enter (args := [_]) (n := 16) Tryz.func57 rfl (by kernel_rfl) rfl (by simp) [.cell 2 43] rfl (fun C _ => ?_)
  repeat (first | (refine wo rfl (fun k hk => ?_); simp (disch := omega) only [go_sem, Nat.reduceBEq, Nat.reduceAdd]; refine hk _ _ ?_; clear hk k) | refine wkt rfl ?_ | refine wk0 ?_ | refine rg rfl rfl (fun K hK => ?_) | refine rd [.o 0, .o 1, .o 3, .o 4, .o 6, .o 7, .o 8, .o 9, .o 10, .o 11, .o 2, .o 5, .o 12, .o 13] rfl (by decide +kernel) rfl (fun K hK => ?_) | ((first | refine AWP_exit ?_ | refine AWP_skip ?_); simp (disch := decide) only [qs, qb, if_true, if_false, reduceIte]) | refine AWP_sq rfl (fun K hK => ?_) | refine ct rfl ?_ | ((try simp (disch := omega) only [go_sem, Nat.reduceBEq, Nat.reduceAdd]); (first | apply hK | (clear hK; apply hK) | (clear hK; clear hK; apply hK)); clear hK; (try clear K); (try dsimp only [behind, qs, qb])))
  refine cN rfl rfl rfl rfl (by exact Opposite_raw j2) ?_; rintro v1 h1 s1 rfl; (repeat (first | (refine wo rfl (fun k hk => ?_); simp (disch := omega) only [go_sem, Nat.reduceBEq, Nat.reduceAdd]; refine hk _ _ ?_; clear hk k) | refine wkt rfl ?_)); (try refine wk0 ?_)
  refine cN rfl rfl rfl rfl (by exact Opposite_raw j1) ?_; rintro v2 h2 s2 rfl; (repeat (first | (refine wo rfl (fun k hk => ?_); simp (disch := omega) only [go_sem, Nat.reduceBEq, Nat.reduceAdd]; refine hk _ _ ?_; clear hk k) | refine wkt rfl ?_)); (try refine wk0 ?_)
  (try (simp (disch := omega) only [go_sem, Nat.reduceBEq, Nat.reduceAdd])); refine hK _ _ ?_; clear hK; (try clear K); (try dsimp only [behind, qs])
  refine AWP_ret ?_; simp (disch := omega) only [go_sem, Nat.reduceBEq, Nat.reduceAdd]
  exact ⟨_, _, _, _, _, _, rfl, ⟨n', d', j2.num.to, j2.den.to⟩, ⟨n, d, j1.num.to, j1.den.to⟩, fun x y => ((f2 x y).neg j2).to, fun x y => ((f1 x y).neg j1).to⟩
end Go.Q
namespace Go.Q
open Go.Proofs
set_option maxRecDepth 100000
set_option maxHeartbeats 4000000
theorem Cn.zero (h : PH) : Cn h (.agg #[.bool false, .slice none 0 0, .slice none 0 0]) 0 := ⟨.slice none 0 0, .slice none 0 0, by simp, by simpa using N32.zero h, by simpa using N32.zero h⟩
def canS (s : PS) : PS := if s.e then ⟨1, 0, false, false, true⟩ else ⟨if s.l then 0 else s.lo, if s.u then 0 else s.hi, s.l, s.u, false⟩
def Ci (h : PH) (v : Value) (c : PS) : Prop := ∃ b1 x1 y1 b2 x2 y2, v = .agg #[.bool b1, x1, y1, .bool b2, x2, y2, .bool c.l, .bool c.u] ∧ Cn h (.agg #[.bool b1, x1, y1]) c.lo ∧ Cn h (.agg #[.bool b2, x2, y2]) c.hi
theorem Ci.to {h h' : PH} {v : Value} {s : PS} (r : Ci h v s) [Le h h'] : Ci h' v s := let ⟨a, b, c, d, e, f, h1, h2, h3⟩ := r; ⟨a, b, c, d, e, f, h1, h2.to, h3.to⟩
theorem give_ok {h0 h : PH} [Le h0 h] {v : Value} {s : PS} (hv : Sr h0 v s) (hf : s.fin 2048) :
    Spec mach 65 #[v] h (fun v h' => Ci h' v (canS s)) NP := by
  obtain ⟨lo, hi, l, u, e⟩ := s
  obtain ⟨b1, a1, m1, c1, a2, m2, c2, b2, a3, m3, c3, a4, m4, c4, rfl, ⟨n, d, j1⟩, ⟨n', d', j2⟩, f1, f2⟩ := hv.parts
  obtain ⟨k1, k2⟩ := hf
  dsimp only at f1 f2 k1 k2 ⊢
  refine Spec.enter (args := [_]) (n := 38) Tryz.func65 rfl (by kernel_rfl) rfl (by simp) [.cell 2 26] rfl (fun C _ => ?_)
  cases e with
  | true =>
    repeat (first | (refine wo rfl (fun k hk => ?_); simp (disch := omega) only [go_sem, Nat.reduceBEq, Nat.reduceAdd]; refine hk _ _ ?_; clear hk k) | refine wkt rfl ?_ | refine wk0 ?_ | refine rg rfl rfl (fun K hK => ?_) | ((first | refine AWP_exit ?_ | refine AWP_skip ?_); simp (disch := decide) only [qs, qb, if_true, if_false, reduceIte]) | refine AWP_sq rfl (fun K hK => ?_) | refine ct rfl ?_ | ((try simp (disch := omega) only [go_sem, Nat.reduceBEq, Nat.reduceAdd]); (first | apply hK | (clear hK; apply hK) | (clear hK; clear hK; apply hK)); clear hK; (try clear K); (try dsimp only [behind, qs, qb])))
    refine cN rfl rfl rfl rfl (by exact Int_spec (n := 1) (by decide) (by decide)) ?_; rintro v1 h1 _ hv1; obtain ⟨v1_0, v1_1, v1_2, v1_3, v1_4, v1_5, v1_6, rfl, hv1⟩ := hv1.sa; (repeat (first | (refine wo rfl (fun k hk => ?_); simp (disch := omega) only [go_sem, Nat.reduceBEq, Nat.reduceAdd]; refine hk _ _ ?_; clear hk k) | refine wkt rfl ?_)); (try refine wk0 ?_)
    refine cN rfl rfl rfl rfl (by exact Give_ok hv1 (by decide)) ?_; rintro v2 h2 s2 ⟨w, rfl, hw⟩; obtain ⟨_, _, _, _, _, _, _, rfl, hw⟩ := hw.sa; (repeat (first | (refine wo rfl (fun k hk => ?_); simp (disch := omega) only [go_sem, Nat.reduceBEq, Nat.reduceAdd]; refine hk _ _ ?_; clear hk k) | refine wkt rfl ?_)); (try refine wk0 ?_)
    refine cN rfl rfl rfl rfl (by exact have_ok hw) ?_; rintro v3 h3 s3 rfl; (repeat (first | (refine wo rfl (fun k hk => ?_); simp (disch := omega) only [go_sem, Nat.reduceBEq, Nat.reduceAdd]; refine hk _ _ ?_; clear hk k) | refine wkt rfl ?_)); (try refine wk0 ?_)
    (try (simp (disch := omega) only [go_sem, Nat.reduceBEq, Nat.reduceAdd])); refine hK _ _ ?_; clear hK; (try clear K); (try dsimp only [behind, qs])
    refine AWP_ret ?_; simp (disch := omega) only [go_sem, Nat.reduceBEq, Nat.reduceAdd]
    exact ⟨_, _, _, _, _, _, rfl, hw.to, Cn.zero _⟩
  | false =>
    cases l with
    | true =>
      cases u with
      | true =>
        repeat (first | (refine wo rfl (fun k hk => ?_); simp (disch := omega) only [go_sem, Nat.reduceBEq, Nat.reduceAdd]; refine hk _ _ ?_; clear hk k) | refine wkt rfl ?_ | refine wk0 ?_ | refine rg rfl rfl (fun K hK => ?_) | ((first | refine AWP_exit ?_ | refine AWP_skip ?_); simp (disch := decide) only [qs, qb, if_true, if_false, reduceIte]) | refine AWP_sq rfl (fun K hK => ?_) | refine ct rfl ?_ | ((try simp (disch := omega) only [go_sem, Nat.reduceBEq, Nat.reduceAdd]); (first | apply hK | (clear hK; apply hK) | (clear hK; clear hK; apply hK)); clear hK; (try clear K); (try dsimp only [behind, qs, qb])))
        refine AWP_ret ?_; simp (disch := omega) only [go_sem, Nat.reduceBEq, Nat.reduceAdd]
        exact ⟨_, _, _, _, _, _, rfl, Cn.zero _, Cn.zero _⟩
      | false =>
        repeat (first | (refine wo rfl (fun k hk => ?_); simp (disch := omega) only [go_sem, Nat.reduceBEq, Nat.reduceAdd]; refine hk _ _ ?_; clear hk k) | refine wkt rfl ?_ | refine wk0 ?_ | refine rg rfl rfl (fun K hK => ?_) | ((first | refine AWP_exit ?_ | refine AWP_skip ?_); simp (disch := decide) only [qs, qb, if_true, if_false, reduceIte]) | refine AWP_sq rfl (fun K hK => ?_) | refine ct rfl ?_ | ((try simp (disch := omega) only [go_sem, Nat.reduceBEq, Nat.reduceAdd]); (first | apply hK | (clear hK; apply hK) | (clear hK; clear hK; apply hK)); clear hK; (try clear K); (try dsimp only [behind, qs, qb])))
        refine cN rfl rfl rfl rfl (by exact Give_ok (f2 rfl rfl) (k2 rfl rfl)) ?_; rintro v2 h2 s2 ⟨w, rfl, hw⟩; obtain ⟨_, _, _, _, _, _, _, rfl, hw⟩ := hw.sa; (repeat (first | (refine wo rfl (fun k hk => ?_); simp (disch := omega) only [go_sem, Nat.reduceBEq, Nat.reduceAdd]; refine hk _ _ ?_; clear hk k) | refine wkt rfl ?_)); (try refine wk0 ?_)
        refine cN rfl rfl rfl rfl (by exact have_ok hw) ?_; rintro v3 h3 s3 rfl
        repeat (first | (refine wo rfl (fun k hk => ?_); simp (disch := omega) only [go_sem, Nat.reduceBEq, Nat.reduceAdd]; refine hk _ _ ?_; clear hk k) | refine wkt rfl ?_ | refine wk0 ?_ | refine rg rfl rfl (fun K hK => ?_) | ((first | refine AWP_exit ?_ | refine AWP_skip ?_); simp (disch := decide) only [qs, qb, if_true, if_false, reduceIte]) | refine AWP_sq rfl (fun K hK => ?_) | refine ct rfl ?_ | ((try simp (disch := omega) only [go_sem, Nat.reduceBEq, Nat.reduceAdd]); (first | apply hK | (clear hK; apply hK) | (clear hK; clear hK; apply hK)); clear hK; (try clear K); (try dsimp only [behind, qs, qb])))
        refine AWP_ret ?_; simp (disch := omega) only [go_sem, Nat.reduceBEq, Nat.reduceAdd]
        exact ⟨_, _, _, _, _, _, rfl, Cn.zero _, hw.to⟩
    | false =>
      cases u with
      | true =>
        repeat (first | (refine wo rfl (fun k hk => ?_); simp (disch := omega) only [go_sem, Nat.reduceBEq, Nat.reduceAdd]; refine hk _ _ ?_; clear hk k) | refine wkt rfl ?_ | refine wk0 ?_ | refine rg rfl rfl (fun K hK => ?_) | ((first | refine AWP_exit ?_ | refine AWP_skip ?_); simp (disch := decide) only [qs, qb, if_true, if_false, reduceIte]) | refine AWP_sq rfl (fun K hK => ?_) | refine ct rfl ?_ | ((try simp (disch := omega) only [go_sem, Nat.reduceBEq, Nat.reduceAdd]); (first | apply hK | (clear hK; apply hK) | (clear hK; clear hK; apply hK)); clear hK; (try clear K); (try dsimp only [behind, qs, qb])))
        refine cN rfl rfl rfl rfl (by exact Give_ok (f1 rfl rfl) (k1 rfl rfl)) ?_; rintro v2 h2 s2 ⟨w, rfl, hw⟩; obtain ⟨_, _, _, _, _, _, _, rfl, hw⟩ := hw.sa; (repeat (first | (refine wo rfl (fun k hk => ?_); simp (disch := omega) only [go_sem, Nat.reduceBEq, Nat.reduceAdd]; refine hk _ _ ?_; clear hk k) | refine wkt rfl ?_)); (try refine wk0 ?_)
        refine cN rfl rfl rfl rfl (by exact have_ok hw) ?_; rintro v3 h3 s3 rfl
        repeat (first | (refine wo rfl (fun k hk => ?_); simp (disch := omega) only [go_sem, Nat.reduceBEq, Nat.reduceAdd]; refine hk _ _ ?_; clear hk k) | refine wkt rfl ?_ | refine wk0 ?_ | refine rg rfl rfl (fun K hK => ?_) | ((first | refine AWP_exit ?_ | refine AWP_skip ?_); simp (disch := decide) only [qs, qb, if_true, if_false, reduceIte]) | refine AWP_sq rfl (fun K hK => ?_) | refine ct rfl ?_ | ((try simp (disch := omega) only [go_sem, Nat.reduceBEq, Nat.reduceAdd]); (first | apply hK | (clear hK; apply hK) | (clear hK; clear hK; apply hK)); clear hK; (try clear K); (try dsimp only [behind, qs, qb])))
        refine AWP_ret ?_; simp (disch := omega) only [go_sem, Nat.reduceBEq, Nat.reduceAdd]
        exact ⟨_, _, _, _, _, _, rfl, hw.to, Cn.zero _⟩
      | false =>
        repeat (first | (refine wo rfl (fun k hk => ?_); simp (disch := omega) only [go_sem, Nat.reduceBEq, Nat.reduceAdd]; refine hk _ _ ?_; clear hk k) | refine wkt rfl ?_ | refine wk0 ?_ | refine rg rfl rfl (fun K hK => ?_) | ((first | refine AWP_exit ?_ | refine AWP_skip ?_); simp (disch := decide) only [qs, qb, if_true, if_false, reduceIte]) | refine AWP_sq rfl (fun K hK => ?_) | refine ct rfl ?_ | ((try simp (disch := omega) only [go_sem, Nat.reduceBEq, Nat.reduceAdd]); (first | apply hK | (clear hK; apply hK) | (clear hK; clear hK; apply hK)); clear hK; (try clear K); (try dsimp only [behind, qs, qb])))
        refine cN rfl rfl rfl rfl (by exact Give_ok (f1 rfl rfl) (k1 rfl rfl)) ?_; rintro v2 h2 s2 ⟨w, rfl, hw⟩; obtain ⟨_, _, _, _, _, _, _, rfl, hw⟩ := hw.sa; (repeat (first | (refine wo rfl (fun k hk => ?_); simp (disch := omega) only [go_sem, Nat.reduceBEq, Nat.reduceAdd]; refine hk _ _ ?_; clear hk k) | refine wkt rfl ?_)); (try refine wk0 ?_)
        refine cN rfl rfl rfl rfl (by exact have_ok hw) ?_; rintro v3 h3 s3 rfl
        repeat (first | (refine wo rfl (fun k hk => ?_); simp (disch := omega) only [go_sem, Nat.reduceBEq, Nat.reduceAdd]; refine hk _ _ ?_; clear hk k) | refine wkt rfl ?_ | refine wk0 ?_ | refine rg rfl rfl (fun K hK => ?_) | ((first | refine AWP_exit ?_ | refine AWP_skip ?_); simp (disch := decide) only [qs, qb, if_true, if_false, reduceIte]) | refine AWP_sq rfl (fun K hK => ?_) | refine ct rfl ?_ | ((try simp (disch := omega) only [go_sem, Nat.reduceBEq, Nat.reduceAdd]); (first | apply hK | (clear hK; apply hK) | (clear hK; clear hK; apply hK)); clear hK; (try clear K); (try dsimp only [behind, qs, qb])))
        refine cN rfl rfl rfl rfl (by exact Give_ok (f2 rfl rfl) (k2 rfl rfl)) ?_; rintro v4 h4 s4 ⟨w', rfl, hw'⟩; obtain ⟨_, _, _, _, _, _, _, rfl, hw'⟩ := hw'.sa; (repeat (first | (refine wo rfl (fun k hk => ?_); simp (disch := omega) only [go_sem, Nat.reduceBEq, Nat.reduceAdd]; refine hk _ _ ?_; clear hk k) | refine wkt rfl ?_)); (try refine wk0 ?_)
        refine cN rfl rfl rfl rfl (by exact have_ok hw') ?_; rintro v5 h5 s5 rfl
        repeat (first | (refine wo rfl (fun k hk => ?_); simp (disch := omega) only [go_sem, Nat.reduceBEq, Nat.reduceAdd]; refine hk _ _ ?_; clear hk k) | refine wkt rfl ?_ | refine wk0 ?_ | refine rg rfl rfl (fun K hK => ?_) | ((first | refine AWP_exit ?_ | refine AWP_skip ?_); simp (disch := decide) only [qs, qb, if_true, if_false, reduceIte]) | refine AWP_sq rfl (fun K hK => ?_) | refine ct rfl ?_ | ((try simp (disch := omega) only [go_sem, Nat.reduceBEq, Nat.reduceAdd]); (first | apply hK | (clear hK; apply hK) | (clear hK; clear hK; apply hK)); clear hK; (try clear K); (try dsimp only [behind, qs, qb])))
        refine AWP_ret ?_; simp (disch := omega) only [go_sem, Nat.reduceBEq, Nat.reduceAdd]
        exact ⟨_, _, _, _, _, _, rfl, hw.to, hw'.to⟩
theorem give_fail {h0 h : PH} [Le h0 h] {v : Value} {s : PS} (hv : Sr h0 v s) (hf : ¬ s.fin 2048) :
    Spec mach 65 #[v] h NR (fail 1) := by
  obtain ⟨lo, hi, l, u, e⟩ := s
  obtain ⟨b1, a1, m1, c1, a2, m2, c2, b2, a3, m3, c3, a4, m4, c4, rfl, ⟨n, d, j1⟩, ⟨n', d', j2⟩, f1, f2⟩ := hv.parts
  unfold PS.fin at hf
  dsimp only at f1 f2 hf ⊢
  refine Spec.enter (args := [_]) (n := 38) Tryz.func65 rfl (by kernel_rfl) rfl (by simp) [.cell 2 26] rfl (fun C _ => ?_)
  cases e with
  | true => exact (hf ⟨(fun _ e => by cases e), (fun _ e => by cases e)⟩).elim
  | false =>
    cases l with
    | true =>
      cases u with
      | true => exact (hf ⟨(fun e _ => by cases e), (fun e _ => by cases e)⟩).elim
      | false =>
        have z2 : ¬ sz hi ≤ 2048 := fun k => hf ⟨(fun e _ => by cases e), fun _ _ => k⟩
        repeat (first | (refine wo rfl (fun k hk => ?_); simp (disch := omega) only [go_sem, Nat.reduceBEq, Nat.reduceAdd]; refine hk _ _ ?_; clear hk k) | refine wkt rfl ?_ | refine wk0 ?_ | refine rg rfl rfl (fun K hK => ?_) | ((first | refine AWP_exit ?_ | refine AWP_skip ?_); simp (disch := decide) only [qs, qb, if_true, if_false, reduceIte]) | refine AWP_sq rfl (fun K hK => ?_) | refine ct rfl ?_ | ((try simp (disch := omega) only [go_sem, Nat.reduceBEq, Nat.reduceAdd]); (first | apply hK | (clear hK; apply hK) | (clear hK; clear hK; apply hK)); clear hK; (try clear K); (try dsimp only [behind, qs, qb])))
        refine cN rfl rfl rfl rfl (by exact Give_no (f2 rfl rfl) z2) ?_; rintro v2 h2 s2 rfl; (repeat (first | (refine wo rfl (fun k hk => ?_); simp (disch := omega) only [go_sem, Nat.reduceBEq, Nat.reduceAdd]; refine hk _ _ ?_; clear hk k) | refine wkt rfl ?_)); (try refine wk0 ?_)
        exact cF rfl rfl rfl rfl (by exact have_fail (by decide)) (fun _ _ h => h)
    | false =>
      by_cases z1 : sz lo ≤ 2048
      · cases u with
        | true => exact (hf ⟨fun _ _ => z1, (fun e _ => by cases e)⟩).elim
        | false =>
          have z2 : ¬ sz hi ≤ 2048 := fun k => hf ⟨fun _ _ => z1, fun _ _ => k⟩
          repeat (first | (refine wo rfl (fun k hk => ?_); simp (disch := omega) only [go_sem, Nat.reduceBEq, Nat.reduceAdd]; refine hk _ _ ?_; clear hk k) | refine wkt rfl ?_ | refine wk0 ?_ | refine rg rfl rfl (fun K hK => ?_) | ((first | refine AWP_exit ?_ | refine AWP_skip ?_); simp (disch := decide) only [qs, qb, if_true, if_false, reduceIte]) | refine AWP_sq rfl (fun K hK => ?_) | refine ct rfl ?_ | ((try simp (disch := omega) only [go_sem, Nat.reduceBEq, Nat.reduceAdd]); (first | apply hK | (clear hK; apply hK) | (clear hK; clear hK; apply hK)); clear hK; (try clear K); (try dsimp only [behind, qs, qb])))
          refine cN rfl rfl rfl rfl (by exact Give_ok (f1 rfl rfl) z1) ?_; rintro v2 h2 s2 ⟨w, rfl, hw⟩; obtain ⟨_, _, _, _, _, _, _, rfl, hw⟩ := hw.sa; (repeat (first | (refine wo rfl (fun k hk => ?_); simp (disch := omega) only [go_sem, Nat.reduceBEq, Nat.reduceAdd]; refine hk _ _ ?_; clear hk k) | refine wkt rfl ?_)); (try refine wk0 ?_)
          refine cN rfl rfl rfl rfl (by exact have_ok hw) ?_; rintro v3 h3 s3 rfl
          repeat (first | (refine wo rfl (fun k hk => ?_); simp (disch := omega) only [go_sem, Nat.reduceBEq, Nat.reduceAdd]; refine hk _ _ ?_; clear hk k) | refine wkt rfl ?_ | refine wk0 ?_ | refine rg rfl rfl (fun K hK => ?_) | ((first | refine AWP_exit ?_ | refine AWP_skip ?_); simp (disch := decide) only [qs, qb, if_true, if_false, reduceIte]) | refine AWP_sq rfl (fun K hK => ?_) | refine ct rfl ?_ | ((try simp (disch := omega) only [go_sem, Nat.reduceBEq, Nat.reduceAdd]); (first | apply hK | (clear hK; apply hK) | (clear hK; clear hK; apply hK)); clear hK; (try clear K); (try dsimp only [behind, qs, qb])))
          refine cN rfl rfl rfl rfl (by exact Give_no (f2 rfl rfl) z2) ?_; rintro v4 h4 s4 rfl; (repeat (first | (refine wo rfl (fun k hk => ?_); simp (disch := omega) only [go_sem, Nat.reduceBEq, Nat.reduceAdd]; refine hk _ _ ?_; clear hk k) | refine wkt rfl ?_)); (try refine wk0 ?_)
          exact cF rfl rfl rfl rfl (by exact have_fail (by decide)) (fun _ _ h => h)
      · cases u with
        | true =>
          repeat (first | (refine wo rfl (fun k hk => ?_); simp (disch := omega) only [go_sem, Nat.reduceBEq, Nat.reduceAdd]; refine hk _ _ ?_; clear hk k) | refine wkt rfl ?_ | refine wk0 ?_ | refine rg rfl rfl (fun K hK => ?_) | ((first | refine AWP_exit ?_ | refine AWP_skip ?_); simp (disch := decide) only [qs, qb, if_true, if_false, reduceIte]) | refine AWP_sq rfl (fun K hK => ?_) | refine ct rfl ?_ | ((try simp (disch := omega) only [go_sem, Nat.reduceBEq, Nat.reduceAdd]); (first | apply hK | (clear hK; apply hK) | (clear hK; clear hK; apply hK)); clear hK; (try clear K); (try dsimp only [behind, qs, qb])))
          refine cN rfl rfl rfl rfl (by exact Give_no (f1 rfl rfl) z1) ?_; rintro v2 h2 s2 rfl; (repeat (first | (refine wo rfl (fun k hk => ?_); simp (disch := omega) only [go_sem, Nat.reduceBEq, Nat.reduceAdd]; refine hk _ _ ?_; clear hk k) | refine wkt rfl ?_)); (try refine wk0 ?_)
          exact cF rfl rfl rfl rfl (by exact have_fail (by decide)) (fun _ _ h => h)
        | false =>
          repeat (first | (refine wo rfl (fun k hk => ?_); simp (disch := omega) only [go_sem, Nat.reduceBEq, Nat.reduceAdd]; refine hk _ _ ?_; clear hk k) | refine wkt rfl ?_ | refine wk0 ?_ | refine rg rfl rfl (fun K hK => ?_) | ((first | refine AWP_exit ?_ | refine AWP_skip ?_); simp (disch := decide) only [qs, qb, if_true, if_false, reduceIte]) | refine AWP_sq rfl (fun K hK => ?_) | refine ct rfl ?_ | ((try simp (disch := omega) only [go_sem, Nat.reduceBEq, Nat.reduceAdd]); (first | apply hK | (clear hK; apply hK) | (clear hK; clear hK; apply hK)); clear hK; (try clear K); (try dsimp only [behind, qs, qb])))
          refine cN rfl rfl rfl rfl (by exact Give_no (f1 rfl rfl) z1) ?_; rintro v2 h2 s2 rfl; (repeat (first | (refine wo rfl (fun k hk => ?_); simp (disch := omega) only [go_sem, Nat.reduceBEq, Nat.reduceAdd]; refine hk _ _ ?_; clear hk k) | refine wkt rfl ?_)); (try refine wk0 ?_)
          exact cF rfl rfl rfl rfl (by exact have_fail (by decide)) (fun _ _ h => h)
end Go.Q
