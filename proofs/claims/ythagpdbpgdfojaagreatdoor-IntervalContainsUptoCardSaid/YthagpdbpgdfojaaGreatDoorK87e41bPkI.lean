/-
  Contracts of package interval: operations that are ended, and reading. Conditions: the values are intervals (Rw at both ends).
  Contracts of package interval: sets, and reading them. Conditions: the values are intervals (Rw at both ends).
  Contracts of package interval: hulls, opposites, signs. Conditions: the values are sets (Sr), their ends of at most 2^30 binary digits.
  Contracts of package interval: giving sets back. Conditions: the values are sets (Sr).
  Intervals as plain sets: two ends, each a number or infinite, or empty; the operations on them. Conditions: none.
  Contracts of package interval, said of plain intervals (NS): reading, giving, rounding, opposites, signs, comparisons. Conditions: the values denote the intervals named, their ends of at most 2^30 binary digits.
  From a law's contract to its statement: the arguments read as intervals and numbers; what was there stays as it was. Conditions: what is read is of bulk at most 1048576.
  Contracts of the reference's intervals: sets, reading, giving, rounding. Conditions: the values denote the intervals named; no number in them is large.
  Contracts of package interval: operations that may be ended, and the error that is recovered (try). Conditions: the closure's contract.
-/
import Derived.Test.YthagpdbpgdfojaaGreatDoorKd284b9PkG
import Derived.Test.YthagpdbpgdfojaaGreatDoorK287db8PkC
import Derived.Test.YthagpdbpgdfojaaGreatDoorK8c26a1PkD
import Derived.Test.YthagpdbpgdfojaaGreatDoorCards
import Derived.Test.YthagpdbpgdfojaaGreatDoorTie
import Derived.WalkKit
import Derived.ProofKit
import Derived.OpenShut
import Derived.Deep.DeepHandedRow
import Derived.Lib.LaidTab
import Derived.Test.YthagpdbpgdfojaaGreatDoorK44c0f3PkH
import Derived.Defers
import Derived.Recover
set_option linter.unusedVariables false
set_option linter.unusedSimpArgs false
namespace Go.Q
open Go.Proofs
set_option maxRecDepth 100000
set_option maxHeartbeats 4000000
def fail (e : Int) : List PanicEntry → PH → Prop := fun ch _ => ch = [{ v := .iface 108 (.agg #[.int .i64 e]), recovered := false }]
def NR : Value → PH → Prop := fun _ _ => False
theorem must_ok {h : PH} : Spec mach 59 #[.int .i64 0] h (fun _ _ => True) NP := by
  refine Spec.enter (args := [_]) (n := 7) Tryz.func59 rfl (by kernel_rfl) rfl (by simp) [] rfl (fun C _ => ?_)
  repeat (first | (refine rg rfl rfl (fun K hK => ?_); (repeat (first | (refine wo rfl (fun k hk => ?_); simp (disch := omega) only [go_sem, Nat.reduceBEq, Nat.reduceAdd]; refine hk _ _ ?_; clear hk k) | refine wkt rfl ?_)); (try refine wk0 ?_); refine hK _ _ ?_; clear hK K; (try dsimp only [behind, qs, qb])) | ((first | refine AWP_exit ?_ | refine AWP_skip ?_); simp (disch := decide) only [qs, qb, if_true, if_false, reduceIte]) | refine AWP_sq rfl (fun K hK => ?_) | refine ct rfl ?_ | ((first | refine hK _ _ ?_ | (clear hK; refine hK _ _ ?_) | (clear hK; clear hK; refine hK _ _ ?_)); clear hK; (try clear K)))
  refine AWP_skip ?_
  simp (disch := omega) only [go_sem, Nat.reduceBEq, Nat.reduceAdd]
theorem must_fail {h : PH} {e : Int} (he : e ≠ 0) : Spec mach 59 #[.int .i64 e] h NR (fail e) := by
  refine Spec.enter (args := [_]) (n := 7) Tryz.func59 rfl (by kernel_rfl) rfl (by simp) [] rfl (fun C _ => ?_)
  repeat (first | (refine wo rfl (fun k hk => ?_); simp (disch := omega) only [go_sem, Nat.reduceBEq, Nat.reduceAdd]; refine hk _ _ ?_; clear hk k) | refine wkt rfl ?_ | refine wk0 ?_ | refine rg rfl rfl (fun K hK => ?_) | ((first | refine AWP_exit ?_ | refine AWP_skip ?_); simp (disch := decide) only [qs, qb, if_true, if_false, reduceIte]) | refine AWP_sq rfl (fun K hK => ?_) | refine ct rfl ?_ | ((try simp (disch := omega) only [go_sem, Nat.reduceBEq, Nat.reduceAdd]); (first | apply hK | (clear hK; apply hK) | (clear hK; clear hK; apply hK)); clear hK; (try clear K); (try dsimp only [behind, qs, qb])))
  refine wo rfl (fun k hk => ?_); simp (disch := omega) only [go_sem, Nat.reduceBEq, Nat.reduceAdd]
  refine ⟨by kernel_rfl, ?_⟩
  refine hk _ _ ?_; clear hk k
  refine wo rfl (fun k hk => ?_); simp (disch := omega) only [go_sem, Nat.reduceBEq, Nat.reduceAdd]
  all_goals exact rfl
theorem precise_ok {h : PH} {n a b : Int} (h1 : a ≤ n) (h2 : n ≤ b) : Spec mach 65 #[.int .i64 n, .int .i64 a, .int .i64 b] h (fun _ _ => True) NP := by
  refine Spec.enter (args := [_, _, _]) (n := 15) Tryz.func65 rfl (by kernel_rfl) rfl (by simp) [] rfl (fun C _ => ?_)
  repeat (first | (refine rg rfl rfl (fun K hK => ?_); (repeat (first | (refine wo rfl (fun k hk => ?_); simp (disch := omega) only [go_sem, Nat.reduceBEq, Nat.reduceAdd]; refine hk _ _ ?_; clear hk k) | refine wkt rfl ?_)); (try refine wk0 ?_); refine hK _ _ ?_; clear hK K; (try dsimp only [behind, qs, qb])) | ((first | refine AWP_exit ?_ | refine AWP_skip ?_); simp (disch := decide) only [qs, qb, if_true, if_false, reduceIte]) | refine AWP_sq rfl (fun K hK => ?_) | refine ct rfl ?_ | ((first | refine hK _ _ ?_ | (clear hK; refine hK _ _ ?_) | (clear hK; clear hK; refine hK _ _ ?_)); clear hK; (try clear K)))
  refine AWP_skip ?_
  simp (disch := omega) only [go_sem, Nat.reduceBEq, Nat.reduceAdd]
theorem precise_fail {h : PH} {n a b : Int} (h1 : n < a ∨ b < n) : Spec mach 65 #[.int .i64 n, .int .i64 a, .int .i64 b] h NR (fail 2) := by
  refine Spec.enter (args := [_, _, _]) (n := 15) Tryz.func65 rfl (by kernel_rfl) rfl (by simp) [] rfl (fun C _ => ?_)
  by_cases h2 : n < a
  · repeat (first | (refine wo rfl (fun k hk => ?_); simp (disch := omega) only [go_sem, Nat.reduceBEq, Nat.reduceAdd]; refine hk _ _ ?_; clear hk k) | refine wkt rfl ?_ | refine wk0 ?_ | refine rg rfl rfl (fun K hK => ?_) | ((first | refine AWP_exit ?_ | refine AWP_skip ?_); simp (disch := decide) only [qs, qb, if_true, if_false, reduceIte]) | refine AWP_sq rfl (fun K hK => ?_) | refine ct rfl ?_ | ((try simp (disch := omega) only [go_sem, Nat.reduceBEq, Nat.reduceAdd]); (first | apply hK | (clear hK; apply hK) | (clear hK; clear hK; apply hK)); clear hK; (try clear K); (try dsimp only [behind, qs, qb])))
    exact cF rfl rfl rfl rfl (by exact must_fail (by decide)) (fun _ _ h => h)
  · have h3 : b < n := h1.resolve_left h2
    repeat (first | (refine wo rfl (fun k hk => ?_); simp (disch := omega) only [go_sem, Nat.reduceBEq, Nat.reduceAdd]; refine hk _ _ ?_; clear hk k) | refine wkt rfl ?_ | refine wk0 ?_ | refine rg rfl rfl (fun K hK => ?_) | ((first | refine AWP_exit ?_ | refine AWP_skip ?_); simp (disch := decide) only [qs, qb, if_true, if_false, reduceIte]) | refine AWP_sq rfl (fun K hK => ?_) | refine ct rfl ?_ | ((try simp (disch := omega) only [go_sem, Nat.reduceBEq, Nat.reduceAdd]); (first | apply hK | (clear hK; apply hK) | (clear hK; clear hK; apply hK)); clear hK; (try clear K); (try dsimp only [behind, qs, qb])))
    exact cF rfl rfl rfl rfl (by exact must_fail (by decide)) (fun _ _ h => h)
theorem number_ok {h0 h : PH} [Le h0 h] {v : Value} {neg : Bool} {n d : Nat} (hv : Rw h0 v neg n d) (hl : ¬ lg neg n d) : Spec mach 70 #[v] h (fun v h' => Fr h' v (qof neg n d)) NP := by
  obtain ⟨_, _, _, _, _, _, _, rfl, hv⟩ := hv.sa
  refine Spec.enter (args := [_]) (n := 14) Tryz.func70 rfl (by kernel_rfl) rfl (by simp) [.cell 2 65] rfl (fun C _ => ?_)
  repeat (first | (refine wo rfl (fun k hk => ?_); simp (disch := omega) only [go_sem, Nat.reduceBEq, Nat.reduceAdd]; refine hk _ _ ?_; clear hk k) | refine wkt rfl ?_ | refine wk0 ?_ | refine rg rfl rfl (fun K hK => ?_) | ((first | refine AWP_exit ?_ | refine AWP_skip ?_); simp (disch := decide) only [qs, qb, if_true, if_false, reduceIte]) | refine AWP_sq rfl (fun K hK => ?_) | refine ct rfl ?_ | ((try simp (disch := omega) only [go_sem, Nat.reduceBEq, Nat.reduceAdd]); (first | apply hK | (clear hK; apply hK) | (clear hK; clear hK; apply hK)); clear hK; (try clear K); (try dsimp only [behind, qs, qb])))
  refine cN rfl rfl rfl rfl (by exact Read_ok hv hl) ?_; rintro v1 h1 s1 ⟨f, rfl, hf⟩; obtain ⟨_, _, _, _, _, _, _, rfl, hf⟩ := hf.sa
  repeat (first | (refine wo rfl (fun k hk => ?_); simp (disch := omega) only [go_sem, Nat.reduceBEq, Nat.reduceAdd]; refine hk _ _ ?_; clear hk k) | refine wkt rfl ?_ | refine wk0 ?_ | refine rg rfl rfl (fun K hK => ?_) | ((first | refine AWP_exit ?_ | refine AWP_skip ?_); simp (disch := decide) only [qs, qb, if_true, if_false, reduceIte]) | refine AWP_sq rfl (fun K hK => ?_) | refine ct rfl ?_ | ((try simp (disch := omega) only [go_sem, Nat.reduceBEq, Nat.reduceAdd]); (first | apply hK | (clear hK; apply hK) | (clear hK; clear hK; apply hK)); clear hK; (try clear K); (try dsimp only [behind, qs, qb])))
  refine AWP_ret ?_; simp (disch := omega) only [go_sem, Nat.reduceBEq, Nat.reduceAdd]
  exact hf.to
theorem number_fail {h0 h : PH} [Le h0 h] {v : Value} {neg : Bool} {n d : Nat} (hv : Rw h0 v neg n d) (hl : lg neg n d) : Spec mach 70 #[v] h NR (fail 1) := by
  obtain ⟨_, _, _, _, _, _, _, rfl, hv⟩ := hv.sa
  refine Spec.enter (args := [_]) (n := 14) Tryz.func70 rfl (by kernel_rfl) rfl (by simp) [.cell 2 65] rfl (fun C _ => ?_)
  repeat (first | (refine wo rfl (fun k hk => ?_); simp (disch := omega) only [go_sem, Nat.reduceBEq, Nat.reduceAdd]; refine hk _ _ ?_; clear hk k) | refine wkt rfl ?_ | refine wk0 ?_ | refine rg rfl rfl (fun K hK => ?_) | ((first | refine AWP_exit ?_ | refine AWP_skip ?_); simp (disch := decide) only [qs, qb, if_true, if_false, reduceIte]) | refine AWP_sq rfl (fun K hK => ?_) | refine ct rfl ?_ | ((try simp (disch := omega) only [go_sem, Nat.reduceBEq, Nat.reduceAdd]); (first | apply hK | (clear hK; apply hK) | (clear hK; clear hK; apply hK)); clear hK; (try clear K); (try dsimp only [behind, qs, qb])))
  refine cN rfl rfl rfl rfl (by exact Read_no hv hl) ?_; rintro v1 h1 s1 ⟨b, a, l, c, a', l', c', rfl⟩
  repeat (first | (refine wo rfl (fun k hk => ?_); simp (disch := omega) only [go_sem, Nat.reduceBEq, Nat.reduceAdd]; refine hk _ _ ?_; clear hk k) | refine wkt rfl ?_ | refine wk0 ?_ | refine rg rfl rfl (fun K hK => ?_) | ((first | refine AWP_exit ?_ | refine AWP_skip ?_); simp (disch := decide) only [qs, qb, if_true, if_false, reduceIte]) | refine AWP_sq rfl (fun K hK => ?_) | refine ct rfl ?_ | ((try simp (disch := omega) only [go_sem, Nat.reduceBEq, Nat.reduceAdd]); (first | apply hK | (clear hK; apply hK) | (clear hK; clear hK; apply hK)); clear hK; (try clear K); (try dsimp only [behind, qs, qb])))
  exact cF rfl rfl rfl rfl (by exact must_fail (by decide)) (fun _ _ h => h)
theorem have_ok {h0 h : PH} [Le h0 h] {v : Value} {x : Rat} (hv : Cn h0 v x) : Spec mach 71 #[v, .int .i64 0] h (fun w _ => w = v) NP := by
  obtain ⟨_, _, _, _, _, _, _, rfl, hv⟩ := hv.sa
  refine Spec.enter (args := [_, _]) (n := 8) Tryz.func71 rfl (by kernel_rfl) rfl (by simp) [.cell 4 24] rfl (fun C _ => ?_)
  repeat (first | (refine wo rfl (fun k hk => ?_); simp (disch := omega) only [go_sem, Nat.reduceBEq, Nat.reduceAdd]; refine hk _ _ ?_; clear hk k) | refine wkt rfl ?_ | refine wk0 ?_ | refine rg rfl rfl (fun K hK => ?_) | ((first | refine AWP_exit ?_ | refine AWP_skip ?_); simp (disch := decide) only [qs, qb, if_true, if_false, reduceIte]) | refine AWP_sq rfl (fun K hK => ?_) | refine ct rfl ?_ | ((try simp (disch := omega) only [go_sem, Nat.reduceBEq, Nat.reduceAdd]); (first | apply hK | (clear hK; apply hK) | (clear hK; clear hK; apply hK)); clear hK; (try clear K); (try dsimp only [behind, qs, qb])))
  refine cN rfl rfl rfl rfl (by exact must_ok) ?_; rintro v1 h1 s1 _
  repeat (first | (refine wo rfl (fun k hk => ?_); simp (disch := omega) only [go_sem, Nat.reduceBEq, Nat.reduceAdd]; refine hk _ _ ?_; clear hk k) | refine wkt rfl ?_ | refine wk0 ?_ | refine rg rfl rfl (fun K hK => ?_) | ((first | refine AWP_exit ?_ | refine AWP_skip ?_); simp (disch := decide) only [qs, qb, if_true, if_false, reduceIte]) | refine AWP_sq rfl (fun K hK => ?_) | refine ct rfl ?_ | ((try simp (disch := omega) only [go_sem, Nat.reduceBEq, Nat.reduceAdd]); (first | apply hK | (clear hK; apply hK) | (clear hK; clear hK; apply hK)); clear hK; (try clear K); (try dsimp only [behind, qs, qb])))
  refine AWP_ret ?_; simp (disch := omega) only [go_sem, Nat.reduceBEq, Nat.reduceAdd]
  all_goals exact rfl
theorem have_fail {h : PH} {e : Int} (he : e ≠ 0) : Spec mach 71 #[zRat, .int .i64 e] h NR (fail e) := by
  unfold zRat
  refine Spec.enter (args := [_, _]) (n := 8) Tryz.func71 rfl (by kernel_rfl) rfl (by simp) [.cell 4 24] rfl (fun C _ => ?_)
  repeat (first | (refine wo rfl (fun k hk => ?_); simp (disch := omega) only [go_sem, Nat.reduceBEq, Nat.reduceAdd]; refine hk _ _ ?_; clear hk k) | refine wkt rfl ?_ | refine wk0 ?_ | refine rg rfl rfl (fun K hK => ?_) | ((first | refine AWP_exit ?_ | refine AWP_skip ?_); simp (disch := decide) only [qs, qb, if_true, if_false, reduceIte]) | refine AWP_sq rfl (fun K hK => ?_) | refine ct rfl ?_ | ((try simp (disch := omega) only [go_sem, Nat.reduceBEq, Nat.reduceAdd]); (first | apply hK | (clear hK; apply hK) | (clear hK; clear hK; apply hK)); clear hK; (try clear K); (try dsimp only [behind, qs, qb])))
  exact cF rfl rfl rfl rfl (by exact must_fail he) (fun _ _ h => h)
end Go.Q
namespace Go.Q
open Go.Proofs
set_option maxRecDepth 100000
set_option maxHeartbeats 4000000
structure PS where
  lo : Rat
  hi : Rat
  l : Bool
  u : Bool
  e : Bool
def Iw (h : PH) (v : Value) (n1 : Bool) (a1 d1 : Nat) (n2 : Bool) (a2 d2 : Nat) (l u : Bool) : Prop :=
  ∃ x1 y1 x2 y2, v = .agg #[.bool n1, x1, y1, .bool n2, x2, y2, .bool l, .bool u] ∧ Rw h (.agg #[.bool n1, x1, y1]) n1 a1 d1 ∧ Rw h (.agg #[.bool n2, x2, y2]) n2 a2 d2
def Sr (h : PH) (v : Value) (s : PS) : Prop := ∃ b1 x1 y1 b2 x2 y2, v = .agg #[.bool b1, x1, y1, .bool b2, x2, y2, .bool s.l, .bool s.u, .bool s.e] ∧ (∃ n d, Jk h b1 x1 y1 n d) ∧ (∃ n d, Jk h b2 x2 y2 n d) ∧
  (s.l = false → s.e = false → Fr h (.agg #[.bool b1, x1, y1]) s.lo) ∧ (s.u = false → s.e = false → Fr h (.agg #[.bool b2, x2, y2]) s.hi)
def Sf (h : PH) (v : Value) (s : PS) : Prop := ∃ b1 x1 y1 b2 x2 y2, v = .agg #[.bool b1, x1, y1, .bool b2, x2, y2, .bool s.l, .bool s.u, .bool s.e] ∧ Fr h (.agg #[.bool b1, x1, y1]) s.lo ∧ Fr h (.agg #[.bool b2, x2, y2]) s.hi
theorem Sf.to {h h' : PH} {v : Value} {s : PS} (r : Sf h v s) [Le h h'] : Sf h' v s := let ⟨a, b, c, d, e, f, h1, h2, h3⟩ := r; ⟨a, b, c, d, e, f, h1, h2.to, h3.to⟩
theorem Sr.to {h h' : PH} {v : Value} {s : PS} (r : Sr h v s) [Le h h'] : Sr h' v s := let ⟨a, b, c, d, e, f, h1, ⟨m, n, h2⟩, ⟨m', n', h3⟩, h4, h5⟩ := r; ⟨a, b, c, d, e, f, h1, ⟨m, n, h2.to⟩, ⟨m', n', h3.to⟩, fun x y => (h4 x y).to, fun x y => (h5 x y).to⟩
theorem Fr.jk' {h : PH} {b : Bool} {x y : Value} {q : Rat} (r : Fr h (.agg #[.bool b, x, y]) q) : Jk h b x y q.num.natAbs q.den := by
  obtain ⟨sn, sd, h1, h2, h3⟩ := r
  simp only [Value.agg.injEq, Array.mk.injEq, List.cons.injEq, and_true] at h1
  obtain ⟨_, rfl, rfl⟩ := h1
  exact ⟨h2, h3⟩
theorem Sf.sr {h : PH} {v : Value} {s : PS} (r : Sf h v s) : Sr h v s := let ⟨a, b, c, d, e, f, h1, h2, h3⟩ := r; ⟨a, b, c, d, e, f, h1, ⟨_, _, h2.jk'⟩, ⟨_, _, h3.jk'⟩, fun _ _ => h2, fun _ _ => h3⟩
def rdS (q1 q2 : Rat) (l u : Bool) : PS := ⟨q1, q2, l, u, !l && !u && decide (q2 < q1)⟩
theorem read_ok {h0 h : PH} [Le h0 h] {v : Value} {n1 n2 : Bool} {a1 d1 a2 d2 : Nat} {l u : Bool} (hv : Iw h0 v n1 a1 d1 n2 a2 d2 l u) (g1 : ¬ lg n1 a1 d1) (g2 : ¬ lg n2 a2 d2) :
    Spec mach 45 #[v] h (fun v h' => Sf h' v (rdS (qof n1 a1 d1) (qof n2 a2 d2) l u)) NP := by
  obtain ⟨x1, y1, x2, y2, rfl, hx, hy⟩ := hv
  have hx0 := hx
  have hy0 := hy
  obtain ⟨_, _, _, _, _, _, e1, _⟩ := hx
  obtain ⟨_, _, _, _, _, _, e2, _⟩ := hy
  simp only [Value.agg.injEq, Array.mk.injEq, List.cons.injEq, and_true, true_and] at e1 e2
  obtain ⟨rfl, rfl⟩ := e1
  obtain ⟨rfl, rfl⟩ := e2
  refine Spec.enter (args := [_]) (n := 33) Tryz.func45 rfl (by kernel_rfl) rfl (by simp) [.cell 2 67] rfl (fun C _ => ?_)
  repeat (first | (refine rg rfl rfl (fun K hK => ?_); (repeat (first | (refine wo rfl (fun k hk => ?_); simp (disch := omega) only [go_sem, Nat.reduceBEq, Nat.reduceAdd]; refine hk _ _ ?_; clear hk k) | refine wkt rfl ?_)); (try refine wk0 ?_); refine hK _ _ ?_; clear hK K; (try dsimp only [behind, qs, qb])) | ((first | refine AWP_exit ?_ | refine AWP_skip ?_); simp (disch := decide) only [qs, qb, if_true, if_false, reduceIte]) | refine AWP_sq rfl (fun K hK => ?_) | refine ct rfl ?_ | ((first | refine hK _ _ ?_ | (clear hK; refine hK _ _ ?_) | (clear hK; clear hK; refine hK _ _ ?_)); clear hK; (try clear K)))
  have z1 : sz (qof n1 a1 d1) ≤ 2048 := by unfold lg at g1; omega
  have z2 : sz (qof n2 a2 d2) ≤ 2048 := by unfold lg at g2; omega
  obtain ⟨q1, hq1⟩ : ∃ q, qof n1 a1 d1 = q := ⟨_, rfl⟩
  obtain ⟨q2, hq2⟩ : ∃ q, qof n2 a2 d2 = q := ⟨_, rfl⟩
  rw [hq1] at z1 ⊢
  rw [hq2] at z2 ⊢
  (first | refine AWP_t (.seg [.o 0, .o 1, .o 3, .o 4, .o 6, .o 7, .o 8, .o 9] (.alt 2 (.alt 5 (.seg [.o 10] (.alt 11 (.alt 12 .done .no) .no)) (.alt 11 (.alt 5 (.seg [.o 10] (.alt 12 .done .no)) .no) .no)) (.alt 11 (.alt 2 (.alt 5 (.seg [.o 10] (.alt 12 .done .no)) .no) .no) .no))) (by decide +kernel) rfl (fun K hK => ?_) | refine AWP_tk (.seg [.o 0, .o 1, .o 3, .o 4, .o 6, .o 7, .o 8, .o 9] (.alt 2 (.alt 5 (.seg [.o 10] (.alt 11 (.alt 12 .done .no) .no)) (.alt 11 (.alt 5 (.seg [.o 10] (.alt 12 .done .no)) .no) .no)) (.alt 11 (.alt 2 (.alt 5 (.seg [.o 10] (.alt 12 .done .no)) .no) .no) .no))) (by decide +kernel) rfl (fun K hK => ?_))
  have rest : ∀ (b1 : Bool) (xa : Option Addr) (xl xc : Nat) (ya : Option Addr) (yl yc : Nat) (b2 : Bool) (xa' : Option Addr) (xl' xc' : Nat) (ya' : Option Addr) (yl' yc' : Nat) (h' : PH) (S : AS), Fr h' (.agg #[.bool b1, .slice xa xl xc, .slice ya yl yc]) q1 → Fr h' (.agg #[.bool b2, .slice xa' xl' xc', .slice ya' yl' yc']) q2 →
      S.le ⟨[(2, .p 1 0), (3, .p 2 0)], [[], [.bool false, .slice none 0 0, .slice none 0 0, .bool false, .slice none 0 0, .slice none 0 0, .bool false, .bool false, .bool false], [.bool b1, .slice xa xl xc, .slice ya yl yc, .bool b2, .slice xa' xl' xc', .slice ya' yl' yc', .bool l, .bool u, .bool false]]⟩ → K S h' := by
    intro b1 xa xl xc ya yl yc b2 xa' xl' xc' ya' yl' yc' h' S hf1 hf2 hS
    refine hK _ _ (AWP_le _ hS ?_); clear hK K
    cases l with
    | true =>
      (repeat (first | (refine rg rfl rfl (fun K hK => ?_); (repeat (first | (refine wo rfl (fun k hk => ?_); simp (disch := omega) only [go_sem, Nat.reduceBEq, Nat.reduceAdd]; refine hk _ _ ?_; clear hk k) | refine wkt rfl ?_)); (try refine wk0 ?_); refine hK _ _ ?_; clear hK K; (try dsimp only [behind, qs, qb])) | ((first | refine AWP_exit ?_ | refine AWP_skip ?_); simp (disch := decide) only [qs, qb, if_true, if_false, reduceIte]) | refine AWP_sq rfl (fun K hK => ?_) | refine ct rfl ?_ | ((first | refine hK _ _ ?_ | (clear hK; refine hK _ _ ?_) | (clear hK; clear hK; refine hK _ _ ?_)); clear hK; (try clear K))))
      refine AWP_ret ?_; simp (disch := omega) only [go_sem, Nat.reduceBEq, Nat.reduceAdd]
      exact ⟨_, _, _, _, _, _, rfl, hf1.to, hf2.to⟩
    | false =>
      cases u with
      | true =>
        (repeat (first | (refine rg rfl rfl (fun K hK => ?_); (repeat (first | (refine wo rfl (fun k hk => ?_); simp (disch := omega) only [go_sem, Nat.reduceBEq, Nat.reduceAdd]; refine hk _ _ ?_; clear hk k) | refine wkt rfl ?_)); (try refine wk0 ?_); refine hK _ _ ?_; clear hK K; (try dsimp only [behind, qs, qb])) | ((first | refine AWP_exit ?_ | refine AWP_skip ?_); simp (disch := decide) only [qs, qb, if_true, if_false, reduceIte]) | refine AWP_sq rfl (fun K hK => ?_) | refine ct rfl ?_ | ((first | refine hK _ _ ?_ | (clear hK; refine hK _ _ ?_) | (clear hK; clear hK; refine hK _ _ ?_)); clear hK; (try clear K))))
        refine AWP_ret ?_; simp (disch := omega) only [go_sem, Nat.reduceBEq, Nat.reduceAdd]
        exact ⟨_, _, _, _, _, _, rfl, hf1.to, hf2.to⟩
      | false =>
        by_cases hc : q2 < q1
        · have e1 : 0 < cmpQ q1 q2 := by unfold cmpQ; grind
          have e2 : rdS q1 q2 false false = ⟨q1, q2, false, false, true⟩ := by simp [rdS, hc]
          rw [e2]
          (repeat (first | (refine rg rfl rfl (fun K hK => ?_); (repeat (first | (refine wo rfl (fun k hk => ?_); simp (disch := omega) only [go_sem, Nat.reduceBEq, Nat.reduceAdd]; refine hk _ _ ?_; clear hk k) | refine wkt rfl ?_)); (try refine wk0 ?_); refine hK _ _ ?_; clear hK K; (try dsimp only [behind, qs, qb])) | ((first | refine AWP_exit ?_ | refine AWP_skip ?_); simp (disch := decide) only [qs, qb, if_true, if_false, reduceIte]) | refine AWP_sq rfl (fun K hK => ?_) | refine ct rfl ?_ | ((first | refine hK _ _ ?_ | (clear hK; refine hK _ _ ?_) | (clear hK; clear hK; refine hK _ _ ?_)); clear hK; (try clear K)))); (refine rg rfl rfl (fun K hK => ?_); (repeat (first | (refine wo rfl (fun k hk => ?_); simp (disch := omega) only [go_sem, Nat.reduceBEq, Nat.reduceAdd]; refine hk _ _ ?_; clear hk k) | refine wkt rfl ?_ | with_reducible refine wk0 ?_ | with_reducible refine wt_seg ?_ | with_reducible refine wt_alt ?_ wt_no | with_reducible refine wt_done ?_)))
          refine cN rfl rfl rfl rfl (by exact Cmp_frac hf1 hf2 (by omega) (by omega)) ?_; rintro v1 h1 s1 rfl; (repeat (first | (refine wo rfl (fun k hk => ?_); simp (disch := omega) only [go_sem, Nat.reduceBEq, Nat.reduceAdd]; refine hk _ _ ?_; clear hk k) | refine wkt rfl ?_ | with_reducible refine wk0 ?_ | with_reducible refine wt_seg ?_ | with_reducible refine wt_alt ?_ wt_no | with_reducible refine wt_done ?_))
          ((try (simp (disch := omega) only [go_sem, Nat.reduceBEq, Nat.reduceAdd])); refine hK _ _ ?_; clear hK; (try clear K); (try dsimp only [behind, qs])); (repeat (first | (refine rg rfl rfl (fun K hK => ?_); (repeat (first | (refine wo rfl (fun k hk => ?_); simp (disch := omega) only [go_sem, Nat.reduceBEq, Nat.reduceAdd]; refine hk _ _ ?_; clear hk k) | refine wkt rfl ?_)); (try refine wk0 ?_); refine hK _ _ ?_; clear hK K; (try dsimp only [behind, qs, qb])) | ((first | refine AWP_exit ?_ | refine AWP_skip ?_); simp (disch := decide) only [qs, qb, if_true, if_false, reduceIte]) | refine AWP_sq rfl (fun K hK => ?_) | refine ct rfl ?_ | ((first | refine hK _ _ ?_ | (clear hK; refine hK _ _ ?_) | (clear hK; clear hK; refine hK _ _ ?_)); clear hK; (try clear K))))
          refine AWP_ret ?_; simp (disch := omega) only [go_sem, Nat.reduceBEq, Nat.reduceAdd]
          exact ⟨_, _, _, _, _, _, rfl, hf1.to, hf2.to⟩
        · have e1 : ¬ 0 < cmpQ q1 q2 := by unfold cmpQ; grind
          have e2 : rdS q1 q2 false false = ⟨q1, q2, false, false, false⟩ := by simp [rdS, hc]
          rw [e2]
          (repeat (first | (refine rg rfl rfl (fun K hK => ?_); (repeat (first | (refine wo rfl (fun k hk => ?_); simp (disch := omega) only [go_sem, Nat.reduceBEq, Nat.reduceAdd]; refine hk _ _ ?_; clear hk k) | refine wkt rfl ?_)); (try refine wk0 ?_); refine hK _ _ ?_; clear hK K; (try dsimp only [behind, qs, qb])) | ((first | refine AWP_exit ?_ | refine AWP_skip ?_); simp (disch := decide) only [qs, qb, if_true, if_false, reduceIte]) | refine AWP_sq rfl (fun K hK => ?_) | refine ct rfl ?_ | ((first | refine hK _ _ ?_ | (clear hK; refine hK _ _ ?_) | (clear hK; clear hK; refine hK _ _ ?_)); clear hK; (try clear K)))); (refine rg rfl rfl (fun K hK => ?_); (repeat (first | (refine wo rfl (fun k hk => ?_); simp (disch := omega) only [go_sem, Nat.reduceBEq, Nat.reduceAdd]; refine hk _ _ ?_; clear hk k) | refine wkt rfl ?_ | with_reducible refine wk0 ?_ | with_reducible refine wt_seg ?_ | with_reducible refine wt_alt ?_ wt_no | with_reducible refine wt_done ?_)))
          refine cN rfl rfl rfl rfl (by exact Cmp_frac hf1 hf2 (by omega) (by omega)) ?_; rintro v1 h1 s1 rfl; (repeat (first | (refine wo rfl (fun k hk => ?_); simp (disch := omega) only [go_sem, Nat.reduceBEq, Nat.reduceAdd]; refine hk _ _ ?_; clear hk k) | refine wkt rfl ?_ | with_reducible refine wk0 ?_ | with_reducible refine wt_seg ?_ | with_reducible refine wt_alt ?_ wt_no | with_reducible refine wt_done ?_))
          ((try (simp (disch := omega) only [go_sem, Nat.reduceBEq, Nat.reduceAdd])); refine hK _ _ ?_; clear hK; (try clear K); (try dsimp only [behind, qs])); (repeat (first | (refine rg rfl rfl (fun K hK => ?_); (repeat (first | (refine wo rfl (fun k hk => ?_); simp (disch := omega) only [go_sem, Nat.reduceBEq, Nat.reduceAdd]; refine hk _ _ ?_; clear hk k) | refine wkt rfl ?_)); (try refine wk0 ?_); refine hK _ _ ?_; clear hK K; (try dsimp only [behind, qs, qb])) | ((first | refine AWP_exit ?_ | refine AWP_skip ?_); simp (disch := decide) only [qs, qb, if_true, if_false, reduceIte]) | refine AWP_sq rfl (fun K hK => ?_) | refine ct rfl ?_ | ((first | refine hK _ _ ?_ | (clear hK; refine hK _ _ ?_) | (clear hK; clear hK; refine hK _ _ ?_)); clear hK; (try clear K))))
          refine AWP_ret ?_; simp (disch := omega) only [go_sem, Nat.reduceBEq, Nat.reduceAdd]
          exact ⟨_, _, _, _, _, _, rfl, hf1.to, hf2.to⟩
  (repeat (first | (refine wo rfl (fun k hk => ?_); simp (disch := omega) only [go_sem, Nat.reduceBEq, Nat.reduceAdd]; refine hk _ _ ?_; clear hk k) | refine wkt rfl ?_ | with_reducible refine wk0 ?_ | with_reducible refine wt_seg ?_ | with_reducible refine wt_alt ?_ wt_no | with_reducible refine wt_done ?_))
  refine wt_alt ?_ (wt_alt ?_ wt_no)
  · refine cN rfl rfl rfl rfl (by exact number_ok hx0 g1) ?_; rintro v1 h1 _ hv1; obtain ⟨v1_0, v1_1, v1_2, v1_3, v1_4, v1_5, v1_6, rfl, hv1⟩ := hv1.sa; (repeat (first | (refine wo rfl (fun k hk => ?_); simp (disch := omega) only [go_sem, Nat.reduceBEq, Nat.reduceAdd]; refine hk _ _ ?_; clear hk k) | refine wkt rfl ?_ | with_reducible refine wk0 ?_ | with_reducible refine wt_seg ?_ | with_reducible refine wt_alt ?_ wt_no | with_reducible refine wt_done ?_))
    refine wt_alt ?_ (wt_alt ?_ wt_no)
    · refine cN rfl rfl rfl rfl (by exact number_ok hy0 g2) ?_; rintro v2 h2 _ hv2; obtain ⟨v2_0, v2_1, v2_2, v2_3, v2_4, v2_5, v2_6, rfl, hv2⟩ := hv2.sa; (repeat (first | (refine wo rfl (fun k hk => ?_); simp (disch := omega) only [go_sem, Nat.reduceBEq, Nat.reduceAdd]; refine hk _ _ ?_; clear hk k) | refine wkt rfl ?_ | with_reducible refine wk0 ?_ | with_reducible refine wt_seg ?_ | with_reducible refine wt_alt ?_ wt_no | with_reducible refine wt_done ?_))
      rw [hq1] at hv1
      rw [hq2] at hv2
      refine rest _ _ _ _ _ _ _ _ _ _ _ _ _ _ _ _ hv1.to hv2 ?_
      simp (disch := omega) only [go_sem, Nat.reduceBEq, Nat.reduceAdd, true_or]
    · (repeat (first | (refine wo rfl (fun k hk => ?_); simp (disch := omega) only [go_sem, Nat.reduceBEq, Nat.reduceAdd]; refine hk _ _ ?_; clear hk k) | refine wkt rfl ?_ | with_reducible refine wk0 ?_ | with_reducible refine wt_seg ?_ | with_reducible refine wt_alt ?_ wt_no | with_reducible refine wt_done ?_))
      refine cN rfl rfl rfl rfl (by exact number_ok hy0 g2) ?_; rintro v2 h2 _ hv2; obtain ⟨v2_0, v2_1, v2_2, v2_3, v2_4, v2_5, v2_6, rfl, hv2⟩ := hv2.sa; (repeat (first | (refine wo rfl (fun k hk => ?_); simp (disch := omega) only [go_sem, Nat.reduceBEq, Nat.reduceAdd]; refine hk _ _ ?_; clear hk k) | refine wkt rfl ?_ | with_reducible refine wk0 ?_ | with_reducible refine wt_seg ?_ | with_reducible refine wt_alt ?_ wt_no | with_reducible refine wt_done ?_))
      rw [hq1] at hv1
      rw [hq2] at hv2
      refine rest _ _ _ _ _ _ _ _ _ _ _ _ _ _ _ _ hv1.to hv2 ?_
      simp (disch := omega) only [go_sem, Nat.reduceBEq, Nat.reduceAdd, true_or]
  · (repeat (first | (refine wo rfl (fun k hk => ?_); simp (disch := omega) only [go_sem, Nat.reduceBEq, Nat.reduceAdd]; refine hk _ _ ?_; clear hk k) | refine wkt rfl ?_ | with_reducible refine wk0 ?_ | with_reducible refine wt_seg ?_ | with_reducible refine wt_alt ?_ wt_no | with_reducible refine wt_done ?_))
    refine cN rfl rfl rfl rfl (by exact number_ok hx0 g1) ?_; rintro v1 h1 _ hv1; obtain ⟨v1_0, v1_1, v1_2, v1_3, v1_4, v1_5, v1_6, rfl, hv1⟩ := hv1.sa; (repeat (first | (refine wo rfl (fun k hk => ?_); simp (disch := omega) only [go_sem, Nat.reduceBEq, Nat.reduceAdd]; refine hk _ _ ?_; clear hk k) | refine wkt rfl ?_ | with_reducible refine wk0 ?_ | with_reducible refine wt_seg ?_ | with_reducible refine wt_alt ?_ wt_no | with_reducible refine wt_done ?_))
    refine cN rfl rfl rfl rfl (by exact number_ok hy0 g2) ?_; rintro v2 h2 _ hv2; obtain ⟨v2_0, v2_1, v2_2, v2_3, v2_4, v2_5, v2_6, rfl, hv2⟩ := hv2.sa; (repeat (first | (refine wo rfl (fun k hk => ?_); simp (disch := omega) only [go_sem, Nat.reduceBEq, Nat.reduceAdd]; refine hk _ _ ?_; clear hk k) | refine wkt rfl ?_ | with_reducible refine wk0 ?_ | with_reducible refine wt_seg ?_ | with_reducible refine wt_alt ?_ wt_no | with_reducible refine wt_done ?_))
    rw [hq1] at hv1
    rw [hq2] at hv2
    refine rest _ _ _ _ _ _ _ _ _ _ _ _ _ _ _ _ hv1.to hv2 ?_
    simp (disch := omega) only [go_sem, Nat.reduceBEq, Nat.reduceAdd, true_or]
theorem read_fail {h0 h : PH} [Le h0 h] {v : Value} {n1 n2 : Bool} {a1 d1 a2 d2 : Nat} {l u : Bool} (hv : Iw h0 v n1 a1 d1 n2 a2 d2 l u) (g : lg n1 a1 d1 ∨ lg n2 a2 d2) :
    Spec mach 45 #[v] h NR (fail 1) := by
  obtain ⟨x1, y1, x2, y2, rfl, hx, hy⟩ := hv
  have hx0 := hx
  have hy0 := hy
  obtain ⟨_, _, _, _, _, _, e1, _⟩ := hx
  obtain ⟨_, _, _, _, _, _, e2, _⟩ := hy
  simp only [Value.agg.injEq, Array.mk.injEq, List.cons.injEq, and_true, true_and] at e1 e2
  obtain ⟨rfl, rfl⟩ := e1
  obtain ⟨rfl, rfl⟩ := e2
  refine Spec.enter (args := [_]) (n := 33) Tryz.func45 rfl (by kernel_rfl) rfl (by simp) [.cell 2 67] rfl (fun C _ => ?_)
  repeat (first | (refine rg rfl rfl (fun K hK => ?_); (repeat (first | (refine wo rfl (fun k hk => ?_); simp (disch := omega) only [go_sem, Nat.reduceBEq, Nat.reduceAdd]; refine hk _ _ ?_; clear hk k) | refine wkt rfl ?_)); (try refine wk0 ?_); refine hK _ _ ?_; clear hK K; (try dsimp only [behind, qs, qb])) | ((first | refine AWP_exit ?_ | refine AWP_skip ?_); simp (disch := decide) only [qs, qb, if_true, if_false, reduceIte]) | refine AWP_sq rfl (fun K hK => ?_) | refine ct rfl ?_ | ((first | refine hK _ _ ?_ | (clear hK; refine hK _ _ ?_) | (clear hK; clear hK; refine hK _ _ ?_)); clear hK; (try clear K)))
  (first | refine AWP_t (.seg [.o 0, .o 1, .o 3, .o 4, .o 6, .o 7, .o 8, .o 9] (.alt 2 (.alt 5 (.seg [.o 10] (.alt 11 (.alt 12 .done .no) .no)) (.alt 11 (.alt 5 (.seg [.o 10] (.alt 12 .done .no)) .no) .no)) (.alt 11 (.alt 2 (.alt 5 (.seg [.o 10] (.alt 12 .done .no)) .no) .no) .no))) (by decide +kernel) rfl (fun K hK => ?_) | refine AWP_tk (.seg [.o 0, .o 1, .o 3, .o 4, .o 6, .o 7, .o 8, .o 9] (.alt 2 (.alt 5 (.seg [.o 10] (.alt 11 (.alt 12 .done .no) .no)) (.alt 11 (.alt 5 (.seg [.o 10] (.alt 12 .done .no)) .no) .no)) (.alt 11 (.alt 2 (.alt 5 (.seg [.o 10] (.alt 12 .done .no)) .no) .no) .no))) (by decide +kernel) rfl (fun K hK => ?_))
  (repeat (first | (refine wo rfl (fun k hk => ?_); simp (disch := omega) only [go_sem, Nat.reduceBEq, Nat.reduceAdd]; refine hk _ _ ?_; clear hk k) | refine wkt rfl ?_ | with_reducible refine wk0 ?_ | with_reducible refine wt_seg ?_ | with_reducible refine wt_alt ?_ wt_no | with_reducible refine wt_done ?_))
  by_cases g1 : lg n1 a1 d1
  · refine wt_alt ?_ (wt_alt ?_ wt_no)
    · exact cF rfl rfl rfl rfl (by exact number_fail hx0 g1) (fun _ _ h => h)
    · (repeat (first | (refine wo rfl (fun k hk => ?_); simp (disch := omega) only [go_sem, Nat.reduceBEq, Nat.reduceAdd]; refine hk _ _ ?_; clear hk k) | refine wkt rfl ?_ | with_reducible refine wk0 ?_ | with_reducible refine wt_seg ?_ | with_reducible refine wt_alt ?_ wt_no | with_reducible refine wt_done ?_))
      exact cF rfl rfl rfl rfl (by exact number_fail hx0 g1) (fun _ _ h => h)
  · have g2 := g.resolve_left g1
    refine wt_alt ?_ (wt_alt ?_ wt_no)
    · refine cN rfl rfl rfl rfl (by exact number_ok hx0 g1) ?_; rintro v1 h1 _ hv1; obtain ⟨v1_0, v1_1, v1_2, v1_3, v1_4, v1_5, v1_6, rfl, hv1⟩ := hv1.sa; (repeat (first | (refine wo rfl (fun k hk => ?_); simp (disch := omega) only [go_sem, Nat.reduceBEq, Nat.reduceAdd]; refine hk _ _ ?_; clear hk k) | refine wkt rfl ?_ | with_reducible refine wk0 ?_ | with_reducible refine wt_seg ?_ | with_reducible refine wt_alt ?_ wt_no | with_reducible refine wt_done ?_))
      refine wt_alt ?_ (wt_alt ?_ wt_no)
      · exact cF rfl rfl rfl rfl (by exact number_fail hy0 g2) (fun _ _ h => h)
      · (repeat (first | (refine wo rfl (fun k hk => ?_); simp (disch := omega) only [go_sem, Nat.reduceBEq, Nat.reduceAdd]; refine hk _ _ ?_; clear hk k) | refine wkt rfl ?_ | with_reducible refine wk0 ?_ | with_reducible refine wt_seg ?_ | with_reducible refine wt_alt ?_ wt_no | with_reducible refine wt_done ?_))
        exact cF rfl rfl rfl rfl (by exact number_fail hy0 g2) (fun _ _ h => h)
    · (repeat (first | (refine wo rfl (fun k hk => ?_); simp (disch := omega) only [go_sem, Nat.reduceBEq, Nat.reduceAdd]; refine hk _ _ ?_; clear hk k) | refine wkt rfl ?_ | with_reducible refine wk0 ?_ | with_reducible refine wt_seg ?_ | with_reducible refine wt_alt ?_ wt_no | with_reducible refine wt_done ?_))
      refine cN rfl rfl rfl rfl (by exact number_ok hx0 g1) ?_; rintro v1 h1 _ hv1; obtain ⟨v1_0, v1_1, v1_2, v1_3, v1_4, v1_5, v1_6, rfl, hv1⟩ := hv1.sa; (repeat (first | (refine wo rfl (fun k hk => ?_); simp (disch := omega) only [go_sem, Nat.reduceBEq, Nat.reduceAdd]; refine hk _ _ ?_; clear hk k) | refine wkt rfl ?_ | with_reducible refine wk0 ?_ | with_reducible refine wt_seg ?_ | with_reducible refine wt_alt ?_ wt_no | with_reducible refine wt_done ?_))
      exact cF rfl rfl rfl rfl (by exact number_fail hy0 g2) (fun _ _ h => h)
end Go.Q
namespace Go.Q
open Go.Proofs
set_option maxRecDepth 100000
set_option maxHeartbeats 4000000
theorem Jk.sl {h : PH} {b : Bool} {x y : Value} {n d : Nat} (r : Jk h b x y n d) : ∃ na nl nc da dl dc, x = .slice na nl nc ∧ y = .slice da dl dc := by
  obtain ⟨_, _, _, rfl, _⟩ := r.num.sl
  obtain ⟨_, _, _, rfl, _⟩ := r.den.sl
  exact ⟨_, _, _, _, _, _, rfl, rfl⟩
def PS.fin (s : PS) (k : Nat) : Prop := (s.l = false → s.e = false → sz s.lo ≤ k) ∧ (s.u = false → s.e = false → sz s.hi ≤ k)
theorem Sr.parts {h : PH} {v : Value} {s : PS} (r : Sr h v s) : ∃ b1 a1 m1 c1 a2 m2 c2 b2 a3 m3 c3 a4 m4 c4, v = .agg #[.bool b1, .slice a1 m1 c1, .slice a2 m2 c2, .bool b2, .slice a3 m3 c3, .slice a4 m4 c4, .bool s.l, .bool s.u, .bool s.e] ∧
    (∃ n d, Jk h b1 (.slice a1 m1 c1) (.slice a2 m2 c2) n d) ∧ (∃ n d, Jk h b2 (.slice a3 m3 c3) (.slice a4 m4 c4) n d) ∧
    (s.l = false → s.e = false → Fr h (.agg #[.bool b1, .slice a1 m1 c1, .slice a2 m2 c2]) s.lo) ∧ (s.u = false → s.e = false → Fr h (.agg #[.bool b2, .slice a3 m3 c3, .slice a4 m4 c4]) s.hi) := by
  obtain ⟨b1, x1, y1, b2, x2, y2, rfl, ⟨n, d, j1⟩, ⟨n', d', j2⟩, f1, f2⟩ := r
  obtain ⟨_, _, _, _, _, _, rfl, rfl⟩ := j1.sl
  obtain ⟨_, _, _, _, _, _, rfl, rfl⟩ := j2.sl
  exact ⟨_, _, _, _, _, _, _, _, _, _, _, _, _, _, rfl, ⟨n, d, j1⟩, ⟨n', d', j2⟩, f1, f2⟩
def hullS (s : PS) (p : Nat) : PS := ⟨gdown s.lo p, gup s.hi p, s.l, s.u, s.e⟩
theorem hull_spec {h0 h : PH} [Le h0 h] {v : Value} {s : PS} {p : Nat} (hv : Sr h0 v s) (hf : s.fin (2 ^ 30)) (hp : p ≤ 2 ^ 30) :
    Spec mach 67 #[v, .int .i64 p] h (fun v h' => Sr h' v (hullS s p)) NP := by
  obtain ⟨lo, hi, l, u, e⟩ := s
  obtain ⟨b1, a1, m1, c1, a2, m2, c2, b2, a3, m3, c3, a4, m4, c4, rfl, ⟨n, d, j1⟩, ⟨n', d', j2⟩, f1, f2⟩ := hv.parts
  obtain ⟨k1, k2⟩ := hf
  dsimp only at f1 f2 k1 k2 ⊢
  refine Spec.go [] Tryz.func67 rfl rfl (by kernel_rfl) fun C _ => ?_
  try simp (maxSteps := 999999) (disch := omega) only [go_sem, Nat.reduceBEq, Nat.reduceAdd]
  cases e with
  | true =>
    try simp (maxSteps := 999999) (disch := omega) only [go_sem, Nat.reduceBEq, Nat.reduceAdd]
    exact ⟨_, _, _, _, _, _, rfl, ⟨n, d, j1.to⟩, ⟨n', d', j2.to⟩, (fun _ e => by cases e), (fun _ e => by cases e)⟩
  | false =>
    cases l with
    | true =>
      cases u with
      | true =>
        try simp (maxSteps := 999999) (disch := omega) only [go_sem, Nat.reduceBEq, Nat.reduceAdd]
        exact ⟨_, _, _, _, _, _, rfl, ⟨n, d, j1.to⟩, ⟨n', d', j2.to⟩, (fun e _ => by cases e), (fun e _ => by cases e)⟩
      | false =>
        have g2 := f2 rfl rfl
        have z2 := k2 rfl rfl
        try simp (maxSteps := 999999) (disch := omega) only [go_sem, Nat.reduceBEq, Nat.reduceAdd]
        refine caN (by exact Grid_spec (p := p) (u := true) g2 (by omega) (by omega)) ?_; rintro _ h1 _ hv1; obtain ⟨_, _, _, _, _, _, _, rfl, hv1⟩ := hv1.sa
        try simp (maxSteps := 999999) (disch := omega) only [go_sem, Nat.reduceBEq, Nat.reduceAdd]
        exact ⟨_, _, _, _, _, _, rfl, ⟨n, d, j1.to⟩, ⟨_, _, hv1.jk'⟩, (fun e _ => by cases e), fun _ _ => hv1⟩
    | false =>
      have g1 := f1 rfl rfl
      have z1 := k1 rfl rfl
      cases u with
      | true =>
        try simp (maxSteps := 999999) (disch := omega) only [go_sem, Nat.reduceBEq, Nat.reduceAdd]
        refine caN (by exact Grid_spec (p := p) (u := false) g1 (by omega) (by omega)) ?_; rintro _ h1 _ hv1; obtain ⟨_, _, _, _, _, _, _, rfl, hv1⟩ := hv1.sa
        try simp (maxSteps := 999999) (disch := omega) only [go_sem, Nat.reduceBEq, Nat.reduceAdd]
        exact ⟨_, _, _, _, _, _, rfl, ⟨_, _, hv1.jk'⟩, ⟨n', d', j2.to⟩, fun _ _ => hv1, (fun e _ => by cases e)⟩
      | false =>
        have g2 := f2 rfl rfl
        have z2 := k2 rfl rfl
        try simp (maxSteps := 999999) (disch := omega) only [go_sem, Nat.reduceBEq, Nat.reduceAdd]
        refine caN (by exact Grid_spec (p := p) (u := false) g1 (by omega) (by omega)) ?_; rintro _ h1 _ hv1; obtain ⟨_, _, _, _, _, _, _, rfl, hv1⟩ := hv1.sa
        try simp (maxSteps := 999999) (disch := omega) only [go_sem, Nat.reduceBEq, Nat.reduceAdd]
        refine caN (by exact Grid_spec (p := p) (u := true) g2 (by omega) (by omega)) ?_; rintro _ h2 _ hv2; obtain ⟨_, _, _, _, _, _, _, rfl, hv2⟩ := hv2.sa
        try simp (maxSteps := 999999) (disch := omega) only [go_sem, Nat.reduceBEq, Nat.reduceAdd]
        exact ⟨_, _, _, _, _, _, rfl, ⟨_, _, hv1.to.jk'⟩, ⟨_, _, hv2.jk'⟩, fun _ _ => hv1.to, fun _ _ => hv2⟩
theorem N32.inj {h : PH} {v : Value} {m n : Nat} (r : N32 h v m) (q : N32 h v n) : m = n := by
  obtain ⟨a, c, rfl, A⟩ := r
  obtain ⟨a', c', h2, A'⟩ := q
  simp only [Value.slice.injEq] at h2
  obtain ⟨rfl, hl, rfl⟩ := h2
  have : W 4294967296 m = W 4294967296 n := by
    refine List.ext_getElem hl (fun i h1 h2 => ?_)
    obtain ⟨ad, e1, e2⟩ := A.at_ i _ (List.getElem?_eq_getElem h1)
    obtain ⟨ad', e3, e4⟩ := A'.at_ i _ (List.getElem?_eq_getElem h2)
    obtain rfl : ad = ad' := by rw [e1] at e3; exact Option.some.inj e3
    rw [e2] at e4
    simp only [Option.some.injEq, Value.int.injEq, true_and] at e4
    omega
  rw [← val_W B32 m, this, val_W B32]
theorem Fr.neg {h : PH} {b : Bool} {x y : Value} {n d : Nat} {q : Rat} (r : Fr h (.agg #[.bool b, x, y]) q) (j : Jk h b x y n d) : Fr h (.agg #[.bool (!b && !decide (n = 0)), x, y]) (-q) := by
  obtain ⟨sn, sd, h1, h2, h3⟩ := r
  simp only [Value.agg.injEq, Array.mk.injEq, List.cons.injEq, and_true, Value.bool.injEq] at h1
  obtain ⟨rfl, rfl, rfl⟩ := h1
  obtain rfl := j.num.inj h2
  refine ⟨x, y, ?_, by simpa using h2, by simpa using h3⟩
  have : (!decide (q.num < 0) && !decide (q.num.natAbs = 0)) = decide ((-q).num < 0) := by
    rw [Bool.eq_iff_iff]; simp only [Bool.and_eq_true, Bool.not_eq_true', decide_eq_false_iff_not, decide_eq_true_eq, Rat.neg_num]; omega
  rw [this]
def minusS (s : PS) : PS := ⟨-s.hi, -s.lo, s.u, s.l, s.e⟩
theorem minus_spec {h0 h : PH} [Le h0 h] {v : Value} {s : PS} (hv : Sr h0 v s) :
    Spec mach 55 #[v] h (fun v h' => Sr h' v (minusS s)) NP := by
  obtain ⟨lo, hi, l, u, e⟩ := s
  obtain ⟨b1, a1, m1, c1, a2, m2, c2, b2, a3, m3, c3, a4, m4, c4, rfl, ⟨n, d, j1⟩, ⟨n', d', j2⟩, f1, f2⟩ := hv.parts
  dsimp only at f1 f2 ⊢
  refine Spec.go [(1, .o [0, 1, 3, 4, 6, 7, 8, 9, 10, 11, 2, 5, 12, 13])] Tryz.func55 rfl rfl (by kernel_rfl) fun C _ => ?_
  try simp (maxSteps := 999999) (disch := omega) only [go_sem, Nat.reduceBEq, Nat.reduceAdd]
  refine caN (by exact Opposite_raw j2) ?_; rintro v1 h1 s1 rfl
  try simp (maxSteps := 999999) (disch := omega) only [go_sem, Nat.reduceBEq, Nat.reduceAdd]
  refine caN (by exact Opposite_raw j1) ?_; rintro v2 h2 s2 rfl
  try simp (maxSteps := 999999) (disch := omega) only [go_sem, Nat.reduceBEq, Nat.reduceAdd]
  exact ⟨_, _, _, _, _, _, rfl, ⟨n', d', j2.num.to, j2.den.to⟩, ⟨n, d, j1.num.to, j1.den.to⟩, fun x y => ((f2 x y).neg j2).to, fun x y => ((f1 x y).neg j1).to⟩
end Go.Q
namespace Go.Q
open Go.Proofs
set_option maxRecDepth 100000
set_option maxHeartbeats 4000000
theorem Cn.zero (h : PH) : Cn h (.agg #[.bool false, .slice none 0 0, .slice none 0 0]) 0 := ⟨.slice none 0 0, .slice none 0 0, by simp, by simpa using N32.zero h, by simpa using N32.zero h⟩
def canS (s : PS) : PS := if s.e then ⟨1, 0, false, false, true⟩ else ⟨if s.l then 0 else s.lo, if s.u then 0 else s.hi, s.l, s.u, false⟩
def Ci (h : PH) (v : Value) (c : PS) : Prop := ∃ b1 x1 y1 b2 x2 y2, v = .agg #[.bool b1, x1, y1, .bool b2, x2, y2, .bool c.l, .bool c.u] ∧ Cn h (.agg #[.bool b1, x1, y1]) c.lo ∧ Cn h (.agg #[.bool b2, x2, y2]) c.hi
theorem Ci.to {h h' : PH} {v : Value} {s : PS} (r : Ci h v s) [Le h h'] : Ci h' v s := let ⟨a, b, c, d, e, f, h1, h2, h3⟩ := r; ⟨a, b, c, d, e, f, h1, h2.to, h3.to⟩
theorem give_ok {h0 h : PH} [Le h0 h] {v : Value} {s : PS} (hv : Sr h0 v s) (hf : s.fin 2048) :
    Spec mach 77 #[v] h (fun v h' => Ci h' v (canS s)) NP := by
  obtain ⟨lo, hi, l, u, e⟩ := s
  obtain ⟨b1, a1, m1, c1, a2, m2, c2, b2, a3, m3, c3, a4, m4, c4, rfl, ⟨n, d, j1⟩, ⟨n', d', j2⟩, f1, f2⟩ := hv.parts
  obtain ⟨k1, k2⟩ := hf
  dsimp only at f1 f2 k1 k2 ⊢
  refine Spec.go [] Tryz.func77 rfl rfl (by kernel_rfl) fun C _ => ?_
  try simp (maxSteps := 999999) (disch := omega) only [go_sem, Nat.reduceBEq, Nat.reduceAdd]
  cases e with
  | true =>
    try simp (maxSteps := 999999) (disch := omega) only [go_sem, Nat.reduceBEq, Nat.reduceAdd]
    refine caN (by exact Int_spec (n := 1) (by decide) (by decide)) ?_; rintro _ h1 _ hv1; obtain ⟨_, _, _, _, _, _, _, rfl, hv1⟩ := hv1.sa
    try simp (maxSteps := 999999) (disch := omega) only [go_sem, Nat.reduceBEq, Nat.reduceAdd]
    refine caN (by exact Give_ok hv1 (by decide)) ?_; rintro v2 h2 s2 ⟨w, rfl, hw⟩; obtain ⟨_, _, _, _, _, _, _, rfl, hw⟩ := hw.sa
    try simp (maxSteps := 999999) (disch := omega) only [go_sem, Nat.reduceBEq, Nat.reduceAdd]
    refine caN (by exact have_ok hw) ?_; rintro v3 h3 s3 rfl
    try simp (maxSteps := 999999) (disch := omega) only [go_sem, Nat.reduceBEq, Nat.reduceAdd]
    exact ⟨_, _, _, _, _, _, rfl, hw.to, Cn.zero _⟩
  | false =>
    cases l with
    | true =>
      cases u with
      | true =>
        try simp (maxSteps := 999999) (disch := omega) only [go_sem, Nat.reduceBEq, Nat.reduceAdd]
        exact ⟨_, _, _, _, _, _, rfl, Cn.zero _, Cn.zero _⟩
      | false =>
        try simp (maxSteps := 999999) (disch := omega) only [go_sem, Nat.reduceBEq, Nat.reduceAdd]
        refine caN (by exact Give_ok (f2 rfl rfl) (k2 rfl rfl)) ?_; rintro v2 h2 s2 ⟨w, rfl, hw⟩; obtain ⟨_, _, _, _, _, _, _, rfl, hw⟩ := hw.sa
        try simp (maxSteps := 999999) (disch := omega) only [go_sem, Nat.reduceBEq, Nat.reduceAdd]
        refine caN (by exact have_ok hw) ?_; rintro v3 h3 s3 rfl
        try simp (maxSteps := 999999) (disch := omega) only [go_sem, Nat.reduceBEq, Nat.reduceAdd]
        exact ⟨_, _, _, _, _, _, rfl, Cn.zero _, hw.to⟩
    | false =>
      cases u with
      | true =>
        try simp (maxSteps := 999999) (disch := omega) only [go_sem, Nat.reduceBEq, Nat.reduceAdd]
        refine caN (by exact Give_ok (f1 rfl rfl) (k1 rfl rfl)) ?_; rintro v2 h2 s2 ⟨w, rfl, hw⟩; obtain ⟨_, _, _, _, _, _, _, rfl, hw⟩ := hw.sa
        try simp (maxSteps := 999999) (disch := omega) only [go_sem, Nat.reduceBEq, Nat.reduceAdd]
        refine caN (by exact have_ok hw) ?_; rintro v3 h3 s3 rfl
        try simp (maxSteps := 999999) (disch := omega) only [go_sem, Nat.reduceBEq, Nat.reduceAdd]
        exact ⟨_, _, _, _, _, _, rfl, hw.to, Cn.zero _⟩
      | false =>
        try simp (maxSteps := 999999) (disch := omega) only [go_sem, Nat.reduceBEq, Nat.reduceAdd]
        refine caN (by exact Give_ok (f1 rfl rfl) (k1 rfl rfl)) ?_; rintro v2 h2 s2 ⟨w, rfl, hw⟩; obtain ⟨_, _, _, _, _, _, _, rfl, hw⟩ := hw.sa
        try simp (maxSteps := 999999) (disch := omega) only [go_sem, Nat.reduceBEq, Nat.reduceAdd]
        refine caN (by exact have_ok hw) ?_; rintro v3 h3 s3 rfl
        try simp (maxSteps := 999999) (disch := omega) only [go_sem, Nat.reduceBEq, Nat.reduceAdd]
        refine caN (by exact Give_ok (f2 rfl rfl) (k2 rfl rfl)) ?_; rintro v4 h4 s4 ⟨w', rfl, hw'⟩; obtain ⟨_, _, _, _, _, _, _, rfl, hw'⟩ := hw'.sa
        try simp (maxSteps := 999999) (disch := omega) only [go_sem, Nat.reduceBEq, Nat.reduceAdd]
        refine caN (by exact have_ok hw') ?_; rintro v5 h5 s5 rfl
        try simp (maxSteps := 999999) (disch := omega) only [go_sem, Nat.reduceBEq, Nat.reduceAdd]
        exact ⟨_, _, _, _, _, _, rfl, hw.to, hw'.to⟩
theorem give_fail {h0 h : PH} [Le h0 h] {v : Value} {s : PS} (hv : Sr h0 v s) (hf : ¬ s.fin 2048) :
    Spec mach 77 #[v] h NR (fail 1) := by
  obtain ⟨lo, hi, l, u, e⟩ := s
  obtain ⟨b1, a1, m1, c1, a2, m2, c2, b2, a3, m3, c3, a4, m4, c4, rfl, ⟨n, d, j1⟩, ⟨n', d', j2⟩, f1, f2⟩ := hv.parts
  unfold PS.fin at hf
  dsimp only at f1 f2 hf ⊢
  refine Spec.go [] Tryz.func77 rfl rfl (by kernel_rfl) fun C _ => ?_
  try simp (maxSteps := 999999) (disch := omega) only [go_sem, Nat.reduceBEq, Nat.reduceAdd]
  cases e with
  | true => exact (hf ⟨(fun _ e => by cases e), (fun _ e => by cases e)⟩).elim
  | false =>
    cases l with
    | true =>
      cases u with
      | true => exact (hf ⟨(fun e _ => by cases e), (fun e _ => by cases e)⟩).elim
      | false =>
        have z2 : ¬ sz hi ≤ 2048 := fun k => hf ⟨(fun e _ => by cases e), fun _ _ => k⟩
        try simp (maxSteps := 999999) (disch := omega) only [go_sem, Nat.reduceBEq, Nat.reduceAdd]
        refine caN (by exact Give_no (f2 rfl rfl) z2) ?_; rintro v2 h2 s2 rfl
        try simp (maxSteps := 999999) (disch := omega) only [go_sem, Nat.reduceBEq, Nat.reduceAdd]
        exact caF (by exact have_fail (by decide)) (fun _ _ h => h)
    | false =>
      by_cases z1 : sz lo ≤ 2048
      · cases u with
        | true => exact (hf ⟨fun _ _ => z1, (fun e _ => by cases e)⟩).elim
        | false =>
          have z2 : ¬ sz hi ≤ 2048 := fun k => hf ⟨fun _ _ => z1, fun _ _ => k⟩
          try simp (maxSteps := 999999) (disch := omega) only [go_sem, Nat.reduceBEq, Nat.reduceAdd]
          refine caN (by exact Give_ok (f1 rfl rfl) z1) ?_; rintro v2 h2 s2 ⟨w, rfl, hw⟩; obtain ⟨_, _, _, _, _, _, _, rfl, hw⟩ := hw.sa
          try simp (maxSteps := 999999) (disch := omega) only [go_sem, Nat.reduceBEq, Nat.reduceAdd]
          refine caN (by exact have_ok hw) ?_; rintro v3 h3 s3 rfl
          try simp (maxSteps := 999999) (disch := omega) only [go_sem, Nat.reduceBEq, Nat.reduceAdd]
          refine caN (by exact Give_no (f2 rfl rfl) z2) ?_; rintro v4 h4 s4 rfl
          try simp (maxSteps := 999999) (disch := omega) only [go_sem, Nat.reduceBEq, Nat.reduceAdd]
          exact caF (by exact have_fail (by decide)) (fun _ _ h => h)
      · cases u with
        | true =>
          try simp (maxSteps := 999999) (disch := omega) only [go_sem, Nat.reduceBEq, Nat.reduceAdd]
          refine caN (by exact Give_no (f1 rfl rfl) z1) ?_; rintro v2 h2 s2 rfl
          try simp (maxSteps := 999999) (disch := omega) only [go_sem, Nat.reduceBEq, Nat.reduceAdd]
          exact caF (by exact have_fail (by decide)) (fun _ _ h => h)
        | false =>
          try simp (maxSteps := 999999) (disch := omega) only [go_sem, Nat.reduceBEq, Nat.reduceAdd]
          refine caN (by exact Give_no (f1 rfl rfl) z1) ?_; rintro v2 h2 s2 rfl
          try simp (maxSteps := 999999) (disch := omega) only [go_sem, Nat.reduceBEq, Nat.reduceAdd]
          exact caF (by exact have_fail (by decide)) (fun _ _ h => h)
end Go.Q
namespace Go.Q
inductive NS where
  | e
  | i (lo hi : Option Rat)
def omax : Option Rat → Option Rat → Option Rat
  | none, b => b
  | some x, none => some x
  | some x, some y => some (max x y)
def omin : Option Rat → Option Rat → Option Rat
  | none, b => b
  | some x, none => some x
  | some x, some y => some (min x y)
def jmin : Option Rat → Option Rat → Option Rat
  | some x, some y => some (min x y)
  | _, _ => none
def jmax : Option Rat → Option Rat → Option Rat
  | some x, some y => some (max x y)
  | _, _ => none
def oadd : Option Rat → Option Rat → Option Rat
  | some x, some y => some (x + y)
  | _, _ => none
def ordO : Option Rat → Option Rat → Bool
  | some x, some y => !decide (y < x)
  | _, _ => true
namespace NS
def mk' (a b : Option Rat) : NS := bif ordO a b then .i a b else .e
def hull (p : Nat) : NS → NS
  | .e => .e
  | .i a b => .i (a.map (gdown · p)) (b.map (gup · p))
def minus : NS → NS
  | .e => .e
  | .i a b => .i (b.map (-·)) (a.map (-·))
def met : NS → NS → NS
  | .i a b, .i c d => mk' (omax a c) (omin b d)
  | _, _ => .e
def joined : NS → NS → NS
  | .e, y => y
  | x, .e => x
  | .i a b, .i c d => .i (jmin a c) (jmax b d)
def lesser : NS → NS → NS
  | .i a b, .i c d => .i (jmin a c) (omin b d)
  | _, _ => .e
def sum : NS → NS → NS
  | .i a b, .i c d => .i (oadd a c) (oadd b d)
  | _, _ => .e
def void : NS → Bool
  | .e => true
  | _ => false
def ok : NS → Prop
  | .e => True
  | .i a b => ordO a b = true
def all (f : Rat → Bool) : NS → Bool
  | .e => true
  | .i a b => a.all f && b.all f
def le (k : Nat) (x : NS) : Prop := x.all (fun q => decide (sz q ≤ k)) = true
instance (k : Nat) (x : NS) : Decidable (x.le k) := by unfold le; infer_instance
def slo : NS → Int
  | .e => 0
  | .i a _ => match a with
    | none => -1
    | some q => sgn3 q
def shi : NS → Int
  | .e => 0
  | .i _ b => match b with
    | none => 1
    | some q => sgn3 q
def zero (x : NS) : Bool := !x.void && decide (x.slo ≤ 0) && decide (0 ≤ x.shi)
def lowIn : Option Rat → Option Rat → Bool
  | none, _ => true
  | some _, none => false
  | some c, some a => !decide (a < c)
def highIn : Option Rat → Option Rat → Bool
  | none, _ => true
  | some _, none => false
  | some d, some b => !decide (d < b)
def within : NS → NS → Bool
  | .e, _ => true
  | _, .e => false
  | .i a b, .i c d => lowIn c a && highIn d b
def has : NS → Rat → Bool
  | .e, _ => false
  | .i a b, q => a.all (fun x => !decide (q < x)) && b.all (fun x => !decide (x < q))
end NS
abbrev Out := Except Int NS
def Out.fin : Out → Out
  | .error e => .error e
  | .ok x => bif decide (x.le 2048) then .ok x else .error 1
end Go.Q
namespace Go.Q
open Go.Proofs
set_option maxRecDepth 100000
set_option maxHeartbeats 4000000
structure En (h : PH) (b : Bool) (x y : Value) (o : Option Rat) : Prop where
  jk : ∃ n d, Jk h b x y n d
  fr : ∀ q, o = some q → Fr h (.agg #[.bool b, x, y]) q
theorem En.to {h h' : PH} {b : Bool} {x y : Value} {o : Option Rat} (r : En h b x y o) [Le h h'] : En h' b x y o := ⟨let ⟨n, d, j⟩ := r.jk; ⟨n, d, j.to⟩, fun q e => (r.fr q e).to⟩
theorem En.of {h : PH} {b : Bool} {x y : Value} {q : Rat} (r : Fr h (.agg #[.bool b, x, y]) q) : En h b x y (some q) := ⟨⟨_, _, r.jk'⟩, fun q' e => by cases e; exact r⟩
theorem En.num {h : PH} {b : Bool} {x y : Value} {q : Rat} (r : En h b x y (some q)) : Fr h (.agg #[.bool b, x, y]) q := r.fr q rfl
theorem En.junk {h : PH} {b : Bool} {x y : Value} {o : Option Rat} (r : En h b x y o) : En h b x y none := ⟨r.jk, fun _ e => by cases e⟩
theorem En.nil (h : PH) : En h false (.slice none 0 0) (.slice none 0 0) none := ⟨⟨0, 0, N32.zero h, N32.zero h⟩, fun _ e => by cases e⟩
theorem En.sl {h : PH} {b : Bool} {x y : Value} {o : Option Rat} (r : En h b x y o) : ∃ na nl nc da dl dc, x = .slice na nl nc ∧ y = .slice da dl dc := let ⟨_, _, j⟩ := r.jk; j.sl
def Sn (h : PH) (v : Value) : NS → Prop
  | .e => ∃ b1 x1 y1 b2 x2 y2 l u, v = .agg #[.bool b1, x1, y1, .bool b2, x2, y2, .bool l, .bool u, .bool true] ∧ En h b1 x1 y1 none ∧ En h b2 x2 y2 none
  | .i lo hi => ∃ b1 x1 y1 b2 x2 y2, v = .agg #[.bool b1, x1, y1, .bool b2, x2, y2, .bool lo.isNone, .bool hi.isNone, .bool false] ∧ En h b1 x1 y1 lo ∧ En h b2 x2 y2 hi
theorem Sn.to {h h' : PH} {v : Value} {x : NS} (r : Sn h v x) [Le h h'] : Sn h' v x := by
  cases x with
  | e => obtain ⟨b1, x1, y1, b2, x2, y2, l, u, hv, h1, h2⟩ := r; exact ⟨b1, x1, y1, b2, x2, y2, l, u, hv, h1.to, h2.to⟩
  | i a b => obtain ⟨b1, x1, y1, b2, x2, y2, hv, h1, h2⟩ := r; exact ⟨b1, x1, y1, b2, x2, y2, hv, h1.to, h2.to⟩
theorem Sn.ee {h : PH} {v : Value} (r : Sn h v .e) : ∃ b1 a1 m1 c1 a2 m2 c2 b2 a3 m3 c3 a4 m4 c4 l u, v = .agg #[.bool b1, .slice a1 m1 c1, .slice a2 m2 c2, .bool b2, .slice a3 m3 c3, .slice a4 m4 c4, .bool l, .bool u, .bool true] ∧
    En h b1 (.slice a1 m1 c1) (.slice a2 m2 c2) none ∧ En h b2 (.slice a3 m3 c3) (.slice a4 m4 c4) none := by
  obtain ⟨b1, x1, y1, b2, x2, y2, l, u, rfl, h1, h2⟩ := r
  obtain ⟨_, _, _, _, _, _, rfl, rfl⟩ := h1.sl
  obtain ⟨_, _, _, _, _, _, rfl, rfl⟩ := h2.sl
  exact ⟨_, _, _, _, _, _, _, _, _, _, _, _, _, _, _, _, rfl, h1, h2⟩
theorem Sn.ie {h : PH} {v : Value} {lo hi : Option Rat} (r : Sn h v (.i lo hi)) : ∃ b1 a1 m1 c1 a2 m2 c2 b2 a3 m3 c3 a4 m4 c4, v = .agg #[.bool b1, .slice a1 m1 c1, .slice a2 m2 c2, .bool b2, .slice a3 m3 c3, .slice a4 m4 c4, .bool lo.isNone, .bool hi.isNone, .bool false] ∧
    En h b1 (.slice a1 m1 c1) (.slice a2 m2 c2) lo ∧ En h b2 (.slice a3 m3 c3) (.slice a4 m4 c4) hi := by
  obtain ⟨b1, x1, y1, b2, x2, y2, rfl, h1, h2⟩ := r
  obtain ⟨_, _, _, _, _, _, rfl, rfl⟩ := h1.sl
  obtain ⟨_, _, _, _, _, _, rfl, rfl⟩ := h2.sl
  exact ⟨_, _, _, _, _, _, _, _, _, _, _, _, _, _, rfl, h1, h2⟩
theorem Sn.sa {h : PH} {v : Value} {x : NS} (r : Sn h v x) : ∃ b1 a1 m1 c1 a2 m2 c2 b2 a3 m3 c3 a4 m4 c4 l u, v = .agg #[.bool b1, .slice a1 m1 c1, .slice a2 m2 c2, .bool b2, .slice a3 m3 c3, .slice a4 m4 c4, .bool l, .bool u, .bool x.void] ∧
    Sn h (.agg #[.bool b1, .slice a1 m1 c1, .slice a2 m2 c2, .bool b2, .slice a3 m3 c3, .slice a4 m4 c4, .bool l, .bool u, .bool x.void]) x := by
  cases x with
  | e => obtain ⟨b1, a1, m1, c1, a2, m2, c2, b2, a3, m3, c3, a4, m4, c4, l, u, rfl, h1, h2⟩ := r.ee; exact ⟨_, _, _, _, _, _, _, _, _, _, _, _, _, _, _, _, rfl, _, _, _, _, _, _, _, _, rfl, h1, h2⟩
  | i a b => obtain ⟨b1, a1, m1, c1, a2, m2, c2, b2, a3, m3, c3, a4, m4, c4, rfl, h1, h2⟩ := r.ie; exact ⟨_, _, _, _, _, _, _, _, _, _, _, _, _, _, _, _, rfl, _, _, _, _, _, _, rfl, h1, h2⟩
def PS.n (s : PS) : NS := bif s.e then .e else .i (bif s.l then none else some s.lo) (bif s.u then none else some s.hi)
theorem Sr.sn {h : PH} {v : Value} {s : PS} (r : Sr h v s) : Sn h v s.n := by
  obtain ⟨lo, hi, l, u, e⟩ := s
  obtain ⟨b1, x1, y1, b2, x2, y2, rfl, j1, j2, f1, f2⟩ := r
  dsimp only at *
  cases e with
  | true => exact ⟨b1, x1, y1, b2, x2, y2, l, u, rfl, ⟨j1, (fun _ e => by cases e)⟩, ⟨j2, (fun _ e => by cases e)⟩⟩
  | false =>
    cases l <;> cases u <;> refine ⟨b1, x1, y1, b2, x2, y2, rfl, ⟨j1, fun q e => ?_⟩, ⟨j2, fun q e => ?_⟩⟩ <;> simp at e
    · subst e; exact f1 rfl rfl
    · subst e; exact f2 rfl rfl
    · subst e; exact f1 rfl rfl
    · subst e; exact f2 rfl rfl
theorem Sn.sr {h : PH} {v : Value} {x : NS} (r : Sn h v x) : ∃ s, Sr h v s ∧ s.n = x := by
  cases x with
  | e =>
    obtain ⟨b1, x1, y1, b2, x2, y2, l, u, rfl, h1, h2⟩ := r
    exact ⟨⟨0, 0, l, u, true⟩, ⟨b1, x1, y1, b2, x2, y2, rfl, h1.jk, h2.jk, (fun _ e => by cases e), (fun _ e => by cases e)⟩, rfl⟩
  | i a b =>
    obtain ⟨b1, x1, y1, b2, x2, y2, rfl, h1, h2⟩ := r
    refine ⟨⟨a.getD 0, b.getD 0, a.isNone, b.isNone, false⟩, ⟨b1, x1, y1, b2, x2, y2, rfl, h1.jk, h2.jk, fun e _ => ?_, fun e _ => ?_⟩, ?_⟩
    · cases a with
      | none => cases e
      | some a => exact h1.num
    · cases b with
      | none => cases e
      | some b => exact h2.num
    · cases a <;> cases b <;> rfl
structure RI where
  n1 : Bool
  a1 : Nat
  d1 : Nat
  n2 : Bool
  a2 : Nat
  d2 : Nat
  l : Bool
  u : Bool
def Iv (h : PH) (v : Value) (x : RI) : Prop := Iw h v x.n1 x.a1 x.d1 x.n2 x.a2 x.d2 x.l x.u
theorem Iv.to {h h' : PH} {v : Value} {x : RI} (r : Iv h v x) [Le h h'] : Iv h' v x := let ⟨a, b, c, d, e, h1, h2⟩ := r; ⟨a, b, c, d, e, h1.to, h2.to⟩
theorem Iv.sa {h : PH} {v : Value} {x : RI} (r : Iv h v x) : ∃ a1 m1 c1 a2 m2 c2 a3 m3 c3 a4 m4 c4, v = .agg #[.bool x.n1, .slice a1 m1 c1, .slice a2 m2 c2, .bool x.n2, .slice a3 m3 c3, .slice a4 m4 c4, .bool x.l, .bool x.u] ∧
    Rw h (.agg #[.bool x.n1, .slice a1 m1 c1, .slice a2 m2 c2]) x.n1 x.a1 x.d1 ∧ Rw h (.agg #[.bool x.n2, .slice a3 m3 c3, .slice a4 m4 c4]) x.n2 x.a2 x.d2 := by
  obtain ⟨x1, y1, x2, y2, rfl, h1, h2⟩ := r
  have e1 := h1
  have e2 := h2
  obtain ⟨_, _, _, _, _, _, e1, _⟩ := e1
  obtain ⟨_, _, _, _, _, _, e2, _⟩ := e2
  simp only [Value.agg.injEq, Array.mk.injEq, List.cons.injEq, and_true, true_and] at e1 e2
  obtain ⟨rfl, rfl⟩ := e1
  obtain ⟨rfl, rfl⟩ := e2
  exact ⟨_, _, _, _, _, _, _, _, _, _, _, _, rfl, h1, h2⟩
namespace RI
def lo (x : RI) : Option Rat := bif x.l then none else some (qof x.n1 x.a1 x.d1)
def hi (x : RI) : Option Rat := bif x.u then none else some (qof x.n2 x.a2 x.d2)
def set (x : RI) : NS := NS.mk' x.lo x.hi
def big (x : RI) : Bool := decide (Go.Q.lg x.n1 x.a1 x.d1) || decide (Go.Q.lg x.n2 x.a2 x.d2)
theorem set_ok (x : RI) : x.set.ok := by
  unfold set NS.mk'
  cases h : ordO x.lo x.hi with
  | true => exact h
  | false => trivial
theorem small {x : RI} (h : x.big = false) : ¬ Go.Q.lg x.n1 x.a1 x.d1 ∧ ¬ Go.Q.lg x.n2 x.a2 x.d2 := by
  unfold big at h
  simpa using h
theorem large {x : RI} (h : x.big = true) : Go.Q.lg x.n1 x.a1 x.d1 ∨ Go.Q.lg x.n2 x.a2 x.d2 := by
  unfold big at h
  simpa using h
theorem set_eq (x : RI) : (rdS (qof x.n1 x.a1 x.d1) (qof x.n2 x.a2 x.d2) x.l x.u).n = x.set := by
  unfold set lo hi rdS PS.n NS.mk'
  generalize qof x.n1 x.a1 x.d1 = a
  generalize qof x.n2 x.a2 x.d2 = b
  cases x.l <;> cases x.u <;> simp [ordO]
theorem le {x : RI} (h : x.big = false) : x.set.le 2048 := by
  obtain ⟨h1, h2⟩ := small h
  have z1 : sz (qof x.n1 x.a1 x.d1) ≤ 2048 := by unfold Go.Q.lg at h1; omega
  have z2 : sz (qof x.n2 x.a2 x.d2) ≤ 2048 := by unfold Go.Q.lg at h2; omega
  unfold set lo hi NS.mk'
  cases x.l <;> cases x.u <;> simp [ordO]
  · generalize qof x.n1 x.a1 x.d1 = a at *
    generalize qof x.n2 x.a2 x.d2 = b at *
    by_cases h : b < a <;> simp [h, NS.le, NS.all, z1, z2]
  · simp [NS.le, NS.all, z1]
  · simp [NS.le, NS.all, z2]
  · simp [NS.le, NS.all]
end RI
theorem NS.le_i {k : Nat} {a b : Option Rat} : (NS.i a b).le k ↔ (∀ q, a = some q → sz q ≤ k) ∧ (∀ q, b = some q → sz q ≤ k) := by
  unfold NS.le NS.all
  cases a <;> cases b <;> simp
theorem NS.le.up {k m : Nat} {x : NS} (h : x.le k) (hm : k ≤ m) : x.le m := by
  cases x with
  | e => rfl
  | i a b =>
    rw [NS.le_i] at h ⊢
    exact ⟨fun q e => Nat.le_trans (h.1 q e) hm, fun q e => Nat.le_trans (h.2 q e) hm⟩
theorem PS.fin_n {s : PS} {k : Nat} : s.fin k ↔ s.n.le k := by
  obtain ⟨lo, hi, l, u, e⟩ := s
  unfold PS.fin PS.n
  cases e with
  | true => simp [NS.le, NS.all]
  | false =>
    dsimp only [cond_false]
    rw [NS.le_i]
    cases l <;> cases u <;> simp
theorem Read_fail' {h0 h : PH} [Le h0 h] {v : Value} {x : RI} (hv : Iv h0 v x) (g : x.big = true) : Spec mach 45 #[v] h NR (fail 1) := read_fail hv (RI.large g)
theorem Hull_set {h0 h : PH} [Le h0 h] {v : Value} {x : NS} {p : Nat} (hv : Sn h0 v x) (hf : x.le (2 ^ 30)) (hp : p ≤ 2 ^ 30) :
    Spec mach 67 #[v, .int .i64 p] h (fun v h' => Sn h' v (x.hull p)) NP := by
  obtain ⟨s, hs, rfl⟩ := hv.sr
  refine (hull_spec hs (PS.fin_n.2 hf) hp).mono (fun v h' _ r => ?_) (fun _ _ _ e => e)
  have : (hullS s p).n = s.n.hull p := by
    obtain ⟨lo, hi, l, u, e⟩ := s
    cases e <;> cases l <;> cases u <;> rfl
  rw [← this]
  exact r.sn
theorem Minus_set {h0 h : PH} [Le h0 h] {v : Value} {x : NS} (hv : Sn h0 v x) : Spec mach 55 #[v] h (fun v h' => Sn h' v x.minus) NP := by
  obtain ⟨s, hs, rfl⟩ := hv.sr
  refine (minus_spec hs).mono (fun v h' _ r => ?_) (fun _ _ _ e => e)
  have : (minusS s).n = s.n.minus := by
    obtain ⟨lo, hi, l, u, e⟩ := s
    cases e <;> cases l <;> cases u <;> rfl
  rw [← this]
  exact r.sn
def Cv (h : PH) (v : Value) (x : NS) : Prop := Ci h v (match x with | .e => ⟨1, 0, false, false, true⟩ | .i a b => ⟨a.getD 0, b.getD 0, a.isNone, b.isNone, false⟩)
theorem Cv.to {h h' : PH} {v : Value} {x : NS} (r : Cv h v x) [Le h h'] : Cv h' v x := Ci.to r
theorem canS_n (s : PS) : canS s = (match s.n with | .e => ⟨1, 0, false, false, true⟩ | .i a b => ⟨a.getD 0, b.getD 0, a.isNone, b.isNone, false⟩ : PS) := by
  obtain ⟨lo, hi, l, u, e⟩ := s
  cases e <;> cases l <;> cases u <;> rfl
theorem Give_set {h0 h : PH} [Le h0 h] {v : Value} {x : NS} (hv : Sn h0 v x) (hf : x.le 2048) : Spec mach 77 #[v] h (fun v h' => Cv h' v x) NP := by
  obtain ⟨s, hs, rfl⟩ := hv.sr
  refine (give_ok hs (PS.fin_n.2 hf)).mono (fun v h' _ r => ?_) (fun _ _ _ e => e)
  unfold Cv
  rw [← canS_n]
  exact r
theorem Give_fail {h0 h : PH} [Le h0 h] {v : Value} {x : NS} (hv : Sn h0 v x) (hf : ¬ x.le 2048) : Spec mach 77 #[v] h NR (fail 1) := by
  obtain ⟨s, hs, rfl⟩ := hv.sr
  exact give_fail hs (fun k => hf (PS.fin_n.1 k))
end Go.Q
namespace Go.Q
open Go.Proofs Go.Proofs.YthagpdbpgdfojaaGreatDoor
set_option maxRecDepth 100000
open Go.ChangeShapes Go.WideShapes Go.ChangeAt Go.RowKit
def pub (W : World) : PH := fun b => match W.heap[b]? with
  | some (.cells cs _ _) => some cs
  | _ => none
theorem pub_has (W : World) : Has W (pub W) := fun b cs hb => by
  unfold pub at hb
  split at hb
  · rename_i hx; cases hb; exact ⟨_, _, hx⟩
  · cases hb
theorem pub_at (W : World) (a : Addr) : (pub W).at a = W.cell? a := by
  unfold PH.at pub World.cell?
  cases hx : W.heap[a.block]? with
  | none => simp
  | some o => cases o <;> simp
def flds (P : Program) (t : TypeId) : Option (List (Nat × Nat)) := match P.underlying t with
  | some (.struct fs) => some (fs.toList.map fun f => (f.type, f.offset))
  | _ => none
theorem flds_some {P : Program} {t : TypeId} {l : List (Nat × Nat)} (h : flds P t = some l) : ∃ fs, P.underlying t = some (.struct fs) ∧ fs.toList.map (fun f => (f.type, f.offset)) = l := by
  unfold flds at h
  split at h
  · rename_i fs hx; cases h; exact ⟨fs, hx, rfl⟩
  · cases h
theorem fl24 : flds Tryz.prog 24 = some [(4, 0), (22, 1), (22, 2)] := by kernel_rfl
theorem fl26 : flds Tryz.prog 26 = some [(24, 0), (24, 3), (4, 6), (4, 7)] := by kernel_rfl
theorem un22 : Tryz.prog.underlying 22 = some (.slice 50) := by kernel_rfl
theorem un76 : Tryz.prog.underlying 50 = some (.int .u32) := by kernel_rfl
theorem un4 : Tryz.prog.underlying 4 = some .bool := by kernel_rfl
theorem un3 : Tryz.prog.underlying 3 = some (.int .i64) := by kernel_rfl
theorem ce4 : Tryz.prog.cellsOf 4 = 1 := by kernel_rfl
theorem ce22 : Tryz.prog.cellsOf 22 = 1 := by kernel_rfl
theorem ce76 : Tryz.prog.cellsOf 50 = 1 := by kernel_rfl
theorem ce24 : Tryz.prog.cellsOf 24 = 3 := by kernel_rfl
theorem ce26 : Tryz.prog.cellsOf 26 = 8 := by kernel_rfl
section
variable {H : Type} {enc : TypeId × Value → H} {W : World} {sp : Nat → Bool} {held : Bool}
theorem bulk_len (l : List (DataW H)) : l.length ≤ Rows.uptoBulkAll l := by
  induction l with
  | nil => simp [Rows.uptoBulkAll]
  | cons x r ih =>
    have : 1 ≤ Rows.uptoBulk x := by
      cases x with
      | lit l => cases l <;> simp [Rows.uptoBulk]
      | _ => simp [Rows.uptoBulk]
    simp only [Rows.uptoBulkAll, List.length_cons]
    omega
theorem open_words {fuel : Nat} {cs : List Value} {x : DataW H × List MemPlace} (h : DataW.trod enc Tryz.prog W 0 sp held fuel 22 cs = some x) {B : Nat} (hB : B ≤ 1048576) (hk : Rows.uptoBulk x.1 ≤ B) :
    ∃ a xs c, cs = [.slice a xs.length c] ∧ Arr (pub W) a c xs ∧ xs.length ≤ 2 ^ 30 := by
  rcases open_ints un22 un76 ce76 h with ⟨rfl, rfl⟩ | ⟨a, len, cap, zs, rfl, _, hl, hm, hz, rfl, hcell, hwf⟩
  · exact ⟨none, [], 0, rfl, Arr.nil _, by simp⟩
  · have hzl : len ≤ zs.length := by rw [hz]; split <;> omega
    have hb : len ≤ 1048576 := by
      simp only [Rows.uptoBulk] at hk
      have e : (lits (H := H) .u32 (zs.take len)).length = len := by simp [lits]; omega
      have := bulk_len (H := H) (lits .u32 (zs.take len))
      rw [e] at this
      omega
    refine ⟨some a, (zs.take len).map Int.toNat, cap, ?_, ⟨?_, ?_, ?_, ?_⟩, ?_⟩
    · simp; omega
    · simp; omega
    · simp; omega
    · intro y hy
      obtain ⟨z, hz, rfl⟩ := List.mem_map.1 hy
      have := bounds_u32 (hwf z (List.mem_of_mem_take hz))
      omega
    · intro i y hy
      rw [List.getElem?_map, Option.map_eq_some_iff] at hy
      obtain ⟨z, hz', rfl⟩ := hy
      rw [List.getElem?_take] at hz'
      split at hz'
      · refine ⟨a, rfl, ?_⟩
        have hi : i < zs.length := (List.getElem?_eq_some_iff.1 hz').1
        rw [pub_at, hcell i hi]
        have e : zs.getD i 0 = z := by simp [hz']
        have := bounds_u32 (hwf z (List.mem_of_getElem? hz'))
        rw [e]
        congr 2
        omega
      · cases hz'
    · simp; omega
theorem open_rat {fuel : Nat} {cs : List Value} {x : DataW H × List MemPlace} (h : DataW.trod enc Tryz.prog W 0 sp held fuel 24 cs = some x) {B : Nat} (hB : B ≤ 1048576) (hk : Rows.uptoBulk x.1 ≤ B) :
    ∃ neg n d, Rw (pub W) (.agg cs.toArray) neg n d ∧ cs.length = 3 := by
  obtain ⟨fs, hu, hf⟩ := flds_some fl24
  obtain ⟨xs, n, rfl, rfl, hl, hsz, hg⟩ := DataW.trod_struct hu h
  rw [ce24] at hl
  have hfs : fs.size = 3 := by
    have := congrArg List.length hf
    simpa using this
  match cs, hl with
  | [c0, c1, c2], _ =>
  have get : ∀ (i t o : Nat), (fs.toList.map fun f => (f.type, f.offset))[i]? = some (t, o) → ∃ f : Field, fs[i]? = some f ∧ f.type = t ∧ f.offset = o := by
    intro i t o hi
    rw [List.getElem?_map, Option.map_eq_some_iff] at hi
    obtain ⟨f, h1, h2⟩ := hi
    cases h2
    exact ⟨f, by simpa using h1, rfl, rfl⟩
  obtain ⟨f0, k0, e0, o0⟩ := get 0 4 0 (by rw [hf]; rfl)
  obtain ⟨f1, k1, e1, o1⟩ := get 1 22 1 (by rw [hf]; rfl)
  obtain ⟨f2, k2, e2, o2⟩ := get 2 22 2 (by rw [hf]; rfl)
  have g0 := hg 0 f0 k0
  have g1 := hg 1 f1 k1
  have g2 := hg 2 f2 k2
  rw [e0, o0, ce4] at g0
  rw [e1, o1, ce22] at g1
  rw [e2, o2, ce22] at g2
  rw [hfs] at hsz
  match xs, hsz with
  | [y0, y1, y2], _ =>
  simp only [List.drop_zero, List.take_succ_cons, List.take_zero, List.drop_succ_cons, List.getElem?_cons_zero, List.getElem?_cons_succ] at g0 g1 g2
  simp only [Rows.uptoBulk, List.map_cons, List.map_nil, Rows.uptoBulkAll] at hk
  obtain ⟨b, e, _⟩ := DataW.trod_bool un4 g0
  obtain ⟨a1, xs1, c1', e1, A1, l1⟩ := open_words g1 hB (by omega)
  obtain ⟨a2, xs2, c2', e2, A2, l2⟩ := open_words g2 hB (by omega)
  cases e
  cases e1
  cases e2
  exact ⟨b, _, _, ⟨a1, c1', xs1, a2, c2', xs2, rfl, A1, A2, rfl, rfl, l1, l2⟩, rfl⟩
theorem open_iv {fuel : Nat} {cs : List Value} {x : DataW H × List MemPlace} (h : DataW.trod enc Tryz.prog W 0 sp held fuel 26 cs = some x) {B : Nat} (hB : B ≤ 1048576) (hk : Rows.uptoBulk x.1 ≤ B) :
    ∃ y : RI, Iv (pub W) (.agg cs.toArray) y := by
  obtain ⟨fs, hu, hf⟩ := flds_some fl26
  obtain ⟨xs, n, rfl, rfl, hl, hsz, hg⟩ := DataW.trod_struct hu h
  rw [ce26] at hl
  have hfs : fs.size = 4 := by
    have := congrArg List.length hf
    simpa using this
  match cs, hl with
  | [c0, c1, c2, c3, c4, c5, c6, c7], _ =>
  have get : ∀ (i t o : Nat), (fs.toList.map fun f => (f.type, f.offset))[i]? = some (t, o) → ∃ f : Field, fs[i]? = some f ∧ f.type = t ∧ f.offset = o := by
    intro i t o hi
    rw [List.getElem?_map, Option.map_eq_some_iff] at hi
    obtain ⟨f, h1, h2⟩ := hi
    cases h2
    exact ⟨f, by simpa using h1, rfl, rfl⟩
  obtain ⟨f0, k0, e0, o0⟩ := get 0 24 0 (by rw [hf]; rfl)
  obtain ⟨f1, k1, e1, o1⟩ := get 1 24 3 (by rw [hf]; rfl)
  obtain ⟨f2, k2, e2, o2⟩ := get 2 4 6 (by rw [hf]; rfl)
  obtain ⟨f3, k3, e3, o3⟩ := get 3 4 7 (by rw [hf]; rfl)
  have g0 := hg 0 f0 k0
  have g1 := hg 1 f1 k1
  have g2 := hg 2 f2 k2
  have g3 := hg 3 f3 k3
  rw [e0, o0, ce24] at g0
  rw [e1, o1, ce24] at g1
  rw [e2, o2, ce4] at g2
  rw [e3, o3, ce4] at g3
  rw [hfs] at hsz
  match xs, hsz with
  | [y0, y1, y2, y3], _ =>
  simp only [List.drop_zero, List.take_succ_cons, List.take_zero, List.drop_succ_cons, List.getElem?_cons_zero, List.getElem?_cons_succ] at g0 g1 g2 g3
  simp only [Rows.uptoBulk, List.map_cons, List.map_nil, Rows.uptoBulkAll] at hk
  obtain ⟨l, e2, _⟩ := DataW.trod_bool un4 g2
  obtain ⟨u, e3, _⟩ := DataW.trod_bool un4 g3
  obtain ⟨n1, a1, d1, r1, _⟩ := open_rat g0 hB (by omega)
  obtain ⟨n2, a2, d2, r2, _⟩ := open_rat g1 hB (by omega)
  cases e2
  cases e3
  have q1 := r1
  have q2 := r2
  obtain ⟨_, _, _, _, _, _, e1, _⟩ := q1
  obtain ⟨_, _, _, _, _, _, e2, _⟩ := q2
  simp only [Value.agg.injEq, Array.mk.injEq, List.cons.injEq, and_true] at e1 e2
  obtain ⟨rfl, rfl, rfl⟩ := e1
  obtain ⟨rfl, rfl, rfl⟩ := e2
  exact ⟨⟨n1, a1, d1, n2, a2, d2, l, u⟩, _, _, _, _, rfl, r1, r2⟩
theorem stays {P : Program} {W' : World} {sp : Nat → Bool} (hl : laidOutB P = true) (hb : Below W.heap.size W W') (ts : List TypeId) : ∀ (vs : List Value) (ds : List (DataW H)) (p : List MemPlace), (∀ t ∈ ts, P.readableRec t = true ∧ t < P.types.size) → (∀ x ∈ p, x.block < W.heap.size) → (∀ x ∈ p, sp x.block = true) →
    DataW.TrodAll enc P W 0 (fun _ => true) true ts vs ds p → DataW.TrodAll enc P W' 0 sp true ts vs ds p := by
  induction ts with
  | nil =>
    intro vs ds p _ _ _ h
    cases vs with
    | nil => cases ds with
      | nil => exact h
      | cons d ds => exact h.elim
    | cons v vs => exact h.elim
  | cons t ts ih =>
    intro vs ds p hr hlt hsp h
    cases vs with
    | nil => exact h.elim
    | cons v vs =>
      cases ds with
      | nil => exact h.elim
      | cons d ds =>
        obtain ⟨p, q, h1, h2, rfl⟩ := h
        have ht := hr t (by simp)
        exact ⟨p, q, WideElems.Trod_stays hl ht.1 ht.2 h1 (fun x hx => hb.same (hlt x (by simp [hx]))) (fun x hx => hsp x (by simp [hx])), ih vs ds q (fun u hu => hr u (by simp [hu])) (fun x hx => hlt x (by simp [hx])) (fun x hx => hsp x (by simp [hx])) h2, rfl⟩
theorem post_true {f : Func} {s : ChangeSpec} {W' : World} {args : Array Value} {ds : List (DataW H)} {before : List MemPlace} (hl : laidOutB Tryz.prog = true) (hv : s.vars = []) (hr : f.resultTypes = #[4]) (hs : s.fn H ds = { results := [.lit (.bool true)], args := ds })
    (hrd : ∀ t ∈ f.params.toList, Tryz.prog.readableRec t = true ∧ t < Tryz.prog.types.size)
    (hW : DataW.Whole enc Tryz.prog f.params.toList s.vars false W args.toList ds [] before) (hb : Below W.heap.size W W') : s.post enc Tryz.prog f false true false false W args (.bool true) W' := by
  have hlt : ∀ p ∈ before, p.block < W.heap.size := hW.lt
  have hW0 := hW
  rw [hv] at hW0
  obtain ⟨p, q, hA, hV, rfl, hz, hn⟩ := hW0
  obtain rfl : q = [] := hV
  rw [List.append_nil] at hlt hz
  have hold : ∀ x ∈ p, (fun b => decide (b < W.heap.size)) x.block = true := fun x hx => by simpa using hlt x hx
  have hres : ∀ (b : Nat) (sp : Nat → Bool) (hd : Bool), DataW.TrodAll enc Tryz.prog W' b sp hd f.resultTypes.toList ((Value.bool true).resultList f.resultTypes.size) (s.fn H (ds ++ [])).results [] := by
    intro b sp hd
    rw [List.append_nil, hs, hr]
    exact trodAll_cons_mk (shut_bool un4 _) trodAll_mk0
  have hargs : ∀ sp : Nat → Bool, (∀ x ∈ p, sp x.block = true) → DataW.TrodAll enc Tryz.prog W' 0 sp true f.params.toList args.toList (s.fn H (ds ++ [])).args p := by
    intro sp hsp
    rw [List.append_nil, hs]
    exact stays hl hb _ _ _ _ hrd hlt hsp hA
  have hvars : ∀ sp : Nat → Bool, DataW.TrodVars enc Tryz.prog W' sp s.vars (s.fn H (ds ++ [])).vars [] := by
    intro sp
    rw [List.append_nil, hs, hv]
    rfl
  refine ⟨ds, [], p ++ [], [], p, [], hW, hres _ _ _, hargs _ hold, hvars _, World.keptBut_mono (fun x hx => ⟨hx, ?_⟩) (hb.frame (· ∈ p ++ [])), fun h => by cases h⟩
  simpa using hx
theorem laid_gl {W : World} (h : laidMetH Tryz.prog [("math/bits.deBruijn32tab", Rows.laid_math_bits_deBruijn32tab)] W) : Sub mach.gl (pub W) := by
  have ht : Lib.TabIs Tryz.prog W "math/bits.deBruijn32tab" .u8 debruijn :=
    Lib.tabIs_of_head (rest := []) (g := 0) (t := 149) (e := 5) (n := 32) (by kernel_rfl) (by kernel_rfl) (by kernel_rfl) (by kernel_rfl) (by kernel_rfl) (by kernel_rfl) h
  have hg : Tryz.prog.globalNamed "math/bits.deBruijn32tab" = some 0 := by kernel_rfl
  unfold Lib.TabIs World.var? at ht
  rw [hg] at ht
  intro b cs hb
  have hb' : (if b = 0 then some tabCells else none) = some cs := hb
  split at hb'
  · rename_i e
    subst e
    cases hb'
    unfold pub
    simp only [Option.bind_some] at ht
    split at ht
    · rename_i hx
      rw [hx]
      simpa [tabCells] using ht
    · cases ht
  · cases hb'
end
end Go.Q
namespace Go.Q
open Go.Proofs
set_option maxRecDepth 100000
set_option maxHeartbeats 4000000
namespace NS
def hi0 : NS → Rat
  | .e => 0
  | .i _ b => b.getD 0
def loN : NS → Bool
  | .e => false
  | .i a _ => a.isNone
def hiN : NS → Bool
  | .e => false
  | .i _ b => b.isNone
end NS
theorem sz_zero : sz 0 ≤ 1 := by decide
end Go.Q
namespace Go.Q
open Go.Proofs
open Go.RowKit (Below)
set_option maxRecDepth 100000
set_option maxHeartbeats 4000000
theorem AWP_use {M : Mach} {n : Nat} {C : Ctx} {c : Code} {Q : Exit → AS → PH → Prop} {E : List PanicEntry → PH → Prop} {S : AS} {h : PH} {β : Nat → Nat} {a : Act} {w : World} (g : G M C n S h β a w) (hk : AWP M n C c Q E S h) : c.wp M.P (LQ M n C Q E) a w := hk β a w g
theorem box_get {S : AS} {i : Nat} (h : 2 ≤ S.bx.length) (hi : i < 2 := by decide) : S.bx[i]? = some (S.box i) := by
  have : i < S.bx.length := by omega
  simp [AS.box, this]
theorem rows_two {C : Ctx} {h : PH} {w : World} {β : Nat → Nat} {x y : List Value} (h0 : BoxAt C h w (β 0) x) (h1 : BoxAt C h w (β 1) y) (hne : β 0 ≠ β 1) : Rows C h w β [x, y] := by
  refine ⟨fun i cs hi _ => ?_, fun i j ci cj hi hj _ _ hij => ?_⟩
  · match i, hi with
    | 0, hi => cases hi; exact h0
    | 1, hi => cases hi; exact h1
  · match i, j, hi, hj with
    | 0, 0, _, _ => rfl
    | 1, 1, _, _ => rfl
    | 0, 1, _, _ => exact (hne hij).elim
    | 1, 0, _, _ => exact (hne hij.symm).elim
theorem idle_Iv (p q : Value) (w : World) : CallsD mach.P 113 #[p, q] .returning w fun e u' w' => e = .returned (.tuple #[]) ∧ u' = .returning ∧ w' = w := by
  refine callsD_of_wpS Tryz.func113 rfl fun c₀ cs hu => ?_
  apply wpS_seq
  apply wpS_region
  simp [wpOpsS, go_sem, recoverD, hu, Exit.thenS]
  have hnil : ∀ w : World, (binOp BinOp.eql 20 .nilIface .nilIface).run mach.P w = .ok (.bool true) w := fun _ => by kernel_rfl
  refine wpS_of_wp (wp_block (wp_seq_k fun K hK => ?_))
  apply wp_region
  simp [wpOps, go_sem, hnil, Oper.upon, Exit.then]
  refine .inl (hK _ _ ?_)
  clear hK K
  refine wp_cond_true ?_ ?_
  · simp [Act.eval]
  apply wp_region
  simp [wpOps, go_sem]
  cases c₀
  simp_all [bodyPostS, results, Tryz.results113, Exit.inBlock]
theorem caught_Iv {C : Ctx} {h : PH} {β : Nat → Nat} {w : World} {rv re : List Value} {e : Int} (hf : Fine mach C h w) (hr : Rows C h w β [rv, re]) (h8 : rv.length = 8) (h1 : re.length = 1) :
    CallsD mach.P 113 #[.pointer (some ⟨β 0, 0, none⟩), .pointer (some ⟨β 1, 0, none⟩)] (.panicking [{ v := .iface 108 (.agg #[.int .i64 e]), recovered := false }]) w fun en u' w' =>
      en = .returned (.tuple #[]) ∧ u' = .panicking [{ v := .iface 108 (.agg #[.int .i64 e]), recovered := true }] ∧
      Fine mach C h w' ∧ Rows C h w' β [[.bool false, .slice none 0 0, .slice none 0 0, .bool false, .slice none 0 0, .slice none 0 0, .bool false, .bool false], [.int .i64 e]] := by
  have hnil : ∀ w : World, (binOp BinOp.eql 20 (.iface 108 (.agg #[.int .i64 e])) .nilIface).run mach.P w = .ok (.bool false) w := fun _ => by kernel_rfl
  have has : ∀ w : World, (Instr.typeAssert (.iface 108 (.agg #[.int .i64 e])) 20 108 true).run mach.P w = .ok (.tuple #[.agg #[.int .i64 e], .bool true]) w := fun _ => by kernel_rfl
  refine callsD_of_wpS Tryz.func113 rfl fun c₀ cs hu => ?_
  apply wpS_seq
  apply wpS_region
  simp [wpOpsS, go_sem, recoverD, hu, Exit.thenS]
  refine wpS_of_wp (wp_block (wp_seq_k fun K hK => ?_))
  apply wp_region
  simp [wpOps, go_sem, hnil, Oper.upon, Exit.then]
  refine .inl (hK _ _ ?_)
  clear hK K
  refine wp_cond_false ?_ ?_
  · simp [Act.eval]
  refine wp_seq_k fun K hK => ?_
  apply wp_region
  simp [wpOps, go_sem, has, Oper.upon, Exit.then]
  repeat refine Or.inl ?_
  refine hK _ _ ?_
  clear hK K
  refine wp_cond_true ?_ ?_
  · simp [Act.eval]
  match rv, re, h8, h1 with
  | [r0, r1, r2, r3, r4, r5, r6, r7], [q0], _, _ =>
  refine wp_mono (AWP_use (M := mach) (n := 15) (C := ⟨C.w0, C.h0, [β 0, β 1], []⟩) (S := ⟨[(0, .p 0 0), (1, .p 1 0), (11, .v (.agg #[.int .i64 e]))], [[r0, r1, r2, r3, r4, r5, r6, r7], [q0]]⟩) (h := h) (β := β) (E := NP)
    (Q := fun en S h' => en = .normal ∧ h' = h ∧ 2 ≤ S.bx.length ∧ S.box 0 = [.bool false, .slice none 0 0, .slice none 0 0, .bool false, .slice none 0 0, .slice none 0 0, .bool false, .bool false] ∧ S.box 1 = [.int .i64 e]) ?_ ?_) ?_
  · refine ⟨by simp, rfl, hf.re rfl rfl, fun i cs hi hc => (hr.at_ i cs hi hc).re rfl, hr.inj, fun t => ?_, fun t i hi => ?_, by simp, fun i hi => ?_⟩
    · simp only [lk]
      by_cases h0 : t = 0
      · subst h0; exact .inr rfl
      · by_cases h1 : t = 1
        · subst h1; exact .inr rfl
        · by_cases h2 : t = 11
          · subst h2; exact .inr rfl
          · refine .inl ?_
            have e0 : (0 == t) = false := by simp; omega
            have e1 : (1 == t) = false := by simp; omega
            have e2 : (11 == t) = false := by simp; omega
            simp [e0, e1, e2]
    · simp only [lk] at hi
      by_cases h0 : t = 0
      · subst h0; simp [AV.ix] at hi; subst hi; simp
      · by_cases h1 : t = 1
        · subst h1; simp [AV.ix] at hi; subst hi; simp
        · have e0 : (0 == t) = false := by simp; omega
          have e1 : (1 == t) = false := by simp; omega
          rw [e0, e1] at hi
          cases hx : (11 == t) <;> rw [hx] at hi <;> cases hi
    · simp only [List.length_cons, List.length_nil] at hi
      match i, hi with
      | 0, _ => rfl
      | 1, _ => rfl
  · repeat (first | (refine rg rfl rfl (fun K hK => ?_); (repeat (first | (refine wo rfl (fun k hk => ?_); simp (disch := omega) only [go_sem, Nat.reduceBEq, Nat.reduceAdd]; refine hk _ _ ?_; clear hk k) | refine wkt rfl ?_)); (try refine wk0 ?_); refine hK _ _ ?_; clear hK K; (try dsimp only [behind, qs, qb])) | ((first | refine AWP_exit ?_ | refine AWP_skip ?_); simp (disch := decide) only [qs, qb, if_true, if_false, reduceIte]) | refine AWP_sq rfl (fun K hK => ?_) | refine ct rfl ?_ | ((first | refine hK _ _ ?_ | (clear hK; refine hK _ _ ?_) | (clear hK; clear hK; refine hK _ _ ?_)); clear hK; (try clear K)))
    refine AWP_yk (.alt 0 (.alt 1 (.alt 2 (.alt 3 (.alt 4 .done .no) .no) (.alt 3 (.alt 2 (.alt 4 .done .no) .no) .no)) (.alt 3 (.alt 1 (.alt 2 (.alt 4 .done .no) .no) .no) .no)) (.alt 1 (.alt 0 (.alt 2 (.alt 3 (.alt 4 .done .no) .no) (.alt 3 (.alt 2 (.alt 4 .done .no) .no) .no)) (.alt 2 (.alt 0 (.alt 3 (.alt 4 .done .no) .no) .no) .no)) .no)) (by decide +kernel) rfl (fun K hK => ?_)
    have fin : ∀ S h', h' = h → S.box 0 = [.bool false, .slice none 0 0, .slice none 0 0, .bool false, .slice none 0 0, .slice none 0 0, .bool false, .bool false] → S.box 1 = [.int .i64 e] → 2 ≤ S.bx.length → K S h' := fun S h' e0 e1 e2 e3 => hK _ _ ⟨rfl, e0, e3, e1, e2⟩
    clear hK
    repeat' (first | exact wt_no | exact wt_done (fin _ _ rfl rfl rfl (by simp)) | refine wt_alt ?_ ?_ | (refine wk (fun k hk => ?_); simp (disch := omega) only [go_sem, Nat.reduceBEq, Nat.reduceAdd]; refine hk _ _ ?_; clear hk k; with_reducible refine wk0 ?_))
  · intro en a' w' hq
    cases en with
    | normal =>
      obtain ⟨S', h', β', g', _, rfl, hl, hb0, hb1⟩ := hq
      have e0 : β' 0 = β 0 := g'.pin.2 0 (by simp)
      have e1 : β' 1 = β 1 := g'.pin.2 1 (by simp)
      have x0 := g'.boxes 0 _ (box_get hl) (by rw [hb0]; simp)
      have x1 := g'.boxes 1 _ (box_get hl) (by rw [hb1]; simp)
      have ne := g'.inj 0 1 _ _ (box_get hl) (box_get hl) (by rw [hb0]; simp) (by rw [hb1]; simp)
      rw [e0, hb0] at x0
      rw [e1, hb1] at x1
      rw [e0, e1] at ne
      cases c₀
      simp only [Exit.inBlock, bodyPostS]
      refine ⟨g'.defers, _, rfl, _, results_none rfl _ _ _, rfl, rfl, g'.fine.re rfl rfl, rows_two (x0.re rfl) (x1.re rfl) (fun e => by simpa using ne e)⟩
    | panic ch => obtain ⟨_, _, _, hq⟩ := hq; exact (hq : False).elim
    | outgrown => exact (hq : False).elim
    | _ => obtain ⟨_, _, _, _, hq, _⟩ := hq; cases hq
theorem G.start {M : Mach} {n : Nat} {args : List Value} {h : PH} {w : World} (pin : List Nat) (hp : pin = []) (ha : args.length ≤ n) (hw : Has w h) (hg : Sub M.gl h) :
    G M ⟨w, h, pin, []⟩ n ⟨argS 0 args, []⟩ h (fun _ => 0) { tmps := args.toArray ++ Array.replicate (n - args.toArray.size) undef, defers := [] } w := by
  subst hp
  refine ⟨by simp; omega, rfl, ⟨Below.refl _ _, hw, Sub.refl h, New.refl _ h, hg⟩, fun i cs hi => by simp at hi, fun i j ci cj hi => by simp at hi, fun t => ?_, fun t i hi => ?_, Nat.zero_le _, fun i hi => by cases hi⟩
  · rw [lk_argS]
    split
    · rename_i hc
      refine .inr ?_
      simp only [Nat.sub_zero, List.length_cons] at hc ⊢
      have hlt : t < args.toArray.size := by simpa using hc.2
      simp only [cv, Array.getD_eq_getD_getElem?, Array.getElem?_append_left hlt]
      simp [hc.2]
    · exact .inl rfl
  · rw [lk_argS] at hi
    split at hi <;> cases hi
theorem G.re {M : Mach} {C C' : Ctx} {n : Nat} {S : AS} {h : PH} {β : Nat → Nat} {a : Act} {w : World} (g : G M C n S h β a w) (h1 : C'.w0 = C.w0) (h2 : C'.h0 = C.h0) (ds : List Deferred) (hd : C'.df = ds) (hp : C'.pin.length ≤ S.bx.length ∧ ∀ i, i < C'.pin.length → β i = C'.pin.getD i 0) :
    G M C' n S h β { a with defers := ds } w :=
  ⟨g.size, hd.symm, g.fine.re h1 h2, fun i cs hi hc => (g.boxes i cs hi hc).re h1, g.inj, g.slots, g.wf, hp⟩
section
variable {P : Program} {ops : Array Oper} {Q : Exit → Act → World → Prop}
theorem RWc_r {i : Nat} {o : Oper} {c : List Nat} {a : Act} {w : World} (v : Value) (ho : ops[i]? = some o) (hc : cls o.op = 0) (hg : o.guard = none) (hr : ∀ w', Below w.heap.size w w' → (execOp a.eval o).run P w' = .ok (.value v) w') (hk : RWc P ops Q c (a.put o.dst v) w) : RWc P ops Q (i :: c) a w :=
  (RWc_reader ho hc).2 ⟨v, .inl ⟨by simp [Region.wanted, hg], hr⟩, hk⟩
theorem RWc_i {i : Nat} {o : Oper} {c : List Nat} {a : Act} {w : World} (ho : ops[i]? = some o) (hc : cls o.op ≠ 0) (hg : o.guard = none) (hk : o.wp P a w (fun a' w' => (cls o.op = 2 ∨ Below w.heap.size w w') ∧ RWc P ops Q c a' w') Q) : RWc P ops Q (i :: c) a w := by
  rw [RWc_impure ho hc, if_pos (by simp [Region.wanted, hg])]
  exact hk
theorem wp_off {o : Oper} {a : Act} {w : World} {next : Act → World → Prop} (d : Deferred) (h : (execOp a.eval o).run P w = .ok (.defer d) w) (hk : next ({ a with defers := d :: a.defers }.put o.dst undef) w) : o.wp P a w next Q := by
  unfold Oper.wp
  rw [h]
  exact hk
theorem wp_enter {o : Oper} {a : Act} {w : World} {next : Act → World → Prop} {f : FuncId} {args : Array Value} (h : (execOp a.eval o).run P w = .ok (.enter f args) w)
    (hk : Calls P f args w fun e w' => match e with
      | .returned v => next (a.put o.dst v) w'
      | .panicked ch => Q (.panic ch) a w'
      | .outgrown => False) : o.wp P a w next Q := by
  unfold Oper.wp
  rw [h]
  refine hk.mono fun e w' hp => ?_
  cases e with
  | returned v => exact hp
  | panicked ch => exact hp
  | outgrown => exact hp.elim
end
def offIv (β : Nat → Nat) : Deferred := { target := .fn (.func 113) #[.pointer (some ⟨β 0, 0, none⟩), .pointer (some ⟨β 1, 0, none⟩)], args := #[] }
theorem run_fv {M : Mach} {C : Ctx} {n : Nat} {S : AS} {h : PH} {β : Nat → Nat} {a : Act} {w : World} (g : G M C n S h β a w) {o : Oper} {t : Nat} {ts : Array TypeId} (ho : o.op = .call { callee := .value (.tmp t), args := #[], argTypes := ts }) {f : FuncId} {cap : Array Value} (hf : S.ev (.tmp t) = .v (.func (.func f) #[] cap)) (hc : callable M.P f = true) :
    (execOp a.eval o).run M.P w = .ok (.enter f cap) w := by
  simp only [execOp, ho, resolve, Deferred.ofValue, g.ev_v hf, Sem.run_bind, Sem.run_pure, Result.andThen_ok, invoke]
  rw [run_call hc]
  simp
theorem RWc_then {P : Program} {ops : Array Oper} {x : Code} {Q : Exit → Act → World → Prop} {a a' : Act} {w : World} (he : a = a') (h : x.wp P Q a' w) : RWc P ops (Exit.then (x.wp P Q) Q) [] a w := he ▸ h
theorem try_Iv {h : PH} {f : FuncId} {cap : Array Value} {w : World} (hw : Has w h) (hg : Sub mach.gl h) (hc : callable mach.P f = true) {Y : Ending → World → Prop}
    (hk : ∀ (w1 : World), Has w1 h → Calls mach.P f cap w1 fun e w2 => ∃ h3, Below w1.heap.size w1 w2 ∧ Has w2 h3 ∧ Sub h h3 ∧ New w1.heap.size h h3 ∧ match e with
        | .returned v => (∃ r0 r1 r2 r3 r4 r5 r6 r7, v = .agg #[r0, r1, r2, r3, r4, r5, r6, r7] ∧ [r0, r1, r2, r3, r4, r5, r6, r7].all Value.oneCell' = true) ∧ ∀ w3, Fine mach ⟨w, h, [], []⟩ h3 w3 → Y (.returned (.tuple #[v, .int .i64 0])) w3
        | .panicked ch => ∃ e, ch = [{ v := .iface 108 (.agg #[.int .i64 e]), recovered := false }] ∧ ∀ w3, Fine mach ⟨w, h, [], []⟩ h3 w3 → Y (.returned (.tuple #[.agg #[.bool false, .slice none 0 0, .slice none 0 0, .bool false, .slice none 0 0, .slice none 0 0, .bool false, .bool false], .int .i64 e])) w3
        | .outgrown => False) : Calls mach.P 75 #[.func (.func f) #[] cap] w Y := by
  refine calls_of_wp_defers Tryz.func75 rfl ?_
  refine wp_seq (wp_mono (AWP_use (E := NP) (Q := fun e S h' => e = .normal ∧ h' = h ∧ S = ⟨[(3, .p 1 0), (2, .p 0 0), (0, .v (.func (.func f) #[] cap))], [[.bool false, .slice none 0 0, .slice none 0 0, .bool false, .slice none 0 0, .slice none 0 0, .bool false, .bool false], [.int .i64 0]]⟩) (G.start (M := mach) (n := 7) (args := [(.func (.func f) #[] cap)]) [] rfl (by simp) hw hg) ?_) ?_)
  · refine AWP_s rfl ?_
    (repeat (first | (refine wo rfl (fun k hk => ?_); simp (disch := omega) only [go_sem, Nat.reduceBEq, Nat.reduceAdd]; refine hk _ _ ?_; clear hk k) | refine wkt rfl ?_)); (try refine wk0 ?_)
    exact ⟨rfl, rfl, rfl⟩
  · intro en a w1 hq
    cases en with
    | normal =>
      obtain ⟨S', h', β, g, _, rfl, rfl⟩ := hq
      refine wp_seq (wp_region_s ?_)
      show RWc _ _ _ [0, 1] _ _
      refine RWc_r (.func (.func 113) #[] #[.pointer (some ⟨β 0, 0, none⟩), .pointer (some ⟨β 1, 0, none⟩)]) rfl rfl rfl (fun w' hb => ?_) ?_
      · simp [execOp, Instr.makeFunc, (g.below hb).ev_p (x := .tmp 2) rfl, (g.below hb).ev_p (x := .tmp 3) rfl]
      · have g4 := g.put (d := some 4) (fun k hk => by cases hk; decide) (x := .top) (v := (.func (.func 113) #[] #[.pointer (some ⟨β 0, 0, none⟩), .pointer (some ⟨β 1, 0, none⟩)])) (.inl rfl) (fun i hi => by cases hi)
        have e4 : (a.put (some 4) (.func (.func 113) #[] #[.pointer (some ⟨β 0, 0, none⟩), .pointer (some ⟨β 1, 0, none⟩)])).eval (.tmp 4) = (.func (.func 113) #[] #[.pointer (some ⟨β 0, 0, none⟩), .pointer (some ⟨β 1, 0, none⟩)]) := by
          have := g.size
          simp [Act.eval, Act.put, this]
        refine RWc_i rfl (by decide) rfl (wp_off (offIv β) ?_ ⟨.inr (Below.refl _ _), ?_⟩)
        · simp [execOp, offIv, resolve, Deferred.ofValue, e4]
        · refine RWc_then (a' := { a.put (some 4) (.func (.func 113) #[] #[.pointer (some ⟨β 0, 0, none⟩), .pointer (some ⟨β 1, 0, none⟩)]) with defers := [offIv β] }) ?_ ?_
          · simp [Act.put, show a.defers = [] from g.defers]
          · have g5 := g4.re (C' := ⟨w, h', [β 0, β 1], [offIv β]⟩) rfl rfl [offIv β] rfl ⟨by simp [AS.put], fun i hi => by
              match i, hi with
              | 0, _ => rfl
              | 1, _ => rfl⟩
            generalize ({ a.put (some 4) (.func (.func 113) #[] #[.pointer (some ⟨β 0, 0, none⟩), .pointer (some ⟨β 1, 0, none⟩)]) with defers := [offIv β] } : Act) = a5 at g5 ⊢
            clear e4 g4 g
            simp only [AS.put, st, Nat.reduceBEq, cond_false] at g5
            refine wp_seq (wp_region_s ?_)
            show RWc _ _ _ [0, 1, 2, 3] _ _
            refine RWc_r (.func (.func f) #[] cap) rfl rfl rfl (fun w' hb => ?_) ?_
            · simp [execOp, (g5.below hb).ev_v (x := .tmp 0) rfl]
            · have g6 := g5.put (d := some 5) (fun k hk => by cases hk; decide) (x := .v (.func (.func f) #[] cap)) (v := (.func (.func f) #[] cap)) (.inr rfl) (fun i hi => by cases hi)
              refine RWc_i rfl (by decide) rfl (wp_enter (f := f) (args := cap) ?_ ?_)
              · exact run_fv g6 (t := 5) rfl rfl hc
              · refine (hk w1 g6.fine.has).mono fun en w2 hp => ?_
                obtain ⟨h3, hb, hh, hs, hn, hp⟩ := hp
                cases en with
                | outgrown => exact hp
                | returned v =>
                  obtain ⟨⟨r0, r1, r2, r3, r4, r5, r6, r7, rfl, hone⟩, hY⟩ := hp
                  refine ⟨.inr hb, ?_⟩
                  have g7 := (g6.grow hb hh hs hn).put (d := some 6) (fun k hk => by cases hk; decide) (x := .v (.agg #[r0, r1, r2, r3, r4, r5, r6, r7])) (v := .agg #[r0, r1, r2, r3, r4, r5, r6, r7]) (.inr rfl) (fun i hi => by cases hi)
                  refine RWc_to (Q := LQ mach 7 ⟨w, h', [β 0, β 1], [offIv β]⟩ (fun e S h'' => e = .normal ∧ h'' = h3 ∧ 2 ≤ S.bx.length ∧ lk S.sl 2 = .p 0 0 ∧ lk S.sl 3 = .p 1 0 ∧ S.box 0 = [r0, r1, r2, r3, r4, r5, r6, r7] ∧ S.box 1 = [.int .i64 0]) NP) ?_ ?_ ?_ [2, 3] _ _ (RWc_of_walk [.o 2, .o 3] _ _ _ _ _ _ rfl ?_ g7)
                  · rintro a8 w3 ⟨S8, h8, β8, g8, _, rfl, hl, l2, l3, b0, b1⟩
                    refine wp_ret ?_
                    show Leaves mach.P _ a8.tmps Y a8.defers .returning w3
                    rw [show a8.defers = [offIv β] from g8.defers]
                    refine leaves_cons (f := 113) (args := #[.pointer (some ⟨β 0, 0, none⟩), .pointer (some ⟨β 1, 0, none⟩)]) (by simp) (by simp [go_sem]; exact run_call (by kernel_rfl) _ _) ?_
                    refine (idle_Iv _ _ _).mono ?_
                    rintro e u' w'' ⟨rfl, rfl, rfl⟩
                    simp only [settle, Leaves]
                    refine ⟨_, res_run g8 (v := .tuple #[.agg #[r0, r1, r2, r3, r4, r5, r6, r7], .int .i64 0]) ?_, hY _ (g8.fine.re rfl rfl)⟩
                    show resA mach.P S8 [.cell 2 26, .cell 3 29] = _
                    have b0' : S8.bx.getD 0 [] = _ := b0
                    have b1' : S8.bx.getD 1 [] = _ := b1
                    simp only [resA, resL, res1, l2, l3, ldb, b0', b1', go_sem]
                    all_goals rfl
                  · rintro ch a w ⟨_, _, _, hq⟩; exact (hq : False).elim
                  · intro a w hq; exact (hq : False).elim
                  · simp only [AS.put, st, Nat.reduceBEq, cond_false]
                    refine wk (fun k hk => ?_)
                    simp (disch := omega) only [go_sem, Nat.reduceBEq, Nat.reduceAdd]
                    refine ⟨by simpa [Value.oneCell'] using hone, hk _ _ ?_⟩
                    clear hk k
                    (repeat (first | (refine wo rfl (fun k hk => ?_); simp (disch := omega) only [go_sem, Nat.reduceBEq, Nat.reduceAdd]; refine hk _ _ ?_; clear hk k) | refine wkt rfl ?_)); (try refine wk0 ?_)
                    exact ⟨trivial, rfl, by simp, rfl, rfl, rfl, rfl⟩
                | panicked ch =>
                  obtain ⟨e, rfl, hY⟩ := hp
                  have g7 := g6.grow hb hh hs hn
                  show Leaves mach.P _ (a5.put (some 5) (.func (.func f) #[] cap)).tmps Y (a5.put (some 5) (.func (.func f) #[] cap)).defers (.panicking _) w2
                  rw [show (a5.put (some 5) (.func (.func f) #[] cap)).defers = [offIv β] from g7.defers]
                  refine leaves_cons (f := 113) (args := #[.pointer (some ⟨β 0, 0, none⟩), .pointer (some ⟨β 1, 0, none⟩)]) (by simp) (by simp [go_sem]; exact run_call (by kernel_rfl) _ _) ?_
                  refine (caught_Iv g7.fine ⟨g7.boxes, g7.inj⟩ rfl rfl).mono ?_
                  rintro en u' w'' ⟨rfl, rfl, hf, hr⟩
                  simp only [settle, Leaves, List.dropWhile_nil]
                  have g9 : G mach ⟨w, h', [β 0, β 1], [offIv β]⟩ 7 ⟨_, [[.bool false, .slice none 0 0, .slice none 0 0, .bool false, .slice none 0 0, .slice none 0 0, .bool false, .bool false], [.int .i64 e]]⟩ h3 β (a5.put (some 5) (.func (.func f) #[] cap)) w'' := ⟨g7.size, g7.defers, hf, hr.at_, hr.inj, g7.slots, g7.wf, g7.pin⟩
                  refine ⟨_, res_run g9 (v := .tuple #[.agg #[.bool false, .slice none 0 0, .slice none 0 0, .bool false, .slice none 0 0, .slice none 0 0, .bool false, .bool false], .int .i64 e]) ?_, hY _ (hf.re rfl rfl)⟩
                  show resA mach.P _ [.cell 2 26, .cell 3 29] = _
                  simp only [resA, resL, res1, ldb, go_sem]
                  rfl
    | panic ch => obtain ⟨_, _, _, hq⟩ := hq; exact (hq : False).elim
    | outgrown => exact (hq : False).elim
    | _ => obtain ⟨_, _, _, _, hq, _⟩ := hq; cases hq
theorem tryIv_ok {h : PH} {f : FuncId} {cap : Array Value} {R R' : Value → PH → Prop} (s : Spec mach f cap h R NP) (hR : ∀ v h', Sub h h' → R v h' → (∃ r0 r1 r2 r3 r4 r5 r6 r7, v = .agg #[r0, r1, r2, r3, r4, r5, r6, r7] ∧ [r0, r1, r2, r3, r4, r5, r6, r7].all Value.oneCell' = true) ∧ R' (.tuple #[v, .int .i64 0]) h') :
    Spec mach 75 #[.func (.func f) #[] cap] h R' NP := ⟨by kernel_rfl, fun w hw hg => try_Iv hw hg s.ok fun w1 hw1 => (s.run w1 hw1 hg).mono fun e w2 hp => by
  cases e with
  | outgrown => exact (hp : False).elim
  | panicked ch => obtain ⟨_, _, _, _, _, hp⟩ := hp; exact (hp : False).elim
  | returned v =>
    obtain ⟨h3, hb, hh, hs, hn, hr⟩ := hp
    obtain ⟨hv, hr⟩ := hR v h3 hs hr
    exact ⟨h3, hb, hh, hs, hn, hv, fun w3 hf => ⟨h3, hf.below, hf.has, hf.sub, hf.new, hr⟩⟩⟩
theorem tryIv_fail {h : PH} {f : FuncId} {cap : Array Value} {e : Int} {R' : Value → PH → Prop} (s : Spec mach f cap h NR (fail e)) (hR : ∀ h', Sub h h' → R' (.tuple #[.agg #[.bool false, .slice none 0 0, .slice none 0 0, .bool false, .slice none 0 0, .slice none 0 0, .bool false, .bool false], .int .i64 e]) h') :
    Spec mach 75 #[.func (.func f) #[] cap] h R' NP := ⟨by kernel_rfl, fun w hw hg => try_Iv hw hg s.ok fun w1 hw1 => (s.run w1 hw1 hg).mono fun en w2 hp => by
  cases en with
  | outgrown => exact (hp : False).elim
  | returned v => obtain ⟨_, _, _, _, _, hp⟩ := hp; exact (hp : False).elim
  | panicked ch =>
    obtain ⟨h3, hb, hh, hs, hn, hr⟩ := hp
    exact ⟨h3, hb, hh, hs, hn, e, hr, fun w3 hf => ⟨h3, hf.below, hf.has, hf.sub, hf.new, hR h3 hs⟩⟩⟩
end Go.Q
