/-
  Contracts of package interval: the sign of a set; of package number: the sign of a number. Conditions: the values are intervals and numbers.
-/
import Derived.Test.YtmnhcckkkidhnaaGreatDoorKaa4be1Ti
import Derived.Test.YtmnhcckkkidhnaaGreatDoorKde7cbdIl
set_option linter.unusedVariables false
set_option linter.unusedSimpArgs false
namespace Go.Q
open Go.Proofs
set_option maxRecDepth 100000
set_option maxHeartbeats 4000000
def Zd (f : FuncId) (args : Array Value) (h : PH) : Except Int Int → Prop
  | .ok b => Spec mach f args h (fun v _ => v = .int .i64 b) NP
  | .error e => Spec mach f args h NR (fail e)
def Zr (r : Value) : Except Int Int → Prop
  | .ok b => r = .tuple #[.int .i64 b, .int .i64 0]
  | .error e => r = .tuple #[.int .i64 0, .int .i64 e]
theorem Zr.sa {r : Value} {o : Except Int Int} (k : Zr r o) : ∃ b e, r = .tuple #[.int .i64 b, .int .i64 e] ∧ Zr (.tuple #[.int .i64 b, .int .i64 e]) o := by
  cases o with
  | ok b => exact ⟨_, _, k, rfl⟩
  | error e => exact ⟨_, _, k, rfl⟩
theorem tryZ_any {h : PH} {f : FuncId} {cap : Array Value} {o : Except Int Int} (g : Zd f cap h o) : Spec mach 61 #[.func (.func f) #[] cap] h (fun r _ => Zr r o) NP := by
  cases o with
  | ok b => exact tryIn_ok g (fun v h' _ r => by subst r; exact ⟨⟨b, rfl, rfl⟩, rfl⟩)
  | error e => exact tryIn_fail g (fun _ _ => rfl)
def sgN (x : NS) : Int :=
  if x.void = true then 4 else if 0 < x.slo then 2 else if x.shi < 0 then -2 else if x.slo = 0 ∧ x.shi = 0 then 0 else if x.slo = 0 then 1 else if x.shi = 0 then -1 else 3
def sgO (x : RI) : Except Int Int := bif x.big then .error 1 else .ok (sgN x.set)
theorem Sign1 {h0 h : PH} [Le h0 h] {v : Value} {x : RI} {b1 : Nat} {cs : List Value} (hv : Iv h0 v x) (hc : v = .agg cs.toArray) (hl : cs.length = 8) (hb1 : h b1 = some cs.toArray) :
    Zd 62 #[.pointer (some ⟨b1, 0, none⟩)] h (sgO x) := by
  subst hc
  unfold sgO
  cases g : x.big with
  | true =>
    dsimp only [cond_true]
    refine Spec.enter (args := [_]) (n := 34) Tryz.func62 rfl (by kernel_rfl) rfl (by simp) [.tmp 1] rfl (fun C _ => ?_)
    repeat (first | (refine rg rfl rfl (fun K hK => ?_); (repeat (first | (refine wo rfl (fun k hk => ?_); simp (disch := omega) only [go_sem, Nat.reduceBEq, Nat.reduceAdd]; refine hk _ _ ?_; clear hk k) | refine wkt rfl ?_)); (try refine wk0 ?_); refine hK _ _ ?_; clear hK K; (try dsimp only [behind, qs, qb])) | ((first | refine AWP_exit ?_ | refine AWP_skip ?_); simp (disch := decide) only [qs, qb, if_true, if_false, reduceIte]) | refine AWP_sq rfl (fun K hK => ?_) | refine ct rfl ?_ | ((first | refine hK _ _ ?_ | (clear hK; refine hK _ _ ?_) | (clear hK; clear hK; refine hK _ _ ?_)); clear hK; (try clear K)))
    refine rg rfl rfl (fun K hK => ?_); (repeat (first | (refine wo rfl (fun k hk => ?_); simp (disch := omega) only [go_sem, Nat.reduceBEq, Nat.reduceAdd]; refine hk _ _ ?_; clear hk k) | refine wkt rfl ?_)); (try refine wk0 ?_)
    refine wk (fun k hk => ?_); simp (disch := omega) only [go_sem, Nat.reduceBEq, Nat.reduceAdd]; refine ⟨cs, hl, at_row hb1, ?_⟩; refine hk _ _ ?_; clear hk k; (repeat (first | (refine wo rfl (fun k hk => ?_); simp (disch := omega) only [go_sem, Nat.reduceBEq, Nat.reduceAdd]; refine hk _ _ ?_; clear hk k) | refine wkt rfl ?_)); (try refine wk0 ?_)
    exact cF rfl rfl rfl rfl (by exact Read_fail' hv g) (fun _ _ h => h)
  | false =>
    dsimp only [cond_false]
    have kR := fun {h} [Le h0 h] => Read_set (h := h) hv g
    generalize x.set = s at *
    cases s with
    | e =>
      have es : sgN .e = 4 := rfl
      rw [es]
      refine Spec.enter (args := [_]) (n := 34) Tryz.func62 rfl (by kernel_rfl) rfl (by simp) [.tmp 1] rfl (fun C _ => ?_)
      repeat (first | (refine rg rfl rfl (fun K hK => ?_); (repeat (first | (refine wo rfl (fun k hk => ?_); simp (disch := omega) only [go_sem, Nat.reduceBEq, Nat.reduceAdd]; refine hk _ _ ?_; clear hk k) | refine wkt rfl ?_)); (try refine wk0 ?_); refine hK _ _ ?_; clear hK K; (try dsimp only [behind, qs, qb])) | ((first | refine AWP_exit ?_ | refine AWP_skip ?_); simp (disch := decide) only [qs, qb, if_true, if_false, reduceIte]) | refine AWP_sq rfl (fun K hK => ?_) | refine ct rfl ?_ | ((first | refine hK _ _ ?_ | (clear hK; refine hK _ _ ?_) | (clear hK; clear hK; refine hK _ _ ?_)); clear hK; (try clear K)))
      refine rg rfl rfl (fun K hK => ?_); (repeat (first | (refine wo rfl (fun k hk => ?_); simp (disch := omega) only [go_sem, Nat.reduceBEq, Nat.reduceAdd]; refine hk _ _ ?_; clear hk k) | refine wkt rfl ?_)); (try refine wk0 ?_)
      refine wk (fun k hk => ?_); simp (disch := omega) only [go_sem, Nat.reduceBEq, Nat.reduceAdd]; refine ⟨cs, hl, at_row hb1, ?_⟩; refine hk _ _ ?_; clear hk k; (repeat (first | (refine wo rfl (fun k hk => ?_); simp (disch := omega) only [go_sem, Nat.reduceBEq, Nat.reduceAdd]; refine hk _ _ ?_; clear hk k) | refine wkt rfl ?_)); (try refine wk0 ?_)
      refine cN rfl rfl rfl rfl (by exact kR) ?_; rintro s1 h1 st1 hs1; obtain ⟨_, _, _, _, _, _, _, _, _, _, _, _, _, _, _, _, rfl, hs1⟩ := hs1.sa; (repeat (first | (refine wo rfl (fun k hk => ?_); simp (disch := omega) only [go_sem, Nat.reduceBEq, Nat.reduceAdd]; refine hk _ _ ?_; clear hk k) | refine wkt rfl ?_)); (try refine wk0 ?_)
      (try (simp (disch := omega) only [go_sem, Nat.reduceBEq, Nat.reduceAdd])); refine hK _ _ ?_; clear hK; (try clear K); (try dsimp only [behind, qs])
      dsimp only [NS.void] at *
      refine rg rfl rfl (fun K hK => ?_); (repeat (first | (refine wo rfl (fun k hk => ?_); simp (disch := omega) only [go_sem, Nat.reduceBEq, Nat.reduceAdd]; refine hk _ _ ?_; clear hk k) | refine wkt rfl ?_)); (try refine wk0 ?_)
      refine cN rfl rfl rfl rfl (by exact signs_void hs1.sn) ?_; rintro v2 h2 st2 ⟨m1, m2, rfl⟩; (repeat (first | (refine wo rfl (fun k hk => ?_); simp (disch := omega) only [go_sem, Nat.reduceBEq, Nat.reduceAdd]; refine hk _ _ ?_; clear hk k) | refine wkt rfl ?_)); (try refine wk0 ?_)
      (try (simp (disch := omega) only [go_sem, Nat.reduceBEq, Nat.reduceAdd])); refine hK _ _ ?_; clear hK; (try clear K); (try dsimp only [behind, qs])
      repeat (first | (refine rg rfl rfl (fun K hK => ?_); (repeat (first | (refine wo rfl (fun k hk => ?_); simp (disch := omega) only [go_sem, Nat.reduceBEq, Nat.reduceAdd]; refine hk _ _ ?_; clear hk k) | refine wkt rfl ?_)); (try refine wk0 ?_); refine hK _ _ ?_; clear hK K; (try dsimp only [behind, qs, qb])) | ((first | refine AWP_exit ?_ | refine AWP_skip ?_); simp (disch := decide) only [qs, qb, if_true, if_false, reduceIte]) | refine AWP_sq rfl (fun K hK => ?_) | refine ct rfl ?_ | ((first | refine hK _ _ ?_ | (clear hK; refine hK _ _ ?_) | (clear hK; clear hK; refine hK _ _ ?_)); clear hK; (try clear K)))
      refine AWP_ret ?_; simp (disch := omega) only [go_sem, Nat.reduceBEq, Nat.reduceAdd]
    | i a b =>
      have kS := fun {h h' : PH} [Le h h'] {v : Value} (hv : Sn h v (.i a b)) => signs_set (h := h') hv
      have es : sgN (.i a b) = if 0 < (NS.i a b).slo then 2 else if (NS.i a b).shi < 0 then -2 else if (NS.i a b).slo = 0 ∧ (NS.i a b).shi = 0 then 0 else if (NS.i a b).slo = 0 then 1 else if (NS.i a b).shi = 0 then -1 else 3 := by
        unfold sgN; rw [if_neg (by simp [NS.void])]
      rw [es]
      generalize (NS.i a b).slo = m1 at *
      generalize (NS.i a b).shi = m2 at *
      refine Spec.enter (args := [_]) (n := 34) Tryz.func62 rfl (by kernel_rfl) rfl (by simp) [.tmp 1] rfl (fun C _ => ?_)
      repeat (first | (refine rg rfl rfl (fun K hK => ?_); (repeat (first | (refine wo rfl (fun k hk => ?_); simp (disch := omega) only [go_sem, Nat.reduceBEq, Nat.reduceAdd]; refine hk _ _ ?_; clear hk k) | refine wkt rfl ?_)); (try refine wk0 ?_); refine hK _ _ ?_; clear hK K; (try dsimp only [behind, qs, qb])) | ((first | refine AWP_exit ?_ | refine AWP_skip ?_); simp (disch := decide) only [qs, qb, if_true, if_false, reduceIte]) | refine AWP_sq rfl (fun K hK => ?_) | refine ct rfl ?_ | ((first | refine hK _ _ ?_ | (clear hK; refine hK _ _ ?_) | (clear hK; clear hK; refine hK _ _ ?_)); clear hK; (try clear K)))
      refine rg rfl rfl (fun K hK => ?_); (repeat (first | (refine wo rfl (fun k hk => ?_); simp (disch := omega) only [go_sem, Nat.reduceBEq, Nat.reduceAdd]; refine hk _ _ ?_; clear hk k) | refine wkt rfl ?_)); (try refine wk0 ?_)
      refine wk (fun k hk => ?_); simp (disch := omega) only [go_sem, Nat.reduceBEq, Nat.reduceAdd]; refine ⟨cs, hl, at_row hb1, ?_⟩; refine hk _ _ ?_; clear hk k; (repeat (first | (refine wo rfl (fun k hk => ?_); simp (disch := omega) only [go_sem, Nat.reduceBEq, Nat.reduceAdd]; refine hk _ _ ?_; clear hk k) | refine wkt rfl ?_)); (try refine wk0 ?_)
      refine cN rfl rfl rfl rfl (by exact kR) ?_; rintro s1 h1 st1 hs1; obtain ⟨_, _, _, _, _, _, _, _, _, _, _, _, _, _, _, _, rfl, hs1⟩ := hs1.sa; (repeat (first | (refine wo rfl (fun k hk => ?_); simp (disch := omega) only [go_sem, Nat.reduceBEq, Nat.reduceAdd]; refine hk _ _ ?_; clear hk k) | refine wkt rfl ?_)); (try refine wk0 ?_)
      (try (simp (disch := omega) only [go_sem, Nat.reduceBEq, Nat.reduceAdd])); refine hK _ _ ?_; clear hK; (try clear K); (try dsimp only [behind, qs])
      dsimp only [NS.void] at *
      refine rg rfl rfl (fun K hK => ?_); (repeat (first | (refine wo rfl (fun k hk => ?_); simp (disch := omega) only [go_sem, Nat.reduceBEq, Nat.reduceAdd]; refine hk _ _ ?_; clear hk k) | refine wkt rfl ?_)); (try refine wk0 ?_)
      refine cN rfl rfl rfl rfl (by exact kS hs1.sn) ?_; rintro v2 h2 st2 rfl; (repeat (first | (refine wo rfl (fun k hk => ?_); simp (disch := omega) only [go_sem, Nat.reduceBEq, Nat.reduceAdd]; refine hk _ _ ?_; clear hk k) | refine wkt rfl ?_)); (try refine wk0 ?_)
      (try (simp (disch := omega) only [go_sem, Nat.reduceBEq, Nat.reduceAdd])); refine hK _ _ ?_; clear hK; (try clear K); (try dsimp only [behind, qs])
      by_cases p1 : 0 < m1
      · rw [if_pos p1]
        repeat (first | (refine rg rfl rfl (fun K hK => ?_); (repeat (first | (refine wo rfl (fun k hk => ?_); simp (disch := omega) only [go_sem, Nat.reduceBEq, Nat.reduceAdd]; refine hk _ _ ?_; clear hk k) | refine wkt rfl ?_)); (try refine wk0 ?_); refine hK _ _ ?_; clear hK K; (try dsimp only [behind, qs, qb])) | ((first | refine AWP_exit ?_ | refine AWP_skip ?_); simp (disch := decide) only [qs, qb, if_true, if_false, reduceIte]) | refine AWP_sq rfl (fun K hK => ?_) | refine ct rfl ?_ | ((first | refine hK _ _ ?_ | (clear hK; refine hK _ _ ?_) | (clear hK; clear hK; refine hK _ _ ?_)); clear hK; (try clear K)))
        refine AWP_ret ?_; simp (disch := omega) only [go_sem, Nat.reduceBEq, Nat.reduceAdd]
      rw [if_neg p1]
      by_cases p2 : m2 < 0
      · rw [if_pos p2]
        repeat (first | (refine rg rfl rfl (fun K hK => ?_); (repeat (first | (refine wo rfl (fun k hk => ?_); simp (disch := omega) only [go_sem, Nat.reduceBEq, Nat.reduceAdd]; refine hk _ _ ?_; clear hk k) | refine wkt rfl ?_)); (try refine wk0 ?_); refine hK _ _ ?_; clear hK K; (try dsimp only [behind, qs, qb])) | ((first | refine AWP_exit ?_ | refine AWP_skip ?_); simp (disch := decide) only [qs, qb, if_true, if_false, reduceIte]) | refine AWP_sq rfl (fun K hK => ?_) | refine ct rfl ?_ | ((first | refine hK _ _ ?_ | (clear hK; refine hK _ _ ?_) | (clear hK; clear hK; refine hK _ _ ?_)); clear hK; (try clear K)))
        refine AWP_ret ?_; simp (disch := omega) only [go_sem, Nat.reduceBEq, Nat.reduceAdd]
      rw [if_neg p2]
      by_cases p3 : m1 = 0
      · by_cases p4 : m2 = 0
        · rw [if_pos ⟨p3, p4⟩]
          repeat (first | (refine rg rfl rfl (fun K hK => ?_); (repeat (first | (refine wo rfl (fun k hk => ?_); simp (disch := omega) only [go_sem, Nat.reduceBEq, Nat.reduceAdd]; refine hk _ _ ?_; clear hk k) | refine wkt rfl ?_)); (try refine wk0 ?_); refine hK _ _ ?_; clear hK K; (try dsimp only [behind, qs, qb])) | ((first | refine AWP_exit ?_ | refine AWP_skip ?_); simp (disch := decide) only [qs, qb, if_true, if_false, reduceIte]) | refine AWP_sq rfl (fun K hK => ?_) | refine ct rfl ?_ | ((first | refine hK _ _ ?_ | (clear hK; refine hK _ _ ?_) | (clear hK; clear hK; refine hK _ _ ?_)); clear hK; (try clear K)))
          refine AWP_ret ?_; simp (disch := omega) only [go_sem, Nat.reduceBEq, Nat.reduceAdd]
        · rw [if_neg (fun k => p4 k.2), if_pos p3]
          repeat (first | (refine rg rfl rfl (fun K hK => ?_); (repeat (first | (refine wo rfl (fun k hk => ?_); simp (disch := omega) only [go_sem, Nat.reduceBEq, Nat.reduceAdd]; refine hk _ _ ?_; clear hk k) | refine wkt rfl ?_)); (try refine wk0 ?_); refine hK _ _ ?_; clear hK K; (try dsimp only [behind, qs, qb])) | ((first | refine AWP_exit ?_ | refine AWP_skip ?_); simp (disch := decide) only [qs, qb, if_true, if_false, reduceIte]) | refine AWP_sq rfl (fun K hK => ?_) | refine ct rfl ?_ | ((first | refine hK _ _ ?_ | (clear hK; refine hK _ _ ?_) | (clear hK; clear hK; refine hK _ _ ?_)); clear hK; (try clear K)))
          refine AWP_ret ?_; simp (disch := omega) only [go_sem, Nat.reduceBEq, Nat.reduceAdd]
      · rw [if_neg (fun k => p3 k.1), if_neg p3]
        by_cases p4 : m2 = 0
        · rw [if_pos p4]
          repeat (first | (refine rg rfl rfl (fun K hK => ?_); (repeat (first | (refine wo rfl (fun k hk => ?_); simp (disch := omega) only [go_sem, Nat.reduceBEq, Nat.reduceAdd]; refine hk _ _ ?_; clear hk k) | refine wkt rfl ?_)); (try refine wk0 ?_); refine hK _ _ ?_; clear hK K; (try dsimp only [behind, qs, qb])) | ((first | refine AWP_exit ?_ | refine AWP_skip ?_); simp (disch := decide) only [qs, qb, if_true, if_false, reduceIte]) | refine AWP_sq rfl (fun K hK => ?_) | refine ct rfl ?_ | ((first | refine hK _ _ ?_ | (clear hK; refine hK _ _ ?_) | (clear hK; clear hK; refine hK _ _ ?_)); clear hK; (try clear K)))
          refine AWP_ret ?_; simp (disch := omega) only [go_sem, Nat.reduceBEq, Nat.reduceAdd]
        · rw [if_neg p4]
          repeat (first | (refine rg rfl rfl (fun K hK => ?_); (repeat (first | (refine wo rfl (fun k hk => ?_); simp (disch := omega) only [go_sem, Nat.reduceBEq, Nat.reduceAdd]; refine hk _ _ ?_; clear hk k) | refine wkt rfl ?_)); (try refine wk0 ?_); refine hK _ _ ?_; clear hK K; (try dsimp only [behind, qs, qb])) | ((first | refine AWP_exit ?_ | refine AWP_skip ?_); simp (disch := decide) only [qs, qb, if_true, if_false, reduceIte]) | refine AWP_sq rfl (fun K hK => ?_) | refine ct rfl ?_ | ((first | refine hK _ _ ?_ | (clear hK; refine hK _ _ ?_) | (clear hK; clear hK; refine hK _ _ ?_)); clear hK; (try clear K)))
          refine AWP_ret ?_; simp (disch := omega) only [go_sem, Nat.reduceBEq, Nat.reduceAdd]
theorem SignI_spec {h0 h : PH} [Le h0 h] {v : Value} {x : RI} (hv : Iv h0 v x) : Spec mach 23 #[v] h (fun r _ => Zr r (sgO x)) NP := by
  have hv0 := hv
  obtain ⟨a1, m1, c1, a2, m2, c2, a3, m3, c3, a4, m4, c4, rfl, _, _⟩ := hv.sa
  refine Spec.enter (args := [_]) (n := 8) Tryz.func23 rfl (by kernel_rfl) rfl (by simp) [.tmp 2, .tmp 3] rfl (fun C _ => ?_)
  repeat (first | (refine rg rfl rfl (fun K hK => ?_); (repeat (first | (refine wo rfl (fun k hk => ?_); simp (disch := omega) only [go_sem, Nat.reduceBEq, Nat.reduceAdd]; refine hk _ _ ?_; clear hk k) | refine wkt rfl ?_)); (try refine wk0 ?_); refine hK _ _ ?_; clear hK K; (try dsimp only [behind, qs, qb])) | ((first | refine AWP_exit ?_ | refine AWP_skip ?_); simp (disch := decide) only [qs, qb, if_true, if_false, reduceIte]) | refine AWP_sq rfl (fun K hK => ?_) | refine ct rfl ?_ | ((first | refine hK _ _ ?_ | (clear hK; refine hK _ _ ?_) | (clear hK; clear hK; refine hK _ _ ?_)); clear hK; (try clear K)))
  refine AWP_rsp [.p 0, .o 0, .o 1, .o 2, .o 3, .o 4, .o 5] rfl rfl (fun K hK => ?_); (repeat (first | (refine wo rfl (fun k hk => ?_); simp (disch := omega) only [go_sem, Nat.reduceBEq, Nat.reduceAdd]; refine hk _ _ ?_; clear hk k) | refine wkt rfl ?_)); (try refine wk0 ?_)
  refine wkp ?_; simp (disch := omega) only [go_sem, Nat.reduceBEq, Nat.reduceAdd]; intro b1 h1 st1 hb1; (repeat (first | (refine wo rfl (fun k hk => ?_); simp (disch := omega) only [go_sem, Nat.reduceBEq, Nat.reduceAdd]; refine hk _ _ ?_; clear hk k) | refine wkt rfl ?_)); (try refine wk0 ?_)
  have hb1 := hb1 (by simp)
  refine cN rfl rfl rfl rfl (by exact tryZ_any (Sign1 (hv0.to (h' := h1)) rfl rfl hb1)) ?_; rintro r3 h3 st3 hr3; obtain ⟨_, _, rfl, hr3⟩ := hr3.sa; (repeat (first | (refine wo rfl (fun k hk => ?_); simp (disch := omega) only [go_sem, Nat.reduceBEq, Nat.reduceAdd]; refine hk _ _ ?_; clear hk k) | refine wkt rfl ?_)); (try refine wk0 ?_)
  (try (simp (disch := omega) only [go_sem, Nat.reduceBEq, Nat.reduceAdd])); refine hK _ _ ?_; clear hK; (try clear K); (try dsimp only [behind, qs])
  refine AWP_ret ?_; simp (disch := omega) only [go_sem, Nat.reduceBEq, Nat.reduceAdd]
  exact hr3
end Go.Q
