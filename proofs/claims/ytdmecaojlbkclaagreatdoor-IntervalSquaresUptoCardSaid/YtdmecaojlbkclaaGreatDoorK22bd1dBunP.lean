/-
  Contracts of package interval: an operation on one set, or on two, that may be ended (unary, exact). Conditions: the operation's contract on the sets that were read.
  Contracts of package interval's exported functions: canonical values, rounding, opposites, sums. Conditions: the values are intervals (Iv).
  Contracts of package interval's exported functions: sums and differences. Conditions: the values are intervals (Iv).
-/
import Derived.Test.YtdmecaojlbkclaaGreatDoorK9b30feTy
import Derived.Test.YtdmecaojlbkclaaGreatDoorKf2b163Ig
set_option linter.unusedVariables false
set_option linter.unusedSimpArgs false
namespace Go.Q
open Go.Proofs
set_option maxRecDepth 100000
set_option maxHeartbeats 4000000
theorem Le.tr {a b c : PH} (x : Le a b) (y : Le b c) : Le a c := ⟨x.sub.trans y.sub⟩
theorem at_row {h : PH} {b : Nat} {cs : List Value} (hb : h b = some cs.toArray) (j : Nat) (v : Value) (hj : cs[j]? = some v) : h.at ⟨b, j, none⟩ = some v := by
  simp [PH.at, hb, hj]
theorem at_one {h : PH} {b : Nat} {v : Value} (hb : h b = some #[v]) : h.at ⟨b, 0, none⟩ = some v := by
  simp [PH.at, hb]
def zIv : Value := .agg #[.bool false, .slice none 0 0, .slice none 0 0, .bool false, .slice none 0 0, .slice none 0 0, .bool false, .bool false]
theorem Cv.sa {h : PH} {v : Value} {x : NS} (r : Cv h v x) : ∃ b1 a1 m1 c1 a2 m2 c2 b2 a3 m3 c3 a4 m4 c4 l u, v = .agg #[.bool b1, .slice a1 m1 c1, .slice a2 m2 c2, .bool b2, .slice a3 m3 c3, .slice a4 m4 c4, .bool l, .bool u] ∧
    Cv h (.agg #[.bool b1, .slice a1 m1 c1, .slice a2 m2 c2, .bool b2, .slice a3 m3 c3, .slice a4 m4 c4, .bool l, .bool u]) x := by
  have r0 := r
  obtain ⟨b1, x1, y1, b2, x2, y2, rfl, h1, h2⟩ := r
  obtain ⟨_, _, _, _, _, _, _, e1, _⟩ := h1.sa
  obtain ⟨_, _, _, _, _, _, _, e2, _⟩ := h2.sa
  simp only [Value.agg.injEq, Array.mk.injEq, List.cons.injEq, and_true] at e1 e2
  obtain ⟨_, rfl, rfl⟩ := e1
  obtain ⟨_, rfl, rfl⟩ := e2
  exact ⟨_, _, _, _, _, _, _, _, _, _, _, _, _, _, _, _, rfl, r0⟩
theorem Cv.eight {h : PH} {v : Value} {x : NS} (r : Cv h v x) : ∃ r0 r1 r2 r3 r4 r5 r6 r7, v = .agg #[r0, r1, r2, r3, r4, r5, r6, r7] ∧ [r0, r1, r2, r3, r4, r5, r6, r7].all Value.oneCell' = true := by
  obtain ⟨_, _, _, _, _, _, _, _, _, _, _, _, _, _, _, _, rfl, _⟩ := r.sa
  exact ⟨_, _, _, _, _, _, _, _, rfl, rfl⟩
def Ir (h : PH) (r : Value) : Out → Prop
  | .error e => r = .tuple #[zIv, .int .i64 e]
  | .ok x => ∃ u, r = .tuple #[u, .int .i64 0] ∧ Cv h u x
theorem Ir.to {h h' : PH} {r : Value} {o : Out} (k : Ir h r o) [Le h h'] : Ir h' r o := by
  cases o with
  | error e => exact k
  | ok x => obtain ⟨u, e, c⟩ := k; exact ⟨u, e, c.to⟩
theorem Ir.sa {h : PH} {r : Value} {o : Out} (k : Ir h r o) : ∃ b1 a1 m1 c1 a2 m2 c2 b2 a3 m3 c3 a4 m4 c4 l u e, r = .tuple #[.agg #[.bool b1, .slice a1 m1 c1, .slice a2 m2 c2, .bool b2, .slice a3 m3 c3, .slice a4 m4 c4, .bool l, .bool u], .int .i64 e] ∧
    Ir h (.tuple #[.agg #[.bool b1, .slice a1 m1 c1, .slice a2 m2 c2, .bool b2, .slice a3 m3 c3, .slice a4 m4 c4, .bool l, .bool u], .int .i64 e]) o := by
  cases o with
  | error e => cases (k : r = _); exact ⟨_, _, _, _, _, _, _, _, _, _, _, _, _, _, _, _, _, rfl, rfl⟩
  | ok x =>
    obtain ⟨u, rfl, c⟩ := k
    obtain ⟨_, _, _, _, _, _, _, _, _, _, _, _, _, _, _, _, rfl, c⟩ := c.sa
    exact ⟨_, _, _, _, _, _, _, _, _, _, _, _, _, _, _, _, _, rfl, _, rfl, c⟩
theorem Sd.sa {h : PH} {v : Value} {x : NS} (r : Sd h v x) : ∃ b1 a1 m1 c1 a2 m2 c2 b2 a3 m3 c3 a4 m4 c4 l u, v = .agg #[.bool b1, .slice a1 m1 c1, .slice a2 m2 c2, .bool b2, .slice a3 m3 c3, .slice a4 m4 c4, .bool l, .bool u, .bool x.void] ∧
    Sd h (.agg #[.bool b1, .slice a1 m1 c1, .slice a2 m2 c2, .bool b2, .slice a3 m3 c3, .slice a4 m4 c4, .bool l, .bool u, .bool x.void]) x := by
  cases x with
  | e => obtain ⟨_, _, _, _, _, _, _, _, _, _, _, _, _, _, p, q, rfl, h1, h2, k⟩ := r.ee; exact ⟨_, _, _, _, _, _, _, _, _, _, _, _, _, _, _, _, rfl, _, _, _, _, _, _, p, q, rfl, h1, h2, k⟩
  | i a b => obtain ⟨_, _, _, _, _, _, _, _, _, _, _, _, _, _, rfl, h1, h2⟩ := Sn.ie r; exact ⟨_, _, _, _, _, _, _, _, _, _, _, _, _, _, _, _, rfl, _, _, _, _, _, _, rfl, h1, h2⟩
def Does (f : FuncId) (args : Array Value) (h : PH) : Out → Prop
  | .ok x => Spec mach f args h (fun v h' => Sn h' v x) NP
  | .error e => Spec mach f args h NR (fail e)
def Gives (f : FuncId) (args : Array Value) (h : PH) : Out → Prop
  | .ok x => Spec mach f args h (fun v h' => Cv h' v x) NP
  | .error e => Spec mach f args h NR (fail e)
theorem Does.ok {f : FuncId} {args : Array Value} {h : PH} {x : NS} (d : Does f args h (.ok x)) : Spec mach f args h (fun v h' => Sn h' v x) NP := d
theorem Does.err {f : FuncId} {args : Array Value} {h : PH} {e : Int} (d : Does f args h (.error e)) : Spec mach f args h NR (fail e) := d
def RI.fin (x : RI) (o : Out) : Out := bif x.big then .error 1 else o.fin
def RI.fin2 (x y : RI) (o : Out) : Out := bif x.big || y.big then .error 1 else o.fin
theorem try_any {h : PH} {f : FuncId} {cap : Array Value} {o : Out} (g : Gives f cap h o) : Spec mach 62 #[.func (.func f) #[] cap] h (fun r h' => Ir h' r o) NP := by
  cases o with
  | ok x => exact tryIv_ok g (fun v h' _ r => ⟨r.eight, v, rfl, r⟩)
  | error e => exact tryIv_fail g (fun _ _ => rfl)
theorem unary1_spec {h0 h : PH} [Le h0 h] {v : Value} {x : RI} {f : FuncId} {cap : Array Value} {b1 b2 : Nat} {cs : List Value} {o : Out} (hv : Iv h0 v x) (hb1 : h b1 = some #[.func (.func f) #[] cap]) (hc : v = .agg cs.toArray) (hl : cs.length = 8) (hb2 : h b2 = some cs.toArray)
    (hd : x.big = false → ∀ (h' : PH) [Le h h'] (s : Value), Sd h' s x.set → Does f (s :: cap.toList).toArray h' o) :
    Gives 63 #[.pointer (some ⟨b1, 0, none⟩), .pointer (some ⟨b2, 0, none⟩)] h (x.fin o) := by
  subst hc
  unfold RI.fin
  cases g : x.big with
  | true =>
    refine Spec.enter (args := [_, _]) (n := 8) Tryz.func63 rfl (by kernel_rfl) rfl (by simp) [.cell 2 26] rfl (fun C _ => ?_)
    repeat (first | (refine wo rfl (fun k hk => ?_); simp (disch := omega) only [go_sem, Nat.reduceBEq, Nat.reduceAdd]; refine hk _ _ ?_; clear hk k) | refine wkt rfl ?_ | refine wk0 ?_ | refine rg rfl rfl (fun K hK => ?_) | refine rd [.o 0, .o 1, .o 2, .o 3, .o 4, .o 5] rfl (by decide +kernel) rfl (fun K hK => ?_) | ((first | refine AWP_exit ?_ | refine AWP_skip ?_); simp (disch := decide) only [qs, qb, if_true, if_false, reduceIte]) | refine AWP_sq rfl (fun K hK => ?_) | refine ct rfl ?_ | ((try simp (disch := omega) only [go_sem, Nat.reduceBEq, Nat.reduceAdd]); (first | apply hK | (clear hK; apply hK) | (clear hK; clear hK; apply hK)); clear hK; (try clear K); (try dsimp only [behind, qs, qb])))
    refine wk (fun k hk => ?_); simp (disch := omega) only [go_sem, Nat.reduceBEq, Nat.reduceAdd]; refine ⟨_, at_one hb1, ?_⟩; refine hk _ _ ?_; clear hk k; (repeat (first | (refine wo rfl (fun k hk => ?_); simp (disch := omega) only [go_sem, Nat.reduceBEq, Nat.reduceAdd]; refine hk _ _ ?_; clear hk k) | refine wkt rfl ?_)); (try refine wk0 ?_)
    refine wk (fun k hk => ?_); simp (disch := omega) only [go_sem, Nat.reduceBEq, Nat.reduceAdd]; refine ⟨cs, hl, at_row hb2, ?_⟩; refine hk _ _ ?_; clear hk k; (repeat (first | (refine wo rfl (fun k hk => ?_); simp (disch := omega) only [go_sem, Nat.reduceBEq, Nat.reduceAdd]; refine hk _ _ ?_; clear hk k) | refine wkt rfl ?_)); (try refine wk0 ?_)
    exact cF rfl rfl rfl rfl (by exact Read_fail' hv g) (fun _ _ h => h)
  | false =>
    have hd := hd g
    dsimp only [cond_false]
    cases o with
    | error e =>
      refine Spec.enter (args := [_, _]) (n := 8) Tryz.func63 rfl (by kernel_rfl) rfl (by simp) [.cell 2 26] rfl (fun C _ => ?_)
      repeat (first | (refine wo rfl (fun k hk => ?_); simp (disch := omega) only [go_sem, Nat.reduceBEq, Nat.reduceAdd]; refine hk _ _ ?_; clear hk k) | refine wkt rfl ?_ | refine wk0 ?_ | refine rg rfl rfl (fun K hK => ?_) | refine rd [.o 0, .o 1, .o 2, .o 3, .o 4, .o 5] rfl (by decide +kernel) rfl (fun K hK => ?_) | ((first | refine AWP_exit ?_ | refine AWP_skip ?_); simp (disch := decide) only [qs, qb, if_true, if_false, reduceIte]) | refine AWP_sq rfl (fun K hK => ?_) | refine ct rfl ?_ | ((try simp (disch := omega) only [go_sem, Nat.reduceBEq, Nat.reduceAdd]); (first | apply hK | (clear hK; apply hK) | (clear hK; clear hK; apply hK)); clear hK; (try clear K); (try dsimp only [behind, qs, qb])))
      refine wk (fun k hk => ?_); simp (disch := omega) only [go_sem, Nat.reduceBEq, Nat.reduceAdd]; refine ⟨_, at_one hb1, ?_⟩; refine hk _ _ ?_; clear hk k; (repeat (first | (refine wo rfl (fun k hk => ?_); simp (disch := omega) only [go_sem, Nat.reduceBEq, Nat.reduceAdd]; refine hk _ _ ?_; clear hk k) | refine wkt rfl ?_)); (try refine wk0 ?_)
      refine wk (fun k hk => ?_); simp (disch := omega) only [go_sem, Nat.reduceBEq, Nat.reduceAdd]; refine ⟨cs, hl, at_row hb2, ?_⟩; refine hk _ _ ?_; clear hk k; (repeat (first | (refine wo rfl (fun k hk => ?_); simp (disch := omega) only [go_sem, Nat.reduceBEq, Nat.reduceAdd]; refine hk _ _ ?_; clear hk k) | refine wkt rfl ?_)); (try refine wk0 ?_)
      refine cN rfl rfl rfl rfl (by exact Read_set hv g) ?_; rintro s1 h1 st1 hs1; (repeat (first | (refine wo rfl (fun k hk => ?_); simp (disch := omega) only [go_sem, Nat.reduceBEq, Nat.reduceAdd]; refine hk _ _ ?_; clear hk k) | refine wkt rfl ?_)); (try refine wk0 ?_)
      exact cF rfl rfl rfl rfl (by exact (hd _ s1 hs1).err) (fun _ _ h => h)
    | ok y =>
      dsimp only [Out.fin]
      by_cases hy : y.le 2048
      · rw [decide_eq_true hy, cond_true]
        refine Spec.enter (args := [_, _]) (n := 8) Tryz.func63 rfl (by kernel_rfl) rfl (by simp) [.cell 2 26] rfl (fun C _ => ?_)
        repeat (first | (refine wo rfl (fun k hk => ?_); simp (disch := omega) only [go_sem, Nat.reduceBEq, Nat.reduceAdd]; refine hk _ _ ?_; clear hk k) | refine wkt rfl ?_ | refine wk0 ?_ | refine rg rfl rfl (fun K hK => ?_) | refine rd [.o 0, .o 1, .o 2, .o 3, .o 4, .o 5] rfl (by decide +kernel) rfl (fun K hK => ?_) | ((first | refine AWP_exit ?_ | refine AWP_skip ?_); simp (disch := decide) only [qs, qb, if_true, if_false, reduceIte]) | refine AWP_sq rfl (fun K hK => ?_) | refine ct rfl ?_ | ((try simp (disch := omega) only [go_sem, Nat.reduceBEq, Nat.reduceAdd]); (first | apply hK | (clear hK; apply hK) | (clear hK; clear hK; apply hK)); clear hK; (try clear K); (try dsimp only [behind, qs, qb])))
        refine wk (fun k hk => ?_); simp (disch := omega) only [go_sem, Nat.reduceBEq, Nat.reduceAdd]; refine ⟨_, at_one hb1, ?_⟩; refine hk _ _ ?_; clear hk k; (repeat (first | (refine wo rfl (fun k hk => ?_); simp (disch := omega) only [go_sem, Nat.reduceBEq, Nat.reduceAdd]; refine hk _ _ ?_; clear hk k) | refine wkt rfl ?_)); (try refine wk0 ?_)
        refine wk (fun k hk => ?_); simp (disch := omega) only [go_sem, Nat.reduceBEq, Nat.reduceAdd]; refine ⟨cs, hl, at_row hb2, ?_⟩; refine hk _ _ ?_; clear hk k; (repeat (first | (refine wo rfl (fun k hk => ?_); simp (disch := omega) only [go_sem, Nat.reduceBEq, Nat.reduceAdd]; refine hk _ _ ?_; clear hk k) | refine wkt rfl ?_)); (try refine wk0 ?_)
        refine cN rfl rfl rfl rfl (by exact Read_set hv g) ?_; rintro s1 h1 st1 hs1; (repeat (first | (refine wo rfl (fun k hk => ?_); simp (disch := omega) only [go_sem, Nat.reduceBEq, Nat.reduceAdd]; refine hk _ _ ?_; clear hk k) | refine wkt rfl ?_)); (try refine wk0 ?_)
        refine cN rfl rfl rfl rfl (by exact (hd _ s1 hs1).ok) ?_; rintro s2 h2 st2 hs2; (repeat (first | (refine wo rfl (fun k hk => ?_); simp (disch := omega) only [go_sem, Nat.reduceBEq, Nat.reduceAdd]; refine hk _ _ ?_; clear hk k) | refine wkt rfl ?_)); (try refine wk0 ?_)
        refine cN rfl rfl rfl rfl (by exact Give_set hs2 hy) ?_; rintro v3 h3 st3 hv3; obtain ⟨_, _, _, _, _, _, _, _, _, _, _, _, _, _, _, _, rfl, hv3⟩ := hv3.sa; (repeat (first | (refine wo rfl (fun k hk => ?_); simp (disch := omega) only [go_sem, Nat.reduceBEq, Nat.reduceAdd]; refine hk _ _ ?_; clear hk k) | refine wkt rfl ?_)); (try refine wk0 ?_)
        (try (simp (disch := omega) only [go_sem, Nat.reduceBEq, Nat.reduceAdd])); refine hK _ _ ?_; clear hK; (try clear K); (try dsimp only [behind, qs])
        refine AWP_ret ?_; simp (disch := omega) only [go_sem, Nat.reduceBEq, Nat.reduceAdd]
        exact hv3
      · rw [decide_eq_false hy, cond_false]
        refine Spec.enter (args := [_, _]) (n := 8) Tryz.func63 rfl (by kernel_rfl) rfl (by simp) [.cell 2 26] rfl (fun C _ => ?_)
        repeat (first | (refine wo rfl (fun k hk => ?_); simp (disch := omega) only [go_sem, Nat.reduceBEq, Nat.reduceAdd]; refine hk _ _ ?_; clear hk k) | refine wkt rfl ?_ | refine wk0 ?_ | refine rg rfl rfl (fun K hK => ?_) | refine rd [.o 0, .o 1, .o 2, .o 3, .o 4, .o 5] rfl (by decide +kernel) rfl (fun K hK => ?_) | ((first | refine AWP_exit ?_ | refine AWP_skip ?_); simp (disch := decide) only [qs, qb, if_true, if_false, reduceIte]) | refine AWP_sq rfl (fun K hK => ?_) | refine ct rfl ?_ | ((try simp (disch := omega) only [go_sem, Nat.reduceBEq, Nat.reduceAdd]); (first | apply hK | (clear hK; apply hK) | (clear hK; clear hK; apply hK)); clear hK; (try clear K); (try dsimp only [behind, qs, qb])))
        refine wk (fun k hk => ?_); simp (disch := omega) only [go_sem, Nat.reduceBEq, Nat.reduceAdd]; refine ⟨_, at_one hb1, ?_⟩; refine hk _ _ ?_; clear hk k; (repeat (first | (refine wo rfl (fun k hk => ?_); simp (disch := omega) only [go_sem, Nat.reduceBEq, Nat.reduceAdd]; refine hk _ _ ?_; clear hk k) | refine wkt rfl ?_)); (try refine wk0 ?_)
        refine wk (fun k hk => ?_); simp (disch := omega) only [go_sem, Nat.reduceBEq, Nat.reduceAdd]; refine ⟨cs, hl, at_row hb2, ?_⟩; refine hk _ _ ?_; clear hk k; (repeat (first | (refine wo rfl (fun k hk => ?_); simp (disch := omega) only [go_sem, Nat.reduceBEq, Nat.reduceAdd]; refine hk _ _ ?_; clear hk k) | refine wkt rfl ?_)); (try refine wk0 ?_)
        refine cN rfl rfl rfl rfl (by exact Read_set hv g) ?_; rintro s1 h1 st1 hs1; (repeat (first | (refine wo rfl (fun k hk => ?_); simp (disch := omega) only [go_sem, Nat.reduceBEq, Nat.reduceAdd]; refine hk _ _ ?_; clear hk k) | refine wkt rfl ?_)); (try refine wk0 ?_)
        refine cN rfl rfl rfl rfl (by exact (hd _ s1 hs1).ok) ?_; rintro s2 h2 st2 hs2; (repeat (first | (refine wo rfl (fun k hk => ?_); simp (disch := omega) only [go_sem, Nat.reduceBEq, Nat.reduceAdd]; refine hk _ _ ?_; clear hk k) | refine wkt rfl ?_)); (try refine wk0 ?_)
        exact cF rfl rfl rfl rfl (by exact Give_fail hs2 hy) (fun _ _ h => h)
theorem unary_spec {h0 h : PH} [Le h0 h] {v : Value} {x : RI} {f : FuncId} {cap : Array Value} {o : Out} (hv : Iv h0 v x)
    (hd : x.big = false → ∀ (h' : PH) [Le h h'] (s : Value), Sd h' s x.set → Does f (s :: cap.toList).toArray h' o) :
    Spec mach 19 #[v, .func (.func f) #[] cap] h (fun r h' => Ir h' r (x.fin o)) NP := by
  have hv0 := hv
  obtain ⟨a1, m1, c1, a2, m2, c2, a3, m3, c3, a4, m4, c4, rfl, _, _⟩ := hv.sa
  refine Spec.enter (args := [_, _]) (n := 10) Tryz.func19 rfl (by kernel_rfl) rfl (by simp) [.cell 4 26, .tmp 5] rfl (fun C _ => ?_)
  repeat (first | (refine rg rfl rfl (fun K hK => ?_); (repeat (first | (refine wo rfl (fun k hk => ?_); simp (disch := omega) only [go_sem, Nat.reduceBEq, Nat.reduceAdd]; refine hk _ _ ?_; clear hk k) | refine wkt rfl ?_)); (try refine wk0 ?_); refine hK _ _ ?_; clear hK K; (try dsimp only [behind, qs, qb])) | ((first | refine AWP_exit ?_ | refine AWP_skip ?_); simp (disch := decide) only [qs, qb, if_true, if_false, reduceIte]) | refine AWP_sq rfl (fun K hK => ?_) | refine ct rfl ?_ | ((first | refine hK _ _ ?_ | (clear hK; refine hK _ _ ?_) | (clear hK; clear hK; refine hK _ _ ?_)); clear hK; (try clear K)))
  refine AWP_rsp [.p 0, .p 1, .o 0, .o 1, .o 2, .o 3, .o 4, .o 5] rfl rfl (fun K hK => ?_); (repeat (first | (refine wo rfl (fun k hk => ?_); simp (disch := omega) only [go_sem, Nat.reduceBEq, Nat.reduceAdd]; refine hk _ _ ?_; clear hk k) | refine wkt rfl ?_)); (try refine wk0 ?_)
  refine wkp ?_; simp (disch := omega) only [go_sem, Nat.reduceBEq, Nat.reduceAdd]; intro b2 h2 st2 hb2; (repeat (first | (refine wo rfl (fun k hk => ?_); simp (disch := omega) only [go_sem, Nat.reduceBEq, Nat.reduceAdd]; refine hk _ _ ?_; clear hk k) | refine wkt rfl ?_)); (try refine wk0 ?_)
  refine wkp ?_; simp (disch := omega) only [go_sem, Nat.reduceBEq, Nat.reduceAdd]; intro b1 h1 st1 hb1; (repeat (first | (refine wo rfl (fun k hk => ?_); simp (disch := omega) only [go_sem, Nat.reduceBEq, Nat.reduceAdd]; refine hk _ _ ?_; clear hk k) | refine wkt rfl ?_)); (try refine wk0 ?_)
  have hb1 := hb1 (by simp)
  have hb2 := st1.sub _ _ (hb2 (by simp))
  refine cN rfl rfl rfl rfl (by exact try_any (unary1_spec (hv0.to (h' := h1)) hb1 rfl rfl hb2 (fun g h' i s hs => @hd g h' (Le.tr inferInstance i) s hs))) ?_; rintro r3 h3 st3 hr3; obtain ⟨_, _, _, _, _, _, _, _, _, _, _, _, _, _, _, _, _, rfl, hr3⟩ := hr3.sa; (repeat (first | (refine wo rfl (fun k hk => ?_); simp (disch := omega) only [go_sem, Nat.reduceBEq, Nat.reduceAdd]; refine hk _ _ ?_; clear hk k) | refine wkt rfl ?_)); (try refine wk0 ?_)
  (try (simp (disch := omega) only [go_sem, Nat.reduceBEq, Nat.reduceAdd])); refine hK _ _ ?_; clear hK; (try clear K); (try dsimp only [behind, qs])
  refine AWP_ret ?_; simp (disch := omega) only [go_sem, Nat.reduceBEq, Nat.reduceAdd]
  exact hr3
theorem exact1_spec {h0 h : PH} [Le h0 h] {v w : Value} {x y : RI} {f : FuncId} {cap : Array Value} {b1 b2 b3 : Nat} {cs ds : List Value} {o : Out} (hv : Iv h0 v x) (hw : Iv h0 w y) (hc : v = .agg cs.toArray) (hl : cs.length = 8) (hb1 : h b1 = some cs.toArray) (hb2 : h b2 = some #[.func (.func f) #[] cap]) (hc' : w = .agg ds.toArray) (hl' : ds.length = 8) (hb3 : h b3 = some ds.toArray)
    (hd : x.big = false → y.big = false → ∀ (h' : PH) [Le h h'] (s t : Value), Sd h' s x.set → Sd h' t y.set → Does f (s :: t :: cap.toList).toArray h' o) :
    Gives 142 #[.pointer (some ⟨b1, 0, none⟩), .pointer (some ⟨b2, 0, none⟩), .pointer (some ⟨b3, 0, none⟩)] h (x.fin2 y o) := by
  subst hc
  subst hc'
  unfold RI.fin2
  cases g : x.big with
  | true =>
    refine Spec.enter (args := [_, _, _]) (n := 13) Tryz.func142 rfl (by kernel_rfl) rfl (by simp) [.cell 3 26] rfl (fun C _ => ?_)
    repeat (first | (refine wo rfl (fun k hk => ?_); simp (disch := omega) only [go_sem, Nat.reduceBEq, Nat.reduceAdd]; refine hk _ _ ?_; clear hk k) | refine wkt rfl ?_ | refine wk0 ?_ | refine rg rfl rfl (fun K hK => ?_) | refine rd [.o 0, .o 1, .o 2, .o 3, .o 4, .o 5, .o 6] rfl (by decide +kernel) rfl (fun K hK => ?_) | ((first | refine AWP_exit ?_ | refine AWP_skip ?_); simp (disch := decide) only [qs, qb, if_true, if_false, reduceIte]) | refine AWP_sq rfl (fun K hK => ?_) | refine ct rfl ?_ | ((try simp (disch := omega) only [go_sem, Nat.reduceBEq, Nat.reduceAdd]); (first | apply hK | (clear hK; apply hK) | (clear hK; clear hK; apply hK)); clear hK; (try clear K); (try dsimp only [behind, qs, qb])))
    refine wk (fun k hk => ?_); simp (disch := omega) only [go_sem, Nat.reduceBEq, Nat.reduceAdd]; refine ⟨cs, hl, at_row hb1, ?_⟩; refine hk _ _ ?_; clear hk k; (repeat (first | (refine wo rfl (fun k hk => ?_); simp (disch := omega) only [go_sem, Nat.reduceBEq, Nat.reduceAdd]; refine hk _ _ ?_; clear hk k) | refine wkt rfl ?_)); (try refine wk0 ?_)
    exact cF rfl rfl rfl rfl (by exact Read_fail' hv g) (fun _ _ h => h)
  | false =>
    cases g' : y.big with
    | true =>
      refine Spec.enter (args := [_, _, _]) (n := 13) Tryz.func142 rfl (by kernel_rfl) rfl (by simp) [.cell 3 26] rfl (fun C _ => ?_)
      repeat (first | (refine wo rfl (fun k hk => ?_); simp (disch := omega) only [go_sem, Nat.reduceBEq, Nat.reduceAdd]; refine hk _ _ ?_; clear hk k) | refine wkt rfl ?_ | refine wk0 ?_ | refine rg rfl rfl (fun K hK => ?_) | refine rd [.o 0, .o 1, .o 2, .o 3, .o 4, .o 5, .o 6] rfl (by decide +kernel) rfl (fun K hK => ?_) | ((first | refine AWP_exit ?_ | refine AWP_skip ?_); simp (disch := decide) only [qs, qb, if_true, if_false, reduceIte]) | refine AWP_sq rfl (fun K hK => ?_) | refine ct rfl ?_ | ((try simp (disch := omega) only [go_sem, Nat.reduceBEq, Nat.reduceAdd]); (first | apply hK | (clear hK; apply hK) | (clear hK; clear hK; apply hK)); clear hK; (try clear K); (try dsimp only [behind, qs, qb])))
      refine wk (fun k hk => ?_); simp (disch := omega) only [go_sem, Nat.reduceBEq, Nat.reduceAdd]; refine ⟨cs, hl, at_row hb1, ?_⟩; refine hk _ _ ?_; clear hk k; (repeat (first | (refine wo rfl (fun k hk => ?_); simp (disch := omega) only [go_sem, Nat.reduceBEq, Nat.reduceAdd]; refine hk _ _ ?_; clear hk k) | refine wkt rfl ?_)); (try refine wk0 ?_)
      refine cN rfl rfl rfl rfl (by exact Read_set hv g) ?_; rintro s1 h1 st1 hs1; obtain ⟨_, _, _, _, _, _, _, _, _, _, _, _, _, _, _, _, rfl, hs1⟩ := hs1.sa; (repeat (first | (refine wo rfl (fun k hk => ?_); simp (disch := omega) only [go_sem, Nat.reduceBEq, Nat.reduceAdd]; refine hk _ _ ?_; clear hk k) | refine wkt rfl ?_)); (try refine wk0 ?_)
      (try (simp (disch := omega) only [go_sem, Nat.reduceBEq, Nat.reduceAdd])); refine hK _ _ ?_; clear hK; (try clear K); (try dsimp only [behind, qs])
      (first | refine rg rfl rfl (fun K hK => ?_) | refine rd [.o 0, .o 1, .o 2, .o 3, .o 4, .o 5, .o 6] rfl (by decide +kernel) rfl (fun K hK => ?_)); (repeat (first | (refine wo rfl (fun k hk => ?_); simp (disch := omega) only [go_sem, Nat.reduceBEq, Nat.reduceAdd]; refine hk _ _ ?_; clear hk k) | refine wkt rfl ?_)); (try refine wk0 ?_)
      refine wk (fun k hk => ?_); simp (disch := omega) only [go_sem, Nat.reduceBEq, Nat.reduceAdd]; refine ⟨_, at_one (st1.sub _ _ hb2), ?_⟩; refine hk _ _ ?_; clear hk k; (repeat (first | (refine wo rfl (fun k hk => ?_); simp (disch := omega) only [go_sem, Nat.reduceBEq, Nat.reduceAdd]; refine hk _ _ ?_; clear hk k) | refine wkt rfl ?_)); (try refine wk0 ?_)
      refine wk (fun k hk => ?_); simp (disch := omega) only [go_sem, Nat.reduceBEq, Nat.reduceAdd]; refine ⟨ds, hl', at_row (st1.sub _ _ hb3), ?_⟩; refine hk _ _ ?_; clear hk k; (repeat (first | (refine wo rfl (fun k hk => ?_); simp (disch := omega) only [go_sem, Nat.reduceBEq, Nat.reduceAdd]; refine hk _ _ ?_; clear hk k) | refine wkt rfl ?_)); (try refine wk0 ?_)
      exact cF rfl rfl rfl rfl (by exact Read_fail' hw g') (fun _ _ h => h)
    | false =>
      have hd := hd g g'
      show Gives _ _ _ o.fin
      cases o with
      | error e =>
        refine Spec.enter (args := [_, _, _]) (n := 13) Tryz.func142 rfl (by kernel_rfl) rfl (by simp) [.cell 3 26] rfl (fun C _ => ?_)
        repeat (first | (refine wo rfl (fun k hk => ?_); simp (disch := omega) only [go_sem, Nat.reduceBEq, Nat.reduceAdd]; refine hk _ _ ?_; clear hk k) | refine wkt rfl ?_ | refine wk0 ?_ | refine rg rfl rfl (fun K hK => ?_) | refine rd [.o 0, .o 1, .o 2, .o 3, .o 4, .o 5, .o 6] rfl (by decide +kernel) rfl (fun K hK => ?_) | ((first | refine AWP_exit ?_ | refine AWP_skip ?_); simp (disch := decide) only [qs, qb, if_true, if_false, reduceIte]) | refine AWP_sq rfl (fun K hK => ?_) | refine ct rfl ?_ | ((try simp (disch := omega) only [go_sem, Nat.reduceBEq, Nat.reduceAdd]); (first | apply hK | (clear hK; apply hK) | (clear hK; clear hK; apply hK)); clear hK; (try clear K); (try dsimp only [behind, qs, qb])))
        refine wk (fun k hk => ?_); simp (disch := omega) only [go_sem, Nat.reduceBEq, Nat.reduceAdd]; refine ⟨cs, hl, at_row hb1, ?_⟩; refine hk _ _ ?_; clear hk k; (repeat (first | (refine wo rfl (fun k hk => ?_); simp (disch := omega) only [go_sem, Nat.reduceBEq, Nat.reduceAdd]; refine hk _ _ ?_; clear hk k) | refine wkt rfl ?_)); (try refine wk0 ?_)
        refine cN rfl rfl rfl rfl (by exact Read_set hv g) ?_; rintro s1 h1 st1 hs1; obtain ⟨_, _, _, _, _, _, _, _, _, _, _, _, _, _, _, _, rfl, hs1⟩ := hs1.sa; (repeat (first | (refine wo rfl (fun k hk => ?_); simp (disch := omega) only [go_sem, Nat.reduceBEq, Nat.reduceAdd]; refine hk _ _ ?_; clear hk k) | refine wkt rfl ?_)); (try refine wk0 ?_)
        (try (simp (disch := omega) only [go_sem, Nat.reduceBEq, Nat.reduceAdd])); refine hK _ _ ?_; clear hK; (try clear K); (try dsimp only [behind, qs])
        (first | refine rg rfl rfl (fun K hK => ?_) | refine rd [.o 0, .o 1, .o 2, .o 3, .o 4, .o 5, .o 6] rfl (by decide +kernel) rfl (fun K hK => ?_)); (repeat (first | (refine wo rfl (fun k hk => ?_); simp (disch := omega) only [go_sem, Nat.reduceBEq, Nat.reduceAdd]; refine hk _ _ ?_; clear hk k) | refine wkt rfl ?_)); (try refine wk0 ?_)
        refine wk (fun k hk => ?_); simp (disch := omega) only [go_sem, Nat.reduceBEq, Nat.reduceAdd]; refine ⟨_, at_one (st1.sub _ _ hb2), ?_⟩; refine hk _ _ ?_; clear hk k; (repeat (first | (refine wo rfl (fun k hk => ?_); simp (disch := omega) only [go_sem, Nat.reduceBEq, Nat.reduceAdd]; refine hk _ _ ?_; clear hk k) | refine wkt rfl ?_)); (try refine wk0 ?_)
        refine wk (fun k hk => ?_); simp (disch := omega) only [go_sem, Nat.reduceBEq, Nat.reduceAdd]; refine ⟨ds, hl', at_row (st1.sub _ _ hb3), ?_⟩; refine hk _ _ ?_; clear hk k; (repeat (first | (refine wo rfl (fun k hk => ?_); simp (disch := omega) only [go_sem, Nat.reduceBEq, Nat.reduceAdd]; refine hk _ _ ?_; clear hk k) | refine wkt rfl ?_)); (try refine wk0 ?_)
        refine cN rfl rfl rfl rfl (by exact Read_set hw g') ?_; rintro s2 h2 st2 hs2; (repeat (first | (refine wo rfl (fun k hk => ?_); simp (disch := omega) only [go_sem, Nat.reduceBEq, Nat.reduceAdd]; refine hk _ _ ?_; clear hk k) | refine wkt rfl ?_)); (try refine wk0 ?_)
        exact cF rfl rfl rfl rfl (by exact (hd _ _ s2 hs1.to hs2).err) (fun _ _ h => h)
      | ok z =>
        dsimp only [Out.fin]
        by_cases hy : z.le 2048
        · rw [decide_eq_true hy, cond_true]
          refine Spec.enter (args := [_, _, _]) (n := 13) Tryz.func142 rfl (by kernel_rfl) rfl (by simp) [.cell 3 26] rfl (fun C _ => ?_)
          repeat (first | (refine wo rfl (fun k hk => ?_); simp (disch := omega) only [go_sem, Nat.reduceBEq, Nat.reduceAdd]; refine hk _ _ ?_; clear hk k) | refine wkt rfl ?_ | refine wk0 ?_ | refine rg rfl rfl (fun K hK => ?_) | refine rd [.o 0, .o 1, .o 2, .o 3, .o 4, .o 5, .o 6] rfl (by decide +kernel) rfl (fun K hK => ?_) | ((first | refine AWP_exit ?_ | refine AWP_skip ?_); simp (disch := decide) only [qs, qb, if_true, if_false, reduceIte]) | refine AWP_sq rfl (fun K hK => ?_) | refine ct rfl ?_ | ((try simp (disch := omega) only [go_sem, Nat.reduceBEq, Nat.reduceAdd]); (first | apply hK | (clear hK; apply hK) | (clear hK; clear hK; apply hK)); clear hK; (try clear K); (try dsimp only [behind, qs, qb])))
          refine wk (fun k hk => ?_); simp (disch := omega) only [go_sem, Nat.reduceBEq, Nat.reduceAdd]; refine ⟨cs, hl, at_row hb1, ?_⟩; refine hk _ _ ?_; clear hk k; (repeat (first | (refine wo rfl (fun k hk => ?_); simp (disch := omega) only [go_sem, Nat.reduceBEq, Nat.reduceAdd]; refine hk _ _ ?_; clear hk k) | refine wkt rfl ?_)); (try refine wk0 ?_)
          refine cN rfl rfl rfl rfl (by exact Read_set hv g) ?_; rintro s1 h1 st1 hs1; obtain ⟨_, _, _, _, _, _, _, _, _, _, _, _, _, _, _, _, rfl, hs1⟩ := hs1.sa; (repeat (first | (refine wo rfl (fun k hk => ?_); simp (disch := omega) only [go_sem, Nat.reduceBEq, Nat.reduceAdd]; refine hk _ _ ?_; clear hk k) | refine wkt rfl ?_)); (try refine wk0 ?_)
          (try (simp (disch := omega) only [go_sem, Nat.reduceBEq, Nat.reduceAdd])); refine hK _ _ ?_; clear hK; (try clear K); (try dsimp only [behind, qs])
          (first | refine rg rfl rfl (fun K hK => ?_) | refine rd [.o 0, .o 1, .o 2, .o 3, .o 4, .o 5, .o 6] rfl (by decide +kernel) rfl (fun K hK => ?_)); (repeat (first | (refine wo rfl (fun k hk => ?_); simp (disch := omega) only [go_sem, Nat.reduceBEq, Nat.reduceAdd]; refine hk _ _ ?_; clear hk k) | refine wkt rfl ?_)); (try refine wk0 ?_)
          refine wk (fun k hk => ?_); simp (disch := omega) only [go_sem, Nat.reduceBEq, Nat.reduceAdd]; refine ⟨_, at_one (st1.sub _ _ hb2), ?_⟩; refine hk _ _ ?_; clear hk k; (repeat (first | (refine wo rfl (fun k hk => ?_); simp (disch := omega) only [go_sem, Nat.reduceBEq, Nat.reduceAdd]; refine hk _ _ ?_; clear hk k) | refine wkt rfl ?_)); (try refine wk0 ?_)
          refine wk (fun k hk => ?_); simp (disch := omega) only [go_sem, Nat.reduceBEq, Nat.reduceAdd]; refine ⟨ds, hl', at_row (st1.sub _ _ hb3), ?_⟩; refine hk _ _ ?_; clear hk k; (repeat (first | (refine wo rfl (fun k hk => ?_); simp (disch := omega) only [go_sem, Nat.reduceBEq, Nat.reduceAdd]; refine hk _ _ ?_; clear hk k) | refine wkt rfl ?_)); (try refine wk0 ?_)
          refine cN rfl rfl rfl rfl (by exact Read_set hw g') ?_; rintro s2 h2 st2 hs2; (repeat (first | (refine wo rfl (fun k hk => ?_); simp (disch := omega) only [go_sem, Nat.reduceBEq, Nat.reduceAdd]; refine hk _ _ ?_; clear hk k) | refine wkt rfl ?_)); (try refine wk0 ?_)
          refine cN rfl rfl rfl rfl (by exact (hd _ _ s2 hs1.to hs2).ok) ?_; rintro s3 h3 st3 hs3; (repeat (first | (refine wo rfl (fun k hk => ?_); simp (disch := omega) only [go_sem, Nat.reduceBEq, Nat.reduceAdd]; refine hk _ _ ?_; clear hk k) | refine wkt rfl ?_)); (try refine wk0 ?_)
          refine cN rfl rfl rfl rfl (by exact Give_set hs3 hy) ?_; rintro v4 h4 st4 hv4; obtain ⟨_, _, _, _, _, _, _, _, _, _, _, _, _, _, _, _, rfl, hv4⟩ := hv4.sa; (repeat (first | (refine wo rfl (fun k hk => ?_); simp (disch := omega) only [go_sem, Nat.reduceBEq, Nat.reduceAdd]; refine hk _ _ ?_; clear hk k) | refine wkt rfl ?_)); (try refine wk0 ?_)
          (try (simp (disch := omega) only [go_sem, Nat.reduceBEq, Nat.reduceAdd])); refine hK _ _ ?_; clear hK; (try clear K); (try dsimp only [behind, qs])
          refine AWP_ret ?_; simp (disch := omega) only [go_sem, Nat.reduceBEq, Nat.reduceAdd]
          exact hv4
        · rw [decide_eq_false hy, cond_false]
          refine Spec.enter (args := [_, _, _]) (n := 13) Tryz.func142 rfl (by kernel_rfl) rfl (by simp) [.cell 3 26] rfl (fun C _ => ?_)
          repeat (first | (refine wo rfl (fun k hk => ?_); simp (disch := omega) only [go_sem, Nat.reduceBEq, Nat.reduceAdd]; refine hk _ _ ?_; clear hk k) | refine wkt rfl ?_ | refine wk0 ?_ | refine rg rfl rfl (fun K hK => ?_) | refine rd [.o 0, .o 1, .o 2, .o 3, .o 4, .o 5, .o 6] rfl (by decide +kernel) rfl (fun K hK => ?_) | ((first | refine AWP_exit ?_ | refine AWP_skip ?_); simp (disch := decide) only [qs, qb, if_true, if_false, reduceIte]) | refine AWP_sq rfl (fun K hK => ?_) | refine ct rfl ?_ | ((try simp (disch := omega) only [go_sem, Nat.reduceBEq, Nat.reduceAdd]); (first | apply hK | (clear hK; apply hK) | (clear hK; clear hK; apply hK)); clear hK; (try clear K); (try dsimp only [behind, qs, qb])))
          refine wk (fun k hk => ?_); simp (disch := omega) only [go_sem, Nat.reduceBEq, Nat.reduceAdd]; refine ⟨cs, hl, at_row hb1, ?_⟩; refine hk _ _ ?_; clear hk k; (repeat (first | (refine wo rfl (fun k hk => ?_); simp (disch := omega) only [go_sem, Nat.reduceBEq, Nat.reduceAdd]; refine hk _ _ ?_; clear hk k) | refine wkt rfl ?_)); (try refine wk0 ?_)
          refine cN rfl rfl rfl rfl (by exact Read_set hv g) ?_; rintro s1 h1 st1 hs1; obtain ⟨_, _, _, _, _, _, _, _, _, _, _, _, _, _, _, _, rfl, hs1⟩ := hs1.sa; (repeat (first | (refine wo rfl (fun k hk => ?_); simp (disch := omega) only [go_sem, Nat.reduceBEq, Nat.reduceAdd]; refine hk _ _ ?_; clear hk k) | refine wkt rfl ?_)); (try refine wk0 ?_)
          (try (simp (disch := omega) only [go_sem, Nat.reduceBEq, Nat.reduceAdd])); refine hK _ _ ?_; clear hK; (try clear K); (try dsimp only [behind, qs])
          (first | refine rg rfl rfl (fun K hK => ?_) | refine rd [.o 0, .o 1, .o 2, .o 3, .o 4, .o 5, .o 6] rfl (by decide +kernel) rfl (fun K hK => ?_)); (repeat (first | (refine wo rfl (fun k hk => ?_); simp (disch := omega) only [go_sem, Nat.reduceBEq, Nat.reduceAdd]; refine hk _ _ ?_; clear hk k) | refine wkt rfl ?_)); (try refine wk0 ?_)
          refine wk (fun k hk => ?_); simp (disch := omega) only [go_sem, Nat.reduceBEq, Nat.reduceAdd]; refine ⟨_, at_one (st1.sub _ _ hb2), ?_⟩; refine hk _ _ ?_; clear hk k; (repeat (first | (refine wo rfl (fun k hk => ?_); simp (disch := omega) only [go_sem, Nat.reduceBEq, Nat.reduceAdd]; refine hk _ _ ?_; clear hk k) | refine wkt rfl ?_)); (try refine wk0 ?_)
          refine wk (fun k hk => ?_); simp (disch := omega) only [go_sem, Nat.reduceBEq, Nat.reduceAdd]; refine ⟨ds, hl', at_row (st1.sub _ _ hb3), ?_⟩; refine hk _ _ ?_; clear hk k; (repeat (first | (refine wo rfl (fun k hk => ?_); simp (disch := omega) only [go_sem, Nat.reduceBEq, Nat.reduceAdd]; refine hk _ _ ?_; clear hk k) | refine wkt rfl ?_)); (try refine wk0 ?_)
          refine cN rfl rfl rfl rfl (by exact Read_set hw g') ?_; rintro s2 h2 st2 hs2; (repeat (first | (refine wo rfl (fun k hk => ?_); simp (disch := omega) only [go_sem, Nat.reduceBEq, Nat.reduceAdd]; refine hk _ _ ?_; clear hk k) | refine wkt rfl ?_)); (try refine wk0 ?_)
          refine cN rfl rfl rfl rfl (by exact (hd _ _ s2 hs1.to hs2).ok) ?_; rintro s3 h3 st3 hs3; (repeat (first | (refine wo rfl (fun k hk => ?_); simp (disch := omega) only [go_sem, Nat.reduceBEq, Nat.reduceAdd]; refine hk _ _ ?_; clear hk k) | refine wkt rfl ?_)); (try refine wk0 ?_)
          exact cF rfl rfl rfl rfl (by exact Give_fail hs3 hy) (fun _ _ h => h)
theorem exact_spec {h0 h : PH} [Le h0 h] {v w : Value} {x y : RI} {f : FuncId} {cap : Array Value} {o : Out} (hv : Iv h0 v x) (hw : Iv h0 w y)
    (hd : x.big = false → y.big = false → ∀ (h' : PH) [Le h h'] (s t : Value), Sd h' s x.set → Sd h' t y.set → Does f (s :: t :: cap.toList).toArray h' o) :
    Spec mach 102 #[v, w, .func (.func f) #[] cap] h (fun r h' => Ir h' r (x.fin2 y o)) NP := by
  have hv0 := hv
  have hw0 := hw
  obtain ⟨a1, m1, c1, a2, m2, c2, a3, m3, c3, a4, m4, c4, rfl, _, _⟩ := hv.sa
  obtain ⟨a1', m1', c1', a2', m2', c2', a3', m3', c3', a4', m4', c4', rfl, _, _⟩ := hw.sa
  refine Spec.enter (args := [_, _, _]) (n := 12) Tryz.func102 rfl (by kernel_rfl) rfl (by simp) [.cell 6 26, .tmp 7] rfl (fun C _ => ?_)
  repeat (first | (refine rg rfl rfl (fun K hK => ?_); (repeat (first | (refine wo rfl (fun k hk => ?_); simp (disch := omega) only [go_sem, Nat.reduceBEq, Nat.reduceAdd]; refine hk _ _ ?_; clear hk k) | refine wkt rfl ?_)); (try refine wk0 ?_); refine hK _ _ ?_; clear hK K; (try dsimp only [behind, qs, qb])) | ((first | refine AWP_exit ?_ | refine AWP_skip ?_); simp (disch := decide) only [qs, qb, if_true, if_false, reduceIte]) | refine AWP_sq rfl (fun K hK => ?_) | refine ct rfl ?_ | ((first | refine hK _ _ ?_ | (clear hK; refine hK _ _ ?_) | (clear hK; clear hK; refine hK _ _ ?_)); clear hK; (try clear K)))
  refine AWP_rsp [.p 0, .p 1, .p 2, .o 0, .o 1, .o 2, .o 3, .o 4, .o 5] rfl rfl (fun K hK => ?_); (repeat (first | (refine wo rfl (fun k hk => ?_); simp (disch := omega) only [go_sem, Nat.reduceBEq, Nat.reduceAdd]; refine hk _ _ ?_; clear hk k) | refine wkt rfl ?_)); (try refine wk0 ?_)
  refine wkp ?_; simp (disch := omega) only [go_sem, Nat.reduceBEq, Nat.reduceAdd]; intro b1 h1 st1 hb1; (repeat (first | (refine wo rfl (fun k hk => ?_); simp (disch := omega) only [go_sem, Nat.reduceBEq, Nat.reduceAdd]; refine hk _ _ ?_; clear hk k) | refine wkt rfl ?_)); (try refine wk0 ?_)
  refine wkp ?_; simp (disch := omega) only [go_sem, Nat.reduceBEq, Nat.reduceAdd]; intro b3 h2 st2 hb3; (repeat (first | (refine wo rfl (fun k hk => ?_); simp (disch := omega) only [go_sem, Nat.reduceBEq, Nat.reduceAdd]; refine hk _ _ ?_; clear hk k) | refine wkt rfl ?_)); (try refine wk0 ?_)
  refine wkp ?_; simp (disch := omega) only [go_sem, Nat.reduceBEq, Nat.reduceAdd]; intro b2 h3 st3 hb2; (repeat (first | (refine wo rfl (fun k hk => ?_); simp (disch := omega) only [go_sem, Nat.reduceBEq, Nat.reduceAdd]; refine hk _ _ ?_; clear hk k) | refine wkt rfl ?_)); (try refine wk0 ?_)
  have hb2 := hb2 (by simp)
  have hb3 := st3.sub _ _ (hb3 (by simp))
  have hb1 := st3.sub _ _ (st2.sub _ _ (hb1 (by simp)))
  refine cN rfl rfl rfl rfl (by exact try_any (exact1_spec (hv0.to (h' := h3)) (hw0.to (h' := h3)) rfl rfl hb1 hb2 rfl rfl hb3 (fun g g' h' i s t hs ht => @hd g g' h' (Le.tr inferInstance i) s t hs ht))) ?_; rintro r4 h4 st4 hr4; obtain ⟨_, _, _, _, _, _, _, _, _, _, _, _, _, _, _, _, _, rfl, hr4⟩ := hr4.sa; (repeat (first | (refine wo rfl (fun k hk => ?_); simp (disch := omega) only [go_sem, Nat.reduceBEq, Nat.reduceAdd]; refine hk _ _ ?_; clear hk k) | refine wkt rfl ?_)); (try refine wk0 ?_)
  (try (simp (disch := omega) only [go_sem, Nat.reduceBEq, Nat.reduceAdd])); refine hK _ _ ?_; clear hK; (try clear K); (try dsimp only [behind, qs])
  refine AWP_ret ?_; simp (disch := omega) only [go_sem, Nat.reduceBEq, Nat.reduceAdd]
  exact hr4
end Go.Q
namespace Go.Q
open Go.Proofs
set_option maxRecDepth 100000
set_option maxHeartbeats 4000000
def bad (p : Int) : Bool := decide (p < 0) || decide (128 < p)
theorem bad_no {p : Int} (h : bad p = false) : 0 ≤ p ∧ p ≤ 128 := by
  unfold bad at h
  simp only [Bool.or_eq_false_iff, decide_eq_false_iff_not] at h
  omega
theorem bad_yes {p : Int} (h : bad p = true) : p < 0 ∨ 128 < p := by
  unfold bad at h
  simpa using h
def Out.prec (p : Int) (o : Out) : Out := bif bad p then .error 2 else o
theorem NS.le30 {x : NS} (h : x.le 2048) : x.le (2 ^ 30) := h.up (by decide)
theorem RI.le30 {x : RI} (h : x.big = false) : x.set.le (2 ^ 30) := NS.le30 (RI.le h)
theorem Hull_p {h0 h : PH} [Le h0 h] {v : Value} {x : NS} {p : Int} (hv : Sn h0 v x) (hf : x.le (2 ^ 30)) (hp : 0 ≤ p ∧ p ≤ 128) :
    Spec mach 45 #[v, .int .i64 p] h (fun v h' => Sn h' v (x.hull p.toNat)) NP := by
  have := Hull_set (h := h) (p := p.toNat) hv hf (by omega)
  rwa [show ((p.toNat : Nat) : Int) = p by omega] at this
theorem Does.mk {f : FuncId} {args : Array Value} {h : PH} {x : NS} (s : Spec mach f args h (fun v h' => Sn h' v x) NP) : Does f args h (.ok x) := s
theorem Iv.mk {h : PH} {b b' : Bool} {x y x' y' : Value} {n1 n2 : Bool} {a1 d1 a2 d2 : Nat} (hv : Rw h (.agg #[.bool b, x, y]) n1 a1 d1) (hw : Rw h (.agg #[.bool b', x', y']) n2 a2 d2) (l u : Bool) : Iv h (.agg #[.bool b, x, y, .bool b', x', y', .bool l, .bool u]) ⟨n1, a1, d1, n2, a2, d2, l, u⟩ := by
  have e1 := hv
  have e2 := hw
  obtain ⟨_, _, _, _, _, _, e1, _⟩ := e1
  obtain ⟨_, _, _, _, _, _, e2, _⟩ := e2
  simp only [Value.agg.injEq, Array.mk.injEq, List.cons.injEq, and_true, Value.bool.injEq] at e1 e2
  obtain ⟨rfl, _, _⟩ := e1
  obtain ⟨rfl, _, _⟩ := e2
  exact ⟨_, _, _, _, rfl, hv, hw⟩
theorem NS.le.minus {x : NS} {k : Nat} (h : x.le k) : x.minus.le k := by
  cases x with
  | e => exact h
  | i a b =>
    rw [NS.le_i] at h
    show NS.le k (.i (b.map (-·)) (a.map (-·)))
    rw [NS.le_i]
    refine ⟨fun q e => ?_, fun q e => ?_⟩
    · cases b with
      | none => cases e
      | some b => cases e; rw [sz_neg]; exact h.2 _ rfl
    · cases a with
      | none => cases e
      | some a => cases e; rw [sz_neg]; exact h.1 _ rfl
def rnd (p : Int) (x y : NS) (o : Out) : Out := Out.prec p (bif x.void || y.void then .ok .e else match o with | .error e => .error e | .ok z => .ok (z.hull p.toNat))
theorem rounded1_spec {h0 h : PH} [Le h0 h] {s t : Value} {x y : NS} {p : Int} {f : FuncId} {cap : Array Value} {b1 b2 : Nat} {o : Out} (hs : Sd h0 s x) (ht : Sd h0 t y) (hb1 : h b1 = some #[.int .i64 p]) (hb2 : h b2 = some #[.func (.func f) #[] cap])
    (hd : x.void = false → y.void = false → ∀ (h' : PH) [Le h h'] (s t : Value), Sd h' s x → Sd h' t y → Does f (s :: t :: cap.toList).toArray h' o) (hl : ∀ z, o = .ok z → z.le (2 ^ 30)) :
    Does 103 #[s, t, .pointer (some ⟨b1, 0, none⟩), .pointer (some ⟨b2, 0, none⟩)] h (rnd p x y o) := by
  obtain ⟨_, _, _, _, _, _, _, _, _, _, _, _, _, _, _, _, rfl, hs⟩ := hs.sa
  obtain ⟨_, _, _, _, _, _, _, _, _, _, _, _, _, _, _, _, rfl, ht⟩ := ht.sa
  unfold rnd Out.prec
  cases g : bad p with
  | true =>
    show Spec _ _ _ _ NR (fail 2)
    refine Spec.enter (args := [_, _, _, _]) (n := 22) Tryz.func103 rfl (by kernel_rfl) rfl (by simp) [.cell 6 43] rfl (fun C _ => ?_)
    repeat (first | (refine wo rfl (fun k hk => ?_); simp (disch := omega) only [go_sem, Nat.reduceBEq, Nat.reduceAdd]; refine hk _ _ ?_; clear hk k) | refine wkt rfl ?_ | refine wk0 ?_ | refine rg rfl rfl (fun K hK => ?_) | refine rd [.o 0, .o 1, .o 2, .o 4, .o 3, .o 5, .o 6] rfl (by decide +kernel) rfl (fun K hK => ?_) | ((first | refine AWP_exit ?_ | refine AWP_skip ?_); simp (disch := decide) only [qs, qb, if_true, if_false, reduceIte]) | refine AWP_sq rfl (fun K hK => ?_) | refine ct rfl ?_ | ((try simp (disch := omega) only [go_sem, Nat.reduceBEq, Nat.reduceAdd]); (first | apply hK | (clear hK; apply hK) | (clear hK; clear hK; apply hK)); clear hK; (try clear K); (try dsimp only [behind, qs, qb])))
    refine wk (fun k hk => ?_); simp (disch := omega) only [go_sem, Nat.reduceBEq, Nat.reduceAdd]; refine ⟨_, at_one hb1, ?_⟩; refine hk _ _ ?_; clear hk k; (repeat (first | (refine wo rfl (fun k hk => ?_); simp (disch := omega) only [go_sem, Nat.reduceBEq, Nat.reduceAdd]; refine hk _ _ ?_; clear hk k) | refine wkt rfl ?_)); (try refine wk0 ?_)
    exact cF rfl rfl rfl rfl (by exact precise_fail (bad_yes g)) (fun _ _ h => h)
  | false =>
    have hp := bad_no g
    dsimp only [cond_false]
    cases gx : x.void with
    | true =>
      rw [gx] at hs
      show Spec _ _ _ _ _ NP
      refine Spec.enter (args := [_, _, _, _]) (n := 22) Tryz.func103 rfl (by kernel_rfl) rfl (by simp) [.cell 6 43] rfl (fun C _ => ?_)
      repeat (first | (refine wo rfl (fun k hk => ?_); simp (disch := omega) only [go_sem, Nat.reduceBEq, Nat.reduceAdd]; refine hk _ _ ?_; clear hk k) | refine wkt rfl ?_ | refine wk0 ?_ | refine rg rfl rfl (fun K hK => ?_) | refine rd [.o 0, .o 1, .o 2, .o 4, .o 3, .o 5, .o 6] rfl (by decide +kernel) rfl (fun K hK => ?_) | ((first | refine AWP_exit ?_ | refine AWP_skip ?_); simp (disch := decide) only [qs, qb, if_true, if_false, reduceIte]) | refine AWP_sq rfl (fun K hK => ?_) | refine ct rfl ?_ | ((try simp (disch := omega) only [go_sem, Nat.reduceBEq, Nat.reduceAdd]); (first | apply hK | (clear hK; apply hK) | (clear hK; clear hK; apply hK)); clear hK; (try clear K); (try dsimp only [behind, qs, qb])))
      refine wk (fun k hk => ?_); simp (disch := omega) only [go_sem, Nat.reduceBEq, Nat.reduceAdd]; refine ⟨_, at_one hb1, ?_⟩; refine hk _ _ ?_; clear hk k; (repeat (first | (refine wo rfl (fun k hk => ?_); simp (disch := omega) only [go_sem, Nat.reduceBEq, Nat.reduceAdd]; refine hk _ _ ?_; clear hk k) | refine wkt rfl ?_)); (try refine wk0 ?_)
      refine cN rfl rfl rfl rfl (by exact precise_ok hp.1 hp.2) ?_; rintro v1 h1 st1 _
      repeat (first | (refine wo rfl (fun k hk => ?_); simp (disch := omega) only [go_sem, Nat.reduceBEq, Nat.reduceAdd]; refine hk _ _ ?_; clear hk k) | refine wkt rfl ?_ | refine wk0 ?_ | refine rg rfl rfl (fun K hK => ?_) | refine rd [.o 0, .o 1, .o 2, .o 4, .o 3, .o 5, .o 6] rfl (by decide +kernel) rfl (fun K hK => ?_) | ((first | refine AWP_exit ?_ | refine AWP_skip ?_); simp (disch := decide) only [qs, qb, if_true, if_false, reduceIte]) | refine AWP_sq rfl (fun K hK => ?_) | refine ct rfl ?_ | ((try simp (disch := omega) only [go_sem, Nat.reduceBEq, Nat.reduceAdd]); (first | apply hK | (clear hK; apply hK) | (clear hK; clear hK; apply hK)); clear hK; (try clear K); (try dsimp only [behind, qs, qb])))
      refine AWP_ret ?_; simp (disch := omega) only [go_sem, Nat.reduceBEq, Nat.reduceAdd]
      exact ⟨_, _, _, _, _, _, _, _, rfl, En.nil _, En.nil _⟩
    | false =>
      rw [gx] at hs
      cases gy : y.void with
      | true =>
        rw [gy] at ht
        show Spec _ _ _ _ _ NP
        refine Spec.enter (args := [_, _, _, _]) (n := 22) Tryz.func103 rfl (by kernel_rfl) rfl (by simp) [.cell 6 43] rfl (fun C _ => ?_)
        repeat (first | (refine wo rfl (fun k hk => ?_); simp (disch := omega) only [go_sem, Nat.reduceBEq, Nat.reduceAdd]; refine hk _ _ ?_; clear hk k) | refine wkt rfl ?_ | refine wk0 ?_ | refine rg rfl rfl (fun K hK => ?_) | refine rd [.o 0, .o 1, .o 2, .o 4, .o 3, .o 5, .o 6] rfl (by decide +kernel) rfl (fun K hK => ?_) | ((first | refine AWP_exit ?_ | refine AWP_skip ?_); simp (disch := decide) only [qs, qb, if_true, if_false, reduceIte]) | refine AWP_sq rfl (fun K hK => ?_) | refine ct rfl ?_ | ((try simp (disch := omega) only [go_sem, Nat.reduceBEq, Nat.reduceAdd]); (first | apply hK | (clear hK; apply hK) | (clear hK; clear hK; apply hK)); clear hK; (try clear K); (try dsimp only [behind, qs, qb])))
        refine wk (fun k hk => ?_); simp (disch := omega) only [go_sem, Nat.reduceBEq, Nat.reduceAdd]; refine ⟨_, at_one hb1, ?_⟩; refine hk _ _ ?_; clear hk k; (repeat (first | (refine wo rfl (fun k hk => ?_); simp (disch := omega) only [go_sem, Nat.reduceBEq, Nat.reduceAdd]; refine hk _ _ ?_; clear hk k) | refine wkt rfl ?_)); (try refine wk0 ?_)
        refine cN rfl rfl rfl rfl (by exact precise_ok hp.1 hp.2) ?_; rintro v1 h1 st1 _
        repeat (first | (refine wo rfl (fun k hk => ?_); simp (disch := omega) only [go_sem, Nat.reduceBEq, Nat.reduceAdd]; refine hk _ _ ?_; clear hk k) | refine wkt rfl ?_ | refine wk0 ?_ | refine rg rfl rfl (fun K hK => ?_) | refine rd [.o 0, .o 1, .o 2, .o 4, .o 3, .o 5, .o 6] rfl (by decide +kernel) rfl (fun K hK => ?_) | ((first | refine AWP_exit ?_ | refine AWP_skip ?_); simp (disch := decide) only [qs, qb, if_true, if_false, reduceIte]) | refine AWP_sq rfl (fun K hK => ?_) | refine ct rfl ?_ | ((try simp (disch := omega) only [go_sem, Nat.reduceBEq, Nat.reduceAdd]); (first | apply hK | (clear hK; apply hK) | (clear hK; clear hK; apply hK)); clear hK; (try clear K); (try dsimp only [behind, qs, qb])))
        refine AWP_ret ?_; simp (disch := omega) only [go_sem, Nat.reduceBEq, Nat.reduceAdd]
        exact ⟨_, _, _, _, _, _, _, _, rfl, En.nil _, En.nil _⟩
      | false =>
        rw [gy] at ht
        have hd := hd gx gy
        cases o with
        | error e =>
          show Spec _ _ _ _ NR (fail e)
          refine Spec.enter (args := [_, _, _, _]) (n := 22) Tryz.func103 rfl (by kernel_rfl) rfl (by simp) [.cell 6 43] rfl (fun C _ => ?_)
          repeat (first | (refine wo rfl (fun k hk => ?_); simp (disch := omega) only [go_sem, Nat.reduceBEq, Nat.reduceAdd]; refine hk _ _ ?_; clear hk k) | refine wkt rfl ?_ | refine wk0 ?_ | refine rg rfl rfl (fun K hK => ?_) | refine rd [.o 0, .o 1, .o 2, .o 4, .o 3, .o 5, .o 6] rfl (by decide +kernel) rfl (fun K hK => ?_) | ((first | refine AWP_exit ?_ | refine AWP_skip ?_); simp (disch := decide) only [qs, qb, if_true, if_false, reduceIte]) | refine AWP_sq rfl (fun K hK => ?_) | refine ct rfl ?_ | ((try simp (disch := omega) only [go_sem, Nat.reduceBEq, Nat.reduceAdd]); (first | apply hK | (clear hK; apply hK) | (clear hK; clear hK; apply hK)); clear hK; (try clear K); (try dsimp only [behind, qs, qb])))
          refine wk (fun k hk => ?_); simp (disch := omega) only [go_sem, Nat.reduceBEq, Nat.reduceAdd]; refine ⟨_, at_one hb1, ?_⟩; refine hk _ _ ?_; clear hk k; (repeat (first | (refine wo rfl (fun k hk => ?_); simp (disch := omega) only [go_sem, Nat.reduceBEq, Nat.reduceAdd]; refine hk _ _ ?_; clear hk k) | refine wkt rfl ?_)); (try refine wk0 ?_)
          refine cN rfl rfl rfl rfl (by exact precise_ok hp.1 hp.2) ?_; rintro v1 h1 st1 _
          repeat (first | (refine wo rfl (fun k hk => ?_); simp (disch := omega) only [go_sem, Nat.reduceBEq, Nat.reduceAdd]; refine hk _ _ ?_; clear hk k) | refine wkt rfl ?_ | refine wk0 ?_ | refine rg rfl rfl (fun K hK => ?_) | refine rd [.o 0, .o 1, .o 2, .o 4, .o 3, .o 5, .o 6] rfl (by decide +kernel) rfl (fun K hK => ?_) | ((first | refine AWP_exit ?_ | refine AWP_skip ?_); simp (disch := decide) only [qs, qb, if_true, if_false, reduceIte]) | refine AWP_sq rfl (fun K hK => ?_) | refine ct rfl ?_ | ((try simp (disch := omega) only [go_sem, Nat.reduceBEq, Nat.reduceAdd]); (first | apply hK | (clear hK; apply hK) | (clear hK; clear hK; apply hK)); clear hK; (try clear K); (try dsimp only [behind, qs, qb])))
          refine wk (fun k hk => ?_); simp (disch := omega) only [go_sem, Nat.reduceBEq, Nat.reduceAdd]; refine ⟨_, at_one (st1.sub _ _ hb2), ?_⟩; refine hk _ _ ?_; clear hk k; (repeat (first | (refine wo rfl (fun k hk => ?_); simp (disch := omega) only [go_sem, Nat.reduceBEq, Nat.reduceAdd]; refine hk _ _ ?_; clear hk k) | refine wkt rfl ?_)); (try refine wk0 ?_)
          refine wk (fun k hk => ?_); simp (disch := omega) only [go_sem, Nat.reduceBEq, Nat.reduceAdd]; refine ⟨_, at_one (st1.sub _ _ hb1), ?_⟩; refine hk _ _ ?_; clear hk k; (repeat (first | (refine wo rfl (fun k hk => ?_); simp (disch := omega) only [go_sem, Nat.reduceBEq, Nat.reduceAdd]; refine hk _ _ ?_; clear hk k) | refine wkt rfl ?_)); (try refine wk0 ?_)
          exact cF rfl rfl rfl rfl (by exact (hd _ _ _ hs.to ht.to).err) (fun _ _ h => h)
        | ok z =>
          show Spec _ _ _ _ _ NP
          refine Spec.enter (args := [_, _, _, _]) (n := 22) Tryz.func103 rfl (by kernel_rfl) rfl (by simp) [.cell 6 43] rfl (fun C _ => ?_)
          repeat (first | (refine wo rfl (fun k hk => ?_); simp (disch := omega) only [go_sem, Nat.reduceBEq, Nat.reduceAdd]; refine hk _ _ ?_; clear hk k) | refine wkt rfl ?_ | refine wk0 ?_ | refine rg rfl rfl (fun K hK => ?_) | refine rd [.o 0, .o 1, .o 2, .o 4, .o 3, .o 5, .o 6] rfl (by decide +kernel) rfl (fun K hK => ?_) | ((first | refine AWP_exit ?_ | refine AWP_skip ?_); simp (disch := decide) only [qs, qb, if_true, if_false, reduceIte]) | refine AWP_sq rfl (fun K hK => ?_) | refine ct rfl ?_ | ((try simp (disch := omega) only [go_sem, Nat.reduceBEq, Nat.reduceAdd]); (first | apply hK | (clear hK; apply hK) | (clear hK; clear hK; apply hK)); clear hK; (try clear K); (try dsimp only [behind, qs, qb])))
          refine wk (fun k hk => ?_); simp (disch := omega) only [go_sem, Nat.reduceBEq, Nat.reduceAdd]; refine ⟨_, at_one hb1, ?_⟩; refine hk _ _ ?_; clear hk k; (repeat (first | (refine wo rfl (fun k hk => ?_); simp (disch := omega) only [go_sem, Nat.reduceBEq, Nat.reduceAdd]; refine hk _ _ ?_; clear hk k) | refine wkt rfl ?_)); (try refine wk0 ?_)
          refine cN rfl rfl rfl rfl (by exact precise_ok hp.1 hp.2) ?_; rintro v1 h1 st1 _
          repeat (first | (refine wo rfl (fun k hk => ?_); simp (disch := omega) only [go_sem, Nat.reduceBEq, Nat.reduceAdd]; refine hk _ _ ?_; clear hk k) | refine wkt rfl ?_ | refine wk0 ?_ | refine rg rfl rfl (fun K hK => ?_) | refine rd [.o 0, .o 1, .o 2, .o 4, .o 3, .o 5, .o 6] rfl (by decide +kernel) rfl (fun K hK => ?_) | ((first | refine AWP_exit ?_ | refine AWP_skip ?_); simp (disch := decide) only [qs, qb, if_true, if_false, reduceIte]) | refine AWP_sq rfl (fun K hK => ?_) | refine ct rfl ?_ | ((try simp (disch := omega) only [go_sem, Nat.reduceBEq, Nat.reduceAdd]); (first | apply hK | (clear hK; apply hK) | (clear hK; clear hK; apply hK)); clear hK; (try clear K); (try dsimp only [behind, qs, qb])))
          refine wk (fun k hk => ?_); simp (disch := omega) only [go_sem, Nat.reduceBEq, Nat.reduceAdd]; refine ⟨_, at_one (st1.sub _ _ hb2), ?_⟩; refine hk _ _ ?_; clear hk k; (repeat (first | (refine wo rfl (fun k hk => ?_); simp (disch := omega) only [go_sem, Nat.reduceBEq, Nat.reduceAdd]; refine hk _ _ ?_; clear hk k) | refine wkt rfl ?_)); (try refine wk0 ?_)
          refine wk (fun k hk => ?_); simp (disch := omega) only [go_sem, Nat.reduceBEq, Nat.reduceAdd]; refine ⟨_, at_one (st1.sub _ _ hb1), ?_⟩; refine hk _ _ ?_; clear hk k; (repeat (first | (refine wo rfl (fun k hk => ?_); simp (disch := omega) only [go_sem, Nat.reduceBEq, Nat.reduceAdd]; refine hk _ _ ?_; clear hk k) | refine wkt rfl ?_)); (try refine wk0 ?_)
          refine cN rfl rfl rfl rfl (by exact (hd _ _ _ hs.to ht.to).ok) ?_; rintro v2 h2 st2 hv2; (repeat (first | (refine wo rfl (fun k hk => ?_); simp (disch := omega) only [go_sem, Nat.reduceBEq, Nat.reduceAdd]; refine hk _ _ ?_; clear hk k) | refine wkt rfl ?_)); (try refine wk0 ?_)
          refine cN rfl rfl rfl rfl (by exact Hull_p hv2 (hl _ rfl) hp) ?_; rintro v3 h3 st_h3 hv3; obtain ⟨v3_0, v3_1, v3_2, v3_3, v3_4, v3_5, v3_6, v3_7, v3_8, v3_9, v3_10, v3_11, v3_12, v3_13, v3_14, v3_15, rfl, hv3⟩ := hv3.sa; (repeat (first | (refine wo rfl (fun k hk => ?_); simp (disch := omega) only [go_sem, Nat.reduceBEq, Nat.reduceAdd]; refine hk _ _ ?_; clear hk k) | refine wkt rfl ?_)); (try refine wk0 ?_)
          (try (simp (disch := omega) only [go_sem, Nat.reduceBEq, Nat.reduceAdd])); refine hK _ _ ?_; clear hK; (try clear K); (try dsimp only [behind, qs])
          refine AWP_ret ?_; simp (disch := omega) only [go_sem, Nat.reduceBEq, Nat.reduceAdd]
          exact hv3
theorem rounded_spec {h0 h : PH} [Le h0 h] {v w : Value} {x y : RI} {p : Int} {f : FuncId} {cap : Array Value} {o : Out} (hv : Iv h0 v x) (hw : Iv h0 w y)
    (hd : x.big = false → y.big = false → x.set.void = false → y.set.void = false → ∀ (h' : PH) [Le h h'] (s t : Value), Sd h' s x.set → Sd h' t y.set → Does f (s :: t :: cap.toList).toArray h' o) (hl : x.big = false → y.big = false → ∀ z, o = .ok z → z.le (2 ^ 30)) :
    Spec mach 50 #[v, w, .int .i64 p, .func (.func f) #[] cap] h (fun r h' => Ir h' r (x.fin2 y (rnd p x.set y.set o))) NP := by
  have hv0 := hv
  have hw0 := hw
  obtain ⟨a1, m1, c1, a2, m2, c2, a3, m3, c3, a4, m4, c4, rfl, _, _⟩ := hv.sa
  obtain ⟨a1', m1', c1', a2', m2', c2', a3', m3', c3', a4', m4', c4', rfl, _, _⟩ := hw.sa
  refine Spec.enter (args := [_, _, _, _]) (n := 16) Tryz.func50 rfl (by kernel_rfl) rfl (by simp) [.cell 8 26, .tmp 9] rfl (fun C _ => ?_)
  repeat (first | (refine rg rfl rfl (fun K hK => ?_); (repeat (first | (refine wo rfl (fun k hk => ?_); simp (disch := omega) only [go_sem, Nat.reduceBEq, Nat.reduceAdd]; refine hk _ _ ?_; clear hk k) | refine wkt rfl ?_)); (try refine wk0 ?_); refine hK _ _ ?_; clear hK K; (try dsimp only [behind, qs, qb])) | ((first | refine AWP_exit ?_ | refine AWP_skip ?_); simp (disch := decide) only [qs, qb, if_true, if_false, reduceIte]) | refine AWP_sq rfl (fun K hK => ?_) | refine ct rfl ?_ | ((first | refine hK _ _ ?_ | (clear hK; refine hK _ _ ?_) | (clear hK; clear hK; refine hK _ _ ?_)); clear hK; (try clear K)))
  refine AWP_rsp [.p 2, .p 3, .o 0, .o 1, .o 2, .o 3, .o 4, .o 5, .o 6, .o 7] rfl rfl (fun K hK => ?_); (repeat (first | (refine wo rfl (fun k hk => ?_); simp (disch := omega) only [go_sem, Nat.reduceBEq, Nat.reduceAdd]; refine hk _ _ ?_; clear hk k) | refine wkt rfl ?_)); (try refine wk0 ?_)
  refine wkp ?_; simp (disch := omega) only [go_sem, Nat.reduceBEq, Nat.reduceAdd]; intro b1 h1 st1 hb1; (repeat (first | (refine wo rfl (fun k hk => ?_); simp (disch := omega) only [go_sem, Nat.reduceBEq, Nat.reduceAdd]; refine hk _ _ ?_; clear hk k) | refine wkt rfl ?_)); (try refine wk0 ?_)
  refine wkp ?_; simp (disch := omega) only [go_sem, Nat.reduceBEq, Nat.reduceAdd]; intro b2 h2 st2 hb2; (repeat (first | (refine wo rfl (fun k hk => ?_); simp (disch := omega) only [go_sem, Nat.reduceBEq, Nat.reduceAdd]; refine hk _ _ ?_; clear hk k) | refine wkt rfl ?_)); (try refine wk0 ?_)
  have hb2 := hb2 (by simp)
  have hb1 := st2.sub _ _ (hb1 (by simp))
  refine cN rfl rfl rfl rfl (by exact exact_spec (hv0.to (h' := h2)) (hw0.to (h' := h2)) (fun g g' h' i s t hs ht => rounded1_spec hs ht (i.sub _ _ hb1) (i.sub _ _ hb2) (fun k k' h'' i' s t hs ht => @hd g g' k k' h'' (Le.tr (Le.tr inferInstance i) i') s t hs ht) (hl g g'))) ?_; rintro r4 h4 st_h4 hr4; obtain ⟨r4_0, r4_1, r4_2, r4_3, r4_4, r4_5, r4_6, r4_7, r4_8, r4_9, r4_10, r4_11, r4_12, r4_13, r4_14, r4_15, r4_16, rfl, hr4⟩ := hr4.sa; (repeat (first | (refine wo rfl (fun k hk => ?_); simp (disch := omega) only [go_sem, Nat.reduceBEq, Nat.reduceAdd]; refine hk _ _ ?_; clear hk k) | refine wkt rfl ?_)); (try refine wk0 ?_)
  (try (simp (disch := omega) only [go_sem, Nat.reduceBEq, Nat.reduceAdd])); refine hK _ _ ?_; clear hK; (try clear K); (try dsimp only [behind, qs])
  refine AWP_ret ?_; simp (disch := omega) only [go_sem, Nat.reduceBEq, Nat.reduceAdd]
  exact hr4
end Go.Q
namespace Go.Q
open Go.Proofs
set_option maxRecDepth 100000
set_option maxHeartbeats 4000000
theorem NS.le.sum {x y : NS} (hx : x.le 2048) (hy : y.le 2048) : (x.sum y).le (2 ^ 30) := by
  cases x with
  | e => rfl
  | i a b => cases y with
    | e => rfl
    | i c d =>
      rw [NS.le_i] at hx hy
      show NS.le _ (.i (oadd a c) (oadd b d))
      rw [NS.le_i]
      refine ⟨fun q e => ?_, fun q e => ?_⟩
      · cases a with
        | none => cases e
        | some a => cases c with
          | none => cases e
          | some c =>
            cases e
            have := sz_add a c
            have := hx.1 _ rfl
            have := hy.1 _ rfl
            omega
      · cases b with
        | none => cases e
        | some b => cases d with
          | none => cases e
          | some d =>
            cases e
            have := sz_add b d
            have := hx.2 _ rfl
            have := hy.2 _ rfl
            omega
theorem Sum1 {h0 h : PH} [Le h0 h] {s t : Value} {x y : NS} (hs : Sn h0 s x) (ht : Sn h0 t y) (gx : x.void = false) (gy : y.void = false) (lx : x.le (2 ^ 30)) (ly : y.le (2 ^ 30)) : Spec mach 91 #[s, t] h (fun v h' => Sn h' v (x.sum y)) NP := by
  cases x with
  | e => cases gx
  | i a b => cases y with
    | e => cases gy
    | i c d => exact sum_set hs ht lx ly
theorem AddI_spec {h0 h : PH} [Le h0 h] {v w : Value} {x y : RI} {p : Int} (hv : Iv h0 v x) (hw : Iv h0 w y) : Spec mach 40 #[v, w, .int .i64 p] h (fun r h' => Ir h' r (x.fin2 y (rnd p x.set y.set (.ok (x.set.sum y.set))))) NP := by
  have hv0 := hv
  have hw0 := hw
  obtain ⟨a1, m1, c1, a2, m2, c2, a3, m3, c3, a4, m4, c4, rfl, _, _⟩ := hv.sa
  obtain ⟨a1', m1', c1', a2', m2', c2', a3', m3', c3', a4', m4', c4', rfl, _, _⟩ := hw.sa
  refine Spec.enter (args := [_, _, _]) (n := 14) Tryz.func40 rfl (by kernel_rfl) rfl (by simp) [.cell 6 26, .tmp 7] rfl (fun C _ => ?_)
  repeat (first | (refine wo rfl (fun k hk => ?_); simp (disch := omega) only [go_sem, Nat.reduceBEq, Nat.reduceAdd]; refine hk _ _ ?_; clear hk k) | refine wkt rfl ?_ | refine wk0 ?_ | refine rg rfl rfl (fun K hK => ?_) | ((first | refine AWP_exit ?_ | refine AWP_skip ?_); simp (disch := decide) only [qs, qb, if_true, if_false, reduceIte]) | refine AWP_sq rfl (fun K hK => ?_) | refine ct rfl ?_ | ((try simp (disch := omega) only [go_sem, Nat.reduceBEq, Nat.reduceAdd]); (first | apply hK | (clear hK; apply hK) | (clear hK; clear hK; apply hK)); clear hK; (try clear K); (try dsimp only [behind, qs, qb])))
  refine cN rfl rfl rfl rfl (by exact rounded_spec hv0 hw0 (fun g g' k k' h' _ s t hs ht => Does.mk (Sum1 hs.sn ht.sn k k' (RI.le30 g) (RI.le30 g'))) (fun g g' z e => by cases e; exact NS.le.sum (RI.le g) (RI.le g'))) ?_; rintro r3 h3 st_h3 hr3; obtain ⟨r3_0, r3_1, r3_2, r3_3, r3_4, r3_5, r3_6, r3_7, r3_8, r3_9, r3_10, r3_11, r3_12, r3_13, r3_14, r3_15, r3_16, rfl, hr3⟩ := hr3.sa; (repeat (first | (refine wo rfl (fun k hk => ?_); simp (disch := omega) only [go_sem, Nat.reduceBEq, Nat.reduceAdd]; refine hk _ _ ?_; clear hk k) | refine wkt rfl ?_)); (try refine wk0 ?_)
  (try (simp (disch := omega) only [go_sem, Nat.reduceBEq, Nat.reduceAdd])); refine hK _ _ ?_; clear hK; (try clear K); (try dsimp only [behind, qs])
  refine AWP_ret ?_; simp (disch := omega) only [go_sem, Nat.reduceBEq, Nat.reduceAdd]
  exact hr3
end Go.Q
