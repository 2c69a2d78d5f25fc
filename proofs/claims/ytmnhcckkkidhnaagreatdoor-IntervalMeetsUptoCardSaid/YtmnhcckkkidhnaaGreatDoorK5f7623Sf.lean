/-
  Contracts of the reference's intervals: numbers in a set. Conditions: the values are intervals (Iv), sets (Rr) and numbers (Rw, Qr).
-/
import Derived.Test.YtmnhcckkkidhnaaGreatDoorK8e510cSd
import Derived.Test.YtmnhcckkkidhnaaGreatDoorK509fbbIl
set_option linter.unusedVariables false
set_option linter.unusedSimpArgs false
namespace Go.Q
open Go.Proofs
set_option maxRecDepth 100000
set_option maxHeartbeats 4000000
theorem yes_spec {h : PH} {b : Bool} {e : Int} : Spec mach 25 #[.bool b, .int .i64 e, .bool b, .int .i64 e] h (fun r _ => r = .bool true) NP := by
  cases b
  · refine Spec.enter (args := [_, _, _, _]) (n := 17) Tryz.func25 rfl (by kernel_rfl) rfl (by simp) [.tmp 8] rfl (fun C _ => ?_)
    repeat (first | (refine rg rfl rfl (fun K hK => ?_); (repeat (first | (refine wo rfl (fun k hk => ?_); simp (disch := omega) only [go_sem, Nat.reduceBEq, Nat.reduceAdd]; refine hk _ _ ?_; clear hk k) | refine wkt rfl ?_)); (try refine wk0 ?_); refine hK _ _ ?_; clear hK K; (try dsimp only [behind, qs, qb])) | ((first | refine AWP_exit ?_ | refine AWP_skip ?_); simp (disch := decide) only [qs, qb, if_true, if_false, reduceIte]) | refine AWP_sq rfl (fun K hK => ?_) | refine ct rfl ?_ | ((first | refine hK _ _ ?_ | (clear hK; refine hK _ _ ?_) | (clear hK; clear hK; refine hK _ _ ?_)); clear hK; (try clear K)))
    refine AWP_ret ?_; simp (disch := omega) only [go_sem, Nat.reduceBEq, Nat.reduceAdd]
  · refine Spec.enter (args := [_, _, _, _]) (n := 17) Tryz.func25 rfl (by kernel_rfl) rfl (by simp) [.tmp 8] rfl (fun C _ => ?_)
    repeat (first | (refine rg rfl rfl (fun K hK => ?_); (repeat (first | (refine wo rfl (fun k hk => ?_); simp (disch := omega) only [go_sem, Nat.reduceBEq, Nat.reduceAdd]; refine hk _ _ ?_; clear hk k) | refine wkt rfl ?_)); (try refine wk0 ?_); refine hK _ _ ?_; clear hK K; (try dsimp only [behind, qs, qb])) | ((first | refine AWP_exit ?_ | refine AWP_skip ?_); simp (disch := decide) only [qs, qb, if_true, if_false, reduceIte]) | refine AWP_sq rfl (fun K hK => ?_) | refine ct rfl ?_ | ((first | refine hK _ _ ?_ | (clear hK; refine hK _ _ ?_) | (clear hK; clear hK; refine hK _ _ ?_)); clear hK; (try clear K)))
    refine AWP_ret ?_; simp (disch := omega) only [go_sem, Nat.reduceBEq, Nat.reduceAdd]
theorem Br.u {r r' : Value} {o : Except Int Bool} (h : Br r o) (h' : Br r' o) : r' = r := by
  cases o with
  | ok b => cases (h : r = _); exact h'
  | error e => cases (h : r = _); exact h'
end Go.Q
