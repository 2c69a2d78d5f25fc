/-
  Contracts of package elem, and what stands on it. Conditions: each theorem's own.
-/
import Derived.Test.YtpipfclemmbmcabGreatDoorK3aad23PkF
import Derived.Test.YtpipfclemmbmcabGreatDoorK943100PkJ
import Derived.Test.YtpipfclemmbmcabGreatDoorKe626caPkI
set_option linter.unusedVariables false
set_option linter.unusedSimpArgs false
open Nat renaming reduceBEq→ξ,reduceAdd→ζ,le_trans→χ,mul_le_mul_right→ψ,le_refl→η,mul_comm→ρ,pos_of_ne_zero→τ,mul_le_mul_left→ω,mul_assoc→σ,mul_le_mul→qAk,mul_add→qAm,pow_succ→qAn,pow_pos→qAo,pow_add→qAs,pow_le_pow_right→qAv,mul_ne_zero→qBe,mul_left_comm→qBg,zero_le→qBh,one_mul→qBm
open Bool renaming and_eq_true→φ
open List renaming all_eq_true→qBd
namespace Go.Q
open Go.Proofs
set_option maxRecDepth 100000
set_option maxHeartbeats 8000000
theorem N32.len0y {h:PH} {a:Option Addr} {l c n:Nat} (r:N32 h (.slice a l c) n):l=0↔n=0:=by
 obtain⟨a',c',e,_⟩:=r
 cases e
 exact nP (by decide)
theorem Cn.parts {h:PH} {v:Value} {x:Rat} (r:Cn h v x):∃na nl nc da dl dc,v=.agg #[.bool (decide (x.num < 0)),.slice na nl nc,.slice da dl dc]∧N32 h (.slice na nl nc) x.num.natAbs∧N32 h (.slice da dl dc) (if x.den=1 then 0 else x.den)∧(nl=0↔x=0)∧(dl=0↔x.den=1):=by
 obtain⟨sn,sd,rfl,h1,h2⟩:=r
 obtain⟨na,nl,nc,rfl,h1⟩:=h1.sl
 obtain⟨da,dl,dc,rfl,h2⟩:=h2.sl
 refine⟨_,_,_,_,_,_,rfl,h1,h2,?_,?_⟩
 ·rw[h1.len0y,Int.natAbs_eq_zero,Rat.num_eq_zero]
 ·rw[h2.len0y]
  have:=x.den_nz
  split<;>omega
theorem jg {h0 h:PH} [Le h0 h] {v:Value} {x:Rat} (hx:Cn h0 v x):Spec mach 102 #[v] h (fun v h'=>N32 h' v x.den) NP:=by
 obtain⟨na,nl,nc,da,dl,dc,rfl,hn,hd,e1,e2⟩:=hx.parts
 by_cases h1:x.den=1
 ·have e3:((dl:Int) == 0)=true:=by simp[e2.2 h1]
  rw[h1]
  refine Spec.go [] Tryz.func102 rfl rfl (by kernel_rfl) fun C _=>?_
  simp(maxSteps:=999999) (disch:=omega) only[go_sem,ξ,ζ,e3]
  refine caN (by exact aw (n:=1) (by decide)) ?_;rintro _ g1 _ q1;obtain⟨v1,_,_,rfl,q1⟩:=q1.sl
  simp(maxSteps:=999999) (disch:=omega) only[go_sem,ξ,ζ]
  exact q1
 ·have e3:((dl:Int) == 0)=false:=by have:=mt e2.1 h1;simp;omega
  rw[if_neg h1] at hd
  refine Spec.go [] Tryz.func102 rfl rfl (by kernel_rfl) fun C _=>?_
  simp(maxSteps:=999999) (disch:=omega) only[go_sem,ξ,ζ,e3]
  exact hd.to
theorem Cf {h0 h:PH} [Le h0 h] {v:Value} {x:Rat} (hx:Cn h0 v x):Spec mach 180 #[v] h (fun v _=>v=.bool (decide (x=1))) NP:=by
 obtain⟨na,nl,nc,da,dl,dc,rfl,hn,hd,e1,e2⟩:=hx.parts
 have kO:=fun {h} [Le h0 h]=>rH (h:=h) hn
 have e4:x=1↔¬x.num < 0∧x.den=1∧x.num.natAbs=1:=by
  constructor
  ·rintro rfl;decide
  ·rintro⟨k1,k2,k3⟩
   apply Rat.ext
   ·show x.num=1;omega
   ·show x.den=1;exact k2
 cases hs:decide (x.num < 0) with
 | true=>
  have hs':=of_decide_eq_true hs
  rw[decide_eq_false (fun k=>(e4.1 k).1 hs')]
  refine Spec.go [] Tryz.func180 rfl rfl (by kernel_rfl) fun C _=>?_
  simp(maxSteps:=999999) (disch:=omega) only[go_sem,ξ,ζ]
 | false=>
  have hs':=of_decide_eq_false hs
  by_cases h1:x.den=1
  ·have e3:((dl:Int) == 0)=true:=by simp[e2.2 h1]
   rw[show decide (x=1)=decide (x.num.natAbs=1) by simp only[e4,h1,hs',true_and,not_false_eq_true]]
   refine Spec.go [] Tryz.func180 rfl rfl (by kernel_rfl) fun C _=>?_
   simp(maxSteps:=999999) (disch:=omega) only[go_sem,ξ,ζ,e3]
   refine caN (by exact kO) ?_;rintro _ g1 _ q1;obtain⟨v1,_,_,rfl,q1⟩:=q1.sl
   simp(maxSteps:=999999) (disch:=omega) only[go_sem,ξ,ζ]
   refine caN (by exact wY q1) ?_;rintro v2 h2 s2 rfl
   simp(maxSteps:=999999) (disch:=omega) only[go_sem,ξ,ζ]
  ·have e3:((dl:Int) == 0)=false:=by have:=mt e2.1 h1;simp;omega
   rw[decide_eq_false (fun k=>h1 (e4.1 k).2.1)]
   refine Spec.go [] Tryz.func180 rfl rfl (by kernel_rfl) fun C _=>?_
   simp(maxSteps:=999999) (disch:=omega) only[go_sem,ξ,ζ,e3]
def defB (fn:Int) (x:Rat):Bool:=if fn=2 then decide (0 < x) else if fn=6∨fn=7 then decide (x.num.natAbs≤x.den) else true
theorem dE {h0 h:PH} [Le h0 h] {v:Value} {x:Rat} {fn:Int} (hx:Cn h0 v x):Spec mach 178 #[.int .i64 fn,v] h (fun v _=>v=.bool (defB fn x)) NP:=by
 have kW:=fun {h} [Le h0 h]=>jg (h:=h) hx
 obtain⟨na,nl,nc,da,dl,dc,rfl,hn,hd,e1,e2⟩:=hx.parts
 have kO:=fun {h} [Le h0 h]=>rH (h:=h) hn
 unfold defB
 by_cases h2:fn=2
 ·subst h2
  rw[if_pos rfl]
  cases hs:decide (x.num < 0) with
  | true=>
   have hs':=of_decide_eq_true hs
   rw[decide_eq_false (show ¬0 < x by rw[num_neg] at hs';grind)]
   refine Spec.go [(6,.o [0,1,3,2,4,5,6,7])] Tryz.func178 rfl rfl (by kernel_rfl) fun C _=>?_
   simp(maxSteps:=999999) (disch:=omega) only[go_sem,ξ,ζ]
  | false=>
   have hs':=of_decide_eq_false hs
   rw[num_neg] at hs'
   by_cases h0':x=0
   ·have e3:decide ((nl:Int) > 0)=false:=decide_eq_false (by have:=e1.2 h0';omega)
    rw[decide_eq_false (show ¬0 < x by grind)]
    refine Spec.go [(6,.o [0,1,3,2,4,5,6,7])] Tryz.func178 rfl rfl (by kernel_rfl) fun C _=>?_
    simp(maxSteps:=999999) (disch:=omega) only[go_sem,ξ,ζ,e3]
   ·have e3:decide ((nl:Int) > 0)=true:=decide_eq_true (by have:=mt e1.1 h0';omega)
    rw[decide_eq_true (show 0 < x by grind)]
    refine Spec.go [(6,.o [0,1,3,2,4,5,6,7])] Tryz.func178 rfl rfl (by kernel_rfl) fun C _=>?_
    simp(maxSteps:=999999) (disch:=omega) only[go_sem,ξ,ζ,e3]
 ·have f2:(fn == 2)=false:=by simpa using h2
  rw[if_neg h2]
  by_cases h6:fn=6∨fn=7
  ·rw[if_pos h6]
   have e5:decide (cmp3 x.num.natAbs x.den≤0)=decide (x.num.natAbs≤x.den):=by unfold cmp3;grind
   rcases h6 with rfl |rfl
   all_goals
    refine Spec.go [(6,.o [0,1,3,2,4,5,6,7])] Tryz.func178 rfl rfl (by kernel_rfl) fun C _=>?_
    simp(maxSteps:=999999) (disch:=omega) only[go_sem,ξ,ζ]
    refine caN (by exact kO) ?_;rintro _ g1 _ q1;obtain⟨v1,_,_,rfl,q1⟩:=q1.sl
    simp(maxSteps:=999999) (disch:=omega) only[go_sem,ξ,ζ]
    refine caN (by exact kW) ?_;rintro _ g2 _ q2;obtain⟨v2,_,_,rfl,q2⟩:=q2.sl
    simp(maxSteps:=999999) (disch:=omega) only[go_sem,ξ,ζ]
    refine caN (by exact fO (q1.to (h':=g2)) q2) ?_;rintro v3 h3 s3 rfl
    simp(maxSteps:=999999) (disch:=omega) only[go_sem,ξ,ζ,e5]
  ·have f6:(fn == 6)=false:=by simp;omega
   have f7:(fn == 7)=false:=by simp;omega
   rw[if_neg h6]
   refine Spec.go [(6,.o [0,1,3,2,4,5,6,7])] Tryz.func178 rfl rfl (by kernel_rfl) fun C _=>?_
   simp(maxSteps:=999999) (disch:=omega) only[go_sem,ξ,ζ,f2,f6,f7]
def exB (fn:Int) (x:Rat):Bool:=if fn=2∨fn=7 then decide (x=1) else decide (x=0)
def exV (fn:Int) (x:Rat):Rat:=if (fn=1∨fn=4)∧x=0 then 1 else 0
theorem ni {h0 h:PH} [Le h0 h] {v:Value} {x:Rat} {fn:Int} (hx:Cn h0 v x):Spec mach 119 #[.int .i64 fn,v] h (fun r h'=>∃b na nl nc da dl dc,r=.tuple #[.agg #[.bool b,.slice na nl nc,.slice da dl dc],.bool (exB fn x)]∧Cn h' (.agg #[.bool b,.slice na nl nc,.slice da dl dc]) (exV fn x)) NP:=by
 have kI:=fun {h} [Le h0 h]=>Cf (h:=h) hx
 obtain⟨na,nl,nc,da,dl,dc,rfl,hn,hd,e1,e2⟩:=hx.parts
 have e3:((nl:Int) == 0)=decide (x=0):=by
  rw[Bool.eq_iff_iff];simp only[beq_iff_eq,decide_eq_true_eq,←e1];omega
 unfold exB exV
 by_cases h14:fn=1∨fn=4
 ·rw[if_neg (show ¬(fn=2∨fn=7) by omega)]
  by_cases hz:x=0
  ·rw[decide_eq_true hz] at e3
   rw[if_pos ⟨h14,hz⟩,decide_eq_true hz]
   rcases h14 with rfl |rfl
   all_goals
    refine Spec.go [(2,.y (.a 0 (.a 1 (.a 2 (.a 3 (.a 4 (.a 5 (.a 6 .d .n) .n) (.a 5 (.a 4 (.a 6 .d .n) .n) .n)) (.a 5 (.a 3 (.a 4 (.a 6 .d .n) .n) .n) .n)) (.a 5 (.a 2 (.a 3 (.a 4 (.a 6 .d .n) .n) .n) .n) .n)) (.a 5 (.a 1 (.a 2 (.a 3 (.a 4 (.a 6 .d .n) .n) .n) .n) .n) .n)) (.a 1 (.a 0 (.a 2 (.a 3 (.a 4 (.a 5 (.a 6 .d .n) .n) (.a 5 (.a 4 (.a 6 .d .n) .n) .n)) (.a 5 (.a 3 (.a 4 (.a 6 .d .n) .n) .n) .n)) (.a 5 (.a 2 (.a 3 (.a 4 (.a 6 .d .n) .n) .n) .n) .n)) (.a 2 (.a 0 (.a 3 (.a 4 (.a 5 (.a 6 .d .n) .n) (.a 5 (.a 4 (.a 6 .d .n) .n) .n)) (.a 5 (.a 3 (.a 4 (.a 6 .d .n) .n) .n) .n)) (.a 3 (.a 0 (.a 4 (.a 5 (.a 6 .d .n) .n) (.a 5 (.a 4 (.a 6 .d .n) .n) .n)) (.a 4 (.a 0 (.a 5 (.a 6 .d .n) .n) .n) .n)) .n)) .n)) .n)))] Tryz.func119 rfl rfl (by kernel_rfl) fun C _=>?_
    simp(maxSteps:=999999) (disch:=omega) only[go_sem,ξ,ζ,e3]
    refine caN (by exact oQ (n:=1) (by decide) (by decide)) ?_;rintro v1 h1 s1 c;obtain⟨_,_,_,_,_,_,_,rfl,c⟩:=c.sa
    simp(maxSteps:=999999) (disch:=omega) only[go_sem,ξ,ζ]
    exact⟨_,_,_,_,_,_,_,rfl,c⟩
  ·rw[decide_eq_false hz] at e3
   rw[if_neg (fun k=>hz k.2),decide_eq_false hz]
   rcases h14 with rfl |rfl
   all_goals
    refine Spec.go [(2,.y (.a 0 (.a 1 (.a 2 (.a 3 (.a 4 (.a 5 (.a 6 .d .n) .n) (.a 5 (.a 4 (.a 6 .d .n) .n) .n)) (.a 5 (.a 3 (.a 4 (.a 6 .d .n) .n) .n) .n)) (.a 5 (.a 2 (.a 3 (.a 4 (.a 6 .d .n) .n) .n) .n) .n)) (.a 5 (.a 1 (.a 2 (.a 3 (.a 4 (.a 6 .d .n) .n) .n) .n) .n) .n)) (.a 1 (.a 0 (.a 2 (.a 3 (.a 4 (.a 5 (.a 6 .d .n) .n) (.a 5 (.a 4 (.a 6 .d .n) .n) .n)) (.a 5 (.a 3 (.a 4 (.a 6 .d .n) .n) .n) .n)) (.a 5 (.a 2 (.a 3 (.a 4 (.a 6 .d .n) .n) .n) .n) .n)) (.a 2 (.a 0 (.a 3 (.a 4 (.a 5 (.a 6 .d .n) .n) (.a 5 (.a 4 (.a 6 .d .n) .n) .n)) (.a 5 (.a 3 (.a 4 (.a 6 .d .n) .n) .n) .n)) (.a 3 (.a 0 (.a 4 (.a 5 (.a 6 .d .n) .n) (.a 5 (.a 4 (.a 6 .d .n) .n) .n)) (.a 4 (.a 0 (.a 5 (.a 6 .d .n) .n) .n) .n)) .n)) .n)) .n)))] Tryz.func119 rfl rfl (by kernel_rfl) fun C _=>?_
    simp(maxSteps:=999999) (disch:=omega) only[go_sem,ξ,ζ,e3]
    exact⟨_,_,_,_,_,_,_,rfl,Cn.nul _⟩
 ·rw[if_neg (show ¬((fn=1∨fn=4)∧x=0) from fun k=>h14 k.1)]
  by_cases h27:fn=2∨fn=7
  ·rw[if_pos h27]
   rcases h27 with rfl |rfl
   all_goals
    refine Spec.go [(2,.y (.a 0 (.a 1 (.a 2 (.a 3 (.a 4 (.a 5 (.a 6 .d .n) .n) (.a 5 (.a 4 (.a 6 .d .n) .n) .n)) (.a 5 (.a 3 (.a 4 (.a 6 .d .n) .n) .n) .n)) (.a 5 (.a 2 (.a 3 (.a 4 (.a 6 .d .n) .n) .n) .n) .n)) (.a 5 (.a 1 (.a 2 (.a 3 (.a 4 (.a 6 .d .n) .n) .n) .n) .n) .n)) (.a 1 (.a 0 (.a 2 (.a 3 (.a 4 (.a 5 (.a 6 .d .n) .n) (.a 5 (.a 4 (.a 6 .d .n) .n) .n)) (.a 5 (.a 3 (.a 4 (.a 6 .d .n) .n) .n) .n)) (.a 5 (.a 2 (.a 3 (.a 4 (.a 6 .d .n) .n) .n) .n) .n)) (.a 2 (.a 0 (.a 3 (.a 4 (.a 5 (.a 6 .d .n) .n) (.a 5 (.a 4 (.a 6 .d .n) .n) .n)) (.a 5 (.a 3 (.a 4 (.a 6 .d .n) .n) .n) .n)) (.a 3 (.a 0 (.a 4 (.a 5 (.a 6 .d .n) .n) (.a 5 (.a 4 (.a 6 .d .n) .n) .n)) (.a 4 (.a 0 (.a 5 (.a 6 .d .n) .n) .n) .n)) .n)) .n)) .n)))] Tryz.func119 rfl rfl (by kernel_rfl) fun C _=>?_
    simp(maxSteps:=999999) (disch:=omega) only[go_sem,ξ,ζ]
    refine caN (by exact kI) ?_;rintro v1 h1 s1 rfl
    simp(maxSteps:=999999) (disch:=omega) only[go_sem,ξ,ζ]
    exact⟨_,_,_,_,_,_,_,rfl,Cn.nul _⟩
  ·rw[if_neg h27]
   have f1:(fn == 1)=false:=by simp;omega
   have f2:(fn == 2)=false:=by simp;omega
   have f4:(fn == 4)=false:=by simp;omega
   have f7:(fn == 7)=false:=by simp;omega
   refine Spec.go [(2,.y (.a 0 (.a 1 (.a 2 (.a 3 (.a 4 (.a 5 (.a 6 .d .n) .n) (.a 5 (.a 4 (.a 6 .d .n) .n) .n)) (.a 5 (.a 3 (.a 4 (.a 6 .d .n) .n) .n) .n)) (.a 5 (.a 2 (.a 3 (.a 4 (.a 6 .d .n) .n) .n) .n) .n)) (.a 5 (.a 1 (.a 2 (.a 3 (.a 4 (.a 6 .d .n) .n) .n) .n) .n) .n)) (.a 1 (.a 0 (.a 2 (.a 3 (.a 4 (.a 5 (.a 6 .d .n) .n) (.a 5 (.a 4 (.a 6 .d .n) .n) .n)) (.a 5 (.a 3 (.a 4 (.a 6 .d .n) .n) .n) .n)) (.a 5 (.a 2 (.a 3 (.a 4 (.a 6 .d .n) .n) .n) .n) .n)) (.a 2 (.a 0 (.a 3 (.a 4 (.a 5 (.a 6 .d .n) .n) (.a 5 (.a 4 (.a 6 .d .n) .n) .n)) (.a 5 (.a 3 (.a 4 (.a 6 .d .n) .n) .n) .n)) (.a 3 (.a 0 (.a 4 (.a 5 (.a 6 .d .n) .n) (.a 5 (.a 4 (.a 6 .d .n) .n) .n)) (.a 4 (.a 0 (.a 5 (.a 6 .d .n) .n) .n) .n)) .n)) .n)) .n)))] Tryz.func119 rfl rfl (by kernel_rfl) fun C _=>?_
   simp(maxSteps:=999999) (disch:=omega) only[go_sem,ξ,ζ,f1,f2,f4,f7,e3,and_self]
   exact⟨_,_,_,_,_,_,_,rfl,Cn.nul _⟩
theorem qv {h0 h:PH} [Le h0 h] {v:Value} {x:Rat} {fn:Int} (hx:Rv h0 v x) (hf:1≤fn∧fn≤8):Spec mach 39 #[.int .i64 fn,v] h (fun r h'=>∃b na nl nc da dl dc,r=.tuple #[.agg #[.bool b,.slice na nl nc,.slice da dl dc],.int .i64 0]∧Cn h' (.agg #[.bool b,.slice na nl nc,.slice da dl dc]) x) NP:=by
 have kC:=fun {h} [Le h0 h]=>iW (h:=h) hx
 obtain⟨_,_,_,_,_,_,_,rfl,_⟩:=hx.sa
 refine Spec.go [] Tryz.func39 rfl rfl (by kernel_rfl) fun C _=>?_
 simp(maxSteps:=999999) (disch:=omega) only[go_sem,ξ,ζ]
 refine caN (by exact kC) ?_;rintro v1 h1 s1 ⟨_,_,_,_,_,_,_,rfl,c⟩
 simp(maxSteps:=999999) (disch:=omega) only[go_sem,ξ,ζ]
 exact⟨_,_,_,_,_,_,_,rfl,c⟩
theorem oO {h0 h:PH} [Le h0 h] {v:Value} {x:Rat} {fn:Int} (hx:Rv h0 v x) (hf:¬(1≤fn∧fn≤8)):Spec mach 39 #[.int .i64 fn,v] h (fun r _=>r=.tuple #[.agg #[.bool false,.slice none 0 0,.slice none 0 0],.int .i64 2]) NP:=by
 have kC:=fun {h} [Le h0 h]=>iW (h:=h) hx
 obtain⟨_,_,_,_,_,_,_,rfl,_⟩:=hx.sa
 rcases Int.lt_or_le fn 1 with h1 |h1
 all_goals
  refine Spec.go [] Tryz.func39 rfl rfl (by kernel_rfl) fun C _=>?_
  simp(maxSteps:=999999) (disch:=omega) only[go_sem,ξ,ζ]
  refine caN (by exact kC) ?_;rintro v1 h1 s1 ⟨_,_,_,_,_,_,_,rfl,c⟩
  simp(maxSteps:=999999) (disch:=omega) only[go_sem,ξ,ζ]
  all_goals omega
def eLo (w y:Nat):Nat→Nat
 |0=>2^w
 |k+1=>2^w+y*eLo w y k / 2^(w+8) / (40 - k)
def eHi (w y:Nat):Nat→Nat
 |0=>2^w*2^1
 |k+1=>2^w+cdiv (cdiv (y*eHi w y k) (2^(w+8))) (40 - k)
def qLo (w a:Nat):Nat→Nat
 |0=>a
 |k+1=>qLo w a k*qLo w a k / 2^w
def qHi (w a:Nat):Nat→Nat
 |0=>a
 |k+1=>cdiv (qHi w a k*qHi w a k) (2^w)
theorem eLo_0 (w y:Nat):eLo w y 0=2^w:=rfl
theorem eLo_s (w y k:Nat):eLo w y (k+1)=2^w+y*eLo w y k / 2^(w+8) / (40 - k):=rfl
theorem eHi_0 (w y:Nat):eHi w y 0=2^w*2^1:=rfl
theorem eHi_s (w y k:Nat):eHi w y (k+1)=2^w+cdiv (cdiv (y*eHi w y k) (2^(w+8))) (40 - k):=rfl
theorem qLo_0 (w a:Nat):qLo w a 0=a:=rfl
theorem qLo_s (w a k:Nat):qLo w a (k+1)=qLo w a k*qLo w a k / 2^w:=rfl
theorem qHi_0 (w a:Nat):qHi w a 0=a:=rfl
theorem qHi_s (w a k:Nat):qHi w a (k+1)=cdiv (qHi w a k*qHi w a k) (2^w):=rfl
theorem bl_qLo (w a k:Nat):bl (qLo w a k)≤2^k*(bl a+1):=by
 induction k with
 |zero=>show bl a≤_;omega
 | succ k ih=>
  have h1:=aZ (qLo w a k*qLo w a k) (2^w)
  have h2:=aG (qLo w a k) (qLo w a k)
  rw[qAn]
  show bl (qLo w a k*qLo w a k / 2^w)≤_
  have:2^k*2*(bl a+1)=2*(2^k*(bl a+1)):=by rw[ρ (2^k) 2,σ]
  omega
theorem bl_qHi (w a k:Nat):bl (qHi w a k)+1≤2^k*(bl a+1):=by
 induction k with
 |zero=>show bl a+1≤_;omega
 | succ k ih=>
  have h1:=fy (qHi w a k*qHi w a k) (am w)
  have h2:=aG (qHi w a k) (qHi w a k)
  rw[qAn]
  show bl (cdiv (qHi w a k*qHi w a k) (2^w))+1≤_
  have:2^k*2*(bl a+1)=2*(2^k*(bl a+1)):=by rw[ρ (2^k) 2,σ]
  omega
theorem dX {h0 h:PH} [Le h0 h] {v:Value} {x:Rat} (hx:Cn h0 v x):Spec mach 179 #[v] h (fun v _=>v=.bool (decide (1024 < sz x))) NP:=by
 have kW:=fun {h} [Le h0 h]=>jg (h:=h) hx
 obtain⟨na,nl,nc,da,dl,dc,rfl,hn,hd,e1,e2⟩:=hx.parts
 have kO:=fun {h} [Le h0 h]=>rH (h:=h) hn
 have e3:decide ((if (bl x.den:Int) > (bl x.num.natAbs:Int) then (bl x.den:Int) else (bl x.num.natAbs:Int)) > 1024)=decide (1024 < sz x):=by
  unfold sz
  split<;>congr 1<;>simp only[eq_iff_iff]<;>omega
 refine Spec.go [(1,.o [0,1,4,2,3,5,6,7,8,9])] Tryz.func179 rfl rfl (by kernel_rfl) fun C _=>?_
 try simp(disch:=omega) only[go_sem,ξ,ζ]
 refine caN (by exact kO) ?_;rintro _ g1 _ q1;obtain⟨_,_,_,rfl,q1⟩:=q1.sl
 try simp(disch:=omega) only[go_sem,ξ,ζ]
 refine caN (by exact mG q1) ?_;rintro v2 h2 s2 rfl
 try simp(disch:=omega) only[go_sem,ξ,ζ]
 refine caN (by exact kW) ?_;rintro _ g3 _ q3;obtain⟨v3,_,_,rfl,q3⟩:=q3.sl
 try simp(disch:=omega) only[go_sem,ξ,ζ]
 refine caN (by exact mG q3) ?_;rintro v4 h4 s4 rfl
 try simp(disch:=omega) only[go_sem,ξ,ζ,e3]
theorem fY {h0 h:PH} [Le h0 h] {v:Value} {x:Rat} {n:Nat} (hx:Cn h0 v x) (bx:sz x≤2^20) (hn:n < 2^64):Spec mach 115 #[v,.int .u64 n] h (fun v _=>v=.bool (decide (x.den*n < x.num.natAbs))) NP:=by
 have b2:=bB x
 have b3:bl n≤64:=bl_le.2 hn
 have kW:=fun {h} [Le h0 h]=>jg (h:=h) hx
 obtain⟨na,nl,nc,da,dl,dc,rfl,hn',hd,e1,e2⟩:=hx.parts
 have kO:=fun {h} [Le h0 h]=>rH (h:=h) hn'
 have e3:decide (cmp3 x.num.natAbs (x.den*n) > 0)=decide (x.den*n < x.num.natAbs):=by unfold cmp3;grind
 refine Spec.go [(1,.o [0,1,3,5,2,4,6,7,8,9,10])] Tryz.func115 rfl rfl (by kernel_rfl) fun C _=>?_
 try simp(disch:=omega) only[go_sem,ξ,ζ]
 refine caN (by exact kO) ?_;rintro _ g1 _ q1;obtain⟨_,_,_,rfl,q1⟩:=q1.sl
 try simp(disch:=omega) only[go_sem,ξ,ζ]
 refine caN (by exact kW) ?_;rintro _ g2 _ q2;obtain⟨v2,_,_,rfl,q2⟩:=q2.sl
 try simp(disch:=omega) only[go_sem,ξ,ζ]
 refine caN (by exact aw (n:=n) hn) ?_;rintro _ g3 _ q3;obtain⟨v3,_,_,rfl,q3⟩:=q3.sl
 try simp(disch:=omega) only[go_sem,ξ,ζ]
 refine caN (by exact aI (q2.to (h':=g3)) q3 (by omega) (by omega)) ?_;rintro _ g4 _ q4;obtain⟨v4,_,_,rfl,q4⟩:=q4.sl
 try simp(disch:=omega) only[go_sem,ξ,ζ]
 refine caN (by exact fO (q1.to (h':=g4)) q4) ?_;rintro v5 h5 s5 rfl
 try simp(disch:=omega) only[go_sem,ξ,ζ,e3]
structure Hid (p:Prop):Prop where
 out:p
theorem Le.trn {a b c:PH} (x:Le a b) (y:Le b c):Le a c:=⟨x.sub.trans y.sub⟩
@[go_sem] theorem uw_get1 (d:Nat):(uw [d])[0]?=some (.int .u32 (d:Nat)):=rfl
theorem az {a d c:Nat} (hd:d≠0):cdiv a d≤c↔a≤d*c:=by
 unfold cdiv
 rw[Nat.div_le_iff_le_mul_add_pred (τ hd)]
 omega
def arcV (w s t:Nat):Bool→Nat→Nat
 |false,0=>(2^w*81 - t*79) / (79*81)
 |true,0=>cdiv (2^w) 79
 |false,j+1=>(2^w*2^w - t*arcV w s t true j*(77 - 2*j)) / ((77 - 2*j)*2^w)
 |true,j+1=>cdiv (2^w*2^w - s*arcV w s t false j*(77 - 2*j)) ((77 - 2*j)*2^w)
theorem EQ (w s t:Nat):arcV w s t false 0=(2^w*81 - t*79) / (79*81):=rfl
theorem vR (w s t:Nat):arcV w s t true 0=cdiv (2^w) 79:=rfl
theorem Az (w s t j:Nat):arcV w s t false (j+1)=(2^w*2^w - t*arcV w s t true j*(77 - 2*j)) / ((77 - 2*j)*2^w):=rfl
theorem vT (w s t j:Nat):arcV w s t true (j+1)=cdiv (2^w*2^w - s*arcV w s t false j*(77 - 2*j)) ((77 - 2*j)*2^w):=rfl
def sqL (a w:Nat):Nat:=a*a / 2^w
def sqH (b w:Nat):Nat:=cdiv (b*b) (2^w)
def arcL (a b w:Nat):Nat:=a*arcV w (sqL a w) (sqH b w) false 39 / 2^w
def arcH (a b w:Nat):Nat:=cdiv (b*arcV w (sqL a w) (sqH b w) true 39) (2^w)
theorem mj {a w:Nat} (h:a≤2^w):sqL a w≤2^w:=by
 unfold sqL
 exact Nat.div_le_of_le_mul (qAk h h)
theorem jV {a w:Nat} (h:a≤2^w):sqH a w≤2^w:=by
 unfold sqH
 exact(az (am w)).2 (qAk h h)
theorem vG {a k b:Nat} (hb:b≠0):a*b / (k*b)=a / k:=Nat.mul_div_mul_right _ _ (τ hb)
theorem Ay {w s t:Nat}:∀{j:Nat},j≤39→arcV w s t true j≤2^w / (79 - 2*j)+1∧arcV w s t false j≤2^w / (79 - 2*j)
 | 0,_=>by
  refine⟨AG (by decide),?_⟩
  show(2^w*81 - t*79) / (79*81)≤2^w / 79
  rw[←vG (a:=2^w) (k:=79) (b:=81) (by decide)]
  exact Nat.div_le_div_right (Nat.sub_le _ _)
 | j +1,h=>by
  have e:79 - 2*(j+1)=77 - 2*j:=by omega
  have hk:(77 - 2*j)*2^w≠0:=qBe (by omega) (am w)
  have em:2^w*2^w / ((77 - 2*j)*2^w)=2^w / (77 - 2*j):=vG (am w)
  rw[e]
  constructor
  ·refine χ (AG hk) ?_
   rw[←em]
   exact Nat.add_le_add_right (Nat.div_le_div_right (Nat.sub_le _ _)) 1
  ·rw[←em]
   exact Nat.div_le_div_right (Nat.sub_le _ _)
theorem Gx {u m k t v:Nat} (hu:2^20≤u) (hm:m≤112) (hm0:0 < m) (hk:k+2≤m) (ht:t≤u) (hv:v≤u / m+1):t*v*k≤u*u:=by
 have hq:112≤u / m:=by
  rw[Nat.le_div_iff_mul_le hm0]
  have:112*m≤112*112:=ω _ hm
  omega
 have hd:=Nat.mul_div_le u m
 generalize u / m=q at*
 have h1:k*(q+1)≤u:=by
  have e1:k*(q+1)+2*(q+1)≤m*(q+1):=by rw[←Nat.add_mul];exact ψ _ hk
  rw[qAm m] at e1
  omega
 have h2:v*k≤u:=χ (ψ k hv) (by rw[ρ];exact h1)
 rw[σ]
 exact qAk ht h2
theorem sR {w s t j:Nat} (hw:20≤w) (hs:s≤2^w) (ht:t≤2^w) (hj:j < 39):t*arcV w s t true j*(77 - 2*j)≤2^w*2^w∧s*arcV w s t false j*(77 - 2*j)≤2^w*2^w:=by
 have hu:2^20≤2^w:=qAv (by decide) hw
 obtain⟨h1,h2⟩:=Ay (w:=w) (s:=s) (t:=t) (j:=j) (by omega)
 exact⟨Gx (m:=79 - 2*j) hu (by omega) (by omega) (by omega) ht h1,Gx (m:=79 - 2*j) hu (by omega) (by omega) (by omega) hs (by omega)⟩
theorem mT {w s t j:Nat} {c:Bool} (hj:j≤39):arcV w s t c j≤2^w+1:=by
 obtain⟨h1,h2⟩:=Ay (w:=w) (s:=s) (t:=t) hj
 have:=Nat.div_le_self (2^w) (79 - 2*j)
 cases c<;>omega
theorem bh {n w:Nat} (h:n≤2^w+1):bl n≤w+2:=by
 refine bl_le.2 ?_
 have:2^(w+2)=4*2^w:=by rw[qAs];omega
 have:=qAo (n:=w) (show 0 < 2 by decide)
 omega
theorem GB {w s t j:Nat} {c:Bool} (hj:j≤39):bl (arcV w s t c j)≤w+2:=bh (mT hj)
theorem bl_sq {a w:Nat} (h:a≤2^w):bl (sqL a w)≤w+2∧bl (sqH a w)≤w+2:=⟨bh (by have:=mj h;omega),bh (by have:=jV h;omega)⟩
theorem Gt {a b w:Nat} (ha:a≤2^w):arcL a b w≤2^w+1:=by
 unfold arcL
 exact Nat.div_le_of_le_mul (qAk ha (mT (by decide)))
theorem Gs {a b w:Nat} (hb:b≤2^w):arcH a b w≤2^w+1:=by
 unfold arcH
 exact(az (am w)).2 (qAk hb (mT (by decide)))
def fifL (n w:Nat):Nat:=arcL (2^w / n) (cdiv (2^w) n) w
def fifH (n w:Nat):Nat:=arcH (2^w / n) (cdiv (2^w) n) w
def piL (w:Nat):Nat:=fifL 5 w*2^4 - fifH 239 w*2^2
def piH (w:Nat):Nat:=fifH 5 w*2^4 - fifL 239 w*2^2
theorem pV (n:Nat) {w:Nat} (hn:n≠0):2^w / n≤2^w∧cdiv (2^w) n≤2^w:=⟨Nat.div_le_self _ _,(az hn).2 (by have:=ψ (2^w) (τ hn);omega)⟩
theorem uy {n w:Nat} (hn:n≠0):bl (fifL n w)≤w+2∧bl (fifH n w)≤w+2:=⟨bh (Gt (pV n hn).1),bh (Gs (pV n hn).2)⟩
def piOk (w:Nat):Bool:=Nat.ble (fifH 239 w*2^2+3*2^w) (fifL 5 w*2^4) && Nat.ble (fifL 239 w*2^2+3*2^w) (fifH 5 w*2^4) && Nat.ble (piH w) (4*2^w) && Nat.ble (piL w+1) (piH w)
theorem piOk_all:((List.range 161).all fun i=>piOk (i+32))=true:=by decide+kernel
theorem FG {w:Nat} (h1:32≤w) (h2:w≤192):fifH 239 w*2^2+3*2^w≤fifL 5 w*2^4∧fifL 239 w*2^2+3*2^w≤fifH 5 w*2^4∧piH w≤4*2^w∧piL w < piH w:=by
 have h:=qBd.1 piOk_all (w - 32) (List.mem_range.2 (by omega))
 rw[show w - 32+32=w by omega] at h
 unfold piOk at h
 simp only[φ,Nat.ble_eq] at h
 omega
theorem pn {w:Nat} (h1:32≤w) (h2:w≤192):3*2^w≤piL w∧piL w < piH w∧piH w≤4*2^w:=by
 have:=FG h1 h2
 unfold piL at*
 omega
theorem bl_pi {w:Nat}:bl (piL w)≤w+6∧bl (piH w)≤w+6:=by
 obtain⟨h1,_⟩:=uy (n:=5) (w:=w) (by decide)
 obtain⟨_,h2⟩:=uy (n:=5) (w:=w) (by decide)
 have h3:=cu (fifL 5 w) 4
 have h4:=cu (fifH 5 w) 4
 have h5:bl (piL w)≤bl (fifL 5 w*2^4):=aR (Nat.sub_le _ _)
 have h6:bl (piH w)≤bl (fifH 5 w*2^4):=aR (Nat.sub_le _ _)
 omega
theorem jo (w:Nat):2^(w+1)=2*2^w:=by rw[qAn];omega
theorem C9 {w y k:Nat} (hy:y≤64*2^w) (_hk:k < 40) (h:eLo w y k≤2^(w+1)):eLo w y (k+1)≤2^(w+1):=by
 show 2^w+y*eLo w y k / 2^(w+8) / (40 - k)≤2^(w+1)
 have h1:y*eLo w y k≤64*2^w*2^(w+1):=qAk hy h
 have h2:y*eLo w y k / 2^(w+8)≤2^w:=by
  refine Nat.div_le_of_le_mul (χ h1 ?_)
  rw[show w+8=(w+1)+7 by omega,qAs 2 (w+1) 7,ρ (64*2^w),σ (2^(w+1))]
  exact ω _ (by have:=qAo (n:=w) (show 0 < 2 by decide);omega)
 have h3:=Nat.div_le_self (y*eLo w y k / 2^(w+8)) (40 - k)
 rw[jo w]
 omega
theorem AO {w y:Nat} (hy:y≤64*2^w):∀{k:Nat},k < 40→eLo w y k≤2^(w+1)∧eLo w y (k+1)≤2^(w+1)
 | 0,_=>by
  have h0:eLo w y 0≤2^(w+1):=by show 2^w≤_;rw[jo w];omega
  exact⟨h0,C9 hy (by decide) h0⟩
 | k+1,h=>by
  have ih:=(AO hy (k:=k) (by omega)).2
  exact⟨ih,C9 hy h ih⟩
theorem AM {w y:Nat} (hy:y≤64*2^w):∀{k:Nat},k≤40→eHi w y k≤2^(w+1)
 |0,_=>by show 2^w*2^1≤_;rw[jo w];omega
 | k +1,h=>by
  have ih:=AM hy (k:=k) (by omega)
  show 2^w+cdiv (cdiv (y*eHi w y k) (2^(w+8))) (40 - k)≤2^(w+1)
  have h1:y*eHi w y k≤64*2^w*2^(w+1):=qAk hy ih
  have h2:cdiv (y*eHi w y k) (2^(w+8))≤2^w:=by
   refine(az (am _)).2 (χ h1 ?_)
   rw[show w+8=(w+1)+7 by omega,qAs 2 (w+1) 7,ρ (64*2^w),σ (2^(w+1))]
   exact ω _ (by have:=qAo (n:=w) (show 0 < 2 by decide);omega)
  have h3:cdiv (cdiv (y*eHi w y k) (2^(w+8))) (40 - k)≤2^w:=by
   refine(az (by omega)).2 (χ h2 ?_)
   exact Nat.le_mul_of_pos_left _ (by omega)
  rw[jo w]
  omega
theorem eLo_ge (w y:Nat):∀k,2^w≤eLo w y k
 |0=>η _
 |_+1=>Nat.le_add_right _ _
theorem eHi_ge (w y:Nat):∀k,2^w≤eHi w y k
 |0=>by show 2^w≤2^w*2^1;omega
 |_+1=>Nat.le_add_right _ _
theorem FK {w a:Nat} (h:2^w≤a):∀k,2^w≤qLo w a k
 |0=>h
 | k+1=>by
  have ih:=FK h k
  show 2^w≤qLo w a k*qLo w a k / 2^w
  exact(Nat.le_div_iff_mul_le (qAo (by decide))).2 (qAk ih ih)
theorem i8 (a:Nat) {d:Nat} (hd:d≠0):a / d≤cdiv a d:=Nat.div_le_div_right (by omega)
theorem FJ {w a:Nat} (h:2^w≤a):∀k,2^w≤qHi w a k
 |0=>h
 | k+1=>by
  have ih:=FJ h k
  show 2^w≤cdiv (qHi w a k*qHi w a k) (2^w)
  exact χ ((Nat.le_div_iff_mul_le (qAo (by decide))).2 (qAk ih ih)) (i8 _ (am w))
theorem sq_pow (w k:Nat):2^(w+2^k)*2^(w+2^k)=2^w*2^(w+2^(k+1)):=by
 rw[←qAs,←qAs,qAn];congr 1;omega
theorem qLo_le {w a:Nat} (h:a≤2^(w+1)):∀k,qLo w a k≤2^(w+2^k)
 |0=>h
 | k+1=>by
  have ih:=qLo_le h k
  show qLo w a k*qLo w a k / 2^w≤_
  exact Nat.div_le_of_le_mul (χ (qAk ih ih) (Nat.le_of_eq (sq_pow w k)))
theorem qHi_le {w a:Nat} (h:a≤2^(w+1)):∀k,qHi w a k≤2^(w+2^k)
 |0=>h
 | k+1=>by
  have ih:=qHi_le h k
  show cdiv (qHi w a k*qHi w a k) (2^w)≤_
  exact(az (am w)).2 (χ (qAk ih ih) (Nat.le_of_eq (sq_pow w k)))
def expL (x:Rat) (p:Nat):Nat:=qLo (p+112) (eLo (p+112) (glo x (p+112)) 40) 8
def expH (x:Rat) (p:Nat):Nat:=qHi (p+112) (eHi (p+112) (ghi x (p+112)) 40) 8
def expLo (x:Rat) (p:Nat):Rat:=if x.num < 0 then sgn false (2^(p+112+p) / expH x p) (2^p) else sgn false (expL x p / 2^112) (2^p)
def expHi (x:Rat) (p:Nat):Rat:=if x.num < 0 then sgn false (cdiv (2^(p+112+p)) (expL x p)) (2^p) else sgn false (cdiv (expH x p) (2^112)) (2^p)
theorem xQ {x:Rat} {n w:Nat} (h:¬x.den*n < x.num.natAbs):glo x w≤n*2^w∧ghi x w≤n*2^w:=by
 have h1:x.num.natAbs*2^w≤x.den*(n*2^w):=by
  rw[←σ];exact ψ _ (by omega)
 exact⟨Nat.div_le_of_le_mul h1,(az x.den_nz).2 h1⟩
theorem pj {n k:Nat} (h:n≤2^k):bl n≤k+1:=by
 refine bl_le.2 ?_
 have:2^(k+1)=2*2^k:=jo k
 have:=qAo (n:=k) (show 0 < 2 by decide)
 omega
theorem AT {x:Rat} {p:Nat} (h:¬x.den*64 < x.num.natAbs):bl (expL x p)≤p+369∧bl (expH x p)≤p+369∧expL x p≠0∧expH x p≠0:=by
 obtain⟨h1,h2⟩:=xQ (w:=p+112) h
 have hp:=qAo (n:=p+112) (show 0 < 2 by decide)
 have g1:=FK (eLo_ge (p+112) (glo x (p+112)) 40) 8
 have g2:=FJ (eHi_ge (p+112) (ghi x (p+112)) 40) 8
 refine⟨pj (qLo_le (AO h1 (k:=39) (by decide)).2 8),pj (qHi_le (AM h2 (by decide)) 8),?_,?_⟩
 ·unfold expL;omega
 ·unfold expH;omega
def Be (h:PH) (r:Value) (x y:Rat):Prop:=∃b1 a1 m1 c1 a2 m2 c2 b2 a3 m3 c3 a4 m4 c4,r=.tuple #[.agg #[.bool b1,.slice a1 m1 c1,.slice a2 m2 c2,.bool b2,.slice a3 m3 c3,.slice a4 m4 c4],.int .i64 0]∧Cn h (.agg #[.bool b1,.slice a1 m1 c1,.slice a2 m2 c2]) x∧Cn h (.agg #[.bool b2,.slice a3 m3 c3,.slice a4 m4 c4]) y
theorem bl_64 {n w:Nat} (h:n≤64*2^w):bl n≤w+7:=pj (k:=w+6) (by rw[qAs];omega)
theorem bl_cd {a k n:Nat} (h:bl a≤k) (hn:1≤n):bl (cdiv a (2^n))≤k+1:=χ (fy a (am n)) (by omega)
theorem yZ {h0 h:PH} [Le h0 h] {v:Value} {x:Rat} {p:Nat} (hx:Cn h0 v x) (bx:sz x≤1024) (hb:¬x.den*64 < x.num.natAbs) (hp:p≤128):Spec mach 31 #[v,.int .i64 p] h (fun r h'=>Be h' r (expLo x p) (expHi x p)) NP:=by
 have kS:=fun {h} [Le h0 h]=>iH (h:=h) (w:=p+112) hx (χ bx (by decide)) (by omega)
 obtain⟨g1,g2⟩:=xQ (w:=p+112) hb
 have bL:=bl_64 g1
 have bH:=bl_64 g2
 have bl1:∀{k},k < 40→bl (eLo (p+112) (glo x (p+112)) k)≤p+114:=fun hk=>pj (AO g1 hk).1
 have bl2:∀{k},k≤40→bl (eHi (p+112) (ghi x (p+112)) k)≤p+114:=fun hk=>pj (AM g2 hk)
 have bq1:=bl_qLo (p+112) (eLo (p+112) (glo x (p+112)) 40)
 have bq2:=bl_qHi (p+112) (eHi (p+112) (ghi x (p+112)) 40)
 have b40:bl (eLo (p+112) (glo x (p+112)) 40)≤p+114:=pj (AO g1 (k:=39) (by decide)).2
 have b41:=bl2 (η 40)
 obtain⟨f1,f2,f3,f4⟩:=AT (p:=p) hb
 obtain⟨na,nl,nc,da,dl,dc,rfl,hn,hd,e1,e2⟩:=hx.parts
 clear hn hd e1 e2 hx
 have u1:=bC (p+112)
 have u3:=bC (p+112+p)
 have u2:=fI
 generalize hD:decide (x.num < 0)=b at kS ⊢
 have f3:=Hid.mk f3
 have f4:=Hid.mk f4
 have bq1:=fun j=>Hid.mk (bq1 j)
 have bq2:=fun j=>Hid.mk (bq2 j)
 have b40:=Hid.mk b40
 have b41:=Hid.mk b41
 have f2':=Hid.mk f2
 clear hb bx g1 g2
 have F:=Hid.mk (And.intro bL (And.intro bH (And.intro f1 (And.intro f2 (And.intro u1 (And.intro u2 u3))))));clear bL bH f1 f2 u1 u2 u3
 refine Spec.go [(9,.o [0,2,3,4,6,7,9,10,1,5,8,11,12,13,14])] Tryz.func31 rfl rfl (by kernel_rfl) fun C _=>?_
 try simp(disch:=omega) only[go_sem,ξ,ζ]
 refine caN (by exact kS) ?_;rintro v1 h1 s1 ⟨a1,m1,c1,a2,m2,c2,rfl,q1,q2⟩
 try simp(disch:=omega) only[go_sem,ξ,ζ]
 refine caN (by exact bu (w:=p+112) (by have:=F.1;omega)) ?_;rintro _ h3 _ q3;obtain⟨v3,v3_l,v3_c,rfl,q3⟩:=q3.sl
 try simp(disch:=omega) only[go_sem,ξ,ζ]
 refine caN (by exact bu (w:=p+112) (by have:=F.1;omega)) ?_;rintro _ h4 _ q4;obtain⟨v4,_,_,rfl,q4⟩:=q4.sl
 try simp(disch:=omega) only[go_sem,ξ,ζ]
 refine caN (by exact aL (n:=1) q4 (by have:=F.1;omega)) ?_;rintro _ h5 _ q5;obtain⟨v5,v5_l,v5_c,rfl,q5⟩:=q5.sl
 try simp(disch:=omega) only[go_sem,ξ,ζ]
 refine lp [(9,.o [0,2,3,4,6,7,9,10,1,5,8,11,12,13,14])] (fun x':Value×Value×Nat=>⟨[(1,.v (.int .i64 p)),(2,.p 0 0),(4,.p 1 0),(6,.v (.int .i64 (p+112:Nat))),(7,.p 2 0),(8,.v x'.1),(9,.v x'.2.1),(10,.v (.int .u32 (x'.2.2:Nat)))],[[.bool b,.slice na nl nc,.slice da dl dc],[.bool false,.slice none 0 0,.slice none 0 0,.bool false,.slice none 0 0,.slice none 0 0],[.slice a1 m1 c1,.slice a2 m2 c2]]⟩) (fun x' h'=>Le h1 h'∧x'.2.2≤40∧N32 h' x'.1 (eLo (p+112) (glo x (p+112)) (40 - x'.2.2))∧N32 h' x'.2.1 (eHi (p+112) (ghi x (p+112)) (40 - x'.2.2))) (fun x'=>x'.2.2) (.slice v3 v3_l v3_c,.slice v5 v5_l v5_c,40) ?_ ⟨inferInstance,η _,by show N32 _ _ (eLo _ _ (40 - 40));rw[Nat.sub_self,eLo_0];exact q3.to,by show N32 _ _ (eHi _ _ (40 - 40));rw[Nat.sub_self,eHi_0];exact q5⟩ (by kernel_rfl) ?_
 ·try simp(disch:=omega) only[go_sem,ξ,ζ]
  all_goals rfl
 rintro⟨va,vb,i⟩ h6 ⟨le6,hi,ha,hb'⟩
 dsimp only at hi ha hb' ⊢
 by_cases h0i:i=0
 ·subst h0i
  rw[Nat.sub_zero] at ha hb'
  obtain⟨_,_,_,rfl,ha⟩:=ha.sl
  obtain⟨_,_,_,rfl,hb'⟩:=hb'.sl
  try simp(disch:=omega) only[go_sem,ξ,ζ]
  refine lp [(9,.o [0,2,3,4,6,7,9,10,1,5,8,11,12,13,14])] (fun x':Value×Value×Nat=>⟨[(1,.v (.int .i64 p)),(2,.p 0 0),(4,.p 1 0),(6,.v (.int .i64 (p+112:Nat))),(8,.v x'.1),(9,.v x'.2.1),(58,.v (.int .i64 (x'.2.2:Nat)))],[[.bool b,.slice na nl nc,.slice da dl dc],[.bool false,.slice none 0 0,.slice none 0 0,.bool false,.slice none 0 0,.slice none 0 0],[.slice a1 m1 c1,.slice a2 m2 c2]]⟩) (fun x' h'=>x'.2.2≤8∧N32 h' x'.1 (qLo (p+112) (eLo (p+112) (glo x (p+112)) 40) x'.2.2)∧N32 h' x'.2.1 (qHi (p+112) (eHi (p+112) (ghi x (p+112)) 40) x'.2.2)) (fun x'=>8 - x'.2.2) (_,_,0) ?_ ⟨(show 0≤8 by decide),by show N32 _ _ (qLo _ _ 0);rw[qLo_0];exact ha,by show N32 _ _ (qHi _ _ 0);rw[qHi_0];exact hb'⟩ (by kernel_rfl) ?_
  ·try simp(disch:=omega) only[go_sem,ξ,ζ]
   all_goals rfl
  rintro⟨va',vb',j⟩ h7 ⟨hj,hc,hd'⟩
  dsimp only at hj hc hd' ⊢
  by_cases hj8:j=8
  ·subst hj8
   have hc:N32 h7 va' (expL x p):=hc
   have hd':N32 h7 vb' (expH x p):=hd'
   obtain⟨_,_,_,rfl,hc⟩:=hc.sl
   obtain⟨_,_,_,rfl,hd'⟩:=hd'.sl
   cases b with
   | false=>
    have hlt:¬x.num < 0:=of_decide_eq_false hD
    have ea:expLo x p=sgn false (expL x p / 2^(p+112 - p)) (2^p):=by unfold expLo;rw[if_neg hlt,show p+112 - p=112 by have:=F.1;omega]
    have eb:expHi x p=sgn false (cdiv (expH x p) (2^(p+112 - p))) (2^p):=by unfold expHi;rw[if_neg hlt,show p+112 - p=112 by have:=F.1;omega]
    have y1:=aZ (expL x p) (2^(p+112 - p))
    have y2:=bl_cd (n:=p+112 - p) f2'.out (by have:=F.1;omega)
    rw[ea,eb]
    clear ea eb
    have F:=Hid.mk (And.intro F.1 (And.intro y1 y2));clear y1 y2
    try simp(disch:=omega) only[go_sem,ξ,ζ]
    refine caN (by exact fw (a:=expL x p) (b:=expH x p) (w:=p+112) (p:=p) (neg:=false) ⟨_,_,_,_,_,_,rfl,hc,hd'⟩ (by have:=F.1;omega) (by have:=F.1;omega) (by have:=F.1;omega) (by have:=F.1;omega) (by have:=F.1;omega) (by have:=F.1;omega) (by have:=F.1;omega)) ?_;rintro v8 h8 s8 ⟨_,_,_,_,_,_,_,_,_,_,_,_,_,_,rfl,r1,r2⟩
    try simp(disch:=omega) only[go_sem,ξ,ζ]
    exact⟨_,_,_,_,_,_,_,_,_,_,_,_,_,_,rfl,r1,r2⟩
   | true=>
    have hlt:x.num < 0:=of_decide_eq_true hD
    have y1:=aZ (2^(p+112+p)) (expH x p)
    have y2:=fy (2^(p+112+p)) f3.out
    have ea:expLo x p=sgn false (2^(p+112+p) / expH x p) (2^p):=by unfold expLo;rw[if_pos hlt]
    have eb:expHi x p=sgn false (cdiv (2^(p+112+p)) (expL x p)) (2^p):=by unfold expHi;rw[if_pos hlt]
    rw[ea,eb]
    clear ea eb
    have F:=Hid.mk (And.intro F.1 (And.intro y1 y2));clear y1 y2
    try simp(disch:=omega) only[go_sem,ξ,ζ]
    refine caN (by exact bu (w:=p+112+p) (by have:=F.1;omega)) ?_;rintro _ h8 _ q8;obtain⟨v8,_,_,rfl,q8⟩:=q8.sl
    try simp(disch:=omega) only[go_sem,ξ,ζ]
    refine caN (by exact bD (c:=false) q8 (hd'.to (h':=h8)) f4.out (by have:=F.1;omega) (by have:=F.1;omega)) ?_;rintro _ h9 _ q9;obtain⟨v9,_,_,rfl,q9⟩:=q9.sl
    try simp(disch:=omega) only[go_sem,ξ,ζ]
    refine caN (by exact aO (n:=p) q9 (show bl (2^(p+112+p) / expH x p)≤2048 by have:=F.1;omega) (by have:=F.1;omega)) ?_;rintro v10 h10 s10 q10;obtain⟨_,_,_,_,_,_,_,rfl,q10⟩:=q10.sa
    try simp(disch:=omega) only[go_sem,ξ,ζ]
    refine caN (by exact bD (c:=true) (q8.to (h':=h10)) (hc.to (h':=h10)) f3.out (by have:=F.1;omega) (by have:=F.1;omega)) ?_;rintro _ h11 _ q11;obtain⟨v11,_,_,rfl,q11⟩:=q11.sl
    try simp(disch:=omega) only[go_sem,ξ,ζ]
    refine caN (by exact aO (n:=p) q11 (show bl (cdiv (2^(p+112+p)) (expL x p))≤2048 by have:=F.1;omega) (by have:=F.1;omega)) ?_;rintro v12 h12 s12 q12;obtain⟨_,_,_,_,_,_,_,rfl,q12⟩:=q12.sa
    try simp(disch:=omega) only[go_sem,ξ,ζ]
    exact⟨_,_,_,_,_,_,_,_,_,_,_,_,_,_,rfl,q10.to,q12⟩
  ·have hj8:j < 8:=by have:=F.1;omega
   have z0:2^j≤2^8:=qAv (by decide) (by have:=F.1;omega)
   have z1:=χ (bq1 j).out (qAk z0 (Nat.add_le_add_right b40.out 1))
   have z2:=χ (bq2 j).out (qAk z0 (Nat.add_le_add_right b41.out 1))
   have z3:=aG (qLo (p+112) (eLo (p+112) (glo x (p+112)) 40) j) (qLo (p+112) (eLo (p+112) (glo x (p+112)) 40) j)
   have z4:=aG (qHi (p+112) (eHi (p+112) (ghi x (p+112)) 40) j) (qHi (p+112) (eHi (p+112) (ghi x (p+112)) 40) j)
   clear z0
   have F:=Hid.mk (And.intro F.1 (And.intro z1 (And.intro z2 (And.intro z3 z4))));clear z1 z2 z3 z4
   try simp(disch:=omega) only[go_sem,ξ,ζ]
   refine caN (by exact aI hc hc (by have:=F.1;omega) (by have:=F.1;omega)) ?_;rintro _ h8 _ r1;obtain⟨w1,_,_,rfl,r1⟩:=r1.sl
   try simp(disch:=omega) only[go_sem,ξ,ζ]
   refine caN (by exact gD (n:=p+112) r1 (by have:=F.1;omega) (by have:=F.1;omega)) ?_;rintro _ h9 _ r2;obtain⟨w2,_,_,rfl,r2⟩:=r2.sl
   try simp(disch:=omega) only[go_sem,ξ,ζ]
   refine caN (by exact aI (hd'.to (h':=h9)) (hd'.to (h':=h9)) (by have:=F.1;omega) (by have:=F.1;omega)) ?_;rintro _ h10 _ r3;obtain⟨w3,_,_,rfl,r3⟩:=r3.sl
   try simp(disch:=omega) only[go_sem,ξ,ζ]
   refine caN (by exact kJ (n:=p+112) r3 (by have:=F.1;omega) (by have:=F.1;omega)) ?_;rintro _ h11 _ r4;obtain⟨w4,_,_,rfl,r4⟩:=r4.sl
   try simp(disch:=omega) only[go_sem,ξ,ζ]
   dsimp only[lpE];refine⟨(_,_,j+1),?_,⟨(show j+1≤8 by have:=F.1;omega),by show N32 _ _ (qLo _ _ (j+1));rw[qLo_s];exact r2.to,by show N32 _ _ (qHi _ _ (j+1));rw[qHi_s];exact r4⟩,(show 8 - (j+1) < 8 - j by have:=F.1;omega)⟩
   try simp(disch:=omega) only[go_sem,ξ,ζ]
   all_goals rfl
 ·obtain⟨k,hk,ek⟩:∃k,k < 40∧40 - i=k:=⟨_,by have:=F.1;omega,rfl⟩
  have ei:i=40 - k:=by have:=F.1;omega
  have en:40 - (i - 1)=k+1:=by have:=F.1;omega
  rw[ek] at ha hb'
  have c1:=bl1 hk
  have c2:=bl2 (Nat.le_of_lt hk)
  have d1:=aG (glo x (p+112)) (eLo (p+112) (glo x (p+112)) k)
  have d2:=aG (ghi x (p+112)) (eHi (p+112) (ghi x (p+112)) k)
  have d3:=aZ (glo x (p+112)*eLo (p+112) (glo x (p+112)) k) (2^(p+112+8))
  have d4:=aZ (glo x (p+112)*eLo (p+112) (glo x (p+112)) k / 2^(p+112+8)) i
  have d5:=bl_cd (n:=p+112+8) d2 (by have:=F.1;omega)
  have d6:bl (odiv (cdiv (ghi x (p+112)*eHi (p+112) (ghi x (p+112)) k) (2^(p+112+8))) i true)≤_:=fy _ h0i
  have d7:bl i≤6:=bl_le.2 (by have:=F.1;omega)
  have h0i:=Hid.mk h0i
  have hi0:1≤i:=by have:=F.1;omega
  have ei:=Hid.mk ei
  have en:=Hid.mk en
  clear ek hk
  have F:=Hid.mk (And.intro F.1 (And.intro c1 (And.intro c2 (And.intro d1 (And.intro d2 (And.intro d3 (And.intro d4 (And.intro d5 (And.intro d6 d7)))))))));clear c1 c2 d1 d2 d3 d4 d5 d6 d7
  try simp(disch:=omega) only[go_sem,ξ,ζ]
  refine caN (by exact aI (q1.to (h':=h6)) ha (by have:=F.1;omega) (by have:=F.1;omega)) ?_;rintro _ h7 _ r1;obtain⟨w1,_,_,rfl,r1⟩:=r1.sl
  try simp(disch:=omega) only[go_sem,ξ,ζ]
  refine caN (by exact gD (n:=p+112+8) r1 (by have:=F.1;omega) (by have:=F.1;omega)) ?_;rintro _ h8 _ r2;obtain⟨w2,_,_,rfl,r2⟩:=r2.sl
  try simp(disch:=omega) only[go_sem,ξ,ζ]
  refine caN (by exact nN (d:=i) r2 (by have:=F.1;omega) (by have:=F.1;omega) (by have:=F.1;omega)) ?_;rintro w3 h9 s9 ⟨_,rfl,r3⟩;obtain⟨_,_,_,rfl,r3⟩:=r3.sl
  try simp(disch:=omega) only[go_sem,ξ,ζ]
  refine caN (by exact bu (w:=p+112) (by have:=F.1;omega)) ?_;rintro _ h10 _ r4;obtain⟨w4,_,_,rfl,r4⟩:=r4.sl
  try simp(disch:=omega) only[go_sem,ξ,ζ]
  refine caN (by exact bR r4 (r3.to (h':=h10)) (by have:=F.1;omega) (by have:=F.1;omega)) ?_;rintro _ h11 _ r5;obtain⟨w5,w5_l,w5_c,rfl,r5⟩:=r5.sl
  try simp(disch:=omega) only[go_sem,ξ,ζ]
  refine caN (by exact bu (w:=p+112) (by have:=F.1;omega)) ?_;rintro _ h12 _ r6;obtain⟨w6,_,_,rfl,r6⟩:=r6.sl
  try simp(disch:=omega) only[go_sem,ξ,ζ]
  refine caN (by exact aI (q2.to (h':=h12)) (hb'.to (h':=h12)) (by have:=F.1;omega) (by have:=F.1;omega)) ?_;rintro _ h13 _ r7;obtain⟨w7,_,_,rfl,r7⟩:=r7.sl
  try simp(disch:=omega) only[go_sem,ξ,ζ]
  refine caN (by exact kJ (n:=p+112+8) r7 (by have:=F.1;omega) (by have:=F.1;omega)) ?_;rintro _ h14 _ r8;obtain⟨w8,_,_,rfl,r8⟩:=r8.sl
  try simp(disch:=omega) only[go_sem,ξ,ζ]
  refine caN (by exact aw (n:=i) (by have:=F.1;omega)) ?_;rintro _ h15 _ r9;obtain⟨w9,_,_,rfl,r9⟩:=r9.sl
  try simp(disch:=omega) only[go_sem,ξ,ζ]
  refine caN (by exact bD (c:=true) (r8.to (h':=h15)) r9 h0i.out (by have:=F.1;omega) (by have:=F.1;omega)) ?_;rintro _ h16 _ r10;obtain⟨w10,_,_,rfl,r10⟩:=r10.sl
  try simp(disch:=omega) only[go_sem,ξ,ζ]
  refine caN (by exact bR (r6.to (h':=h16)) r10 (by have:=F.1;omega) (by have:=F.1;omega)) ?_;rintro _ h17 _ r11;obtain⟨w11,w11_l,w11_c,rfl,r11⟩:=r11.sl
  try simp(disch:=omega) only[go_sem,ξ,ζ]
  dsimp only[lpE];refine⟨(.slice w5 w5_l w5_c,.slice w11 w11_l w11_c,i - 1),?_,⟨Le.trn le6 inferInstance,(show i - 1≤40 by have:=F.1;omega),?_,?_⟩,(show i - 1 < i by have:=F.1;omega)⟩
  ·try simp(disch:=omega) only[go_sem,ξ,ζ]
   all_goals rfl
  ·show N32 _ _ (eLo _ _ (40 - (i - 1)))
   rw[en.out,eLo_s,←ei.out]
   exact r5.to
  ·show N32 _ _ (eHi _ _ (40 - (i - 1)))
   rw[en.out,eHi_s,←ei.out]
   exact r11
theorem at1 {h:PH} {b:Nat} {v:Value} (hb:h b=some #[v]):h.at ⟨b,0,none⟩=some v:=by simp[PH.at,hb]
theorem nU (w:Nat):2^(2*w)=2^w*2^w:=by rw[Nat.two_mul,qAs]
theorem sF {h0 h:PH} [Le h0 h] {v:Value} {a b w:Nat} (hv:Pr h0 v a b) (la:a≤2^w) (lb:b≤2^w) (hw:20≤w) (hw':w≤1000):Spec mach 174 #[v,.int .i64 w] h (fun v h'=>Pr h' v (arcL a b w) (arcH a b w)) NP:=by
 have hv0:=hv
 obtain⟨x,m,c,y,n,d,rfl,k1,k2⟩:=hv
 have ba:bl a≤w+2:=bh (by omega)
 have bb:bl b≤w+2:=bh (by omega)
 obtain⟨bs,bt⟩:=bl_sq (a:=a) la
 obtain⟨bs',bt'⟩:=bl_sq (a:=b) lb
 have hs:=mj la
 have ht:=jV lb
 have u1:=bC w
 have u2:=bC (2*w)
 have u3:=aG (2^w) 81
 have u4:=aG (sqH b w) 79
 have u5:bl (2^w*81 - sqH b w*79)≤bl (2^w*81):=aR (Nat.sub_le _ _)
 have u6:bl 81=7:=by decide
 have u7:bl 79=7:=by decide
 have u8:bl 6399=13:=by decide
 have bA:∀{j c},j≤39→bl (arcV w (sqL a w) (sqH b w) c j)≤w+2:=fun hj=>GB hj
 have sA:∀{j},j < 39→_:=fun {j} hj=>sR (j:=j) hw hs ht hj
 have h79:sqH b w*79≤2^w*81:=by omega
 clear hs la lb
 have F:=Hid.mk (And.intro ba (And.intro bb (And.intro bs (And.intro bt (And.intro bs' (And.intro bt' (And.intro ht (And.intro u1 (And.intro u2 (And.intro u3 (And.intro u4 (And.intro u5 (And.intro u6 (And.intro u7 (And.intro u8 h79)))))))))))))));clear ba bb bs bt bs' bt' ht u1 u2 u3 u4 u5 u6 u7 u8 h79
 refine Spec.go [(3,.o [0,4,5,6,1,2,3,7,8,9]),(9,.o [0,1,3,4,5,7,2,6,8,9,10]),(10,.o [0,1,3,4,5,7,2,6,8,9,10]),(12,.o [0,1,2,4,6,7,8,10,3,5,9,11,12,13])] Tryz.func174 rfl rfl (by kernel_rfl) fun C _=>?_
 try simp(disch:=omega) only[go_sem,ξ,ζ]
 refine caN (by exact o8 hv0 (by have:=F.1;omega) (by have:=F.1;omega) (by have:=F.1;omega)) ?_;rintro v1 h1 s1 ⟨x1,m1,c1,y1,n1,d1,rfl,q1,q2⟩;have q1:N32 h1 (.slice x1 m1 c1) (sqL a w):=q1;have q2:N32 h1 (.slice y1 n1 d1) (sqH b w):=q2
 try simp(disch:=omega) only[go_sem,ξ,ζ]
 refine caN (by exact aw (n:=79) (by decide)) ?_;rintro _ h2 _ q3;obtain⟨v2,_,_,rfl,q3⟩:=q3.sl
 try simp(disch:=omega) only[go_sem,ξ,ζ]
 refine caN (by exact bu (w:=w) (by have:=F.1;omega)) ?_;rintro _ h3 _ q4;obtain⟨v3,_,_,rfl,q4⟩:=q4.sl
 try simp(disch:=omega) only[go_sem,ξ,ζ]
 refine caN (by exact aw (n:=81) (by decide)) ?_;rintro _ h4 _ q5;obtain⟨v4,_,_,rfl,q5⟩:=q5.sl
 try simp(disch:=omega) only[go_sem,ξ,ζ]
 refine caN (by exact aI (q4.to (h':=h4)) q5 (by have:=F.1;omega) (by have:=F.1;omega)) ?_;rintro _ h5 _ q6;obtain⟨v5,_,_,rfl,q6⟩:=q6.sl
 try simp(disch:=omega) only[go_sem,ξ,ζ]
 refine caN (by exact aI (q2.to (h':=h5)) (q3.to (h':=h5)) (show bl (sqH b w)≤2^40 by have:=F.1;omega) (by have:=F.1;omega)) ?_;rintro _ h6 _ q7;obtain⟨v6,_,_,rfl,q7⟩:=q7.sl
 try simp(disch:=omega) only[go_sem,ξ,ζ]
 refine caN (by exact gE (q6.to (h':=h6)) q7 (show sqH b w*79≤2^w*81 by have:=F.1;omega) (by have:=F.1;omega)) ?_;rintro _ h7 _ q8;obtain⟨v7,_,_,rfl,q8⟩:=q8.sl
 try simp(disch:=omega) only[go_sem,ξ,ζ]
 refine caN (by exact aw (n:=6399) (by decide)) ?_;rintro _ h8 _ q9;obtain⟨_,_,_,rfl,q9⟩:=q9.sl
 try simp(disch:=omega) only[go_sem,ξ,ζ]
 refine caN (by exact bD (c:=false) (q8.to (h':=h8)) q9 (by decide) (show bl (2^w*81 - sqH b w*79)≤2^36 by have:=F.1;omega) (by have:=F.1;omega)) ?_;rintro _ h9 _ q10;obtain⟨v9,v9_l,v9_c,rfl,q10⟩:=q10.sl
 try simp(disch:=omega) only[go_sem,ξ,ζ]
 refine caN (by exact bu (w:=w) (by have:=F.1;omega)) ?_;rintro _ h10 _ q11;obtain⟨v10,_,_,rfl,q11⟩:=q11.sl
 try simp(disch:=omega) only[go_sem,ξ,ζ]
 refine caN (by exact bD (c:=true) q11 (q3.to (h':=h10)) (by decide) (by have:=F.1;omega) (by have:=F.1;omega)) ?_;rintro _ h11 _ q12;obtain⟨v11,v11_l,v11_c,rfl,q12⟩:=q12.sl
 try simp(disch:=omega) only[go_sem,ξ,ζ]
 refine lp [(3,.o [0,4,5,6,1,2,3,7,8,9]),(9,.o [0,1,3,4,5,7,2,6,8,9,10]),(10,.o [0,1,3,4,5,7,2,6,8,9,10]),(12,.o [0,1,2,4,6,7,8,10,3,5,9,11,12,13])] (fun x':Value×Value×Nat=>⟨[(1,.v (.int .i64 w)),(2,.p 0 0),(4,.p 1 0),(5,.p 2 0),(8,.v x'.1),(9,.v x'.2.1),(10,.v (.int .i64 ((x'.2.2:Int) - 1)))],[[.slice x m c,.slice y n d],[.slice none 0 0,.slice none 0 0],[.slice x1 m1 c1,.slice y1 n1 d1]]⟩) (fun x' h'=>Le h1 h'∧x'.2.2≤39∧N32 h' x'.1 (arcV w (sqL a w) (sqH b w) false (39 - x'.2.2))∧N32 h' x'.2.1 (arcV w (sqL a w) (sqH b w) true (39 - x'.2.2))) (fun x'=>x'.2.2) (.slice v9 v9_l v9_c,.slice v11 v11_l v11_c,39) ?_ ⟨inferInstance,η _,by show N32 _ _ (arcV _ _ _ _ (39 - 39));rw[Nat.sub_self,EQ];exact q10.to,by show N32 _ _ (arcV _ _ _ _ (39 - 39));rw[Nat.sub_self,vR];exact q12⟩ (by kernel_rfl) ?_
 ·try simp(disch:=omega) only[go_sem,ξ,ζ]
  all_goals rfl
 rintro⟨va,vb,i⟩ g0 ⟨le0,hi,hl,hh⟩
 dsimp only at hi hl hh ⊢
 cases i with
 | zero=>
  rw[Nat.sub_zero] at hl hh
  have b1:=bA (j:=39) (c:=false) (η _)
  have b2:=bA (j:=39) (c:=true) (η _)
  have b3:=aG a (arcV w (sqL a w) (sqH b w) false 39)
  have b4:=aG b (arcV w (sqL a w) (sqH b w) true 39)
  have le1:Le h0 g0:=Le.trn inferInstance le0
  obtain⟨_,_,_,rfl,hl⟩:=hl.sl
  obtain⟨_,_,_,rfl,hh⟩:=hh.sl
  have F:=Hid.mk (And.intro F.1 (And.intro b1 (And.intro b2 (And.intro b3 b4))));clear b1 b2 b3 b4
  try simp(disch:=omega) only[go_sem,ξ,ζ]
  refine caN (by exact aI (k1.to (h':=g0)) hl (by have:=F.1;omega) (show bl (arcV w (sqL a w) (sqH b w) false 39)≤2^40 by have:=F.1;omega)) ?_;rintro _ g1 _ r1;obtain⟨w1,_,_,rfl,r1⟩:=r1.sl
  try simp(disch:=omega) only[go_sem,ξ,ζ]
  refine caN (by exact gD (n:=w) r1 (show bl (a*arcV w (sqL a w) (sqH b w) false 39)≤2^40 by have:=F.1;omega) (by have:=F.1;omega)) ?_;rintro _ g2 _ r2;obtain⟨w2,_,_,rfl,r2⟩:=r2.sl
  try simp(disch:=omega) only[go_sem,ξ,ζ]
  refine caN (by exact aI (k2.to (h':=g2)) (hh.to (h':=g2)) (by have:=F.1;omega) (show bl (arcV w (sqL a w) (sqH b w) true 39)≤2^40 by have:=F.1;omega)) ?_;rintro _ g3 _ r3;obtain⟨w3,_,_,rfl,r3⟩:=r3.sl
  try simp(disch:=omega) only[go_sem,ξ,ζ]
  refine caN (by exact kJ (n:=w) r3 (show bl (b*arcV w (sqL a w) (sqH b w) true 39)≤2^39 by have:=F.1;omega) (by have:=F.1;omega)) ?_;rintro _ g4 _ r4;obtain⟨w4,_,_,rfl,r4⟩:=r4.sl
  try simp(disch:=omega) only[go_sem,ξ,ζ]
  exact⟨_,_,_,_,_,_,rfl,r2.to,r4⟩
 | succ i=>
  obtain⟨j,hj,ej⟩:∃j,j < 39∧39 - (i+1)=j:=⟨_,by have:=F.1;omega,rfl⟩
  have en:39 - i=j+1:=by have:=F.1;omega
  have eo:77 - 2*j=2*i+1:=by have:=F.1;omega
  rw[ej] at hl hh
  obtain⟨s1',s2'⟩:=sA hj
  rw[eo] at s1' s2'
  have b1:=bA (j:=j) (c:=false) (by have:=F.1;omega)
  have b2:=bA (j:=j) (c:=true) (by have:=F.1;omega)
  have b3:bl (2*i+1)≤7:=bl_le.2 (by have:=F.1;omega)
  have b4:=aG (sqH b w) (arcV w (sqL a w) (sqH b w) true j)
  have b5:=aG (sqL a w) (arcV w (sqL a w) (sqH b w) false j)
  have b6:=aG (sqH b w*arcV w (sqL a w) (sqH b w) true j) (2*i+1)
  have b7:=aG (sqL a w*arcV w (sqL a w) (sqH b w) false j) (2*i+1)
  have b8:bl (2^(2*w) - sqH b w*arcV w (sqL a w) (sqH b w) true j*(2*i+1))≤_:=aR (Nat.sub_le _ _)
  have b9:bl (2^(2*w) - sqL a w*arcV w (sqL a w) (sqH b w) false j*(2*i+1))≤_:=aR (Nat.sub_le _ _)
  have b10:=cu (2*i+1) w
  have n0:Hid ((2*i+1)*2^w≠0):=⟨qBe (by have:=F.1;omega) (am w)⟩
  have s1':=Hid.mk s1'
  have s2':=Hid.mk s2'
  have eo:=Hid.mk eo
  have en:=Hid.mk en
  clear ej hj
  have F:=Hid.mk (And.intro F.1 (And.intro b1 (And.intro b2 (And.intro b3 (And.intro b4 (And.intro b5 (And.intro b6 (And.intro b7 (And.intro b8 (And.intro b9 b10))))))))));clear b1 b2 b3 b4 b5 b6 b7 b8 b9 b10
  try simp(disch:=omega) only[go_sem,ξ,ζ]
  refine caN (by exact aw (n:=2*i+1) (by have:=F.1;omega)) ?_;rintro _ g1 _ r1;obtain⟨w1,_,_,rfl,r1⟩:=r1.sl
  try simp(disch:=omega) only[go_sem,ξ,ζ]
  refine caN (by exact bu (w:=2*w) (by have:=F.1;omega)) ?_;rintro _ g2 _ r2;obtain⟨w2,_,_,rfl,r2⟩:=r2.sl
  try simp(disch:=omega) only[go_sem,ξ,ζ]
  refine caN (by exact aI (q2.to (h':=g2)) (hh.to (h':=g2)) (show bl (sqH b w)≤2^40 by have:=F.1;omega) (by have:=F.1;omega)) ?_;rintro _ g3 _ r3;obtain⟨w3,_,_,rfl,r3⟩:=r3.sl
  try simp(disch:=omega) only[go_sem,ξ,ζ]
  refine caN (by exact aI r3 (r1.to (h':=g3)) (show bl (sqH b w*arcV w (sqL a w) (sqH b w) true j)≤2^40 by have:=F.1;omega) (by have:=F.1;omega)) ?_;rintro _ g4 _ r4;obtain⟨w4,_,_,rfl,r4⟩:=r4.sl
  try simp(disch:=omega) only[go_sem,ξ,ζ]
  refine caN (by exact gE (r2.to (h':=g4)) r4 (by rw[nU];exact s1'.out) (by have:=F.1;omega)) ?_;rintro _ g5 _ r5;obtain⟨w5,_,_,rfl,r5⟩:=r5.sl
  try simp(disch:=omega) only[go_sem,ξ,ζ]
  refine caN (by exact bu (w:=2*w) (by have:=F.1;omega)) ?_;rintro _ g6 _ r6;obtain⟨w6,_,_,rfl,r6⟩:=r6.sl
  try simp(disch:=omega) only[go_sem,ξ,ζ]
  refine caN (by exact aI (q1.to (h':=g6)) (hl.to (h':=g6)) (show bl (sqL a w)≤2^40 by have:=F.1;omega) (by have:=F.1;omega)) ?_;rintro _ g7 _ r7;obtain⟨w7,_,_,rfl,r7⟩:=r7.sl
  try simp(disch:=omega) only[go_sem,ξ,ζ]
  refine caN (by exact aI r7 (r1.to (h':=g7)) (show bl (sqL a w*arcV w (sqL a w) (sqH b w) false j)≤2^40 by have:=F.1;omega) (by have:=F.1;omega)) ?_;rintro _ g8 _ r8;obtain⟨w8,_,_,rfl,r8⟩:=r8.sl
  try simp(disch:=omega) only[go_sem,ξ,ζ]
  refine caN (by exact gE (r6.to (h':=g8)) r8 (by rw[nU];exact s2'.out) (by have:=F.1;omega)) ?_;rintro _ g9 _ r9;obtain⟨w9,_,_,rfl,r9⟩:=r9.sl
  try simp(disch:=omega) only[go_sem,ξ,ζ]
  refine caN (by exact aL (n:=w) (r1.to (h':=g9)) (by have:=F.1;omega)) ?_;rintro _ g10 _ r10;obtain⟨w10,_,_,rfl,r10⟩:=r10.sl
  try simp(disch:=omega) only[go_sem,ξ,ζ]
  refine caN (by exact bD (c:=false) (r5.to (h':=g10)) r10 n0.out (show bl (2^(2*w) - sqH b w*arcV w (sqL a w) (sqH b w) true j*(2*i+1))≤2^36 by have:=F.1;omega) (by have:=F.1;omega)) ?_;rintro _ g11 _ r11;obtain⟨w11,w11_l,w11_c,rfl,r11⟩:=r11.sl
  try simp(disch:=omega) only[go_sem,ξ,ζ]
  refine caN (by exact aL (n:=w) (r1.to (h':=g11)) (by have:=F.1;omega)) ?_;rintro _ g12 _ r12;obtain⟨w12,_,_,rfl,r12⟩:=r12.sl
  try simp(disch:=omega) only[go_sem,ξ,ζ]
  refine caN (by exact bD (c:=true) (r9.to (h':=g12)) r12 n0.out (show bl (2^(2*w) - sqL a w*arcV w (sqL a w) (sqH b w) false j*(2*i+1))≤2^36 by have:=F.1;omega) (by have:=F.1;omega)) ?_;rintro _ g13 _ r13;obtain⟨w13,w13_l,w13_c,rfl,r13⟩:=r13.sl
  try simp(disch:=omega) only[go_sem,ξ,ζ]
  dsimp only[lpE];refine⟨(.slice w11 w11_l w11_c,.slice w13 w13_l w13_c,i),?_,⟨Le.trn le0 inferInstance,(show i≤39 by have:=F.1;omega),?_,?_⟩,(show i < i+1 by have:=F.1;omega)⟩
  ·try simp(disch:=omega) only[go_sem,ξ,ζ]
   all_goals rfl
  ·show N32 _ _ (arcV _ _ _ false (39 - i))
   rw[en.out,Az,eo.out,←nU]
   exact r11.to
  ·show N32 _ _ (arcV _ _ _ true (39 - i))
   rw[en.out,vT,eo.out,←nU]
   exact r13
theorem CF {h:PH} {n w b:Nat} (hb:h b=some #[.int .i64 w]) (hn:n≠0) (hn':n < 2^60) (hw:20≤w) (hw':w≤1000):Spec mach 173 #[.int .u64 n,.pointer (some ⟨b,0,none⟩)] h (fun v h'=>Pr h' v (fifL n w) (fifH n w)) NP:=by
 obtain⟨l1,l2⟩:=pV n (w:=w) hn
 have u1:=bC w
 have u2:bl n≤60:=bl_le.2 hn'
 have l1:=Hid.mk l1
 have l2:=Hid.mk l2
 have hn:=Hid.mk hn
 have F:=Hid.mk (And.intro u1 u2);clear u1 u2
 refine Spec.go [(1,.o [0,2,5,7,11,1,3,4,6,8,9,10,12,13])] Tryz.func173 rfl rfl (by kernel_rfl) fun C _=>?_
 try simp(disch:=omega) only[go_sem,ξ,ζ]
 refine aE (at1 hb) ?_
 try simp(disch:=omega) only[go_sem,ξ,ζ]
 refine aE (at1 hb) ?_
 try simp(disch:=omega) only[go_sem,ξ,ζ]
 refine aE (at1 hb) ?_
 try simp(disch:=omega) only[go_sem,ξ,ζ]
 refine caN (by exact bu (w:=w) (by have:=F.1;omega)) ?_;rintro _ h1 _ q1;obtain⟨v1,_,_,rfl,q1⟩:=q1.sl
 try simp(disch:=omega) only[go_sem,ξ,ζ]
 refine caN (by exact aw (n:=n) (by have:=F.1;omega)) ?_;rintro _ h2 _ q2;obtain⟨v2,_,_,rfl,q2⟩:=q2.sl
 try simp(disch:=omega) only[go_sem,ξ,ζ]
 refine caN (by exact bD (c:=false) (q1.to (h':=h2)) q2 hn.out (by have:=F.1;omega) (by have:=F.1;omega)) ?_;rintro _ h3 _ q3;obtain⟨v3,_,_,rfl,q3⟩:=q3.sl
 try simp(disch:=omega) only[go_sem,ξ,ζ]
 refine caN (by exact bu (w:=w) (by have:=F.1;omega)) ?_;rintro _ h4 _ q4;obtain⟨v4,_,_,rfl,q4⟩:=q4.sl
 try simp(disch:=omega) only[go_sem,ξ,ζ]
 refine caN (by exact aw (n:=n) (by have:=F.1;omega)) ?_;rintro _ h5 _ q5;obtain⟨v5,_,_,rfl,q5⟩:=q5.sl
 try simp(disch:=omega) only[go_sem,ξ,ζ]
 refine caN (by exact bD (c:=true) (q4.to (h':=h5)) q5 hn.out (by have:=F.1;omega) (by have:=F.1;omega)) ?_;rintro _ h6 _ q6;obtain⟨v6,_,_,rfl,q6⟩:=q6.sl
 try simp(disch:=omega) only[go_sem,ξ,ζ]
 refine caN (by exact sF (a:=2^w / n) (b:=cdiv (2^w) n) (w:=w) ⟨_,_,_,_,_,_,rfl,q3.to (h':=h6),q6⟩ l1.out l2.out hw hw') ?_;rintro v7 h7 s7 ⟨_,_,_,_,_,_,rfl,r1,r2⟩
 try simp(disch:=omega) only[go_sem,ξ,ζ]
 exact⟨_,_,_,_,_,_,rfl,r1,r2⟩
theorem kt {h:PH} {w:Nat} (hw:32≤w) (hw':w≤192):Spec mach 113 #[.int .i64 w] h (fun v h'=>Pr h' v (piL w) (piH w)) NP:=by
 obtain⟨z1,z2,_,_⟩:=FG hw hw'
 obtain⟨b1,b2⟩:=uy (n:=5) (w:=w) (by decide)
 obtain⟨b3,b4⟩:=uy (n:=239) (w:=w) (by decide)
 have b5:=cu (fifL 5 w) 4
 have b6:=cu (fifH 5 w) 4
 have F:=Hid.mk (And.intro z1 (And.intro z2 (And.intro b1 (And.intro b2 (And.intro b3 (And.intro b4 (And.intro b5 b6)))))));clear z1 z2 b1 b2 b3 b4 b5 b6
 refine Spec.go [(3,.o [0,1,2,3,5,6,7,8,4,9,10,11]),(1,.t (.p 0 (.s [0,1] .d)))] Tryz.func113 rfl rfl (by kernel_rfl) fun C _=>?_
 try simp(disch:=omega) only[go_sem,ξ,ζ]
 intro b h1 st1 hb
 try simp(disch:=omega) only[go_sem,ξ,ζ]
 have hb:=hb (by simp)
 try simp(disch:=omega) only[go_sem,ξ,ζ]
 refine caN (by exact CF (n:=5) (w:=w) hb (by decide) (by decide) (by have:=F.1;omega) (by have:=F.1;omega)) ?_;rintro v2 h2 st2 ⟨_,_,_,_,_,_,rfl,q1,q2⟩
 try simp(disch:=omega) only[go_sem,ξ,ζ]
 refine caN (by exact jh (n:=4) ⟨_,_,_,_,_,_,rfl,q1,q2⟩ (by have:=F.1;omega) (by have:=F.1;omega) (by decide)) ?_;rintro v3 h3 st3 ⟨_,_,_,_,_,_,rfl,q3,q4⟩
 try simp(disch:=omega) only[go_sem,ξ,ζ]
 refine caN (by exact CF (n:=239) (w:=w) (st3.sub _ _ (st2.sub _ _ hb)) (by decide) (by decide) (by have:=F.1;omega) (by have:=F.1;omega)) ?_;rintro v4 h4 st4 ⟨_,_,_,_,_,_,rfl,q5,q6⟩
 try simp(disch:=omega) only[go_sem,ξ,ζ]
 refine caN (by exact jh (n:=2) ⟨_,_,_,_,_,_,rfl,q5,q6⟩ (by have:=F.1;omega) (by have:=F.1;omega) (by decide)) ?_;rintro v5 h5 st5 ⟨_,_,_,_,_,_,rfl,q7,q8⟩
 try simp(disch:=omega) only[go_sem,ξ,ζ]
 refine caN (by exact gE (q3.to (h':=h5)) q8 (by have:=F.1;omega) (by have:=F.1;omega)) ?_;rintro _ h6 _ q9;obtain⟨v6,_,_,rfl,q9⟩:=q9.sl
 try simp(disch:=omega) only[go_sem,ξ,ζ]
 refine caN (by exact gE (q4.to (h':=h6)) (q7.to (h':=h6)) (by have:=F.1;omega) (by have:=F.1;omega)) ?_;rintro _ h7 _ q10;obtain⟨v7,_,_,rfl,q10⟩:=q10.sl
 try simp(disch:=omega) only[go_sem,ξ,ζ]
 exact⟨_,_,_,_,_,_,rfl,q9.to,q10⟩
def piLo (p:Nat):Rat:=sgn false (piL (p+32) / 2^32) (2^p)
def piHi (p:Nat):Rat:=sgn false (cdiv (piH (p+32)) (2^32)) (2^p)
theorem FPi_ok {h:PH} {p:Nat} (hp:p≤128):Spec mach 60 #[.int .i64 p] h (fun r h'=>Be h' r (piLo p) (piHi p)) NP:=by
 obtain⟨b1,b2⟩:=bl_pi (w:=p+32)
 have b3:=aZ (piL (p+32)) (2^(p+32 - p))
 have b4:=bl_cd (n:=p+32 - p) b2 (by omega)
 have e1:p+32 - p=32:=by omega
 have e1:=Hid.mk e1
 have F:=Hid.mk (And.intro b1 (And.intro b2 (And.intro b3 b4)));clear b1 b2 b3 b4
 refine Spec.go [] Tryz.func60 rfl rfl (by kernel_rfl) fun C _=>?_
 try simp(disch:=omega) only[go_sem,ξ,ζ]
 refine caN (by exact kt (w:=p+32) (by have:=F.1;omega) (by have:=F.1;omega)) ?_;rintro v1 h1 s1 ⟨_,_,_,_,_,_,rfl,q1,q2⟩
 try simp(disch:=omega) only[go_sem,ξ,ζ]
 refine caN (by exact fw (a:=piL (p+32)) (b:=piH (p+32)) (w:=p+32) (p:=p) (neg:=false) ⟨_,_,_,_,_,_,rfl,q1,q2⟩ (by have:=F.1;omega) (by have:=F.1;omega) (by have:=F.1;omega) (by have:=F.1;omega) (by have:=F.1;omega) (by have:=F.1;omega) (by have:=F.1;omega)) ?_;rintro v2 h2 s2 ⟨_,_,_,_,_,_,_,_,_,_,_,_,_,_,rfl,r1,r2⟩
 try simp(disch:=omega) only[go_sem,ξ,ζ]
 rw[e1.out] at r1 r2
 exact⟨_,_,_,_,_,_,_,_,_,_,_,_,_,_,rfl,r1,r2⟩
def wav (f i:Nat):Nat:=(2*i+f)*(2*i+f+1)
def waV (w f s t:Nat):Bool→Nat→Nat
 |false,0=>0
 |true,0=>2^w
 |false,j+1=>(2^w*2^w*wav f (23 - j) - t*waV w f s t true j) / (wav f (23 - j)*2^w)
 |true,j+1=>cdiv (2^w*2^w*wav f (23 - j) - s*waV w f s t false j) (wav f (23 - j)*2^w)
theorem waV_0 (w f s t:Nat):waV w f s t false 0=0:=rfl
theorem Gd (w f s t:Nat):waV w f s t true 0=2^w:=rfl
theorem waV_s (w f s t j:Nat):waV w f s t false (j+1)=(2^w*2^w*wav f (23 - j) - t*waV w f s t true j) / (wav f (23 - j)*2^w):=rfl
theorem qp (w f s t j:Nat):waV w f s t true (j+1)=cdiv (2^w*2^w*wav f (23 - j) - s*waV w f s t false j) (wav f (23 - j)*2^w):=rfl
def wvL (y w f:Nat):Nat:=waV w f (sqL y w) (sqH y w) false 24
def wvH (y w f:Nat):Nat:=waV w f (sqL y w) (sqH y w) true 24
theorem nJ {f i:Nat} (hf:1≤f):wav f i≠0:=qBe (by omega) (by omega)
theorem wav_lt {f i:Nat} (hf:f≤2) (hi:i≤23):wav f i≤48*49:=qAk (by omega) (by omega)
theorem m9 {w f s t:Nat} (hf:1≤f):∀j,waV w f s t true j≤2^w∧waV w f s t false j≤2^w
 |0=>⟨η _,qBh _⟩
 | j+1=>by
  have hn:wav f (23 - j)*2^w≠0:=qBe (nJ hf) (am w)
  have e:2^w*2^w*wav f (23 - j)=wav f (23 - j)*2^w*2^w:=by rw[ρ,σ]
  rw[waV_s,qp,e]
  exact⟨(az hn).2 (Nat.sub_le _ _),Nat.div_le_of_le_mul (Nat.sub_le _ _)⟩
theorem B6 {w f s t j:Nat} (hf:1≤f) (hs:s≤2^w) (ht:t≤2^w):t*waV w f s t true j≤2^w*2^w*wav f (23 - j)∧s*waV w f s t false j≤2^w*2^w*wav f (23 - j):=by
 obtain⟨h1,h2⟩:=m9 (w:=w) (s:=s) (t:=t) hf j
 have:=Nat.le_mul_of_pos_right (2^w*2^w) (τ (nJ (i:=23 - j) hf))
 exact⟨χ (qAk ht h1) this,χ (qAk hs h2) this⟩
theorem bl_waV {w f s t j:Nat} {c:Bool} (hf:1≤f):bl (waV w f s t c j)≤w+2:=by
 obtain⟨h1,h2⟩:=m9 (w:=w) (s:=s) (t:=t) hf j
 cases c<;>exact bh (by omega)
theorem pK {h0 h:PH} [Le h0 h] {v:Value} {y w f:Nat} (hv:N32 h0 v y) (la:y≤2^w) (hf:1≤f) (hf':f≤2) (hw:20≤w) (hw':w≤1000):Spec mach 219 #[v,.int .i64 w,.int .i64 f] h (fun v h'=>Pr h' v (wvL y w f) (wvH y w f)) NP:=by
 obtain⟨x,m,c,rfl,hv⟩:=hv.sl
 have by_:bl y≤w+2:=bh (by omega)
 obtain⟨bs,bt⟩:=bl_sq (a:=y) la
 have hs:=mj la
 have ht:=jV la
 have u1:=bC w
 have u2:=bC (2*w)
 have bA:∀{j c},bl (waV w f (sqL y w) (sqH y w) c j)≤w+2:=fun {j c}=>bl_waV hf
 have sA:∀{j},_:=fun {j}=>B6 (w:=w) (j:=j) hf hs ht
 clear hs la ht
 have F:=Hid.mk (And.intro by_ (And.intro bs (And.intro bt (And.intro u1 u2))));clear by_ bs bt u1 u2
 refine Spec.go [(8,.o [0,1,2,3,6,7,8,9,4,5,10,11,12,13])] Tryz.func219 rfl rfl (by kernel_rfl) fun C _=>?_
 try simp(disch:=omega) only[go_sem,ξ,ζ]
 refine caN (by exact o8 ⟨_,_,_,_,_,_,rfl,hv,hv⟩ (by have:=F.1;omega) (by have:=F.1;omega) (by have:=F.1;omega)) ?_;rintro v1 h1 s1 ⟨x1,m1,c1,y1,n1,d1,rfl,q1,q2⟩;have q1:N32 h1 (.slice x1 m1 c1) (sqL y w):=q1;have q2:N32 h1 (.slice y1 n1 d1) (sqH y w):=q2
 try simp(disch:=omega) only[go_sem,ξ,ζ]
 refine caN (by exact bu (w:=w) (by have:=F.1;omega)) ?_;rintro _ h3 _ q3;obtain⟨v3,v3_l,v3_c,rfl,q3⟩:=q3.sl
 try simp(disch:=omega) only[go_sem,ξ,ζ]
 refine lp [(8,.o [0,1,2,3,6,7,8,9,4,5,10,11,12,13])] (fun x':Value×Value×Nat=>⟨[(1,.v (.int .i64 w)),(2,.v (.int .i64 f)),(6,.p 0 0),(7,.p 1 0),(8,.v x'.1),(9,.v x'.2.1),(10,.v (.int .i64 ((x'.2.2:Int) - 1)))],[[.slice none 0 0,.slice none 0 0],[.slice x1 m1 c1,.slice y1 n1 d1]]⟩) (fun x' h'=>Le h1 h'∧x'.2.2≤24∧N32 h' x'.1 (waV w f (sqL y w) (sqH y w) false (24 - x'.2.2))∧N32 h' x'.2.1 (waV w f (sqL y w) (sqH y w) true (24 - x'.2.2))) (fun x'=>x'.2.2) (.slice none 0 0,.slice v3 v3_l v3_c,24) ?_ ⟨inferInstance,η _,by show N32 _ _ (waV _ _ _ _ _ (24 - 24));rw[Nat.sub_self,waV_0];exact N32.zero _,by show N32 _ _ (waV _ _ _ _ _ (24 - 24));rw[Nat.sub_self,Gd];exact q3⟩ (by kernel_rfl) ?_
 ·try simp(disch:=omega) only[go_sem,ξ,ζ]
  all_goals rfl
 rintro⟨va,vb,i⟩ g0 ⟨le0,hi,hl,hh⟩
 dsimp only at hi hl hh ⊢
 obtain⟨_,_,_,rfl,hl⟩:=hl.sl
 obtain⟨_,_,_,rfl,hh⟩:=hh.sl
 cases i with
 | zero=>
  rw[Nat.sub_zero] at hl hh
  try simp(disch:=omega) only[go_sem,ξ,ζ]
  exact⟨_,_,_,_,_,_,rfl,hl,hh⟩
 | succ i=>
  obtain⟨j,hj,ej⟩:∃j,j < 24∧24 - (i+1)=j:=⟨_,by have:=F.1;omega,rfl⟩
  have en:24 - i=j+1:=by have:=F.1;omega
  have eo:23 - j=i:=by have:=F.1;omega
  rw[ej] at hl hh
  have lw:=wav_lt (f:=f) (i:=i) hf' (by have:=F.1;omega)
  obtain⟨s1',s2'⟩:=sA (j:=j)
  rw[eo] at s1' s2'
  have b1:=bA (j:=j) (c:=false)
  have b2:=bA (j:=j) (c:=true)
  have b3:bl (wav f i)≤12:=bl_le.2 (by have:=F.1;omega)
  have b4:=aG (sqH y w) (waV w f (sqL y w) (sqH y w) true j)
  have b5:=aG (sqL y w) (waV w f (sqL y w) (sqH y w) false j)
  have b6:=aG (2^(2*w)) (wav f i)
  have b7:bl (2^(2*w)*wav f i - sqH y w*waV w f (sqL y w) (sqH y w) true j)≤_:=aR (Nat.sub_le _ _)
  have b8:bl (2^(2*w)*wav f i - sqL y w*waV w f (sqL y w) (sqH y w) false j)≤_:=aR (Nat.sub_le _ _)
  have b9:=cu (wav f i) w
  have n0:Hid (wav f i*2^w≠0):=⟨qBe (nJ hf) (am w)⟩
  have s1':=Hid.mk s1'
  have s2':=Hid.mk s2'
  have eo:=Hid.mk eo
  have en:=Hid.mk en
  have lw':=lw
  have ew:IntKind.i64.wrap (((2*i+f)*(2*i+f+1):Nat):Int)=(wav f i:Nat):=by
   unfold wav at lw ⊢
   exact wi64 (by have:=F.1;omega) (by have:=F.1;omega)
  have ew':IntKind.u64.wrap ((wav f i:Nat):Int)=(wav f i:Nat):=by
   generalize wav f i=z at lw'
   simp(disch:=omega) only[go_sem]
  have lw:=Hid.mk lw'
  clear ej hj lw'
  have F:=Hid.mk (And.intro F.1 (And.intro b1 (And.intro b2 (And.intro b3 (And.intro b4 (And.intro b5 (And.intro b6 (And.intro b7 (And.intro b8 b9)))))))));clear b1 b2 b3 b4 b5 b6 b7 b8 b9
  try simp(disch:=omega) only[go_sem,ξ,ζ,ew,ew']
  refine caN (by exact aw (n:=wav f i) (Nat.lt_of_le_of_lt lw.out (by decide))) ?_;rintro _ g1 _ r1;obtain⟨_,_,_,rfl,r1⟩:=r1.sl
  try simp(disch:=omega) only[go_sem,ξ,ζ]
  refine caN (by exact bu (w:=2*w) (by have:=F.1;omega)) ?_;rintro _ g2 _ r2;obtain⟨w2,_,_,rfl,r2⟩:=r2.sl
  try simp(disch:=omega) only[go_sem,ξ,ζ]
  refine caN (by exact aI r2 (r1.to (h':=g2)) (by have:=F.1;omega) (by have:=F.1;omega)) ?_;rintro _ g3 _ r3;obtain⟨w3,_,_,rfl,r3⟩:=r3.sl
  try simp(disch:=omega) only[go_sem,ξ,ζ]
  refine caN (by exact aI (q2.to (h':=g3)) (hh.to (h':=g3)) (show bl (sqH y w)≤2^40 by have:=F.1;omega) (by have:=F.1;omega)) ?_;rintro _ g4 _ r4;obtain⟨w4,_,_,rfl,r4⟩:=r4.sl
  try simp(disch:=omega) only[go_sem,ξ,ζ]
  refine caN (by exact gE (r3.to (h':=g4)) r4 (by rw[nU];exact s1'.out) (show bl (2^(2*w)*wav f i)≤2^40 by have:=F.1;omega)) ?_;rintro _ g5 _ r5;obtain⟨w5,_,_,rfl,r5⟩:=r5.sl
  try simp(disch:=omega) only[go_sem,ξ,ζ]
  refine caN (by exact aI (q1.to (h':=g5)) (hl.to (h':=g5)) (show bl (sqL y w)≤2^40 by have:=F.1;omega) (by have:=F.1;omega)) ?_;rintro _ g6 _ r6;obtain⟨w6,_,_,rfl,r6⟩:=r6.sl
  try simp(disch:=omega) only[go_sem,ξ,ζ]
  refine caN (by exact gE (r3.to (h':=g6)) r6 (by rw[nU];exact s2'.out) (show bl (2^(2*w)*wav f i)≤2^40 by have:=F.1;omega)) ?_;rintro _ g7 _ r7;obtain⟨w7,_,_,rfl,r7⟩:=r7.sl
  try simp(disch:=omega) only[go_sem,ξ,ζ]
  refine caN (by exact aL (n:=w) (r1.to (h':=g7)) (by have:=F.1;omega)) ?_;rintro _ g8 _ r8;obtain⟨w8,_,_,rfl,r8⟩:=r8.sl
  try simp(disch:=omega) only[go_sem,ξ,ζ]
  refine caN (by exact bD (c:=false) (r5.to (h':=g8)) r8 n0.out (show bl (2^(2*w)*wav f i - sqH y w*waV w f (sqL y w) (sqH y w) true j)≤2^36 by have:=F.1;omega) (by have:=F.1;omega)) ?_;rintro _ g9 _ r9;obtain⟨w9,w9_l,w9_c,rfl,r9⟩:=r9.sl
  try simp(disch:=omega) only[go_sem,ξ,ζ]
  refine caN (by exact aL (n:=w) (r1.to (h':=g9)) (by have:=F.1;omega)) ?_;rintro _ g10 _ r10;obtain⟨w10,_,_,rfl,r10⟩:=r10.sl
  try simp(disch:=omega) only[go_sem,ξ,ζ]
  refine caN (by exact bD (c:=true) (r7.to (h':=g10)) r10 n0.out (show bl (2^(2*w)*wav f i - sqL y w*waV w f (sqL y w) (sqH y w) false j)≤2^36 by have:=F.1;omega) (by have:=F.1;omega)) ?_;rintro _ g11 _ r11;obtain⟨w11,w11_l,w11_c,rfl,r11⟩:=r11.sl
  try simp(disch:=omega) only[go_sem,ξ,ζ]
  dsimp only[lpE];refine⟨(.slice w9 w9_l w9_c,.slice w11 w11_l w11_c,i),?_,⟨Le.trn le0 inferInstance,(show i≤24 by have:=F.1;omega),?_,?_⟩,(show i < i+1 by have:=F.1;omega)⟩
  ·try simp(disch:=omega) only[go_sem,ξ,ζ]
   all_goals rfl
  ·show N32 _ _ (waV _ _ _ _ false (24 - i))
   rw[en.out,waV_s,eo.out,←nU]
   exact r9.to
  ·show N32 _ _ (waV _ _ _ _ true (24 - i))
   rw[en.out,qp,eo.out,←nU]
   exact r11
def logV (w s t:Nat):Bool→Nat→Nat
 |false,0=>2^w / 111
 |true,0=>cdiv (2^w*100+t*111) 11100
 |false,j+1=>(2^w*2^w+s*logV w s t false j*(109 - 2*j)) / ((109 - 2*j)*2^w)
 |true,j+1=>cdiv (2^w*2^w+t*logV w s t true j*(109 - 2*j)) ((109 - 2*j)*2^w)
theorem yf (w s t:Nat):logV w s t false 0=2^w / 111:=rfl
theorem tD (w s t:Nat):logV w s t true 0=cdiv (2^w*100+t*111) 11100:=rfl
theorem uI (w s t j:Nat):logV w s t false (j+1)=(2^w*2^w+s*logV w s t false j*(109 - 2*j)) / ((109 - 2*j)*2^w):=rfl
theorem qQ (w s t j:Nat):logV w s t true (j+1)=cdiv (2^w*2^w+t*logV w s t true j*(109 - 2*j)) ((109 - 2*j)*2^w):=rfl
def logL (a b w:Nat):Nat:=a*logV w (sqL a w) (sqH b w) false 55*2^1 / 2^w
def logH (a b w:Nat):Nat:=cdiv (b*logV w (sqL a w) (sqH b w) true 55*2^1) (2^w)
theorem Hp {u k s v m:Nat} (hk:0 < k) (hs:s≤u) (hv:v≤m*u):u*u+s*v*k≤k*u*((m+1)*u):=by
 have h1:s*v*k≤u*(m*u)*k:=ψ k (qAk hs hv)
 have h2:u*u≤k*(u*u):=Nat.le_mul_of_pos_left _ hk
 have e:k*u*((m+1)*u)=u*(m*u)*k+k*(u*u):=by
  rw[Nat.add_mul,qBm,qAm,ρ k u,σ u k,σ u k,qBg k,σ u,ρ (m*u) k,qBg k m u,qBg u k u]
 omega
theorem qP {w s t:Nat} (hs:s≤2^w) (ht:t≤2^w):∀{j:Nat},j≤55→logV w s t true j≤(j+1)*2^w∧logV w s t false j≤(j+1)*2^w
 | 0,_=>by
  rw[yf,tD]
  refine⟨(az (by decide)).2 (by omega),?_⟩
  have:=Nat.div_le_self (2^w) 111
  omega
 | j+1,h=>by
  obtain⟨h1,h2⟩:=qP hs ht (j:=j) (by omega)
  have hk:0 < 109 - 2*j:=by omega
  have hn:(109 - 2*j)*2^w≠0:=qBe (by omega) (am w)
  rw[uI,qQ]
  exact⟨(az hn).2 (Hp hk ht h1),Nat.div_le_of_le_mul (Hp hk hs h2)⟩
theorem bl_logV {w s t j:Nat} {c:Bool} (hs:s≤2^w) (ht:t≤2^w) (hj:j≤55):bl (logV w s t c j)≤w+7:=by
 obtain⟨h1,h2⟩:=qP hs ht hj
 have:(j+1)*2^w≤64*2^w:=ψ _ (by omega)
 cases c
 ·exact bl_64 (χ h2 this)
 ·exact bl_64 (χ h1 this)
theorem wh {a b w:Nat} (ha:a≤2^w) (hb:b≤2^w):logL a b w≤112*2^w∧logH a b w≤112*2^w:=by
 obtain⟨h1,h2⟩:=qP (mj ha) (jV hb) (η 55)
 unfold logL logH
 refine⟨Nat.div_le_of_le_mul ?_,(az (am w)).2 ?_⟩
 ·have:=qAk ha h2
  rw[show 2^w*(112*2^w)=2^w*((55+1)*2^w)*2^1 by rw[σ,ρ ((55+1)*2^w) (2^1),←σ (2^1)]]
  exact ψ _ this
 ·have:=qAk hb h1
  rw[show 2^w*(112*2^w)=2^w*((55+1)*2^w)*2^1 by rw[σ,ρ ((55+1)*2^w) (2^1),←σ (2^1)]]
  exact ψ _ this
theorem wO {h0 h:PH} [Le h0 h] {v:Value} {a b w:Nat} (hv:Pr h0 v a b) (la:a≤2^w) (lb:b≤2^w) (hw:20≤w) (hw':w≤1000):Spec mach 106 #[v,.int .i64 w] h (fun v h'=>Pr h' v (logL a b w) (logH a b w)) NP:=by
 have hv0:=hv
 obtain⟨x,m,c,y,n,d,rfl,k1,k2⟩:=hv
 have ba:bl a≤w+2:=bh (by omega)
 have bb:bl b≤w+2:=bh (by omega)
 obtain⟨bs,bt⟩:=bl_sq (a:=a) la
 obtain⟨bs',bt'⟩:=bl_sq (a:=b) lb
 have hs:=mj la
 have ht:=jV lb
 have u1:=bC w
 have u2:=bC (2*w)
 have u3:=aG (2^w) 100
 have u4:=aG (sqH b w) 111
 have u5:=cY (2^w*100) (sqH b w*111)
 have u6:bl 100=7:=by decide
 have u7:bl 111=7:=by decide
 have u8:bl 11100=14:=by decide
 have bA:∀{j c},j≤55→bl (logV w (sqL a w) (sqH b w) c j)≤w+7:=fun hj=>bl_logV hs ht hj
 clear hs la lb ht
 have F:=Hid.mk (And.intro ba (And.intro bb (And.intro bs (And.intro bt (And.intro bs' (And.intro bt' (And.intro u1 (And.intro u2 (And.intro u3 (And.intro u4 (And.intro u5 (And.intro u6 (And.intro u7 u8)))))))))))));clear ba bb bs bt bs' bt' u1 u2 u3 u4 u5 u6 u7 u8
 refine Spec.go [(4,.o [0,4,5,6,1,2,3,7,8,9,10,11]),(9,.o [0,1,3,4,5,7,2,6,8,9,10]),(10,.o [0,1,3,4,5,7,2,6,8,9,10]),(12,.o [0,1,2,5,7,8,9,12,3,4,6,10,11,13,14,15])] Tryz.func106 rfl rfl (by kernel_rfl) fun C _=>?_
 try simp(disch:=omega) only[go_sem,ξ,ζ]
 refine caN (by exact o8 hv0 (by have:=F.1;omega) (by have:=F.1;omega) (by have:=F.1;omega)) ?_;rintro v1 h1 s1 ⟨x1,m1,c1,y1,n1,d1,rfl,q1,q2⟩;have q1:N32 h1 (.slice x1 m1 c1) (sqL a w):=q1;have q2:N32 h1 (.slice y1 n1 d1) (sqH b w):=q2
 try simp(disch:=omega) only[go_sem,ξ,ζ]
 refine caN (by exact aw (n:=111) (by decide)) ?_;rintro _ h2 _ q3;obtain⟨_,_,_,rfl,q3⟩:=q3.sl
 try simp(disch:=omega) only[go_sem,ξ,ζ]
 refine caN (by exact bu (w:=w) (by have:=F.1;omega)) ?_;rintro _ h3 _ q4;obtain⟨v3,_,_,rfl,q4⟩:=q4.sl
 try simp(disch:=omega) only[go_sem,ξ,ζ]
 refine caN (by exact bD (c:=false) q4 (q3.to (h':=h3)) (by decide) (by have:=F.1;omega) (by have:=F.1;omega)) ?_;rintro _ h4 _ q5;obtain⟨v4,v4_l,v4_c,rfl,q5⟩:=q5.sl
 try simp(disch:=omega) only[go_sem,ξ,ζ]
 refine caN (by exact bu (w:=w) (by have:=F.1;omega)) ?_;rintro _ h5 _ q6;obtain⟨v5,_,_,rfl,q6⟩:=q6.sl
 try simp(disch:=omega) only[go_sem,ξ,ζ]
 refine caN (by exact aw (n:=100) (by decide)) ?_;rintro _ h6 _ q7;obtain⟨_,_,_,rfl,q7⟩:=q7.sl
 try simp(disch:=omega) only[go_sem,ξ,ζ]
 refine caN (by exact aI (q6.to (h':=h6)) q7 (by have:=F.1;omega) (by have:=F.1;omega)) ?_;rintro _ h7 _ q8;obtain⟨v7,_,_,rfl,q8⟩:=q8.sl
 try simp(disch:=omega) only[go_sem,ξ,ζ]
 refine caN (by exact aI (q2.to (h':=h7)) (q3.to (h':=h7)) (show bl (sqH b w)≤2^40 by have:=F.1;omega) (by have:=F.1;omega)) ?_;rintro _ h8 _ q9;obtain⟨v8,_,_,rfl,q9⟩:=q9.sl
 try simp(disch:=omega) only[go_sem,ξ,ζ]
 refine caN (by exact bR (q8.to (h':=h8)) q9 (by have:=F.1;omega) (show bl (sqH b w*111)≤2^40 by have:=F.1;omega)) ?_;rintro _ h9 _ q10;obtain⟨v9,_,_,rfl,q10⟩:=q10.sl
 try simp(disch:=omega) only[go_sem,ξ,ζ]
 refine caN (by exact aw (n:=11100) (by decide)) ?_;rintro _ h10 _ q11;obtain⟨_,_,_,rfl,q11⟩:=q11.sl
 try simp(disch:=omega) only[go_sem,ξ,ζ]
 refine caN (by exact bD (c:=true) (q10.to (h':=h10)) q11 (by decide) (show bl (2^w*100+sqH b w*111)≤2^36 by have:=F.1;omega) (by have:=F.1;omega)) ?_;rintro _ h11 _ q12;obtain⟨v11,v11_l,v11_c,rfl,q12⟩:=q12.sl
 try simp(disch:=omega) only[go_sem,ξ,ζ]
 refine lp [(4,.o [0,4,5,6,1,2,3,7,8,9,10,11]),(9,.o [0,1,3,4,5,7,2,6,8,9,10]),(10,.o [0,1,3,4,5,7,2,6,8,9,10]),(12,.o [0,1,2,5,7,8,9,12,3,4,6,10,11,13,14,15])] (fun x':Value×Value×Nat=>⟨[(1,.v (.int .i64 w)),(2,.p 0 0),(4,.p 1 0),(5,.p 2 0),(7,.v x'.1),(8,.v x'.2.1),(9,.v (.int .i64 ((x'.2.2:Int) - 1)))],[[.slice x m c,.slice y n d],[.slice none 0 0,.slice none 0 0],[.slice x1 m1 c1,.slice y1 n1 d1]]⟩) (fun x' h'=>Le h1 h'∧x'.2.2≤55∧N32 h' x'.1 (logV w (sqL a w) (sqH b w) false (55 - x'.2.2))∧N32 h' x'.2.1 (logV w (sqL a w) (sqH b w) true (55 - x'.2.2))) (fun x'=>x'.2.2) (.slice v4 v4_l v4_c,.slice v11 v11_l v11_c,55) ?_ ⟨inferInstance,η _,by show N32 _ _ (logV _ _ _ _ (55 - 55));rw[Nat.sub_self,yf];exact q5.to,by show N32 _ _ (logV _ _ _ _ (55 - 55));rw[Nat.sub_self,tD];exact q12⟩ (by kernel_rfl) ?_
 ·try simp(disch:=omega) only[go_sem,ξ,ζ]
  all_goals rfl
 rintro⟨va,vb,i⟩ g0 ⟨le0,hi,hl,hh⟩
 dsimp only at hi hl hh ⊢
 cases i with
 | zero=>
  rw[Nat.sub_zero] at hl hh
  have b1:=bA (j:=55) (c:=false) (η _)
  have b2:=bA (j:=55) (c:=true) (η _)
  have b3:=aG a (logV w (sqL a w) (sqH b w) false 55)
  have b4:=aG b (logV w (sqL a w) (sqH b w) true 55)
  have b5:=cu (a*logV w (sqL a w) (sqH b w) false 55) 1
  have b6:=cu (b*logV w (sqL a w) (sqH b w) true 55) 1
  have le1:Le h0 g0:=Le.trn inferInstance le0
  obtain⟨_,_,_,rfl,hl⟩:=hl.sl
  obtain⟨_,_,_,rfl,hh⟩:=hh.sl
  have F:=Hid.mk (And.intro F.1 (And.intro b1 (And.intro b2 (And.intro b3 (And.intro b4 (And.intro b5 b6))))));clear b1 b2 b3 b4 b5 b6
  try simp(disch:=omega) only[go_sem,ξ,ζ]
  refine caN (by exact aI (k1.to (h':=g0)) hl (by have:=F.1;omega) (show bl (logV w (sqL a w) (sqH b w) false 55)≤2^40 by have:=F.1;omega)) ?_;rintro _ g1 _ r1;obtain⟨w1,_,_,rfl,r1⟩:=r1.sl
  try simp(disch:=omega) only[go_sem,ξ,ζ]
  refine caN (by exact aL (n:=1) r1 (show bl (a*logV w (sqL a w) (sqH b w) false 55)+1≤2^40 by have:=F.1;omega)) ?_;rintro _ g2 _ r2;obtain⟨w2,_,_,rfl,r2⟩:=r2.sl
  try simp(disch:=omega) only[go_sem,ξ,ζ]
  refine caN (by exact gD (n:=w) r2 (show bl (a*logV w (sqL a w) (sqH b w) false 55*2^1)≤2^40 by have:=F.1;omega) (by have:=F.1;omega)) ?_;rintro _ g3 _ r3;obtain⟨w3,_,_,rfl,r3⟩:=r3.sl
  try simp(disch:=omega) only[go_sem,ξ,ζ]
  refine caN (by exact aI (k2.to (h':=g3)) (hh.to (h':=g3)) (by have:=F.1;omega) (show bl (logV w (sqL a w) (sqH b w) true 55)≤2^40 by have:=F.1;omega)) ?_;rintro _ g4 _ r4;obtain⟨w4,_,_,rfl,r4⟩:=r4.sl
  try simp(disch:=omega) only[go_sem,ξ,ζ]
  refine caN (by exact aL (n:=1) r4 (show bl (b*logV w (sqL a w) (sqH b w) true 55)+1≤2^40 by have:=F.1;omega)) ?_;rintro _ g5 _ r5;obtain⟨w5,_,_,rfl,r5⟩:=r5.sl
  try simp(disch:=omega) only[go_sem,ξ,ζ]
  refine caN (by exact kJ (n:=w) r5 (show bl (b*logV w (sqL a w) (sqH b w) true 55*2^1)≤2^39 by have:=F.1;omega) (by have:=F.1;omega)) ?_;rintro _ g6 _ r6;obtain⟨w6,_,_,rfl,r6⟩:=r6.sl
  try simp(disch:=omega) only[go_sem,ξ,ζ]
  exact⟨_,_,_,_,_,_,rfl,r3.to,r6⟩
 | succ i=>
  obtain⟨j,hj,ej⟩:∃j,j < 55∧55 - (i+1)=j:=⟨_,by have:=F.1;omega,rfl⟩
  have en:55 - i=j+1:=by have:=F.1;omega
  have eo:109 - 2*j=2*i+1:=by have:=F.1;omega
  rw[ej] at hl hh
  have b1:=bA (j:=j) (c:=false) (by have:=F.1;omega)
  have b2:=bA (j:=j) (c:=true) (by have:=F.1;omega)
  have b3:bl (2*i+1)≤7:=bl_le.2 (by have:=F.1;omega)
  have b4:=aG (sqH b w) (logV w (sqL a w) (sqH b w) true j)
  have b5:=aG (sqL a w) (logV w (sqL a w) (sqH b w) false j)
  have b6:=aG (sqH b w*logV w (sqL a w) (sqH b w) true j) (2*i+1)
  have b7:=aG (sqL a w*logV w (sqL a w) (sqH b w) false j) (2*i+1)
  have b8:=cY (2^(2*w)) (sqH b w*logV w (sqL a w) (sqH b w) true j*(2*i+1))
  have b9:=cY (2^(2*w)) (sqL a w*logV w (sqL a w) (sqH b w) false j*(2*i+1))
  have b10:=cu (2*i+1) w
  have n0:Hid ((2*i+1)*2^w≠0):=⟨qBe (by have:=F.1;omega) (am w)⟩
  have eo:=Hid.mk eo
  have en:=Hid.mk en
  clear ej hj
  have F:=Hid.mk (And.intro F.1 (And.intro b1 (And.intro b2 (And.intro b3 (And.intro b4 (And.intro b5 (And.intro b6 (And.intro b7 (And.intro b8 (And.intro b9 b10))))))))));clear b1 b2 b3 b4 b5 b6 b7 b8 b9 b10
  try simp(disch:=omega) only[go_sem,ξ,ζ]
  refine caN (by exact aw (n:=2*i+1) (by have:=F.1;omega)) ?_;rintro _ g1 _ r1;obtain⟨w1,_,_,rfl,r1⟩:=r1.sl
  try simp(disch:=omega) only[go_sem,ξ,ζ]
  refine caN (by exact bu (w:=2*w) (by have:=F.1;omega)) ?_;rintro _ g2 _ r2;obtain⟨w2,_,_,rfl,r2⟩:=r2.sl
  try simp(disch:=omega) only[go_sem,ξ,ζ]
  refine caN (by exact aI (q1.to (h':=g2)) (hl.to (h':=g2)) (show bl (sqL a w)≤2^40 by have:=F.1;omega) (by have:=F.1;omega)) ?_;rintro _ g3 _ r3;obtain⟨w3,_,_,rfl,r3⟩:=r3.sl
  try simp(disch:=omega) only[go_sem,ξ,ζ]
  refine caN (by exact aI r3 (r1.to (h':=g3)) (show bl (sqL a w*logV w (sqL a w) (sqH b w) false j)≤2^40 by have:=F.1;omega) (by have:=F.1;omega)) ?_;rintro _ g4 _ r4;obtain⟨w4,_,_,rfl,r4⟩:=r4.sl
  try simp(disch:=omega) only[go_sem,ξ,ζ]
  refine caN (by exact bR (r2.to (h':=g4)) r4 (by have:=F.1;omega) (show bl (sqL a w*logV w (sqL a w) (sqH b w) false j*(2*i+1))≤2^40 by have:=F.1;omega)) ?_;rintro _ g5 _ r5;obtain⟨w5,_,_,rfl,r5⟩:=r5.sl
  try simp(disch:=omega) only[go_sem,ξ,ζ]
  refine caN (by exact bu (w:=2*w) (by have:=F.1;omega)) ?_;rintro _ g6 _ r6;obtain⟨w6,_,_,rfl,r6⟩:=r6.sl
  try simp(disch:=omega) only[go_sem,ξ,ζ]
  refine caN (by exact aI (q2.to (h':=g6)) (hh.to (h':=g6)) (show bl (sqH b w)≤2^40 by have:=F.1;omega) (by have:=F.1;omega)) ?_;rintro _ g7 _ r7;obtain⟨w7,_,_,rfl,r7⟩:=r7.sl
  try simp(disch:=omega) only[go_sem,ξ,ζ]
  refine caN (by exact aI r7 (r1.to (h':=g7)) (show bl (sqH b w*logV w (sqL a w) (sqH b w) true j)≤2^40 by have:=F.1;omega) (by have:=F.1;omega)) ?_;rintro _ g8 _ r8;obtain⟨w8,_,_,rfl,r8⟩:=r8.sl
  try simp(disch:=omega) only[go_sem,ξ,ζ]
  refine caN (by exact bR (r6.to (h':=g8)) r8 (by have:=F.1;omega) (show bl (sqH b w*logV w (sqL a w) (sqH b w) true j*(2*i+1))≤2^40 by have:=F.1;omega)) ?_;rintro _ g9 _ r9;obtain⟨w9,_,_,rfl,r9⟩:=r9.sl
  try simp(disch:=omega) only[go_sem,ξ,ζ]
  refine caN (by exact aL (n:=w) (r1.to (h':=g9)) (by have:=F.1;omega)) ?_;rintro _ g10 _ r10;obtain⟨w10,_,_,rfl,r10⟩:=r10.sl
  try simp(disch:=omega) only[go_sem,ξ,ζ]
  refine caN (by exact bD (c:=false) (r5.to (h':=g10)) r10 n0.out (show bl (2^(2*w)+sqL a w*logV w (sqL a w) (sqH b w) false j*(2*i+1))≤2^36 by have:=F.1;omega) (by have:=F.1;omega)) ?_;rintro _ g11 _ r11;obtain⟨w11,w11_l,w11_c,rfl,r11⟩:=r11.sl
  try simp(disch:=omega) only[go_sem,ξ,ζ]
  refine caN (by exact aL (n:=w) (r1.to (h':=g11)) (by have:=F.1;omega)) ?_;rintro _ g12 _ r12;obtain⟨w12,_,_,rfl,r12⟩:=r12.sl
  try simp(disch:=omega) only[go_sem,ξ,ζ]
  refine caN (by exact bD (c:=true) (r9.to (h':=g12)) r12 n0.out (show bl (2^(2*w)+sqH b w*logV w (sqL a w) (sqH b w) true j*(2*i+1))≤2^36 by have:=F.1;omega) (by have:=F.1;omega)) ?_;rintro _ g13 _ r13;obtain⟨w13,w13_l,w13_c,rfl,r13⟩:=r13.sl
  try simp(disch:=omega) only[go_sem,ξ,ζ]
  dsimp only[lpE];refine⟨(.slice w11 w11_l w11_c,.slice w13 w13_l w13_c,i),?_,⟨Le.trn le0 inferInstance,(show i≤55 by have:=F.1;omega),?_,?_⟩,(show i < i+1 by have:=F.1;omega)⟩
  ·try simp(disch:=omega) only[go_sem,ξ,ζ]
   all_goals rfl
  ·show N32 _ _ (logV _ _ _ false (55 - i))
   rw[en.out,uI,eo.out,←nU]
   exact r11.to
  ·show N32 _ _ (logV _ _ _ true (55 - i))
   rw[en.out,qQ,eo.out,←nU]
   exact r13
end Go.Q
