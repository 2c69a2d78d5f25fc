/-
  Contract of package word: powers of natural numbers. Conditions: the slice holds words (N32), the power has at most 2^36 bits.
  Powers of numbers, plain: their order, their size; whole parts of roots, and the step that finds them. Conditions: none.
  Contract of package word: whole parts of roots. Conditions: the slice holds words (N32), of at most 2^20 bits; the index is from 2 to 8.
  Contracts of the reference's natural numbers: powers. Conditions: the slice holds digits (N16); the power has at most 2^30 bits.
  Contracts of the reference's natural numbers: binary digits, whole parts of roots. Conditions: the slice holds digits (N16), of at most 2^20 bits; the index is from 2 to 8.
  From a law's contract to its statement: the arguments read as intervals and numbers; what was there stays as it was. Conditions: what is read is of bulk at most 1048576.
  Numbers as they come in (Rv) and as an operation of package number returns them (Nq). Conditions: none.
  Contracts of package number: canonical values, small integers; of package word: lowest digits. Conditions: the values are numbers.
  Contracts of package elem: units, quotients rounded up, numbers of a grid, brackets. Conditions: the values are natural numbers (N32) and numbers (Cn) of the sizes named.
  Contracts of package elem: what is known of an argument; domains and exact values. Conditions: the values are numbers, raw (Rv) or canonical (Cn).
  The bracket of exp at 1 with the precision 3, and the statements' check of it (sane). Conditions: none.
-/
import Derived.Test.YtebhjmnnjoijcaaGreatDoorK01b216PkF
import Derived.Test.YtebhjmnnjoijcaaGreatDoorK78bfd1PkH
import Derived.Test.YtebhjmnnjoijcaaGreatDoorKdd24efPkI
import Derived.Test.YtebhjmnnjoijcaaGreatDoorK6c5dd2PkJ
import Derived.Test.YtebhjmnnjoijcaaGreatDoorK971113PkK
import Derived.Test.YtebhjmnnjoijcaaGreatDoorCards
import Derived.Test.YtebhjmnnjoijcaaGreatDoorTie
import Derived.WalkKit
import Derived.ProofKit
import Derived.OpenShut
import Derived.Deep.DeepHandedRow
import Derived.Lib.LaidTab
set_option linter.unusedVariables false
set_option linter.unusedSimpArgs false
open Nat (reduceAdd)
namespace Go.Q
open Go.Proofs
set_option maxRecDepth 100000
theorem emod_two (s:Int):((s % 18446744073709551616).toNat % 2:Nat)=(s % 2).toNat:=by omega
theorem vQ {k:Nat}:andI .i64 (k:Int) 1=((k % 2:Nat):Int):=by
  unfold andI
  rw[BitVec.toNat_and]
  have e1:(BitVec.ofInt IntKind.i64.bits (k:Int)).toNat=((k:Int) % 18446744073709551616).toNat:=by rw[BitVec.toNat_ofInt];rfl
  have e2:(BitVec.ofInt IntKind.i64.bits 1).toNat=2^1 - 1:=by decide
  rw[e1,e2,Nat.and_two_pow_sub_one_eq_mod,show(2:Nat)^1=2 from rfl,emod_two,IntKind.wrap_i64]
  omega
theorem BL {k:Nat}:(k:Int).fdiv (2^min (Int.toNat 1) 64)=((k / 2:Nat):Int):=by
  rw[show(2:Int)^min (Int.toNat 1) 64=2 from rfl,Int.fdiv_eq_ediv_of_nonneg _ (by decide)];omega
theorem npow_odd {a o k p:Nat} (hm:k % 2=1) (h:o*a^k=p):o*a*(a*a)^(k / 2)=p:=by
  obtain⟨j,rfl⟩:∃j,k=2*j+1:=⟨k / 2,by omega⟩
  rw[show(2*j+1) / 2=j by omega,←h,Nat.pow_succ,Nat.pow_mul,Nat.pow_two,Nat.mul_assoc,Nat.mul_comm ((a*a)^j) a]
theorem JE {a o k p:Nat} (hm:k % 2=0) (h:o*a^k=p):o*(a*a)^(k / 2)=p:=by
  obtain⟨j,rfl⟩:∃j,k=2*j:=⟨k / 2,by omega⟩
  rw[show(2*j) / 2=j by omega,←h,Nat.pow_mul,Nat.pow_two]
theorem JD {a o k B:Nat} (h:bl o+bl a*k≤B) (hk:k≠0):bl a+bl o≤B∧bl (o*a)+bl (a*a)*(k / 2)≤B+(bl a - bl a*(k % 2))∧bl o+bl (a*a)*(k / 2)≤B:=by
  have h1:=aG o a
  have h2:=aG a a
  have h3:bl (a*a)*(k / 2)≤(bl a+bl a)*(k / 2):=Nat.mul_le_mul_right _ h2
  have h4:bl a*k=bl a*(2*(k / 2))+bl a*(k % 2):=by rw[←Nat.mul_add];congr 1;omega
  have h5:(bl a+bl a)*(k / 2)=bl a*(2*(k / 2)):=by rw[←Nat.two_mul,Nat.mul_comm 2,Nat.mul_assoc]
  have h6:bl a≤bl a*k:=Nat.le_mul_of_pos_right _ (by omega)
  rcases(show k % 2=0∨k % 2=1 by omega) with e |e<;>rw[e] at h4 ⊢<;>omega
theorem jL {h0 h:PH} [Le h0 h] {v:Value} {m n:Nat} (hv:N32 h0 v m) (hn:n≤2^20) (bm:bl m*n≤2^36):Spec mach 203 #[v,.int .i64 n] h (fun v h'=>N32 h' v (m^n)) NP:=by
  refine Spec.enter (args:=[_,_]) (n:=23) Tryz.func203 rfl (by kernel_rfl) rfl (by simp) [.tmp 4] rfl (fun C _=>?_)
  repeat (first |(refine wo rfl (fun k hk=>?_);simp(disch:=omega) only[go_sem,Nat.reduceBEq,reduceAdd];apply hk;clear hk k) |refine wkt rfl ?_ |refine wk0 ?_ |refine rg rfl rfl (fun K hK=>?_) |((first |refine ae ?_ |refine ac ?_);simp(disch:=decide) only[qs,qb,if_true,if_false,reduceIte]) |refine ah rfl (fun K hK=>?_) |refine ct rfl ?_ |((try simp(disch:=omega) only[go_sem,Nat.reduceBEq,reduceAdd]);(first |apply hK |(clear hK;apply hK) |(clear hK;clear hK;apply hK));clear hK;(try clear K);(try dsimp only[ag,qs,qb])))
  refine cN rfl rfl rfl rfl (by exact aw (n:=1) (by decide)) ?_;rintro o1 h1 s1 ho1
  repeat (first |(refine wo rfl (fun k hk=>?_);simp(disch:=omega) only[go_sem,Nat.reduceBEq,reduceAdd];apply hk;clear hk k) |refine wkt rfl ?_ |refine wk0 ?_ |refine rg rfl rfl (fun K hK=>?_) |((first |refine ae ?_ |refine ac ?_);simp(disch:=decide) only[qs,qb,if_true,if_false,reduceIte]) |refine ah rfl (fun K hK=>?_) |refine ct rfl ?_ |((try simp(disch:=omega) only[go_sem,Nat.reduceBEq,reduceAdd]);(first |apply hK |(clear hK;apply hK) |(clear hK;clear hK;apply hK));clear hK;(try clear K);(try dsimp only[ag,qs,qb])))
  refine cg (fun x:Value×Value×Nat×Nat×Nat=>⟨[(0,.v x.1),(1,.v (.int .i64 (x.2.2.2.2:Nat))),(5,.v x.2.1)],[]⟩)
    (fun x h'=>N32 h' x.1 x.2.2.1∧N32 h' x.2.1 x.2.2.2.1∧x.2.2.2.2≤2^20∧bl x.2.2.2.1+bl x.2.2.1*x.2.2.2.2≤1+bl m*n∧x.2.2.2.1*x.2.2.1^x.2.2.2.2=m^n)
    (fun x=>x.2.2.2.2) (v,o1,m,1,n) ?_ ⟨hv.to,ho1,hn,by rw[fI];exact Nat.le_refl _,by rw[Nat.one_mul]⟩ ?_
  · simp(disch:=omega) only[go_sem,Nat.reduceBEq,reduceAdd]
  · rintro⟨va,vo,a,o,k⟩ h2 ⟨ha,ho,hk,hb,he⟩
    dsimp only at ha ho hk hb he ⊢
    by_cases hk0:k=0
    · repeat (first |(refine wo rfl (fun k hk=>?_);simp(disch:=omega) only[go_sem,Nat.reduceBEq,reduceAdd];apply hk;clear hk k) |refine wkt rfl ?_ |refine wk0 ?_ |refine rg rfl rfl (fun K hK=>?_) |((first |refine ae ?_ |refine ac ?_);simp(disch:=decide) only[qs,qb,if_true,if_false,reduceIte]) |refine ah rfl (fun K hK=>?_) |refine ct rfl ?_ |((try simp(disch:=omega) only[go_sem,Nat.reduceBEq,reduceAdd]);(first |apply hK |(clear hK;apply hK) |(clear hK;clear hK;apply hK));clear hK;(try clear K);(try dsimp only[ag,qs,qb])))
      refine ai ?_;simp(disch:=omega) only[go_sem,Nat.reduceBEq,reduceAdd]
      rw[hk0,Nat.pow_zero,Nat.mul_one] at he
      rwa[←he]
    · obtain⟨b1,b2,b3⟩:=JD hb hk0
      have hk2:k / 2≤2^20:=by omega
      have hlt:k / 2 < k:=by omega
      by_cases hm:k % 2=1
      · by_cases hk1:k=1
        · subst hk1
          repeat (first |(refine wo rfl (fun k hk=>?_);simp(disch:=omega) only[go_sem,Nat.reduceBEq,reduceAdd,vQ,hm];apply hk;clear hk k) |refine wkt rfl ?_ |refine wk0 ?_ |refine rg rfl rfl (fun K hK=>?_) |((first |refine ae ?_ |refine ac ?_);simp(disch:=decide) only[qs,qb,if_true,if_false,reduceIte]) |refine ah rfl (fun K hK=>?_) |refine ct rfl ?_ |((try simp(disch:=omega) only[go_sem,Nat.reduceBEq,reduceAdd]);(first |apply hK |(clear hK;apply hK) |(clear hK;clear hK;apply hK));clear hK;(try clear K);(try dsimp only[ag,qs,qb])))
          refine cN rfl rfl rfl rfl (by exact aI ho ha (by omega) (by omega)) ?_;rintro v3 h3 s3 q3
          repeat (first |(refine wo rfl (fun k hk=>?_);simp(disch:=omega) only[go_sem,Nat.reduceBEq,reduceAdd,vQ,BL];apply hk;clear hk k) |refine wkt rfl ?_ |refine wk0 ?_ |refine rg rfl rfl (fun K hK=>?_) |((first |refine ae ?_ |refine ac ?_);simp(disch:=decide) only[qs,qb,if_true,if_false,reduceIte]) |refine ah rfl (fun K hK=>?_) |refine ct rfl ?_ |((try simp(disch:=omega) only[go_sem,Nat.reduceBEq,reduceAdd]);(first |apply hK |(clear hK;apply hK) |(clear hK;clear hK;apply hK));clear hK;(try clear K);(try dsimp only[ag,qs,qb])))
          refine⟨(va,v3,a,o*a,0),?_,⟨ha.to,q3,by omega,?_,?_⟩,(show 0 < 1 by decide)⟩
          · simp(disch:=omega) only[go_sem,Nat.reduceBEq,reduceAdd]
            rfl
          · show bl (o*a)+bl a*0≤1+bl m*n
            rw[Nat.mul_zero]
            have:=aG o a
            omega
          · show o*a*a^0=m^n
            rw[Nat.pow_zero,Nat.mul_one];rw[Nat.pow_one] at he;exact he
        · have h1k:1 < k:=by omega
          repeat (first |(refine wo rfl (fun k hk=>?_);simp(disch:=omega) only[go_sem,Nat.reduceBEq,reduceAdd,vQ,hm];apply hk;clear hk k) |refine wkt rfl ?_ |refine wk0 ?_ |refine rg rfl rfl (fun K hK=>?_) |((first |refine ae ?_ |refine ac ?_);simp(disch:=decide) only[qs,qb,if_true,if_false,reduceIte]) |refine ah rfl (fun K hK=>?_) |refine ct rfl ?_ |((try simp(disch:=omega) only[go_sem,Nat.reduceBEq,reduceAdd]);(first |apply hK |(clear hK;apply hK) |(clear hK;clear hK;apply hK));clear hK;(try clear K);(try dsimp only[ag,qs,qb])))
          refine cN rfl rfl rfl rfl (by exact aI ho ha (by omega) (by omega)) ?_;rintro v3 h3 s3 q3
          repeat (first |(refine wo rfl (fun k hk=>?_);simp(disch:=omega) only[go_sem,Nat.reduceBEq,reduceAdd];apply hk;clear hk k) |refine wkt rfl ?_ |refine wk0 ?_ |refine rg rfl rfl (fun K hK=>?_) |((first |refine ae ?_ |refine ac ?_);simp(disch:=decide) only[qs,qb,if_true,if_false,reduceIte]) |refine ah rfl (fun K hK=>?_) |refine ct rfl ?_ |((try simp(disch:=omega) only[go_sem,Nat.reduceBEq,reduceAdd]);(first |apply hK |(clear hK;apply hK) |(clear hK;clear hK;apply hK));clear hK;(try clear K);(try dsimp only[ag,qs,qb])))
          refine cN rfl rfl rfl rfl (by exact aI (ha.to (h':=h3)) (ha.to (h':=h3)) (by omega) (by omega)) ?_;rintro v4 h4 s4 q4
          repeat (first |(refine wo rfl (fun k hk=>?_);simp(disch:=omega) only[go_sem,Nat.reduceBEq,reduceAdd,BL];apply hk;clear hk k) |refine wkt rfl ?_ |refine wk0 ?_ |refine rg rfl rfl (fun K hK=>?_) |((first |refine ae ?_ |refine ac ?_);simp(disch:=decide) only[qs,qb,if_true,if_false,reduceIte]) |refine ah rfl (fun K hK=>?_) |refine ct rfl ?_ |((try simp(disch:=omega) only[go_sem,Nat.reduceBEq,reduceAdd]);(first |apply hK |(clear hK;apply hK) |(clear hK;clear hK;apply hK));clear hK;(try clear K);(try dsimp only[ag,qs,qb])))
          refine⟨(v4,v3,a*a,o*a,k / 2),?_,⟨q4,q3.to,hk2,?_,npow_odd hm he⟩,hlt⟩
          · simp(disch:=omega) only[go_sem,Nat.reduceBEq,reduceAdd]
          · show bl (o*a)+bl (a*a)*(k / 2)≤1+bl m*n
            rw[hm,Nat.mul_one] at b2;omega
      · have hm:k % 2=0:=by omega
        have h1k:1 < k:=by omega
        repeat (first |(refine wo rfl (fun k hk=>?_);simp(disch:=omega) only[go_sem,Nat.reduceBEq,reduceAdd,vQ,hm];apply hk;clear hk k) |refine wkt rfl ?_ |refine wk0 ?_ |refine rg rfl rfl (fun K hK=>?_) |((first |refine ae ?_ |refine ac ?_);simp(disch:=decide) only[qs,qb,if_true,if_false,reduceIte]) |refine ah rfl (fun K hK=>?_) |refine ct rfl ?_ |((try simp(disch:=omega) only[go_sem,Nat.reduceBEq,reduceAdd]);(first |apply hK |(clear hK;apply hK) |(clear hK;clear hK;apply hK));clear hK;(try clear K);(try dsimp only[ag,qs,qb])))
        refine cN rfl rfl rfl rfl (by exact aI ha ha (by omega) (by omega)) ?_;rintro v4 h4 s4 q4
        repeat (first |(refine wo rfl (fun k hk=>?_);simp(disch:=omega) only[go_sem,Nat.reduceBEq,reduceAdd,BL];apply hk;clear hk k) |refine wkt rfl ?_ |refine wk0 ?_ |refine rg rfl rfl (fun K hK=>?_) |((first |refine ae ?_ |refine ac ?_);simp(disch:=decide) only[qs,qb,if_true,if_false,reduceIte]) |refine ah rfl (fun K hK=>?_) |refine ct rfl ?_ |((try simp(disch:=omega) only[go_sem,Nat.reduceBEq,reduceAdd]);(first |apply hK |(clear hK;apply hK) |(clear hK;clear hK;apply hK));clear hK;(try clear K);(try dsimp only[ag,qs,qb])))
        refine⟨(v4,vo,a*a,o,k / 2),?_,⟨q4,ho.to,hk2,b3,JE hm he⟩,hlt⟩
        simp(disch:=omega) only[go_sem,Nat.reduceBEq,reduceAdd]
end Go.Q
namespace Go.Q
theorem gO {a b:Rat} (n:Nat) (h0:0≤a) (h:a≤b):a^n≤b^n:=by
  induction n with
  |zero=>rw[Rat.pow_zero,Rat.pow_zero];exact Rat.le_refl
  | succ n ih=>
    rw[Rat.pow_succ,Rat.pow_succ]
    have h1:=mll h (Rat.pow_nonneg (n:=n) h0)
    have h2:=mlr ih (show 0≤b by grind)
    exact Rat.le_trans h1 h2
theorem uz (m n:Nat):bl (m^n)≤n*bl m+1:=by
  induction n with
  |zero=>rw[Nat.pow_zero,fI];omega
  | succ n ih=>
    rw[Nat.pow_succ]
    have:=aG (m^n) m
    have e:(n+1)*bl m=n*bl m+bl m:=Nat.succ_mul _ _
    omega
def irtTo (n a:Nat):Nat→Nat
  |0=>0
  |k+1=>if (k+1)^n≤a then k+1 else irtTo n a k
def irt (n a:Nat):Nat:=irtTo n a a
theorem irtTo_le (n a k:Nat) (hn:n≠0):irtTo n a k^n≤a:=by
  induction k with
  |zero=>show 0^n≤a;rw[Nat.zero_pow (Nat.pos_of_ne_zero hn)];exact Nat.zero_le _
  | succ k ih=>
    show(if _ then _ else _)^n≤a
    split
    · assumption
    · exact ih
theorem irtTo_lt (n a k:Nat) {j:Nat} (h:j^n≤a) (hj:j≤k):j≤irtTo n a k:=by
  induction k with
  |zero=>omega
  | succ k ih=>
    show j≤if _ then _ else _
    split
    · exact hj
    · rename_i h1
      have:j≠k+1:=fun e=>h1 (e▸h)
      exact ih (by omega)
theorem jS {n a:Nat} (hn:n≠0):irt n a^n≤a:=irtTo_le n a a hn
theorem jx {n a j:Nat} (hn:n≠0) (h:j^n≤a):j≤irt n a:=by
  refine irtTo_lt n a a h (Nat.le_trans ?_ h)
  cases j with
  |zero=>exact Nat.zero_le _
  |succ j=>exact Nat.le_self_pow hn _
theorem irt_eq {n a x:Nat} (hn:n≠0) (h1:x^n≤a) (h2:irt n a≤x):x=irt n a:=Nat.le_antisymm (jx hn h1) h2
theorem tz {n:Nat} (hn:n≠0):irt n 0=0:=by
  have:=jS (n:=n) (a:=0) hn
  have h1:irt n 0≤irt n 0^n:=Nat.le_self_pow hn _
  omega
theorem xZ {n a k:Nat} (hn:n≠0) (h:a < 2^(n*k)):irt n a < 2^k:=by
  refine Decidable.byContradiction fun c=>?_
  have h1:2^k≤irt n a:=by omega
  have h2:=Nat.pow_le_pow_left h1 n
  rw[←Nat.pow_mul,Nat.mul_comm k n] at h2
  have:=jS (n:=n) (a:=a) hn
  omega
theorem bern (r x m:Nat):(m+1)*(r*x^m)≤r^(m+1)+m*x^(m+1):=by
  induction m with
  |zero=>simp
  | succ m ih=>
    have h1:=Nat.mul_le_mul_right r ih
    have h2:2*(r*x)≤r*r+x*x:=by
      rcases Nat.le_total r x with h |h
      · obtain⟨d,rfl⟩:=Nat.exists_eq_add_of_le h
        have:0≤d*d:=Nat.zero_le _
        grind
      · obtain⟨d,rfl⟩:=Nat.exists_eq_add_of_le h
        have:0≤d*d:=Nat.zero_le _
        grind
    have h3:=Nat.mul_le_mul_left ((m+1)*x^m) h2
    have e1:r^(m+1+1)=r^(m+1)*r:=Nat.pow_succ ..
    have e2:x^(m+1)=x^m*x:=Nat.pow_succ ..
    have e3:x^(m+1+1)=x^m*x*x:=by rw[Nat.pow_succ,e2]
    rw[e1,e3,e2]
    rw[e2] at h1
    generalize x^m=y at*
    generalize r^(m+1)=z at*
    grind
def nwt (n a x:Nat):Nat:=((n - 1)*x+a / x^(n - 1)) / n
theorem FA {n a x:Nat} (hn:n≠0) (hx:0 < x):irt n a≤nwt n a x:=by
  have hr:=jS (n:=n) (a:=a) hn
  generalize irt n a=r at*
  obtain⟨m,rfl⟩:∃m,n=m+1:=⟨n - 1,by omega⟩
  unfold nwt
  rw[Nat.add_sub_cancel,Nat.le_div_iff_mul_le (by omega)]
  have hb:=bern r x m
  have hp:0 < x^m:=Nat.pow_pos hx
  by_cases hc:r*(m+1)≤m*x
  · exact Nat.le_trans hc (Nat.le_add_right _ _)
  · obtain⟨t,ht⟩:∃t,r*(m+1)=m*x+t:=⟨r*(m+1) - m*x,by omega⟩
    have h1:t≤a / x^m:=by
      rw[Nat.le_div_iff_mul_le hp]
      have e1:(m+1)*(r*x^m)=m*x*x^m+t*x^m:=by
        rw[←Nat.add_mul,←ht,←Nat.mul_assoc,Nat.mul_comm (m+1) r]
      have e2:m*x^(m+1)=m*x*x^m:=by rw[Nat.pow_succ,Nat.mul_comm (x^m) x,Nat.mul_assoc]
      omega
    omega
theorem Dy {n a x:Nat} (hn:n≠0) (hx:0 < x) (h:x≤nwt n a x):x^n≤a:=by
  obtain⟨m,rfl⟩:∃m,n=m+1:=⟨n - 1,by omega⟩
  unfold nwt at h
  rw[Nat.add_sub_cancel,Nat.le_div_iff_mul_le (by omega)] at h
  have hp:0 < x^m:=Nat.pow_pos hx
  have e1:x*(m+1)=m*x+x:=by rw[Nat.mul_add,Nat.mul_one,Nat.mul_comm]
  have h1:x≤a / x^m:=by omega
  rw[Nat.le_div_iff_mul_le hp] at h1
  rw[Nat.pow_succ,Nat.mul_comm]
  exact h1
theorem irt_pos {n a:Nat} (hn:n≠0) (ha:0 < a):0 < irt n a:=jx hn (by rw[Nat.one_pow];exact ha)
theorem HB {n a x:Nat} (hn:n≠0) (ha:0 < a) (hx:0 < x):0 < nwt n a x:=Nat.lt_of_lt_of_le (irt_pos hn ha) (FA hn hx)
end Go.Q
namespace Go.Q
open Go.Proofs
set_option maxRecDepth 100000
set_option maxHeartbeats 4000000
def rt0 (n a:Nat):Nat:=2^((bl a+n - 1) / n+1)
theorem DM {n a k:Nat} (hn:n≠0) (hk:(bl a+n - 1) / n≤k):irt n a≤2^k:=by
  have h1:bl a≤n*((bl a+n - 1) / n):=by
    have:=Nat.div_add_mod (bl a+n - 1) n
    have:=Nat.mod_lt (bl a+n - 1) (Nat.pos_of_ne_zero hn)
    omega
  have h2:a < 2^bl a:=bl_le.1 (Nat.le_refl _)
  have h3:(2:Nat)^bl a≤2^(n*k):=Nat.pow_le_pow_right (by decide) (Nat.le_trans h1 (Nat.mul_le_mul_left _ hk))
  exact Nat.le_of_lt (xZ hn (Nat.lt_of_lt_of_le h2 h3))
theorem cmp3_ge {m n:Nat}:0≤cmp3 m n↔n≤m:=by unfold cmp3;(repeat' split)<;>omega
theorem cmp3_eq0 {m n:Nat}:cmp3 m n=0↔m=n:=by unfold cmp3;(repeat' split)<;>omega
theorem vW {b n:Nat} (hn:2≤n) (hb:b≤2^20):(b+n - 1) / n≤2^20:=by
  rw[Nat.div_le_iff_le_mul_add_pred (by omega)]
  have:=Nat.mul_le_mul hn (Nat.le_refl (2^20))
  omega
theorem N32.len0 {h:PH} {a:Option Addr} {l c n:Nat} (r:N32 h (.slice a l c) n):l=0↔n=0:=by
  obtain⟨_,_,_,e,_,h2,_⟩:=r.out
  cases e
  have:=nP B32 (n:=n)
  rw[h2] at this
  exact this
@[go_sem] theorem wrap_div {x y:Nat} (h:x < 4611686018427387904):IntKind.i64.wrap ((x / y:Nat):Int)=((x / y:Nat):Int):=by
  have:=Nat.div_le_self x y
  generalize x / y=z at*
  exact wi64 (by omega) (by omega)
@[go_sem] theorem wrap_div1 {x y c:Nat} (h:x+c < 4611686018427387904):IntKind.i64.wrap ((x / y+c:Nat):Int)=((x / y+c:Nat):Int):=by
  have:=Nat.div_le_self x y
  generalize x / y=z at*
  exact wi64 (by omega) (by omega)
theorem gj {h0 h:PH} [Le h0 h] {v:Value} {a n:Nat} (hv:N32 h0 v a) (hn:2≤n) (hn8:n≤8) (ba:bl a≤2^20):Spec mach 187 #[v,.int .i64 n] h (fun v h'=>∃r,v=.tuple #[r,.bool (decide (irt n a^n=a))]∧N32 h' r (irt n a)) NP:=by
  obtain⟨va,vl,vc,rfl,hv⟩:=hv.sl
  have hv0:=hv.len0
  have hn0:n≠0:=by omega
  by_cases ha0:a=0
  · have hl:vl=0:=hv0.2 ha0
    subst ha0 hl
    refine Spec.enter (args:=[_,_]) (n:=59) Tryz.func187 rfl (by kernel_rfl) rfl (by simp) [.tmp 4,.tmp 5] rfl (fun C _=>?_)
    repeat (first |(refine wo rfl (fun k hk=>?_);simp(disch:=omega) only[go_sem,Nat.reduceBEq,reduceAdd];apply hk;clear hk k) |refine wkt rfl ?_ |refine wk0 ?_ |refine rg rfl rfl (fun K hK=>?_) |((first |refine ae ?_ |refine ac ?_);simp(disch:=decide) only[qs,qb,if_true,if_false,reduceIte]) |refine ah rfl (fun K hK=>?_) |refine ct rfl ?_ |((try simp(disch:=omega) only[go_sem,Nat.reduceBEq,reduceAdd]);(first |apply hK |(clear hK;apply hK) |(clear hK;clear hK;apply hK));clear hK;(try clear K);(try dsimp only[ag,qs,qb])))
    refine ai ?_;simp(disch:=omega) only[go_sem,Nat.reduceBEq,reduceAdd]
    rw[tz hn0,Nat.zero_pow (by omega)]
    exact⟨_,rfl,N32.zero _⟩
  · have hl:¬vl=0:=fun k=>ha0 (hv0.1 k)
    refine Spec.enter (args:=[_,_]) (n:=59) Tryz.func187 rfl (by kernel_rfl) rfl (by simp) [.tmp 4,.tmp 5] rfl (fun C _=>?_)
    repeat (first |(refine rg rfl rfl (fun K hK=>?_);(repeat (first |(refine wo rfl (fun k hk=>?_);simp(disch:=omega) only[go_sem,Nat.reduceBEq,reduceAdd];apply hk;clear hk k) |refine wkt rfl ?_));(try refine wk0 ?_);apply hK;clear hK K;(try dsimp only[ag,qs,qb])) |((first |refine ae ?_ |refine ac ?_);simp(disch:=decide) only[qs,qb,if_true,if_false,reduceIte]) |refine ah rfl (fun K hK=>?_) |refine ct rfl ?_ |((first |refine hK _ _ ?_ |(clear hK;refine hK _ _ ?_) |(clear hK;clear hK;refine hK _ _ ?_));clear hK;(try clear K)))
    have bx:∀x,x≤rt0 n a→bl x≤2^20+2:=fun x hx=>by
      have h1:=aR hx
      have h2:=bC ((bl a+n - 1) / n+1)
      have h3:=vW hn ba
      unfold rt0 at h1
      omega
    have hs:(bl a+n - 1) / n+1≤2^20+1:=by have:=vW hn ba;omega
    refine rg rfl rfl (fun K hK=>?_);(repeat (first |(refine wo rfl (fun k hk=>?_);simp(disch:=omega) only[go_sem,Nat.reduceBEq,reduceAdd];apply hk;clear hk k) |refine wkt rfl ?_));(try refine wk0 ?_)
    refine cN rfl rfl rfl rfl (by exact aw (n:=1) (by decide)) ?_;rintro o1 h1 _ q1;obtain⟨o1,o1_l,o1_c,rfl,q1⟩:=q1.sl;(repeat (first |(refine wo rfl (fun k hk=>?_);simp(disch:=omega) only[go_sem,Nat.reduceBEq,reduceAdd];apply hk;clear hk k) |refine wkt rfl ?_));(try refine wk0 ?_)
    refine cN rfl rfl rfl rfl (by exact mG hv) ?_;rintro o2 h2 s2 rfl;(repeat (first |(refine wo rfl (fun k hk=>?_);simp(disch:=omega) only[go_sem,Nat.reduceBEq,reduceAdd];apply hk;clear hk k) |refine wkt rfl ?_));(try refine wk0 ?_)
    refine cN rfl rfl rfl rfl (by exact aL (n:=(bl a+n - 1) / n+1) (q1.to (h':=h2)) (by rw[fI];omega)) ?_;rintro o3 h3 _ q3;obtain⟨o3,o3_l,o3_c,rfl,q3⟩:=q3.sl
    repeat (first |(refine wo rfl (fun k hk=>?_);simp(disch:=omega) only[go_sem,Nat.reduceBEq,reduceAdd];apply hk;clear hk k) |refine wkt rfl ?_ |refine wk0 ?_ |((first |refine rg rfl rfl (fun K hK=>?_));(repeat (first |(refine wo rfl (fun k hk=>?_);simp(disch:=omega) only[go_sem,Nat.reduceBEq,reduceAdd];apply hk;clear hk k) |refine wkt rfl ?_ |refine wk0 ?_));(first |apply hK |(clear hK;apply hK) |(clear hK;clear hK;apply hK));clear hK;(try clear K);(try dsimp only[ag,qs,qb])) |((first |refine ae ?_ |refine ac ?_);simp(disch:=decide) only[qs,qb,if_true,if_false,reduceIte]) |refine ah rfl (fun K hK=>?_) |refine ct rfl ?_ |((try simp(disch:=omega) only[go_sem,Nat.reduceBEq,reduceAdd]);(first |apply hK |(clear hK;apply hK) |(clear hK;clear hK;apply hK));clear hK;(try clear K);(try dsimp only[ag,qs,qb])))
    rw[Nat.one_mul] at q3
    refine cg (fun x:Value×Nat=>⟨[(0,.v (.slice va vl vc)),(1,.v (.int .i64 n)),(6,.v x.1)],[]⟩)
      (fun x h'=>Le h0 h'∧N32 h' x.1 x.2∧0 < x.2∧irt n a≤x.2∧x.2≤rt0 n a) (fun x=>x.2) (.slice o3 o3_l o3_c,rt0 n a) ?_ ⟨inferInstance,q3,Nat.pow_pos (by decide),DM hn0 (Nat.le_succ _),Nat.le_refl _⟩ ?_
    · simp(disch:=omega) only[go_sem,Nat.reduceBEq,reduceAdd]
    · rintro⟨xv,x⟩ h4 ⟨le4,hx,hx0,hxi,hxr⟩
      dsimp only at hx hx0 hxi hxr ⊢
      have bxx:=bx x hxr
      obtain⟨xa,xl,xc,rfl,hx⟩:=hx.sl
      have m1:bl x*(n - 1)≤(2^20+2)*8:=Nat.mul_le_mul bxx (by omega)
      have m2:bl x*n≤(2^20+2)*8:=Nat.mul_le_mul bxx hn8
      have p1:=uz x (n - 1)
      have p2:=uz x n
      rw[Nat.mul_comm] at p1 p2
      have hp:0 < x^(n - 1):=Nat.pow_pos hx0
      have hy1:=FA (n:=n) (a:=a) hn0 hx0
      have hy2:=Dy (n:=n) (a:=a) hn0 hx0
      have hy3:=HB (n:=n) (a:=a) hn0 (by omega) hx0
      have b3:=aR (Nat.div_le_self a (x^(n - 1)))
      have b4:=aG x (n - 1)
      have b5:bl (n - 1)≤8:=Nat.le_trans (aR (show n - 1≤8 by omega)) (by decide)
      have b6:=cY (x*(n - 1)) (a / x^(n - 1))
      repeat (first |(refine wo rfl (fun k hk=>?_);simp(disch:=omega) only[go_sem,Nat.reduceBEq,reduceAdd];apply hk;clear hk k) |refine wkt rfl ?_ |refine wk0 ?_ |refine rg rfl rfl (fun K hK=>?_) |((first |refine ae ?_ |refine ac ?_);simp(disch:=decide) only[qs,qb,if_true,if_false,reduceIte]) |refine ah rfl (fun K hK=>?_) |refine ct rfl ?_ |((try simp(disch:=omega) only[go_sem,Nat.reduceBEq,reduceAdd]);(first |apply hK |(clear hK;apply hK) |(clear hK;clear hK;apply hK));clear hK;(try clear K);(try dsimp only[ag,qs,qb])))
      refine cN rfl rfl rfl rfl (by exact jL (n:=n - 1) hx (by omega) (by omega)) ?_;rintro u1 g1 _ t1;obtain⟨u1,u1_l,u1_c,rfl,t1⟩:=t1.sl;(repeat (first |(refine wo rfl (fun k hk=>?_);simp(disch:=omega) only[go_sem,Nat.reduceBEq,reduceAdd];apply hk;clear hk k) |refine wkt rfl ?_));(try refine wk0 ?_)
      refine cN rfl rfl rfl rfl (by exact gU (hv.to (h':=g1)) t1 (by omega) (by omega) (by omega)) ?_;rintro w2 g2 s2 ⟨q,r,rfl,hq,hr⟩;(repeat (first |(refine wo rfl (fun k hk=>?_);simp(disch:=omega) only[go_sem,Nat.reduceBEq,reduceAdd];apply hk;clear hk k) |refine wkt rfl ?_));(try refine wk0 ?_)
      (repeat (first |(refine wo rfl (fun k hk=>?_);simp(disch:=omega) only[go_sem,Nat.reduceBEq,reduceAdd];apply hk;clear hk k) |refine wkt rfl ?_));(try refine wk0 ?_)
      repeat (first |(refine wo rfl (fun k hk=>?_);simp(disch:=omega) only[go_sem,Nat.reduceBEq,reduceAdd];apply hk;clear hk k) |refine wkt rfl ?_ |refine wk0 ?_ |((first |refine rg rfl rfl (fun K hK=>?_));(repeat (first |(refine wo rfl (fun k hk=>?_);simp(disch:=omega) only[go_sem,Nat.reduceBEq,reduceAdd];apply hk;clear hk k) |refine wkt rfl ?_ |refine wk0 ?_));(first |apply hK |(clear hK;apply hK) |(clear hK;clear hK;apply hK));clear hK;(try clear K);(try dsimp only[ag,qs,qb])) |((first |refine ae ?_ |refine ac ?_);simp(disch:=decide) only[qs,qb,if_true,if_false,reduceIte]) |refine ah rfl (fun K hK=>?_) |refine ct rfl ?_ |((try simp(disch:=omega) only[go_sem,Nat.reduceBEq,reduceAdd]);(first |apply hK |(clear hK;apply hK) |(clear hK;clear hK;apply hK));clear hK;(try clear K);(try dsimp only[ag,qs,qb])))
      have en:x*(n - 1)+a / x^(n - 1)=(n - 1)*x+a / x^(n - 1):=by rw[Nat.mul_comm]
      refine rg rfl rfl (fun K hK=>?_);(repeat (first |(refine wo rfl (fun k hk=>?_);simp(disch:=omega) only[go_sem,Nat.reduceBEq,reduceAdd];apply hk;clear hk k) |refine wkt rfl ?_));(try refine wk0 ?_)
      refine cN rfl rfl rfl rfl (by exact aw (n:=n - 1) (by omega)) ?_;rintro u3 g3 _ t3;obtain⟨u3,u3_l,u3_c,rfl,t3⟩:=t3.sl;(repeat (first |(refine wo rfl (fun k hk=>?_);simp(disch:=omega) only[go_sem,Nat.reduceBEq,reduceAdd];apply hk;clear hk k) |refine wkt rfl ?_));(try refine wk0 ?_)
      refine cN rfl rfl rfl rfl (by exact aI (hx.to (h':=g3)) t3 (by omega) (by omega)) ?_;rintro u4 g4 _ t4;obtain⟨u4,u4_l,u4_c,rfl,t4⟩:=t4.sl;(repeat (first |(refine wo rfl (fun k hk=>?_);simp(disch:=omega) only[go_sem,Nat.reduceBEq,reduceAdd];apply hk;clear hk k) |refine wkt rfl ?_));(try refine wk0 ?_)
      refine cN rfl rfl rfl rfl (by exact bR t4 (hq.to (h':=g4)) (by omega) (by omega)) ?_;rintro u5 g5 _ t5;obtain⟨u5,u5_l,u5_c,rfl,t5⟩:=t5.sl;(repeat (first |(refine wo rfl (fun k hk=>?_);simp(disch:=omega) only[go_sem,Nat.reduceBEq,reduceAdd];apply hk;clear hk k) |refine wkt rfl ?_));(try refine wk0 ?_)
      refine cN rfl rfl rfl rfl (by exact nN (d:=n) t5 (by omega) (by omega) (by omega)) ?_;rintro w6 g6 s6 ⟨y,rfl,hy⟩;(repeat (first |(refine wo rfl (fun k hk=>?_);simp(disch:=omega) only[go_sem,Nat.reduceBEq,reduceAdd];apply hk;clear hk k) |refine wkt rfl ?_));(try refine wk0 ?_)
      (repeat (first |(refine wo rfl (fun k hk=>?_);simp(disch:=omega) only[go_sem,Nat.reduceBEq,reduceAdd];apply hk;clear hk k) |refine wkt rfl ?_));(try refine wk0 ?_)
      (try (simp(disch:=omega) only[go_sem,Nat.reduceBEq,reduceAdd]));apply hK;clear hK;(try clear K);(try dsimp only[ag,qs])
      rw[en] at hy
      have hy:N32 g6 y (nwt n a x):=hy
      clear en
      generalize nwt n a x=z at*
      obtain⟨ya,yl,yc,rfl,hy⟩:=hy.sl
      repeat (first |(refine rg rfl rfl (fun K hK=>?_);(repeat (first |(refine wo rfl (fun k hk=>?_);simp(disch:=omega) only[go_sem,Nat.reduceBEq,reduceAdd];apply hk;clear hk k) |refine wkt rfl ?_));(try refine wk0 ?_);apply hK;clear hK K;(try dsimp only[ag,qs,qb])) |((first |refine ae ?_ |refine ac ?_);simp(disch:=decide) only[qs,qb,if_true,if_false,reduceIte]) |refine ah rfl (fun K hK=>?_) |refine ct rfl ?_ |((first |refine hK _ _ ?_ |(clear hK;refine hK _ _ ?_) |(clear hK;clear hK;refine hK _ _ ?_));clear hK;(try clear K)))
      by_cases hc:x≤z
      · have e1:0≤cmp3 z x:=cmp3_ge.2 hc
        have exi:x=irt n a:=irt_eq hn0 (hy2 hc) hxi
        refine rg rfl rfl (fun K hK=>?_);(repeat (first |(refine wo rfl (fun k hk=>?_);simp(disch:=omega) only[go_sem,Nat.reduceBEq,reduceAdd];apply hk;clear hk k) |refine wkt rfl ?_));(try refine wk0 ?_)
        refine cN rfl rfl rfl rfl (by exact fO hy (hx.to (h':=g6))) ?_;rintro w7 g7 s7 rfl
        repeat (first |(refine wo rfl (fun k hk=>?_);simp(disch:=omega) only[go_sem,Nat.reduceBEq,reduceAdd];apply hk;clear hk k) |refine wkt rfl ?_ |refine wk0 ?_ |((first |refine rg rfl rfl (fun K hK=>?_));(repeat (first |(refine wo rfl (fun k hk=>?_);simp(disch:=omega) only[go_sem,Nat.reduceBEq,reduceAdd];apply hk;clear hk k) |refine wkt rfl ?_ |refine wk0 ?_));(first |apply hK |(clear hK;apply hK) |(clear hK;clear hK;apply hK));clear hK;(try clear K);(try dsimp only[ag,qs,qb])) |((first |refine ae ?_ |refine ac ?_);simp(disch:=decide) only[qs,qb,if_true,if_false,reduceIte]) |refine ah rfl (fun K hK=>?_) |refine ct rfl ?_ |((try simp(disch:=omega) only[go_sem,Nat.reduceBEq,reduceAdd]);(first |apply hK |(clear hK;apply hK) |(clear hK;clear hK;apply hK));clear hK;(try clear K);(try dsimp only[ag,qs,qb])))
        by_cases hq0:x^n=a
        · have e2:cmp3 (x^n) a=0:=cmp3_eq0.2 hq0
          refine rg rfl rfl (fun K hK=>?_);(repeat (first |(refine wo rfl (fun k hk=>?_);simp(disch:=omega) only[go_sem,Nat.reduceBEq,reduceAdd];apply hk;clear hk k) |refine wkt rfl ?_));(try refine wk0 ?_)
          refine cN rfl rfl rfl rfl (by exact jL (n:=n) (hx.to (h':=g7)) (by omega) (by omega)) ?_;rintro u8 g8 _ t8;obtain⟨u8,u8_l,u8_c,rfl,t8⟩:=t8.sl;(repeat (first |(refine wo rfl (fun k hk=>?_);simp(disch:=omega) only[go_sem,Nat.reduceBEq,reduceAdd];apply hk;clear hk k) |refine wkt rfl ?_));(try refine wk0 ?_)
          refine cN rfl rfl rfl rfl (by exact fO t8 (hv.to (h':=g8))) ?_;rintro w9 g9 s9 rfl
          repeat (first |(refine wo rfl (fun k hk=>?_);simp(disch:=omega) only[go_sem,Nat.reduceBEq,reduceAdd];apply hk;clear hk k) |refine wkt rfl ?_ |refine wk0 ?_ |refine rg rfl rfl (fun K hK=>?_) |((first |refine ae ?_ |refine ac ?_);simp(disch:=decide) only[qs,qb,if_true,if_false,reduceIte]) |refine ah rfl (fun K hK=>?_) |refine ct rfl ?_ |((try simp(disch:=omega) only[go_sem,Nat.reduceBEq,reduceAdd]);(first |apply hK |(clear hK;apply hK) |(clear hK;clear hK;apply hK));clear hK;(try clear K);(try dsimp only[ag,qs,qb])))
          refine ai ?_;simp(disch:=omega) only[go_sem,Nat.reduceBEq,reduceAdd]
          rw[←exi,decide_eq_true hq0]
          exact⟨_,rfl,hx.to⟩
        · have e2:¬cmp3 (x^n) a=0:=fun k=>hq0 (cmp3_eq0.1 k)
          refine rg rfl rfl (fun K hK=>?_);(repeat (first |(refine wo rfl (fun k hk=>?_);simp(disch:=omega) only[go_sem,Nat.reduceBEq,reduceAdd];apply hk;clear hk k) |refine wkt rfl ?_));(try refine wk0 ?_)
          refine cN rfl rfl rfl rfl (by exact jL (n:=n) (hx.to (h':=g7)) (by omega) (by omega)) ?_;rintro u8 g8 _ t8;obtain⟨u8,u8_l,u8_c,rfl,t8⟩:=t8.sl;(repeat (first |(refine wo rfl (fun k hk=>?_);simp(disch:=omega) only[go_sem,Nat.reduceBEq,reduceAdd];apply hk;clear hk k) |refine wkt rfl ?_));(try refine wk0 ?_)
          refine cN rfl rfl rfl rfl (by exact fO t8 (hv.to (h':=g8))) ?_;rintro w9 g9 s9 rfl
          repeat (first |(refine wo rfl (fun k hk=>?_);simp(disch:=omega) only[go_sem,Nat.reduceBEq,reduceAdd];apply hk;clear hk k) |refine wkt rfl ?_ |refine wk0 ?_ |refine rg rfl rfl (fun K hK=>?_) |((first |refine ae ?_ |refine ac ?_);simp(disch:=decide) only[qs,qb,if_true,if_false,reduceIte]) |refine ah rfl (fun K hK=>?_) |refine ct rfl ?_ |((try simp(disch:=omega) only[go_sem,Nat.reduceBEq,reduceAdd]);(first |apply hK |(clear hK;apply hK) |(clear hK;clear hK;apply hK));clear hK;(try clear K);(try dsimp only[ag,qs,qb])))
          refine ai ?_;simp(disch:=omega) only[go_sem,Nat.reduceBEq,reduceAdd]
          rw[←exi,decide_eq_false hq0]
          exact⟨_,rfl,hx.to⟩
      · have e1:¬0≤cmp3 z x:=fun k=>hc (cmp3_ge.1 k)
        refine rg rfl rfl (fun K hK=>?_);(repeat (first |(refine wo rfl (fun k hk=>?_);simp(disch:=omega) only[go_sem,Nat.reduceBEq,reduceAdd];apply hk;clear hk k) |refine wkt rfl ?_));(try refine wk0 ?_)
        refine cN rfl rfl rfl rfl (by exact fO hy (hx.to (h':=g6))) ?_;rintro w7 g7 s7 rfl
        repeat (first |(refine wo rfl (fun k hk=>?_);simp(disch:=omega) only[go_sem,Nat.reduceBEq,reduceAdd];apply hk;clear hk k) |refine wkt rfl ?_ |refine wk0 ?_ |refine rg rfl rfl (fun K hK=>?_) |((first |refine ae ?_ |refine ac ?_);simp(disch:=decide) only[qs,qb,if_true,if_false,reduceIte]) |refine ah rfl (fun K hK=>?_) |refine ct rfl ?_ |((try simp(disch:=omega) only[go_sem,Nat.reduceBEq,reduceAdd]);(first |apply hK |(clear hK;apply hK) |(clear hK;clear hK;apply hK));clear hK;(try clear K);(try dsimp only[ag,qs,qb])))
        refine⟨(_,z),?_,⟨inferInstance,hy.to,hy3,hy1,by omega⟩,by omega⟩
        simp(disch:=omega) only[go_sem,Nat.reduceBEq,reduceAdd]
end Go.Q
namespace Go.Q
open Go.Proofs
set_option maxRecDepth 100000
end Go.Q
namespace Go.Q
open Go.Proofs
set_option maxRecDepth 100000
set_option maxHeartbeats 4000000
end Go.Q
namespace Go.Q
open Go.Proofs Go.Proofs.YtebhjmnnjoijcaaGreatDoor
set_option maxRecDepth 100000
open Go.ChangeShapes Go.WideShapes Go.ChangeAt Go.RowKit
def pub (W:World):PH:=fun b=>match W.heap[b]? with
  |some (.cells cs _ _)=>some cs
  |_=>none
theorem pub_has (W:World):Has W (pub W):=fun b cs hb=>by
  unfold pub at hb
  split at hb
  · rename_i hx;cases hb;exact⟨_,_,hx⟩
  · cases hb
theorem pub_at (W:World) (a:Addr):(pub W).at a=W.cell? a:=by
  unfold PH.at pub World.cell?
  cases hx:W.heap[a.block]? with
  |none=>simp
  |some o=>cases o<;>simp
def flds (P:Program) (t:TypeId):Option (List (Nat×Nat)):=match P.underlying t with
  |some (.struct fs)=>some (fs.toList.map fun f=>(f.type,f.offset))
  |_=>none
theorem flds_some {P:Program} {t:TypeId} {l:List (Nat×Nat)} (h:flds P t=some l):∃fs,P.underlying t=some (.struct fs)∧fs.toList.map (fun f=>(f.type,f.offset))=l:=by
  unfold flds at h
  split at h
  · rename_i fs hx;cases h;exact⟨fs,hx,rfl⟩
  · cases h
theorem fl24:flds Tryz.prog 24=some [(4,0),(22,1),(22,2)]:=by kernel_rfl
theorem un22:Tryz.prog.underlying 22=some (.slice 54):=by kernel_rfl
theorem un76:Tryz.prog.underlying 54=some (.int .u32):=by kernel_rfl
theorem un4:Tryz.prog.underlying 4=some .bool:=by kernel_rfl
theorem un3:Tryz.prog.underlying 3=some (.int .i64):=by kernel_rfl
theorem ce4:Tryz.prog.cellsOf 4=1:=by kernel_rfl
theorem ce22:Tryz.prog.cellsOf 22=1:=by kernel_rfl
theorem ce76:Tryz.prog.cellsOf 54=1:=by kernel_rfl
theorem ce24:Tryz.prog.cellsOf 24=3:=by kernel_rfl
section
variable {H:Type} {enc:TypeId×Value→H} {W:World} {sp:Nat→Bool} {held:Bool}
theorem bulk_len (l:List (DataW H)):l.length≤Rows.uptoBulkAll l:=by
  induction l with
  |nil=>simp[Rows.uptoBulkAll]
  | cons x r ih=>
    have:1≤Rows.uptoBulk x:=by
      cases x with
      |lit l=>cases l<;>simp[Rows.uptoBulk]
      |_=>simp[Rows.uptoBulk]
    simp only[Rows.uptoBulkAll,List.length_cons]
    omega
theorem open_words {fuel:Nat} {cs:List Value} {x:DataW H×List MemPlace} (h:DataW.trod enc Tryz.prog W 0 sp held fuel 22 cs=some x) {B:Nat} (hB:B≤1048576) (hk:Rows.uptoBulk x.1≤B):
    ∃a xs c,cs=[.slice a xs.length c]∧Arr (pub W) a c xs∧xs.length≤2^30:=by
  rcases open_ints un22 un76 ce76 h with⟨rfl,rfl⟩ |⟨a,len,cap,zs,rfl,_,hl,hm,hz,rfl,hcell,hwf⟩
  · exact⟨none,[],0,rfl,Arr.nil _,by simp⟩
  · have hzl:len≤zs.length:=by rw[hz];split<;>omega
    have hb:len≤1048576:=by
      simp only[Rows.uptoBulk] at hk
      have e:(lits (H:=H) .u32 (zs.take len)).length=len:=by simp[lits];omega
      have:=bulk_len (H:=H) (lits .u32 (zs.take len))
      rw[e] at this
      omega
    refine⟨some a,(zs.take len).map Int.toNat,cap,?_,⟨?_,?_,?_,?_⟩,?_⟩
    · simp;omega
    · simp;omega
    · simp;omega
    · intro y hy
      obtain⟨z,hz,rfl⟩:=List.mem_map.1 hy
      have:=bounds_u32 (hwf z (List.mem_of_mem_take hz))
      omega
    · intro i y hy
      rw[List.getElem?_map,Option.map_eq_some_iff] at hy
      obtain⟨z,hz',rfl⟩:=hy
      rw[List.getElem?_take] at hz'
      split at hz'
      · refine⟨a,rfl,?_⟩
        have hi:i < zs.length:=(List.getElem?_eq_some_iff.1 hz').1
        rw[pub_at,hcell i hi]
        have e:zs.getD i 0=z:=by simp[hz']
        have:=bounds_u32 (hwf z (List.mem_of_getElem? hz'))
        rw[e]
        congr 2
        omega
      · cases hz'
    · simp;omega
theorem open_rat {fuel:Nat} {cs:List Value} {x:DataW H×List MemPlace} (h:DataW.trod enc Tryz.prog W 0 sp held fuel 24 cs=some x) {B:Nat} (hB:B≤1048576) (hk:Rows.uptoBulk x.1≤B):
    ∃neg n d,Rw (pub W) (.agg cs.toArray) neg n d∧cs.length=3:=by
  obtain⟨fs,hu,hf⟩:=flds_some fl24
  obtain⟨xs,n,rfl,rfl,hl,hsz,hg⟩:=DataW.trod_struct hu h
  rw[ce24] at hl
  have hfs:fs.size=3:=by
    have:=congrArg List.length hf
    simpa using this
  match cs,hl with
  |[c0,c1,c2],_=>
  have get:∀(i t o:Nat),(fs.toList.map fun f=>(f.type,f.offset))[i]?=some (t,o)→∃f:Field,fs[i]?=some f∧f.type=t∧f.offset=o:=by
    intro i t o hi
    rw[List.getElem?_map,Option.map_eq_some_iff] at hi
    obtain⟨f,h1,h2⟩:=hi
    cases h2
    exact⟨f,by simpa using h1,rfl,rfl⟩
  obtain⟨f0,k0,e0,o0⟩:=get 0 4 0 (by rw[hf];rfl)
  obtain⟨f1,k1,e1,o1⟩:=get 1 22 1 (by rw[hf];rfl)
  obtain⟨f2,k2,e2,o2⟩:=get 2 22 2 (by rw[hf];rfl)
  have g0:=hg 0 f0 k0
  have g1:=hg 1 f1 k1
  have g2:=hg 2 f2 k2
  rw[e0,o0,ce4] at g0
  rw[e1,o1,ce22] at g1
  rw[e2,o2,ce22] at g2
  rw[hfs] at hsz
  match xs,hsz with
  |[y0,y1,y2],_=>
  simp only[List.drop_zero,List.take_succ_cons,List.take_zero,List.drop_succ_cons,List.getElem?_cons_zero,List.getElem?_cons_succ] at g0 g1 g2
  simp only[Rows.uptoBulk,List.map_cons,List.map_nil,Rows.uptoBulkAll] at hk
  obtain⟨b,e,_⟩:=DataW.trod_bool un4 g0
  obtain⟨a1,xs1,c1',e1,A1,l1⟩:=open_words g1 hB (by omega)
  obtain⟨a2,xs2,c2',e2,A2,l2⟩:=open_words g2 hB (by omega)
  cases e
  cases e1
  cases e2
  exact⟨b,_,_,⟨a1,c1',xs1,a2,c2',xs2,rfl,A1,A2,rfl,rfl,l1,l2⟩,rfl⟩
theorem stays {P:Program} {W':World} {sp:Nat→Bool} (hl:laidOutB P=true) (hb:Below W.heap.size W W') (ts:List TypeId):∀(vs:List Value) (ds:List (DataW H)) (p:List MemPlace),(∀t∈ts,P.readableRec t=true∧t < P.types.size)→(∀x∈p,x.block < W.heap.size)→(∀x∈p,sp x.block=true)→
    DataW.TrodAll enc P W 0 (fun _=>true) true ts vs ds p→DataW.TrodAll enc P W' 0 sp true ts vs ds p:=by
  induction ts with
  | nil=>
    intro vs ds p _ _ _ h
    cases vs with
    | nil=>cases ds with
      |nil=>exact h
      |cons d ds=>exact h.elim
    |cons v vs=>exact h.elim
  | cons t ts ih=>
    intro vs ds p hr hlt hsp h
    cases vs with
    |nil=>exact h.elim
    | cons v vs=>
      cases ds with
      |nil=>exact h.elim
      | cons d ds=>
        obtain⟨p,q,h1,h2,rfl⟩:=h
        have ht:=hr t (by simp)
        exact⟨p,q,WideElems.Trod_stays hl ht.1 ht.2 h1 (fun x hx=>hb.same (hlt x (by simp[hx]))) (fun x hx=>hsp x (by simp[hx])),ih vs ds q (fun u hu=>hr u (by simp[hu])) (fun x hx=>hlt x (by simp[hx])) (fun x hx=>hsp x (by simp[hx])) h2,rfl⟩
theorem post_true {f:Func} {s:ChangeSpec} {W':World} {args:Array Value} {ds:List (DataW H)} {before:List MemPlace} (hl:laidOutB Tryz.prog=true) (hv:s.vars=[]) (hr:f.resultTypes=#[4]) (hs:s.fn H ds={results:=[.lit (.bool true)],args:=ds})
    (hrd:∀t∈f.params.toList,Tryz.prog.readableRec t=true∧t < Tryz.prog.types.size)
    (hW:DataW.Whole enc Tryz.prog f.params.toList s.vars false W args.toList ds [] before) (hb:Below W.heap.size W W'):s.post enc Tryz.prog f false true false false W args (.bool true) W':=by
  have hlt:∀p∈before,p.block < W.heap.size:=hW.lt
  have hW0:=hW
  rw[hv] at hW0
  obtain⟨p,q,hA,hV,rfl,hz,hn⟩:=hW0
  obtain rfl:q=[]:=hV
  rw[List.append_nil] at hlt hz
  have hold:∀x∈p,(fun b=>decide (b < W.heap.size)) x.block=true:=fun x hx=>by simpa using hlt x hx
  have hres:∀(b:Nat) (sp:Nat→Bool) (hd:Bool),DataW.TrodAll enc Tryz.prog W' b sp hd f.resultTypes.toList ((Value.bool true).resultList f.resultTypes.size) (s.fn H (ds ++[])).results []:=by
    intro b sp hd
    rw[List.append_nil,hs,hr]
    exact trodAll_cons_mk (shut_bool un4 _) trodAll_mk0
  have hargs:∀sp:Nat→Bool,(∀x∈p,sp x.block=true)→DataW.TrodAll enc Tryz.prog W' 0 sp true f.params.toList args.toList (s.fn H (ds ++[])).args p:=by
    intro sp hsp
    rw[List.append_nil,hs]
    exact stays hl hb _ _ _ _ hrd hlt hsp hA
  have hvars:∀sp:Nat→Bool,DataW.TrodVars enc Tryz.prog W' sp s.vars (s.fn H (ds ++[])).vars []:=by
    intro sp
    rw[List.append_nil,hs,hv]
    rfl
  refine⟨ds,[],p ++[],[],p,[],hW,hres _ _ _,hargs _ hold,hvars _,World.keptBut_mono (fun x hx=>⟨hx,?_⟩) (hb.frame (· ∈p ++[])),fun h=>by cases h⟩
  simpa using hx
theorem laid_gl {W:World} (h:laidMetH Tryz.prog [("math/bits.deBruijn32tab",Rows.laid_math_bits_deBruijn32tab)] W):Sub mach.gl (pub W):=by
  have ht:Lib.TabIs Tryz.prog W "math/bits.deBruijn32tab" .u8 debruijn:=
    Lib.tabIs_of_head (rest:=[]) (g:=0) (t:=180) (e:=5) (n:=32) (by kernel_rfl) (by kernel_rfl) (by kernel_rfl) (by kernel_rfl) (by kernel_rfl) (by kernel_rfl) h
  have hg:Tryz.prog.globalNamed "math/bits.deBruijn32tab"=some 0:=by kernel_rfl
  unfold Lib.TabIs World.var? at ht
  rw[hg] at ht
  intro b cs hb
  have hb':(if b=0 then some tabCells else none)=some cs:=hb
  split at hb'
  · rename_i e
    subst e
    cases hb'
    unfold pub
    simp only[Option.bind_some] at ht
    split at ht
    · rename_i hx
      rw[hx]
      simpa[tabCells] using ht
    · cases ht
  · cases hb'
end
end Go.Q
namespace Go.Q
open Go.Proofs
set_option maxRecDepth 100000
set_option maxHeartbeats 8000000
def Rv (h:PH) (v:Value) (q:Rat):Prop:=∃neg n d,Rw h v neg n d∧¬lg neg n d∧qof neg n d=q
theorem Rv.to {h h':PH} {v:Value} {q:Rat} (r:Rv h v q) [Le h h']:Rv h' v q:=let ⟨a,b,c,h1,h2⟩:=r;⟨a,b,c,h1.to,h2⟩
theorem Rv.of {h:PH} {v:Value} {q:Rat} (c:Cn h v q) (hs:sz q≤2048):Rv h v q:=⟨_,_,_,c.rw (Nat.le_trans hs (by decide)),by rw[lg_cn];omega,jA q⟩
theorem Rv.sz {h:PH} {v:Value} {q:Rat} (r:Rv h v q):sz q≤2048:=by
  obtain⟨_,_,_,_,h2,rfl⟩:=r
  unfold lg at h2
  omega
theorem Rv.up {h:PH} {v:Value} {q:Rat} (r:Rv h v q):Go.Q.sz q≤2^36:=Nat.le_trans r.sz (by decide)
theorem Rv.sa {h:PH} {v:Value} {q:Rat} (r:Rv h v q):∃b na nl nc da dl dc,v=.agg #[.bool b,.slice na nl nc,.slice da dl dc]∧Rv h (.agg #[.bool b,.slice na nl nc,.slice da dl dc]) q:=by
  have r0:=r
  obtain⟨_,_,_,h1,_,_⟩:=r
  obtain⟨_,_,_,_,_,_,_,rfl,_⟩:=h1.sa
  exact⟨_,_,_,_,_,_,_,rfl,r0⟩
theorem kg {h0 h:PH} [Le h0 h] {v:Value} {q:Rat} (hv:Rv h0 v q):Spec mach 123 #[v] h (fun r h'=>∃f,r=.tuple #[f,.bool true]∧Fr h' f q) NP:=by
  obtain⟨_,_,_,h1,h2,rfl⟩:=hv
  exact sN h1 h2
def Nc (h:PH) (r:Value) (q:Rat):Prop:=∃b na nl nc da dl dc e,r=.tuple #[.agg #[.bool b,.slice na nl nc,.slice da dl dc],.int .i64 e]∧(e=1∧2048 < sz q∨e=0∧sz q≤2048∧Cn h (.agg #[.bool b,.slice na nl nc,.slice da dl dc]) q)
theorem Nc.mk {h:PH} {b:Bool} {na da:Option Addr} {nl nc dl dc:Nat} {e:Int} {q:Rat} (k:e=1∧2048 < sz q∨e=0∧sz q≤2048∧Cn h (.agg #[.bool b,.slice na nl nc,.slice da dl dc]) q):Nc h (.tuple #[.agg #[.bool b,.slice na nl nc,.slice da dl dc],.int .i64 e]) q:=⟨_,_,_,_,_,_,_,_,rfl,k⟩
theorem Nc.ok {h:PH} {r:Value} {q:Rat} (k:Nc h r q) (hs:sz q≤2048):∃b na nl nc da dl dc,r=.tuple #[.agg #[.bool b,.slice na nl nc,.slice da dl dc],.int .i64 0]∧Cn h (.agg #[.bool b,.slice na nl nc,.slice da dl dc]) q:=by
  obtain⟨_,_,_,_,_,_,_,_,rfl,⟨_,k⟩ |⟨rfl,_,k⟩⟩:=k
  · omega
  · exact⟨_,_,_,_,_,_,_,rfl,k⟩
theorem qy {h0 h:PH} [Le h0 h] {v:Value} {x:Rat} (hx:Fr h0 v x):Spec mach 126 #[v] h (fun r h'=>Nc h' r x) NP:=by
  by_cases hs:sz x≤2048
  · refine(cO hx hs).mono (fun r h' _ k=>?_) (fun _ _ _ k=>k)
    obtain⟨u,rfl,c⟩:=k
    obtain⟨_,_,_,_,_,_,_,rfl,c⟩:=c.sa
    exact Nc.mk (.inr ⟨rfl,hs,c⟩)
  · exact(ms hx hs).mono (fun r h' _ k=>by subst k;exact Nc.mk (.inl ⟨rfl,by omega⟩)) (fun _ _ _ k=>k)
end Go.Q
namespace Go.Q
open Go.Proofs
set_option maxRecDepth 100000
set_option maxHeartbeats 8000000
theorem Cn.nul (h:PH):Cn h (.agg #[.bool false,.slice none 0 0,.slice none 0 0]) 0:=⟨.slice none 0 0,.slice none 0 0,by simp,by simpa using N32.zero h,by simpa using N32.zero h⟩
theorem pL {h0 h:PH} [Le h0 h] {v:Value} {x z:Rat} {g:FuncId} (hx:Rv h0 v x) (hg:∀{h0 h:PH} {a:Value} [Le h0 h],Fr h0 a x→Spec mach g #[a] h (fun v h'=>Fr h' v z) NP):Spec mach 137 #[v,.func (.func g) #[] #[]] h (fun r h'=>Nc h' r z) NP:=by
  have kX:=fun {h} [Le h0 h]=>kg (h:=h) hx
  obtain⟨_,_,_,_,_,_,_,rfl,_⟩:=hx.sa
  refine Spec.go [] Tryz.func137 rfl rfl (by kernel_rfl) fun C _=>?_
  simp(disch:=omega) only[go_sem,Nat.reduceBEq,reduceAdd]
  refine caN (by exact kX) ?_;rintro v1 h1 s1 ⟨f,rfl,hf⟩;obtain⟨_,_,_,_,_,_,_,rfl,hf⟩:=hf.sa
  simp(disch:=omega) only[go_sem,Nat.reduceBEq,reduceAdd]
  refine caN (by exact hg hf) ?_;rintro v3 h3 s3 hz;obtain⟨_,_,_,_,_,_,_,rfl,hz⟩:=hz.sa
  simp(disch:=omega) only[go_sem,Nat.reduceBEq,reduceAdd]
  refine caN (by exact qy hz) ?_;rintro v4 h4 s4 q4;obtain⟨_,_,_,_,_,_,_,_,rfl,w4⟩:=q4
  simp(disch:=omega) only[go_sem,Nat.reduceBEq,reduceAdd]
  exact Nc.mk w4
theorem IG {h0 h:PH} [Le h0 h] {v:Value} {neg:Bool} {n d:Nat} {g:FuncId} (hv:Rw h0 v neg n d) (hl:lg neg n d):Spec mach 137 #[v,.func (.func g) #[] #[]] h (fun r _=>r=.tuple #[.agg #[.bool false,.slice none 0 0,.slice none 0 0],.int .i64 1]) NP:=by
  have kX:=fun {h} [Le h0 h]=>Gm (h:=h) hv hl
  obtain⟨_,_,_,_,_,_,_,rfl,_⟩:=hv.sa
  refine Spec.go [] Tryz.func137 rfl rfl (by kernel_rfl) fun C _=>?_
  simp(disch:=omega) only[go_sem,Nat.reduceBEq,reduceAdd]
  refine caN (by exact kX) ?_;rintro v1 h1 s1 ⟨_,_,_,_,_,_,_,rfl⟩
  simp(disch:=omega) only[go_sem,Nat.reduceBEq,reduceAdd]
  all_goals omega
theorem Cd {h0 h:PH} [Le h0 h] {v:Value} {x:Rat} (hx:Fr h0 v x):Spec mach 138 #[v] h (fun v h'=>Fr h' v x) NP:=by
  have hx0:=hx
  obtain⟨_,_,_,_,_,_,_,rfl,hx1⟩:=hx.sa
  refine Spec.go [] Tryz.func138 rfl rfl (by kernel_rfl) fun C _=>?_
  simp(disch:=omega) only[go_sem,Nat.reduceBEq,reduceAdd]
  exact hx1.to
theorem iW {h0 h:PH} [Le h0 h] {v:Value} {q:Rat} (hx:Rv h0 v q):Spec mach 89 #[v] h (fun r h'=>∃b na nl nc da dl dc,r=.tuple #[.agg #[.bool b,.slice na nl nc,.slice da dl dc],.int .i64 0]∧Cn h' (.agg #[.bool b,.slice na nl nc,.slice da dl dc]) q) NP:=by
  have kX:=fun {h} [Le h0 h]=>kg (h:=h) hx
  have hs:=hx.sz
  have kO:∀{h:PH} [Le h0 h],Spec mach 137 #[v,.func (.func 138) #[] #[]] h (fun r h'=>∃b na nl nc da dl dc,r=.tuple #[.agg #[.bool b,.slice na nl nc,.slice da dl dc],.int .i64 0]∧Cn h' (.agg #[.bool b,.slice na nl nc,.slice da dl dc]) q) NP:=by
    intro h _
    obtain⟨_,_,_,_,_,_,_,rfl,_⟩:=hx.sa
    refine Spec.go [] Tryz.func137 rfl rfl (by kernel_rfl) fun C _=>?_
    simp(disch:=omega) only[go_sem,Nat.reduceBEq,reduceAdd]
    refine caN (by exact kX) ?_;rintro v1 h1 s1 ⟨f,rfl,hf⟩;obtain⟨_,_,_,_,_,_,_,rfl,hf⟩:=hf.sa
    simp(disch:=omega) only[go_sem,Nat.reduceBEq,reduceAdd]
    refine caN (by exact Cd hf) ?_;rintro v3 h3 s3 hz;obtain⟨_,_,_,_,_,_,_,rfl,hz⟩:=hz.sa
    simp(disch:=omega) only[go_sem,Nat.reduceBEq,reduceAdd]
    refine caN (by exact cO hz hs) ?_;rintro v4 h4 s4 ⟨u,rfl,c⟩;obtain⟨_,_,_,_,_,_,_,rfl,c⟩:=c.sa
    simp(disch:=omega) only[go_sem,Nat.reduceBEq,reduceAdd]
    exact⟨_,_,_,_,_,_,_,rfl,c⟩
  obtain⟨_,_,_,_,_,_,_,rfl,_⟩:=hx.sa
  refine Spec.go [] Tryz.func89 rfl rfl (by kernel_rfl) fun C _=>?_
  simp(disch:=omega) only[go_sem,Nat.reduceBEq,reduceAdd]
  refine caN (by exact kO) ?_;rintro v1 h1 s1 ⟨_,_,_,_,_,_,_,rfl,c⟩
  simp(disch:=omega) only[go_sem,Nat.reduceBEq,reduceAdd]
  exact⟨_,_,_,_,_,_,_,rfl,c⟩
theorem gX {h0 h:PH} [Le h0 h] {v:Value} {neg:Bool} {n d:Nat} (hv:Rw h0 v neg n d) (hl:lg neg n d):Spec mach 89 #[v] h (fun r _=>r=.tuple #[.agg #[.bool false,.slice none 0 0,.slice none 0 0],.int .i64 1]) NP:=by
  have kX:=fun {h} [Le h0 h]=>IG (h:=h) (g:=138) hv hl
  obtain⟨_,_,_,_,_,_,_,rfl,_⟩:=hv.sa
  refine Spec.go [] Tryz.func89 rfl rfl (by kernel_rfl) fun C _=>?_
  simp(disch:=omega) only[go_sem,Nat.reduceBEq,reduceAdd]
  refine caN (by exact kX) ?_;rintro v1 h1 s1 rfl
  simp(disch:=omega) only[go_sem,Nat.reduceBEq,reduceAdd]
theorem oQ {h:PH} {n:Int} (h1: -4611686018427387904≤n) (h2:n≤4611686018427387904):Spec mach 129 #[.int .i64 n] h (fun v h'=>Cn h' v (n:Rat)) NP:=by
  have hs:sz (n:Rat)≤2048:=by
    unfold sz
    have e1:bl ((n:Rat).num.natAbs)≤64:=bl_le.2 (by simp;omega)
    have e2:bl ((n:Rat).den)≤64:=bl_le.2 (by simp)
    omega
  refine Spec.go [] Tryz.func129 rfl rfl (by kernel_rfl) fun C _=>?_
  simp(disch:=omega) only[go_sem,Nat.reduceBEq,reduceAdd]
  refine caN (by exact cB (by omega) (by omega)) ?_;rintro v1 h1 s1 q1;obtain⟨_,_,_,_,_,_,_,rfl,q1⟩:=q1.sa
  simp(disch:=omega) only[go_sem,Nat.reduceBEq,reduceAdd]
  refine caN (by exact cO q1 hs) ?_;rintro v4 h4 s4 ⟨u,rfl,c⟩;obtain⟨_,_,_,_,_,_,_,rfl,c⟩:=c.sa
  simp(disch:=omega) only[go_sem,Nat.reduceBEq,reduceAdd]
  exact c
theorem Low_spec {h0 h:PH} [Le h0 h] {v:Value} {m n:Nat} (hv:N32 h0 v m) (hn:n≤2^40):Spec mach 113 #[v,.int .i64 n] h (fun r _=>r=.bool (decide (m % 2^n≠0))) NP:=by
  have kT:=fun {h} [Le h0 h]=>qC (h:=h) hv
  have e1 :decide (m % 2^n≠0)=(decide (m≠0) && decide (tw m < n)):=by
    by_cases hm:m=0
    · subst hm;simp
    · obtain⟨t,ht⟩:=pz m hm
      by_cases hl:tw m < n
      · have:m % 2^n≠0:=by
          intro e
          have hd:=Nat.dvd_of_mod_eq_zero e
          have h2:2^(tw m+1)∣m:=Nat.dvd_trans (Nat.pow_dvd_pow 2 hl) hd
          have h3:=F8 hm rfl
          obtain⟨c,hc⟩:=h2
          have e2:m / 2^tw m=2*c:=Nat.div_eq_of_eq_mul_right (Nat.pow_pos (by decide)) (by rw[←Nat.mul_assoc,←Nat.pow_succ];exact hc)
          rw[e2] at h3
          omega
        simp[this,hm,hl]
      · have:m % 2^n=0:=Nat.mod_eq_zero_of_dvd (Nat.dvd_trans (Nat.pow_dvd_pow 2 (by omega)) (BZ m))
        simp[this,hl]
  rw[e1]
  obtain⟨a,c,xs,rfl,ha,hx,rfl⟩:=hv.out
  have hl0:=nP (B:=4294967296) (by decide) (n:=val 4294967296 xs)
  rw[hx] at hl0
  by_cases hm:val 4294967296 xs=0
  · have e2:decide ((xs.length:Int) > 0)=false:=decide_eq_false (by omega)
    rw[show(decide (val 4294967296 xs≠0) && decide (tw (val 4294967296 xs) < n))=false by simp[hm]]
    refine Spec.go [] Tryz.func113 rfl rfl (by kernel_rfl) fun C _=>?_
    simp(disch:=omega) only[go_sem,Nat.reduceBEq,reduceAdd,e2]
  · have e2:decide ((xs.length:Int) > 0)=true:=decide_eq_true (by omega)
    rw[show(decide (val 4294967296 xs≠0) && decide (tw (val 4294967296 xs) < n))=decide ((tw (val 4294967296 xs):Int) < (n:Int)) by simp[hm]]
    refine Spec.go [] Tryz.func113 rfl rfl (by kernel_rfl) fun C _=>?_
    simp(disch:=omega) only[go_sem,Nat.reduceBEq,reduceAdd,e2]
    refine caN (by exact kT) ?_;rintro v1 h1 s1 rfl
    simp(disch:=omega) only[go_sem,Nat.reduceBEq,reduceAdd]
end Go.Q
namespace Go.Q
open Go.Proofs
set_option maxRecDepth 100000
set_option maxHeartbeats 8000000
def cdiv (a d:Nat):Nat:=(a+(d - 1)) / d
theorem pT {a d:Nat} (hd:d≠0) (h:a % d=0):cdiv a d=a / d:=by
  obtain⟨q,rfl⟩:=Nat.dvd_of_mod_eq_zero h
  unfold cdiv
  rw[Nat.mul_div_cancel_left _ (Nat.pos_of_ne_zero hd),Nat.mul_add_div (Nat.pos_of_ne_zero hd),Nat.div_eq_of_lt (by omega),Nat.add_zero]
theorem uA {a d:Nat} (hd:d≠0) (h:a % d≠0):cdiv a d=a / d+1:=by
  have e:=Nat.div_add_mod a d
  have l:=Nat.mod_lt a (Nat.pos_of_ne_zero hd)
  unfold cdiv
  generalize a / d=q at*
  generalize a % d=r at*
  subst e
  rw[Nat.add_assoc,Nat.mul_add_div (Nat.pos_of_ne_zero hd),show r+(d - 1)=d+(r - 1) by omega,Nat.add_div_left _ (Nat.pos_of_ne_zero hd),Nat.div_eq_of_lt (by omega)]
theorem am (n:Nat):2^n≠0:=Nat.ne_of_gt (Nat.pow_pos (by decide))
theorem AG {a d:Nat} (hd:d≠0):cdiv a d≤a / d+1:=by
  by_cases h:a % d=0
  · rw[pT hd h];omega
  · rw[uA hd h];omega
theorem fy (a:Nat) {d:Nat} (hd:d≠0):bl (cdiv a d)≤bl a+1:=by
  have h1:=cY (a / d) 1
  have h2:=aZ a d
  have h3:=aR (AG (a:=a) hd)
  by_cases h0:a=0
  · subst h0
    rw[pT hd (Nat.zero_mod d)]
    omega
  have h4:=(xG h0).1
  have:=fI
  omega
theorem bu {h:PH} {w:Nat} (hw:w≤2^30):Spec mach 62 #[.int .i64 w] h (fun v h'=>N32 h' v (2^w)) NP:=by
  have e:=Nat.one_mul (2^w)
  refine Spec.go [] Tryz.func62 rfl rfl (by kernel_rfl) fun C _=>?_
  try simp(disch:=omega) only[go_sem,Nat.reduceBEq,reduceAdd]
  refine caN (by exact aw (n:=1) (by decide)) ?_;rintro _ h1 _ q1;obtain⟨v1,_,_,rfl,q1⟩:=q1.sl
  try simp(disch:=omega) only[go_sem,Nat.reduceBEq,reduceAdd]
  refine caN (by exact aL (n:=w) q1 (by have:=fI;omega)) ?_;rintro _ h2 _ q2;obtain⟨v2,_,_,rfl,q2⟩:=q2.sl
  try simp(disch:=omega) only[go_sem,Nat.reduceBEq,reduceAdd]
  rw[e] at q2
  exact q2
theorem kJ {h0 h:PH} [Le h0 h] {v:Value} {a n:Nat} (hv:N32 h0 v a) (ba:bl a≤2^39) (hn:n≤2^39):Spec mach 69 #[v,.int .i64 n] h (fun v h'=>N32 h' v (cdiv a (2^n))) NP:=by
  have b1:=aZ a (2^n)
  have kS:=fun {h} [Le h0 h]=>gD (h:=h) (n:=n) hv (by omega) (by omega)
  have kL:=fun {h} [Le h0 h]=>Low_spec (h:=h) (n:=n) hv (by omega)
  obtain⟨_,_,_,rfl,_⟩:=hv.sl
  by_cases he:a % 2^n=0
  · rw[pT (am n) he]
    rw[decide_eq_false (fun k=>k he)] at kL
    refine Spec.go [] Tryz.func69 rfl rfl (by kernel_rfl) fun C _=>?_
    try simp(disch:=omega) only[go_sem,Nat.reduceBEq,reduceAdd]
    refine caN (by exact kS) ?_;rintro _ h1 _ q1;obtain⟨v1,_,_,rfl,q1⟩:=q1.sl
    try simp(disch:=omega) only[go_sem,Nat.reduceBEq,reduceAdd]
    refine caN (by exact kL) ?_;rintro v2 h2 s2 rfl
    try simp(disch:=omega) only[go_sem,Nat.reduceBEq,reduceAdd]
    exact q1.to
  · rw[uA (am n) he]
    rw[decide_eq_true he] at kL
    refine Spec.go [] Tryz.func69 rfl rfl (by kernel_rfl) fun C _=>?_
    try simp(disch:=omega) only[go_sem,Nat.reduceBEq,reduceAdd]
    refine caN (by exact kS) ?_;rintro _ h1 _ q1;obtain⟨v1,_,_,rfl,q1⟩:=q1.sl
    try simp(disch:=omega) only[go_sem,Nat.reduceBEq,reduceAdd]
    refine caN (by exact kL) ?_;rintro v2 h2 s2 rfl
    try simp(disch:=omega) only[go_sem,Nat.reduceBEq,reduceAdd]
    refine caN (by exact aw (n:=1) (by decide)) ?_;rintro _ h3 _ q3;obtain⟨v3,_,_,rfl,q3⟩:=q3.sl
    try simp(disch:=omega) only[go_sem,Nat.reduceBEq,reduceAdd]
    refine caN (by exact bR (q1.to (h':=h3)) q3 (by omega) (by have:=fI;omega)) ?_;rintro _ h4 _ q4;obtain⟨v4,_,_,rfl,q4⟩:=q4.sl
    try simp(disch:=omega) only[go_sem,Nat.reduceBEq,reduceAdd]
    exact q4
def odiv (a d:Nat) (c:Bool):Nat:=if c then cdiv a d else a / d
theorem bD {h0 h:PH} [Le h0 h] {v w:Value} {a d:Nat} {c:Bool} (hv:N32 h0 v a) (hw:N32 h0 w d) (hd:d≠0) (ba:bl a≤2^36) (bd:bl d≤2^36):Spec mach 68 #[v,w,.bool c] h (fun v h'=>N32 h' v (odiv a d c)) NP:=by
  have b1:=aZ a d
  have kD:=fun {h} [Le h0 h]=>gU (h:=h) hv hw hd (by omega) (by omega)
  obtain⟨_,_,_,rfl,_⟩:=hv.sl
  obtain⟨_,_,_,rfl,_⟩:=hw.sl
  cases c with
  | false=>
    refine Spec.go [] Tryz.func68 rfl rfl (by kernel_rfl) fun C _=>?_
    try simp(disch:=omega) only[go_sem,Nat.reduceBEq,reduceAdd]
    refine caN (by exact kD) ?_;rintro v1 h1 s1 ⟨q,r,rfl,hq,hr⟩;obtain⟨_,_,_,rfl,hq⟩:=hq.sl;obtain⟨_,_,_,rfl,hr⟩:=hr.sl
    try simp(disch:=omega) only[go_sem,Nat.reduceBEq,reduceAdd]
    exact hq
  | true=>
    by_cases he:a % d=0
    · rw[show odiv a d true=a / d from pT hd he]
      refine Spec.go [] Tryz.func68 rfl rfl (by kernel_rfl) fun C _=>?_
      try simp(disch:=omega) only[go_sem,Nat.reduceBEq,reduceAdd]
      refine caN (by exact kD) ?_;rintro v1 h1 s1 ⟨q,r,rfl,hq,hr⟩;obtain⟨_,_,_,rfl,hq⟩:=hq.sl;obtain⟨_,_,_,rfl,hr⟩:=hr.sl
      try simp(disch:=omega) only[go_sem,Nat.reduceBEq,reduceAdd]
      refine caN (by exact bU hr) ?_;rintro v2 h2 s2 rfl
      try simp(disch:=omega) only[go_sem,Nat.reduceBEq,reduceAdd]
      try rw[decide_eq_true he]
      try simp(disch:=omega) only[go_sem,Nat.reduceBEq,reduceAdd]
      exact hq.to
    · rw[show odiv a d true=a / d+1 from uA hd he]
      refine Spec.go [] Tryz.func68 rfl rfl (by kernel_rfl) fun C _=>?_
      try simp(disch:=omega) only[go_sem,Nat.reduceBEq,reduceAdd]
      refine caN (by exact kD) ?_;rintro v1 h1 s1 ⟨q,r,rfl,hq,hr⟩;obtain⟨_,_,_,rfl,hq⟩:=hq.sl;obtain⟨_,_,_,rfl,hr⟩:=hr.sl
      try simp(disch:=omega) only[go_sem,Nat.reduceBEq,reduceAdd]
      refine caN (by exact bU hr) ?_;rintro v2 h2 s2 rfl
      try simp(disch:=omega) only[go_sem,Nat.reduceBEq,reduceAdd]
      try rw[decide_eq_false he]
      try simp(disch:=omega) only[go_sem,Nat.reduceBEq,reduceAdd]
      refine caN (by exact aw (n:=1) (by decide)) ?_;rintro _ h3 _ q3;obtain⟨v3,_,_,rfl,q3⟩:=q3.sl
      try simp(disch:=omega) only[go_sem,Nat.reduceBEq,reduceAdd]
      refine caN (by exact bR (hq.to (h':=h3)) q3 (by omega) (by have:=fI;omega)) ?_;rintro _ h4 _ q4;obtain⟨v4,_,_,rfl,q4⟩:=q4.sl
      try simp(disch:=omega) only[go_sem,Nat.reduceBEq,reduceAdd]
      exact q4
theorem N32.rw {h:PH} {neg:Bool} {v w:Value} {n d:Nat} (hv:N32 h v n) (hw:N32 h w d) (bn:bl n≤2^30) (bd:bl d≤2^30):Rw h (.agg #[.bool neg,v,w]) neg n d:=by
  obtain⟨a,c,xs,rfl,ha,hx,rfl⟩:=hv.out
  obtain⟨a',c',ys,rfl,ha',hy,rfl⟩:=hw.out
  have l1:=dj (val 4294967296 xs)
  have l2:=dj (val 4294967296 ys)
  rw[hx] at l1
  rw[hy] at l2
  exact⟨a,c,xs,a',c',ys,rfl,ha,ha',rfl,rfl,by omega,by omega⟩
theorem rH {h0 h:PH} [Le h0 h] {v:Value} {n:Nat} (hv:N32 h0 v n):Spec mach 73 #[v] h (fun v h'=>N32 h' v n) NP:=by
  obtain⟨a,c,xs,rfl,ha,_,rfl⟩:=hv.out
  exact Of_N ha
theorem grid_rv {h:PH} {neg:Bool} {v w:Value} {a n:Nat} (hv:N32 h v a) (hw:N32 h w (2^n)) (ba:bl a≤2048) (hn:n < 2048):Rv h (.agg #[.bool neg,v,w]) (sgn neg a (2^n)):=by
  have b2:bl (2^n)≤2048:=Nat.le_trans (bC n) hn
  have hp:2^n≠0:=Nat.ne_of_gt (Nat.pow_pos (by decide))
  have e:qof neg a (2^n)=sgn neg a (2^n):=by unfold qof dz;rw[if_neg hp]
  refine⟨neg,a,2^n,hv.rw hw (by omega) (by omega),?_,e⟩
  have:=dg neg a hp
  unfold lg
  rw[e]
  omega
theorem aO {h0 h:PH} [Le h0 h] {v:Value} {a n:Nat} {neg:Bool} (hv:N32 h0 v a) (ba:bl a≤2048) (hn:n < 2048):Spec mach 72 #[v,.int .i64 n,.bool neg] h (fun v h'=>Cn h' v (sgn neg a (2^n))) NP:=by
  have hv0:=hv
  obtain⟨_,_,_,rfl,_⟩:=hv.sl
  refine Spec.go [] Tryz.func72 rfl rfl (by kernel_rfl) fun C _=>?_
  try simp(disch:=omega) only[go_sem,Nat.reduceBEq,reduceAdd]
  refine caN (by exact bu (w:=n) (by omega)) ?_;rintro _ h1 _ q1;obtain⟨v1,_,_,rfl,q1⟩:=q1.sl
  try simp(disch:=omega) only[go_sem,Nat.reduceBEq,reduceAdd]
  refine caN (by exact iW (grid_rv (neg:=neg) (hv0.to (h':=h1)) q1 ba hn)) ?_;rintro v2 h2 s2 ⟨_,_,_,_,_,_,_,rfl,c⟩
  try simp(disch:=omega) only[go_sem,Nat.reduceBEq,reduceAdd]
  exact c
def Pr (h:PH) (v:Value) (a b:Nat):Prop:=∃x m c y n d,v=.agg #[.slice x m c,.slice y n d]∧N32 h (.slice x m c) a∧N32 h (.slice y n d) b
theorem Pr.to {h h':PH} {v:Value} {a b:Nat} (r:Pr h v a b) [Le h h']:Pr h' v a b:=let ⟨x,m,c,y,n,d,e,h1,h2⟩:=r;⟨x,m,c,y,n,d,e,h1.to,h2.to⟩
def glo (x:Rat) (w:Nat):Nat:=x.num.natAbs*2^w / x.den
def ghi (x:Rat) (w:Nat):Nat:=cdiv (x.num.natAbs*2^w) x.den
theorem iH {h0 h:PH} [Le h0 h] {v:Value} {x:Rat} {w:Nat} (hx:Cn h0 v x) (bx:sz x≤2^20) (hw:w≤2^20):Spec mach 61 #[v,.int .i64 w] h (fun v h'=>Pr h' v (glo x w) (ghi x w)) NP:=by
  have b1:=bG x
  have b2:=bB x
  have b3:=cu x.num.natAbs w
  have b4:=aZ (x.num.natAbs*2^w) x.den
  have hd0:x.den≠0:=x.den_nz
  obtain⟨sn,sd,rfl,hn,hd⟩:=hx
  have kO:=fun {h} [Le h0 h]=>rH (h:=h) hn
  have kD:=fun {h} [Le h0 h]=>rH (h:=h) hd
  obtain⟨_,_,_,rfl,_⟩:=hn.sl
  obtain⟨_,_,_,rfl,_⟩:=hd.sl
  by_cases h1:x.den=1
  · rw[if_pos h1] at kD
    unfold glo ghi
    rw[h1]
    rw[h1] at b4 hd0
    have e1:x.num.natAbs*2^w % 1=0:=Nat.mod_one _
    rw[pT (by decide) e1]
    refine Spec.go [] Tryz.func61 rfl rfl (by kernel_rfl) fun C _=>?_
    try simp(disch:=omega) only[go_sem,Nat.reduceBEq,reduceAdd]
    refine caN (by exact kD) ?_;rintro _ g1 _ q1;obtain⟨v1,_,_,rfl,q1⟩:=q1.sl
    try simp(disch:=omega) only[go_sem,Nat.reduceBEq,reduceAdd]
    refine caN (by exact bU q1) ?_;rintro v2 h2 s2 hz;obtain rfl:v2=.bool true:=hz
    try simp(disch:=omega) only[go_sem,Nat.reduceBEq,reduceAdd]
    refine caN (by exact aw (n:=1) (by decide)) ?_;rintro _ g3 _ q3;obtain⟨v3,_,_,rfl,q3⟩:=q3.sl
    try simp(disch:=omega) only[go_sem,Nat.reduceBEq,reduceAdd]
    refine caN (by exact kO) ?_;rintro _ g4 _ q4;obtain⟨v4,_,_,rfl,q4⟩:=q4.sl
    try simp(disch:=omega) only[go_sem,Nat.reduceBEq,reduceAdd]
    refine caN (by exact aL (n:=w) q4 (by omega)) ?_;rintro _ g5 _ q5;obtain⟨_,_,_,rfl,q5⟩:=q5.sl
    try simp(disch:=omega) only[go_sem,Nat.reduceBEq,reduceAdd]
    refine caN (by exact gU q5 (q3.to (h':=g5)) (by decide) (by omega) (by decide)) ?_;rintro v6 g6 s6 ⟨q,r,rfl,hq,hr⟩;obtain⟨_,_,_,rfl,hq⟩:=hq.sl;obtain⟨_,_,_,rfl,hr⟩:=hr.sl
    try simp(disch:=omega) only[go_sem,Nat.reduceBEq,reduceAdd]
    refine caN (by exact bU hr) ?_;rintro v7 g7 s7 rfl
    try simp(disch:=omega) only[go_sem,Nat.reduceBEq,reduceAdd]
    try rw[decide_eq_true e1]
    try simp(disch:=omega) only[go_sem,Nat.reduceBEq,reduceAdd]
    exact⟨_,_,_,_,_,_,rfl,hq.to,hq.to⟩
  · rw[if_neg h1] at kD
    have e0:decide (x.den=0)=false:=decide_eq_false hd0
    by_cases he:x.num.natAbs*2^w % x.den=0
    · rw[show ghi x w=glo x w from pT hd0 he]
      unfold glo
      refine Spec.go [] Tryz.func61 rfl rfl (by kernel_rfl) fun C _=>?_
      try simp(disch:=omega) only[go_sem,Nat.reduceBEq,reduceAdd]
      refine caN (by exact kD) ?_;rintro _ g1 _ q1;obtain⟨v1,_,_,rfl,q1⟩:=q1.sl
      try simp(disch:=omega) only[go_sem,Nat.reduceBEq,reduceAdd]
      refine caN (by exact bU q1) ?_;rintro v2 h2 s2 rfl
      try simp(disch:=omega) only[go_sem,Nat.reduceBEq,reduceAdd]
      try rw[e0]
      try simp(disch:=omega) only[go_sem,Nat.reduceBEq,reduceAdd]
      refine caN (by exact kO) ?_;rintro _ g4 _ q4;obtain⟨v4,_,_,rfl,q4⟩:=q4.sl
      try simp(disch:=omega) only[go_sem,Nat.reduceBEq,reduceAdd]
      refine caN (by exact aL (n:=w) q4 (by omega)) ?_;rintro _ g5 _ q5;obtain⟨_,_,_,rfl,q5⟩:=q5.sl
      try simp(disch:=omega) only[go_sem,Nat.reduceBEq,reduceAdd]
      refine caN (by exact gU q5 (q1.to (h':=g5)) hd0 (by omega) (by omega)) ?_;rintro v6 g6 s6 ⟨q,r,rfl,hq,hr⟩;obtain⟨_,_,_,rfl,hq⟩:=hq.sl;obtain⟨_,_,_,rfl,hr⟩:=hr.sl
      try simp(disch:=omega) only[go_sem,Nat.reduceBEq,reduceAdd]
      refine caN (by exact bU hr) ?_;rintro v7 g7 s7 rfl
      try simp(disch:=omega) only[go_sem,Nat.reduceBEq,reduceAdd]
      try rw[decide_eq_true he]
      try simp(disch:=omega) only[go_sem,Nat.reduceBEq,reduceAdd]
      exact⟨_,_,_,_,_,_,rfl,hq.to,hq.to⟩
    · rw[show ghi x w=glo x w+1 from uA hd0 he]
      unfold glo
      refine Spec.go [] Tryz.func61 rfl rfl (by kernel_rfl) fun C _=>?_
      try simp(disch:=omega) only[go_sem,Nat.reduceBEq,reduceAdd]
      refine caN (by exact kD) ?_;rintro _ g1 _ q1;obtain⟨v1,_,_,rfl,q1⟩:=q1.sl
      try simp(disch:=omega) only[go_sem,Nat.reduceBEq,reduceAdd]
      refine caN (by exact bU q1) ?_;rintro v2 h2 s2 rfl
      try simp(disch:=omega) only[go_sem,Nat.reduceBEq,reduceAdd]
      try rw[e0]
      try simp(disch:=omega) only[go_sem,Nat.reduceBEq,reduceAdd]
      refine caN (by exact kO) ?_;rintro _ g4 _ q4;obtain⟨v4,_,_,rfl,q4⟩:=q4.sl
      try simp(disch:=omega) only[go_sem,Nat.reduceBEq,reduceAdd]
      refine caN (by exact aL (n:=w) q4 (by omega)) ?_;rintro _ g5 _ q5;obtain⟨_,_,_,rfl,q5⟩:=q5.sl
      try simp(disch:=omega) only[go_sem,Nat.reduceBEq,reduceAdd]
      refine caN (by exact gU q5 (q1.to (h':=g5)) hd0 (by omega) (by omega)) ?_;rintro v6 g6 s6 ⟨q,r,rfl,hq,hr⟩;obtain⟨_,_,_,rfl,hq⟩:=hq.sl;obtain⟨_,_,_,rfl,hr⟩:=hr.sl
      try simp(disch:=omega) only[go_sem,Nat.reduceBEq,reduceAdd]
      refine caN (by exact bU hr) ?_;rintro v7 g7 s7 rfl
      try simp(disch:=omega) only[go_sem,Nat.reduceBEq,reduceAdd]
      try rw[decide_eq_false he]
      try simp(disch:=omega) only[go_sem,Nat.reduceBEq,reduceAdd]
      refine caN (by exact aw (n:=1) (by decide)) ?_;rintro _ g8 _ q8;obtain⟨_,_,_,rfl,q8⟩:=q8.sl
      try simp(disch:=omega) only[go_sem,Nat.reduceBEq,reduceAdd]
      refine caN (by exact bR (hq.to (h':=g8)) q8 (by omega) (by decide)) ?_;rintro _ g9 _ q9;obtain⟨_,_,_,rfl,q9⟩:=q9.sl
      try simp(disch:=omega) only[go_sem,Nat.reduceBEq,reduceAdd]
      exact⟨_,_,_,_,_,_,rfl,hq.to,q9⟩
def Bk (h:PH) (v:Value) (x y:Rat):Prop:=∃b1 a1 m1 c1 a2 m2 c2 b2 a3 m3 c3 a4 m4 c4,v=.agg #[.bool b1,.slice a1 m1 c1,.slice a2 m2 c2,.bool b2,.slice a3 m3 c3,.slice a4 m4 c4]∧Cn h (.agg #[.bool b1,.slice a1 m1 c1,.slice a2 m2 c2]) x∧Cn h (.agg #[.bool b2,.slice a3 m3 c3,.slice a4 m4 c4]) y
theorem Bk.to {h h':PH} {v:Value} {x y:Rat} (r:Bk h v x y) [Le h h']:Bk h' v x y:=by
  obtain⟨b1,a1,m1,c1,a2,m2,c2,b2,a3,m3,c3,a4,m4,c4,e,k1,k2⟩:=r
  exact⟨b1,a1,m1,c1,a2,m2,c2,b2,a3,m3,c3,a4,m4,c4,e,k1.to,k2.to⟩
theorem fw {h0 h:PH} [Le h0 h] {v:Value} {a b w p:Nat} {neg:Bool} (hv:Pr h0 v a b) (ba:bl a≤2^30) (bb:bl b≤2^30) (hp:p≤w) (hw:w≤2^30) (hp':p < 2048) (ra:bl (a / 2^(w - p))≤2048) (rb:bl (cdiv b (2^(w - p)))≤2048):
    Spec mach 71 #[v,.int .i64 w,.int .i64 p,.bool neg] h (fun v h'=>Bk h' v (if neg then sgn neg (cdiv b (2^(w - p))) (2^p) else sgn neg (a / 2^(w - p)) (2^p)) (if neg then sgn neg (a / 2^(w - p)) (2^p) else sgn neg (cdiv b (2^(w - p))) (2^p))) NP:=by
  obtain⟨x,m,c,y,n,d,rfl,k1,k2⟩:=hv
  have ew:IntKind.i64.wrap ((w:Int) - (p:Int))=((w - p:Nat):Int):=by rw[wi64 (by omega) (by omega)];omega
  have ew':(w:Int) - (p:Int)=((w - p:Nat):Int):=by omega
  cases neg
  all_goals
    refine Spec.go [(1,.t (.s [0,1,2,3,4,6,7,9,10,11,12,13,15,16] (.a 5 (.a 8 (.a 14 (.a 17 (.s [18] (.a 19 (.a 20 .d .n) .n)) (.a 19 (.a 17 (.s [18] (.a 20 .d .n)) .n) .n)) (.a 19 (.a 14 (.a 17 (.s [18] (.a 20 .d .n)) .n) .n) .n)) (.a 19 (.a 8 (.a 14 (.a 17 (.s [18] (.a 20 .d .n)) .n) .n) .n) .n)) (.a 19 (.a 5 (.a 8 (.a 14 (.a 17 (.s [18] (.a 20 .d .n)) .n) .n) .n) .n) .n))))] Tryz.func71 rfl rfl (by kernel_rfl) fun C _=>?_
    try simp(disch:=omega) only[go_sem,Nat.reduceBEq,reduceAdd,ew']
    (repeat' refine And.intro ?_ ?_)
    all_goals
      refine caN (by exact gD (n:=w - p) k1 (by omega) (by omega)) ?_;rintro _ g1 _ q1;obtain⟨v1,_,_,rfl,q1⟩:=q1.sl
      try simp(disch:=omega) only[go_sem,Nat.reduceBEq,reduceAdd]
      (repeat' refine And.intro ?_ ?_)
      all_goals
        refine caN (by exact aO (n:=p) q1 ra hp') ?_;rintro v2 g2 s2 q2;obtain⟨_,_,_,_,_,_,_,rfl,q2⟩:=q2.sa
        try simp(disch:=omega) only[go_sem,Nat.reduceBEq,reduceAdd,ew']
        (repeat' refine And.intro ?_ ?_)
        all_goals
          refine caN (by exact kJ (n:=w - p) (k2.to (h':=g2)) (by omega) (by omega)) ?_;rintro _ g3 _ q3;obtain⟨v3,_,_,rfl,q3⟩:=q3.sl
          try simp(disch:=omega) only[go_sem,Nat.reduceBEq,reduceAdd]
          (repeat' refine And.intro ?_ ?_)
          all_goals
            refine caN (by exact aO (n:=p) q3 rb hp') ?_;rintro v4 g4 s4 q4;obtain⟨_,_,_,_,_,_,_,rfl,q4⟩:=q4.sa
            try simp(disch:=omega) only[go_sem,Nat.reduceBEq,reduceAdd]
            (repeat' refine And.intro ?_ ?_)
            all_goals
              try simp(disch:=omega) only[go_sem,Nat.reduceBEq,reduceAdd]
              first
                |exact⟨_,_,_,_,_,_,_,_,_,_,_,_,_,_,rfl,q2.to,q4⟩
                |exact⟨_,_,_,_,_,_,_,_,_,_,_,_,_,_,rfl,q4,q2.to⟩
theorem o8 {h0 h:PH} [Le h0 h] {v:Value} {a b w:Nat} (hv:Pr h0 v a b) (ba:bl a≤2^30) (bb:bl b≤2^30) (hw:w≤2^30):
    Spec mach 115 #[v,.int .i64 w] h (fun v h'=>Pr h' v (a*a / 2^w) (cdiv (b*b) (2^w))) NP:=by
  obtain⟨x,m,c,y,n,d,rfl,k1,k2⟩:=hv
  have b1:=aG a a
  have b2:=aG b b
  refine Spec.go [(1,.o [0,1,2,3,5,7,8,9,10,12,4,6,11,13,14,15])] Tryz.func115 rfl rfl (by kernel_rfl) fun C _=>?_
  try simp(disch:=omega) only[go_sem,Nat.reduceBEq,reduceAdd]
  refine caN (by exact aI k1 k1 (by omega) (by omega)) ?_;rintro _ g1 _ q1;obtain⟨v1,_,_,rfl,q1⟩:=q1.sl
  try simp(disch:=omega) only[go_sem,Nat.reduceBEq,reduceAdd]
  refine caN (by exact gD (n:=w) q1 (by omega) (by omega)) ?_;rintro _ g2 _ q2;obtain⟨v2,_,_,rfl,q2⟩:=q2.sl
  try simp(disch:=omega) only[go_sem,Nat.reduceBEq,reduceAdd]
  refine caN (by exact aI (k2.to (h':=g2)) (k2.to (h':=g2)) (by omega) (by omega)) ?_;rintro _ g3 _ q3;obtain⟨v3,_,_,rfl,q3⟩:=q3.sl
  try simp(disch:=omega) only[go_sem,Nat.reduceBEq,reduceAdd]
  refine caN (by exact kJ (n:=w) q3 (by omega) (by omega)) ?_;rintro _ g4 _ q4;obtain⟨v4,_,_,rfl,q4⟩:=q4.sl
  try simp(disch:=omega) only[go_sem,Nat.reduceBEq,reduceAdd]
  exact⟨_,_,_,_,_,_,rfl,q2.to,q4⟩
theorem jh {h0 h:PH} [Le h0 h] {v:Value} {a b n:Nat} (hv:Pr h0 v a b) (ba:bl a≤2^30) (bb:bl b≤2^30) (hn:n≤2^30):
    Spec mach 86 #[v,.int .i64 n] h (fun v h'=>Pr h' v (a*2^n) (b*2^n)) NP:=by
  obtain⟨x,m,c,y,l,d,rfl,k1,k2⟩:=hv
  refine Spec.go [(1,.o [0,1,2,4,5,6,3,7,8,9])] Tryz.func86 rfl rfl (by kernel_rfl) fun C _=>?_
  try simp(disch:=omega) only[go_sem,Nat.reduceBEq,reduceAdd]
  refine caN (by exact aL (n:=n) k1 (by omega)) ?_;rintro _ g1 _ q1;obtain⟨v1,_,_,rfl,q1⟩:=q1.sl
  try simp(disch:=omega) only[go_sem,Nat.reduceBEq,reduceAdd]
  refine caN (by exact aL (n:=n) (k2.to (h':=g1)) (by omega)) ?_;rintro _ g2 _ q2;obtain⟨v2,_,_,rfl,q2⟩:=q2.sl
  try simp(disch:=omega) only[go_sem,Nat.reduceBEq,reduceAdd]
  exact⟨_,_,_,_,_,_,rfl,q1.to,q2⟩
end Go.Q
namespace Go.Q
open Go.Proofs
set_option maxRecDepth 100000
set_option maxHeartbeats 8000000
theorem N32.len0y {h:PH} {a:Option Addr} {l c n:Nat} (r:N32 h (.slice a l c) n):l=0↔n=0:=by
  obtain⟨a',c',e,_⟩:=r
  cases e
  exact nP (by decide)
theorem Cn.parts {h:PH} {v:Value} {x:Rat} (r:Cn h v x):∃na nl nc da dl dc,v=.agg #[.bool (decide (x.num < 0)),.slice na nl nc,.slice da dl dc]∧N32 h (.slice na nl nc) x.num.natAbs∧N32 h (.slice da dl dc) (if x.den=1 then 0 else x.den)∧(nl=0↔x=0)∧(dl=0↔x.den=1):=by
  obtain⟨sn,sd,rfl,h1,h2⟩:=r
  obtain⟨na,nl,nc,rfl,h1⟩:=h1.sl
  obtain⟨da,dl,dc,rfl,h2⟩:=h2.sl
  refine⟨_,_,_,_,_,_,rfl,h1,h2,?_,?_⟩
  · rw[h1.len0y,Int.natAbs_eq_zero,Rat.num_eq_zero]
  · rw[h2.len0y]
    have:=x.den_nz
    split<;>omega
theorem jg {h0 h:PH} [Le h0 h] {v:Value} {x:Rat} (hx:Cn h0 v x):Spec mach 74 #[v] h (fun v h'=>N32 h' v x.den) NP:=by
  obtain⟨na,nl,nc,da,dl,dc,rfl,hn,hd,e1,e2⟩:=hx.parts
  by_cases h1:x.den=1
  · have e3:((dl:Int) == 0)=true:=by simp[e2.2 h1]
    rw[h1]
    refine Spec.go [] Tryz.func74 rfl rfl (by kernel_rfl) fun C _=>?_
    simp(maxSteps:=999999) (disch:=omega) only[go_sem,Nat.reduceBEq,reduceAdd,e3]
    refine caN (by exact aw (n:=1) (by decide)) ?_;rintro _ g1 _ q1;obtain⟨v1,_,_,rfl,q1⟩:=q1.sl
    simp(maxSteps:=999999) (disch:=omega) only[go_sem,Nat.reduceBEq,reduceAdd]
    exact q1
  · have e3:((dl:Int) == 0)=false:=by have:=mt e2.1 h1;simp;omega
    rw[if_neg h1] at hd
    refine Spec.go [] Tryz.func74 rfl rfl (by kernel_rfl) fun C _=>?_
    simp(maxSteps:=999999) (disch:=omega) only[go_sem,Nat.reduceBEq,reduceAdd,e3]
    exact hd.to
theorem Cf {h0 h:PH} [Le h0 h] {v:Value} {x:Rat} (hx:Cn h0 v x):Spec mach 141 #[v] h (fun v _=>v=.bool (decide (x=1))) NP:=by
  obtain⟨na,nl,nc,da,dl,dc,rfl,hn,hd,e1,e2⟩:=hx.parts
  have kO:=fun {h} [Le h0 h]=>rH (h:=h) hn
  have e4:x=1↔¬x.num < 0∧x.den=1∧x.num.natAbs=1:=by
    constructor
    · rintro rfl;decide
    · rintro⟨k1,k2,k3⟩
      apply Rat.ext
      · show x.num=1;omega
      · show x.den=1;exact k2
  cases hs:decide (x.num < 0) with
  | true=>
    have hs':=of_decide_eq_true hs
    rw[decide_eq_false (fun k=>(e4.1 k).1 hs')]
    refine Spec.go [] Tryz.func141 rfl rfl (by kernel_rfl) fun C _=>?_
    simp(maxSteps:=999999) (disch:=omega) only[go_sem,Nat.reduceBEq,reduceAdd]
  | false=>
    have hs':=of_decide_eq_false hs
    by_cases h1:x.den=1
    · have e3:((dl:Int) == 0)=true:=by simp[e2.2 h1]
      rw[show decide (x=1)=decide (x.num.natAbs=1) by simp only[e4,h1,hs',true_and,not_false_eq_true]]
      refine Spec.go [] Tryz.func141 rfl rfl (by kernel_rfl) fun C _=>?_
      simp(maxSteps:=999999) (disch:=omega) only[go_sem,Nat.reduceBEq,reduceAdd,e3]
      refine caN (by exact kO) ?_;rintro _ g1 _ q1;obtain⟨v1,_,_,rfl,q1⟩:=q1.sl
      simp(maxSteps:=999999) (disch:=omega) only[go_sem,Nat.reduceBEq,reduceAdd]
      refine caN (by exact wY q1) ?_;rintro v2 h2 s2 rfl
      simp(maxSteps:=999999) (disch:=omega) only[go_sem,Nat.reduceBEq,reduceAdd]
    · have e3:((dl:Int) == 0)=false:=by have:=mt e2.1 h1;simp;omega
      rw[decide_eq_false (fun k=>h1 (e4.1 k).2.1)]
      refine Spec.go [] Tryz.func141 rfl rfl (by kernel_rfl) fun C _=>?_
      simp(maxSteps:=999999) (disch:=omega) only[go_sem,Nat.reduceBEq,reduceAdd,e3]
def defB (fn:Int) (x:Rat):Bool:=if fn=2 then decide (0 < x) else if fn=6∨fn=7 then decide (x.num.natAbs≤x.den) else true
theorem dE {h0 h:PH} [Le h0 h] {v:Value} {x:Rat} {fn:Int} (hx:Cn h0 v x):Spec mach 139 #[.int .i64 fn,v] h (fun v _=>v=.bool (defB fn x)) NP:=by
  have kW:=fun {h} [Le h0 h]=>jg (h:=h) hx
  obtain⟨na,nl,nc,da,dl,dc,rfl,hn,hd,e1,e2⟩:=hx.parts
  have kO:=fun {h} [Le h0 h]=>rH (h:=h) hn
  unfold defB
  by_cases h2:fn=2
  · subst h2
    rw[if_pos rfl]
    cases hs:decide (x.num < 0) with
    | true=>
      have hs':=of_decide_eq_true hs
      rw[decide_eq_false (show ¬0 < x by rw[num_neg] at hs';grind)]
      refine Spec.go [(6,.o [0,1,3,2,4,5,6,7])] Tryz.func139 rfl rfl (by kernel_rfl) fun C _=>?_
      simp(maxSteps:=999999) (disch:=omega) only[go_sem,Nat.reduceBEq,reduceAdd]
    | false=>
      have hs':=of_decide_eq_false hs
      rw[num_neg] at hs'
      by_cases h0':x=0
      · have e3:decide ((nl:Int) > 0)=false:=decide_eq_false (by have:=e1.2 h0';omega)
        rw[decide_eq_false (show ¬0 < x by grind)]
        refine Spec.go [(6,.o [0,1,3,2,4,5,6,7])] Tryz.func139 rfl rfl (by kernel_rfl) fun C _=>?_
        simp(maxSteps:=999999) (disch:=omega) only[go_sem,Nat.reduceBEq,reduceAdd,e3]
      · have e3:decide ((nl:Int) > 0)=true:=decide_eq_true (by have:=mt e1.1 h0';omega)
        rw[decide_eq_true (show 0 < x by grind)]
        refine Spec.go [(6,.o [0,1,3,2,4,5,6,7])] Tryz.func139 rfl rfl (by kernel_rfl) fun C _=>?_
        simp(maxSteps:=999999) (disch:=omega) only[go_sem,Nat.reduceBEq,reduceAdd,e3]
  · have f2:(fn == 2)=false:=by simpa using h2
    rw[if_neg h2]
    by_cases h6:fn=6∨fn=7
    · rw[if_pos h6]
      have e5:decide (cmp3 x.num.natAbs x.den≤0)=decide (x.num.natAbs≤x.den):=by unfold cmp3;grind
      rcases h6 with rfl |rfl
      all_goals
        refine Spec.go [(6,.o [0,1,3,2,4,5,6,7])] Tryz.func139 rfl rfl (by kernel_rfl) fun C _=>?_
        simp(maxSteps:=999999) (disch:=omega) only[go_sem,Nat.reduceBEq,reduceAdd]
        refine caN (by exact kO) ?_;rintro _ g1 _ q1;obtain⟨v1,_,_,rfl,q1⟩:=q1.sl
        simp(maxSteps:=999999) (disch:=omega) only[go_sem,Nat.reduceBEq,reduceAdd]
        refine caN (by exact kW) ?_;rintro _ g2 _ q2;obtain⟨v2,_,_,rfl,q2⟩:=q2.sl
        simp(maxSteps:=999999) (disch:=omega) only[go_sem,Nat.reduceBEq,reduceAdd]
        refine caN (by exact fO (q1.to (h':=g2)) q2) ?_;rintro v3 h3 s3 rfl
        simp(maxSteps:=999999) (disch:=omega) only[go_sem,Nat.reduceBEq,reduceAdd,e5]
    · have f6:(fn == 6)=false:=by simp;omega
      have f7:(fn == 7)=false:=by simp;omega
      rw[if_neg h6]
      refine Spec.go [(6,.o [0,1,3,2,4,5,6,7])] Tryz.func139 rfl rfl (by kernel_rfl) fun C _=>?_
      simp(maxSteps:=999999) (disch:=omega) only[go_sem,Nat.reduceBEq,reduceAdd,f2,f6,f7]
def exB (fn:Int) (x:Rat):Bool:=if fn=2∨fn=7 then decide (x=1) else decide (x=0)
def exV (fn:Int) (x:Rat):Rat:=if (fn=1∨fn=4)∧x=0 then 1 else 0
theorem ni {h0 h:PH} [Le h0 h] {v:Value} {x:Rat} {fn:Int} (hx:Cn h0 v x):Spec mach 91 #[.int .i64 fn,v] h (fun r h'=>∃b na nl nc da dl dc,r=.tuple #[.agg #[.bool b,.slice na nl nc,.slice da dl dc],.bool (exB fn x)]∧Cn h' (.agg #[.bool b,.slice na nl nc,.slice da dl dc]) (exV fn x)) NP:=by
  have kI:=fun {h} [Le h0 h]=>Cf (h:=h) hx
  obtain⟨na,nl,nc,da,dl,dc,rfl,hn,hd,e1,e2⟩:=hx.parts
  have e3:((nl:Int) == 0)=decide (x=0):=by
    rw[Bool.eq_iff_iff];simp only[beq_iff_eq,decide_eq_true_eq,←e1];omega
  unfold exB exV
  by_cases h14:fn=1∨fn=4
  · rw[if_neg (show ¬(fn=2∨fn=7) by omega)]
    by_cases hz:x=0
    · rw[decide_eq_true hz] at e3
      rw[if_pos ⟨h14,hz⟩,decide_eq_true hz]
      rcases h14 with rfl |rfl
      all_goals
        refine Spec.go [(2,.y (.a 0 (.a 1 (.a 2 (.a 3 (.a 4 (.a 5 (.a 6 .d .n) .n) (.a 5 (.a 4 (.a 6 .d .n) .n) .n)) (.a 5 (.a 3 (.a 4 (.a 6 .d .n) .n) .n) .n)) (.a 5 (.a 2 (.a 3 (.a 4 (.a 6 .d .n) .n) .n) .n) .n)) (.a 5 (.a 1 (.a 2 (.a 3 (.a 4 (.a 6 .d .n) .n) .n) .n) .n) .n)) (.a 1 (.a 0 (.a 2 (.a 3 (.a 4 (.a 5 (.a 6 .d .n) .n) (.a 5 (.a 4 (.a 6 .d .n) .n) .n)) (.a 5 (.a 3 (.a 4 (.a 6 .d .n) .n) .n) .n)) (.a 5 (.a 2 (.a 3 (.a 4 (.a 6 .d .n) .n) .n) .n) .n)) (.a 2 (.a 0 (.a 3 (.a 4 (.a 5 (.a 6 .d .n) .n) (.a 5 (.a 4 (.a 6 .d .n) .n) .n)) (.a 5 (.a 3 (.a 4 (.a 6 .d .n) .n) .n) .n)) (.a 3 (.a 0 (.a 4 (.a 5 (.a 6 .d .n) .n) (.a 5 (.a 4 (.a 6 .d .n) .n) .n)) (.a 4 (.a 0 (.a 5 (.a 6 .d .n) .n) .n) .n)) .n)) .n)) .n)))] Tryz.func91 rfl rfl (by kernel_rfl) fun C _=>?_
        simp(maxSteps:=999999) (disch:=omega) only[go_sem,Nat.reduceBEq,reduceAdd,e3]
        refine caN (by exact oQ (n:=1) (by decide) (by decide)) ?_;rintro v1 h1 s1 c;obtain⟨_,_,_,_,_,_,_,rfl,c⟩:=c.sa
        simp(maxSteps:=999999) (disch:=omega) only[go_sem,Nat.reduceBEq,reduceAdd]
        exact⟨_,_,_,_,_,_,_,rfl,c⟩
    · rw[decide_eq_false hz] at e3
      rw[if_neg (fun k=>hz k.2),decide_eq_false hz]
      rcases h14 with rfl |rfl
      all_goals
        refine Spec.go [(2,.y (.a 0 (.a 1 (.a 2 (.a 3 (.a 4 (.a 5 (.a 6 .d .n) .n) (.a 5 (.a 4 (.a 6 .d .n) .n) .n)) (.a 5 (.a 3 (.a 4 (.a 6 .d .n) .n) .n) .n)) (.a 5 (.a 2 (.a 3 (.a 4 (.a 6 .d .n) .n) .n) .n) .n)) (.a 5 (.a 1 (.a 2 (.a 3 (.a 4 (.a 6 .d .n) .n) .n) .n) .n) .n)) (.a 1 (.a 0 (.a 2 (.a 3 (.a 4 (.a 5 (.a 6 .d .n) .n) (.a 5 (.a 4 (.a 6 .d .n) .n) .n)) (.a 5 (.a 3 (.a 4 (.a 6 .d .n) .n) .n) .n)) (.a 5 (.a 2 (.a 3 (.a 4 (.a 6 .d .n) .n) .n) .n) .n)) (.a 2 (.a 0 (.a 3 (.a 4 (.a 5 (.a 6 .d .n) .n) (.a 5 (.a 4 (.a 6 .d .n) .n) .n)) (.a 5 (.a 3 (.a 4 (.a 6 .d .n) .n) .n) .n)) (.a 3 (.a 0 (.a 4 (.a 5 (.a 6 .d .n) .n) (.a 5 (.a 4 (.a 6 .d .n) .n) .n)) (.a 4 (.a 0 (.a 5 (.a 6 .d .n) .n) .n) .n)) .n)) .n)) .n)))] Tryz.func91 rfl rfl (by kernel_rfl) fun C _=>?_
        simp(maxSteps:=999999) (disch:=omega) only[go_sem,Nat.reduceBEq,reduceAdd,e3]
        exact⟨_,_,_,_,_,_,_,rfl,Cn.nul _⟩
  · rw[if_neg (show ¬((fn=1∨fn=4)∧x=0) from fun k=>h14 k.1)]
    by_cases h27:fn=2∨fn=7
    · rw[if_pos h27]
      rcases h27 with rfl |rfl
      all_goals
        refine Spec.go [(2,.y (.a 0 (.a 1 (.a 2 (.a 3 (.a 4 (.a 5 (.a 6 .d .n) .n) (.a 5 (.a 4 (.a 6 .d .n) .n) .n)) (.a 5 (.a 3 (.a 4 (.a 6 .d .n) .n) .n) .n)) (.a 5 (.a 2 (.a 3 (.a 4 (.a 6 .d .n) .n) .n) .n) .n)) (.a 5 (.a 1 (.a 2 (.a 3 (.a 4 (.a 6 .d .n) .n) .n) .n) .n) .n)) (.a 1 (.a 0 (.a 2 (.a 3 (.a 4 (.a 5 (.a 6 .d .n) .n) (.a 5 (.a 4 (.a 6 .d .n) .n) .n)) (.a 5 (.a 3 (.a 4 (.a 6 .d .n) .n) .n) .n)) (.a 5 (.a 2 (.a 3 (.a 4 (.a 6 .d .n) .n) .n) .n) .n)) (.a 2 (.a 0 (.a 3 (.a 4 (.a 5 (.a 6 .d .n) .n) (.a 5 (.a 4 (.a 6 .d .n) .n) .n)) (.a 5 (.a 3 (.a 4 (.a 6 .d .n) .n) .n) .n)) (.a 3 (.a 0 (.a 4 (.a 5 (.a 6 .d .n) .n) (.a 5 (.a 4 (.a 6 .d .n) .n) .n)) (.a 4 (.a 0 (.a 5 (.a 6 .d .n) .n) .n) .n)) .n)) .n)) .n)))] Tryz.func91 rfl rfl (by kernel_rfl) fun C _=>?_
        simp(maxSteps:=999999) (disch:=omega) only[go_sem,Nat.reduceBEq,reduceAdd]
        refine caN (by exact kI) ?_;rintro v1 h1 s1 rfl
        simp(maxSteps:=999999) (disch:=omega) only[go_sem,Nat.reduceBEq,reduceAdd]
        exact⟨_,_,_,_,_,_,_,rfl,Cn.nul _⟩
    · rw[if_neg h27]
      have f1:(fn == 1)=false:=by simp;omega
      have f2:(fn == 2)=false:=by simp;omega
      have f4:(fn == 4)=false:=by simp;omega
      have f7:(fn == 7)=false:=by simp;omega
      refine Spec.go [(2,.y (.a 0 (.a 1 (.a 2 (.a 3 (.a 4 (.a 5 (.a 6 .d .n) .n) (.a 5 (.a 4 (.a 6 .d .n) .n) .n)) (.a 5 (.a 3 (.a 4 (.a 6 .d .n) .n) .n) .n)) (.a 5 (.a 2 (.a 3 (.a 4 (.a 6 .d .n) .n) .n) .n) .n)) (.a 5 (.a 1 (.a 2 (.a 3 (.a 4 (.a 6 .d .n) .n) .n) .n) .n) .n)) (.a 1 (.a 0 (.a 2 (.a 3 (.a 4 (.a 5 (.a 6 .d .n) .n) (.a 5 (.a 4 (.a 6 .d .n) .n) .n)) (.a 5 (.a 3 (.a 4 (.a 6 .d .n) .n) .n) .n)) (.a 5 (.a 2 (.a 3 (.a 4 (.a 6 .d .n) .n) .n) .n) .n)) (.a 2 (.a 0 (.a 3 (.a 4 (.a 5 (.a 6 .d .n) .n) (.a 5 (.a 4 (.a 6 .d .n) .n) .n)) (.a 5 (.a 3 (.a 4 (.a 6 .d .n) .n) .n) .n)) (.a 3 (.a 0 (.a 4 (.a 5 (.a 6 .d .n) .n) (.a 5 (.a 4 (.a 6 .d .n) .n) .n)) (.a 4 (.a 0 (.a 5 (.a 6 .d .n) .n) .n) .n)) .n)) .n)) .n)))] Tryz.func91 rfl rfl (by kernel_rfl) fun C _=>?_
      simp(maxSteps:=999999) (disch:=omega) only[go_sem,Nat.reduceBEq,reduceAdd,f1,f2,f4,f7,e3,and_self]
      exact⟨_,_,_,_,_,_,_,rfl,Cn.nul _⟩
theorem qv {h0 h:PH} [Le h0 h] {v:Value} {x:Rat} {fn:Int} (hx:Rv h0 v x) (hf:1≤fn∧fn≤8):Spec mach 37 #[.int .i64 fn,v] h (fun r h'=>∃b na nl nc da dl dc,r=.tuple #[.agg #[.bool b,.slice na nl nc,.slice da dl dc],.int .i64 0]∧Cn h' (.agg #[.bool b,.slice na nl nc,.slice da dl dc]) x) NP:=by
  have kC:=fun {h} [Le h0 h]=>iW (h:=h) hx
  obtain⟨_,_,_,_,_,_,_,rfl,_⟩:=hx.sa
  refine Spec.go [] Tryz.func37 rfl rfl (by kernel_rfl) fun C _=>?_
  simp(maxSteps:=999999) (disch:=omega) only[go_sem,Nat.reduceBEq,reduceAdd]
  refine caN (by exact kC) ?_;rintro v1 h1 s1 ⟨_,_,_,_,_,_,_,rfl,c⟩
  simp(maxSteps:=999999) (disch:=omega) only[go_sem,Nat.reduceBEq,reduceAdd]
  exact⟨_,_,_,_,_,_,_,rfl,c⟩
theorem oO {h0 h:PH} [Le h0 h] {v:Value} {x:Rat} {fn:Int} (hx:Rv h0 v x) (hf:¬(1≤fn∧fn≤8)):Spec mach 37 #[.int .i64 fn,v] h (fun r _=>r=.tuple #[.agg #[.bool false,.slice none 0 0,.slice none 0 0],.int .i64 2]) NP:=by
  have kC:=fun {h} [Le h0 h]=>iW (h:=h) hx
  obtain⟨_,_,_,_,_,_,_,rfl,_⟩:=hx.sa
  rcases Int.lt_or_le fn 1 with h1 |h1
  all_goals
    refine Spec.go [] Tryz.func37 rfl rfl (by kernel_rfl) fun C _=>?_
    simp(maxSteps:=999999) (disch:=omega) only[go_sem,Nat.reduceBEq,reduceAdd]
    refine caN (by exact kC) ?_;rintro v1 h1 s1 ⟨_,_,_,_,_,_,_,rfl,c⟩
    simp(maxSteps:=999999) (disch:=omega) only[go_sem,Nat.reduceBEq,reduceAdd]
    all_goals omega
theorem qu {h0 h:PH} [Le h0 h] {v:Value} {neg:Bool} {n d:Nat} {fn:Int} (hv:Rw h0 v neg n d) (hl:lg neg n d):Spec mach 37 #[.int .i64 fn,v] h (fun r _=>r=.tuple #[.agg #[.bool false,.slice none 0 0,.slice none 0 0],.int .i64 1]) NP:=by
  have kC:=fun {h} [Le h0 h]=>gX (h:=h) hv hl
  obtain⟨_,_,_,_,_,_,_,rfl,_⟩:=hv.sa
  refine Spec.go [] Tryz.func37 rfl rfl (by kernel_rfl) fun C _=>?_
  simp(maxSteps:=999999) (disch:=omega) only[go_sem,Nat.reduceBEq,reduceAdd]
  refine caN (by exact kC) ?_;rintro v1 h1 s1 rfl
  simp(maxSteps:=999999) (disch:=omega) only[go_sem,Nat.reduceBEq,reduceAdd]
  all_goals omega
end Go.Q
namespace Go.Q
open Go.Proofs
set_option maxRecDepth 100000
set_option maxHeartbeats 8000000
def eLo (w y:Nat):Nat→Nat
  |0=>2^w
  |k+1=>2^w+y*eLo w y k / 2^(w+8) / (40 - k)
def eHi (w y:Nat):Nat→Nat
  |0=>2^w*2^1
  |k+1=>2^w+cdiv (cdiv (y*eHi w y k) (2^(w+8))) (40 - k)
def qLo (w a:Nat):Nat→Nat
  |0=>a
  |k+1=>qLo w a k*qLo w a k / 2^w
def qHi (w a:Nat):Nat→Nat
  |0=>a
  |k+1=>cdiv (qHi w a k*qHi w a k) (2^w)
theorem eLo_0 (w y:Nat):eLo w y 0=2^w:=rfl
theorem eLo_s (w y k:Nat):eLo w y (k+1)=2^w+y*eLo w y k / 2^(w+8) / (40 - k):=rfl
theorem eHi_0 (w y:Nat):eHi w y 0=2^w*2^1:=rfl
theorem eHi_s (w y k:Nat):eHi w y (k+1)=2^w+cdiv (cdiv (y*eHi w y k) (2^(w+8))) (40 - k):=rfl
theorem qLo_0 (w a:Nat):qLo w a 0=a:=rfl
theorem qLo_s (w a k:Nat):qLo w a (k+1)=qLo w a k*qLo w a k / 2^w:=rfl
theorem qHi_0 (w a:Nat):qHi w a 0=a:=rfl
theorem qHi_s (w a k:Nat):qHi w a (k+1)=cdiv (qHi w a k*qHi w a k) (2^w):=rfl
theorem bl_qLo (w a k:Nat):bl (qLo w a k)≤2^k*(bl a+1):=by
  induction k with
  |zero=>show bl a≤_;omega
  | succ k ih=>
    have h1:=aZ (qLo w a k*qLo w a k) (2^w)
    have h2:=aG (qLo w a k) (qLo w a k)
    rw[Nat.pow_succ]
    show bl (qLo w a k*qLo w a k / 2^w)≤_
    have:2^k*2*(bl a+1)=2*(2^k*(bl a+1)):=by rw[Nat.mul_comm (2^k) 2,Nat.mul_assoc]
    omega
theorem bl_qHi (w a k:Nat):bl (qHi w a k)+1≤2^k*(bl a+1):=by
  induction k with
  |zero=>show bl a+1≤_;omega
  | succ k ih=>
    have h1:=fy (qHi w a k*qHi w a k) (am w)
    have h2:=aG (qHi w a k) (qHi w a k)
    rw[Nat.pow_succ]
    show bl (cdiv (qHi w a k*qHi w a k) (2^w))+1≤_
    have:2^k*2*(bl a+1)=2*(2^k*(bl a+1)):=by rw[Nat.mul_comm (2^k) 2,Nat.mul_assoc]
    omega
theorem dX {h0 h:PH} [Le h0 h] {v:Value} {x:Rat} (hx:Cn h0 v x):Spec mach 140 #[v] h (fun v _=>v=.bool (decide (1024 < sz x))) NP:=by
  have kW:=fun {h} [Le h0 h]=>jg (h:=h) hx
  obtain⟨na,nl,nc,da,dl,dc,rfl,hn,hd,e1,e2⟩:=hx.parts
  have kO:=fun {h} [Le h0 h]=>rH (h:=h) hn
  have e3:decide ((if (bl x.den:Int) > (bl x.num.natAbs:Int) then (bl x.den:Int) else (bl x.num.natAbs:Int)) > 1024)=decide (1024 < sz x):=by
    unfold sz
    split<;>congr 1<;>simp only[eq_iff_iff]<;>omega
  refine Spec.go [(1,.o [0,1,4,2,3,5,6,7,8,9])] Tryz.func140 rfl rfl (by kernel_rfl) fun C _=>?_
  try simp(disch:=omega) only[go_sem,Nat.reduceBEq,reduceAdd]
  refine caN (by exact kO) ?_;rintro _ g1 _ q1;obtain⟨_,_,_,rfl,q1⟩:=q1.sl
  try simp(disch:=omega) only[go_sem,Nat.reduceBEq,reduceAdd]
  refine caN (by exact mG q1) ?_;rintro v2 h2 s2 rfl
  try simp(disch:=omega) only[go_sem,Nat.reduceBEq,reduceAdd]
  refine caN (by exact kW) ?_;rintro _ g3 _ q3;obtain⟨v3,_,_,rfl,q3⟩:=q3.sl
  try simp(disch:=omega) only[go_sem,Nat.reduceBEq,reduceAdd]
  refine caN (by exact mG q3) ?_;rintro v4 h4 s4 rfl
  try simp(disch:=omega) only[go_sem,Nat.reduceBEq,reduceAdd,e3]
theorem fY {h0 h:PH} [Le h0 h] {v:Value} {x:Rat} {n:Nat} (hx:Cn h0 v x) (bx:sz x≤2^20) (hn:n < 2^64):Spec mach 87 #[v,.int .u64 n] h (fun v _=>v=.bool (decide (x.den*n < x.num.natAbs))) NP:=by
  have b2:=bB x
  have b3:bl n≤64:=bl_le.2 hn
  have kW:=fun {h} [Le h0 h]=>jg (h:=h) hx
  obtain⟨na,nl,nc,da,dl,dc,rfl,hn',hd,e1,e2⟩:=hx.parts
  have kO:=fun {h} [Le h0 h]=>rH (h:=h) hn'
  have e3:decide (cmp3 x.num.natAbs (x.den*n) > 0)=decide (x.den*n < x.num.natAbs):=by unfold cmp3;grind
  refine Spec.go [(1,.o [0,1,3,5,2,4,6,7,8,9,10])] Tryz.func87 rfl rfl (by kernel_rfl) fun C _=>?_
  try simp(disch:=omega) only[go_sem,Nat.reduceBEq,reduceAdd]
  refine caN (by exact kO) ?_;rintro _ g1 _ q1;obtain⟨_,_,_,rfl,q1⟩:=q1.sl
  try simp(disch:=omega) only[go_sem,Nat.reduceBEq,reduceAdd]
  refine caN (by exact kW) ?_;rintro _ g2 _ q2;obtain⟨v2,_,_,rfl,q2⟩:=q2.sl
  try simp(disch:=omega) only[go_sem,Nat.reduceBEq,reduceAdd]
  refine caN (by exact aw (n:=n) hn) ?_;rintro _ g3 _ q3;obtain⟨v3,_,_,rfl,q3⟩:=q3.sl
  try simp(disch:=omega) only[go_sem,Nat.reduceBEq,reduceAdd]
  refine caN (by exact aI (q2.to (h':=g3)) q3 (by omega) (by omega)) ?_;rintro _ g4 _ q4;obtain⟨v4,_,_,rfl,q4⟩:=q4.sl
  try simp(disch:=omega) only[go_sem,Nat.reduceBEq,reduceAdd]
  refine caN (by exact fO (q1.to (h':=g4)) q4) ?_;rintro v5 h5 s5 rfl
  try simp(disch:=omega) only[go_sem,Nat.reduceBEq,reduceAdd,e3]
end Go.Q
