/-
  Rational numbers of package word, and what stands on it. Conditions: each theorem's own.
-/
import Derived.Test.YtgmcchhklbeckaaGreatDoorKf08e96PkG
import Derived.Test.YtgmcchhklbeckaaGreatDoorK28f1e4PkH
import Derived.Test.YtgmcchhklbeckaaGreatDoorK0ef115PkD
set_option linter.unusedVariables false
set_option linter.unusedSimpArgs false
open Nat renaming reduceBEq→ξ,reduceAdd→ζ,le_trans→χ,le_refl→η,mul_comm→ρ,pos_of_ne_zero→τ,mul_le_mul_left→ω,mul_assoc→σ,pow_succ→qAn,pow_pos→qAo,pow_add→qAs,pow_le_pow_right→qAv,mul_one→qAz,mul_ne_zero→qBe,mul_left_comm→qBg,lt_or_ge→qBj,mod_lt→qBl,one_mul→qBm
open Bool renaming and_eq_true→φ,false_eq_true→qAw
open Rat renaming div_def→qAx,mkRat_eq_div→qBb
open List renaming getD_eq_getElem?_getD→qAy
namespace Go.Q
open Go.Proofs
set_option maxRecDepth 100000
def sgn (neg:Bool) (n d:Nat):Rat:=mkRat (if neg then -(n:Int) else n) d
theorem ov (neg:Bool) (d:Nat):sgn neg 0 d=0:=by cases neg<;>simp[sgn]
theorem BK {neg:Bool} {n d n' d':Nat} (hd:d≠0) (hd':d'≠0) (h:n*d'=n'*d):sgn neg n d=sgn neg n' d':=by
 unfold sgn
 rw[Rat.mkRat_eq_iff hd hd']
 have:(n:Int)*d'=n'*d:=by exact_mod_cast h
 cases neg<;>simp[this,Int.neg_mul]
theorem rf {neg:Bool} {n d:Nat} (hd:d≠0) (hc:Nat.gcd n d=1):(sgn neg n d).num=(if neg then -(n:Int) else n)∧(sgn neg n d).den=d:=by
 unfold sgn
 have hc':(if neg then -(n:Int) else (n:Int)).natAbs.Coprime d:=by cases neg<;>simpa using hc
 rw[←Rat.mk_eq_mkRat _ _ hd hc']
 exact⟨rfl,rfl⟩
theorem N32.sl {h:PH} {v:Value} {n:Nat} (r:N32 h v n):∃a l c,v=.slice a l c∧N32 h (.slice a l c) n:=by
 obtain⟨a,c,h1,h2⟩:=r;exact⟨a,_,c,h1,a,c,rfl,h2⟩
def Fr (h:PH) (v:Value) (x:Rat):Prop:=∃sn sd,v=.agg #[.bool (decide (x.num < 0)),sn,sd]∧N32 h sn x.num.natAbs∧N32 h sd x.den
theorem Fr.to {h h':PH} {v:Value} {x:Rat} (r:Fr h v x) [Le h h']:Fr h' v x:=let ⟨a,b,h1,h2,h3⟩:=r;⟨a,b,h1,h2.to,h3.to⟩
theorem Fr.of {h:PH} {neg:Bool} {n d:Nat} {sn sd:Value} {x:Rat} (hn:N32 h sn n) (hd:N32 h sd d) (h0:n≠0) (hd0:d≠0) (hc:Nat.gcd n d=1) (hx:x=sgn neg n d):Fr h (.agg #[.bool neg,sn,sd]) x:=by
 obtain⟨h1,h2⟩:=rf (neg:=neg) hd0 hc
 rw[←hx] at h1 h2
 refine⟨sn,sd,?_,?_,by rw[h2];exact hd⟩
 ·have:decide (x.num < 0)=neg:=by rw[h1];cases neg<;>simp<;>omega
  rw[this]
 ·have:x.num.natAbs=n:=by rw[h1];cases neg<;>simp
  rw[this];exact hn
theorem Fr.zero {h:PH} {sd:Value} (hd:N32 h sd 1):Fr h (.agg #[.bool false,.slice none 0 0,sd]) 0:=⟨.slice none 0 0,sd,by simp,by simpa using N32.zero h,hd⟩
theorem BZ (n:Nat):2^tw n∣n:=by
 by_cases h:n=0
 ·subst h;exact Nat.dvd_zero _
 ·obtain⟨m,hm⟩:=pz n h;exact⟨_,hm⟩
theorem yJ {n:Nat} (h:n≠0):tw n < bl n:=by
 rcases qBj (tw n) (bl n) with h' |h'
 ·exact h'
 ·have h1:=bl_le.1 h'
  have:=Nat.le_of_dvd (by omega) (BZ n)
  omega
theorem F8 {n k:Nat} (h:n≠0) (hk:tw n=k):n / 2^k % 2=1:=by
 obtain⟨m,hm⟩:=pz n h
 rw[hk] at hm
 have:n / 2^k=2*m+1:=by rw[hm];exact Nat.mul_div_cancel_left _ (qAo (by decide))
 omega
theorem red_two {n d k:Nat} (hn:n≠0) (hd:d≠0) (hk:k=min (tw n) (tw d)):n / 2^k≠0∧d / 2^k≠0∧n*(d / 2^k)=n / 2^k*d∧(n / 2^k % 2=1∨d / 2^k % 2=1):=by
 have h1:2^k∣n:=Nat.dvd_trans (Nat.pow_dvd_pow 2 (by omega)) (BZ n)
 have h2:2^k∣d:=Nat.dvd_trans (Nat.pow_dvd_pow 2 (by omega)) (BZ d)
 have hp:0 < 2^k:=qAo (by decide)
 obtain⟨a,ha⟩:=h1
 obtain⟨b,hb⟩:=h2
 have ea:n / 2^k=a:=by rw[ha];exact Nat.mul_div_cancel_left _ hp
 have eb:d / 2^k=b:=by rw[hb];exact Nat.mul_div_cancel_left _ hp
 refine⟨?_,?_,?_,?_⟩
 ·rw[ea];rintro rfl;omega
 ·rw[eb];rintro rfl;omega
 ·rw[ea,eb];conv=>lhs;rw[ha]
  conv=>rhs;rw[hb]
  rw[σ,qBg]
 ·rcases Nat.le_total (tw n) (tw d) with h |h
  ·exact .inl (F8 hn (by omega))
  ·exact .inr (F8 hd (by omega))
theorem red_pow {n d:Nat} (hd:d≠0) (ho:n % 2=1∨d % 2=1) (ht:tw d+1=bl d):Nat.gcd n d=1:=by
 obtain⟨m,hm⟩:=pz d hd
 have h1:=bl_le.1 (η (bl d))
 rw[←ht,qAn] at h1
 have hm0:m=0:=by
  rcases Nat.eq_zero_or_pos m with h |h
  ·exact h
  ·have:2^tw d*3≤2^tw d*(2*m+1):=ω _ (by omega)
   have hp:0 < 2^tw d:=qAo (by decide)
   omega
 subst hm0
 simp only[Nat.mul_zero,Nat.zero_add,qAz] at hm
 rcases Nat.eq_zero_or_pos (tw d) with h |h
 ·rw[h] at hm;rw[hm];simp
 ·have hdv:d % 2=0:=by rw[hm,show tw d=(tw d - 1)+1 by omega,qAn];omega
  have hn:n % 2=1:=by omega
  rw[hm]
  refine Nat.Coprime.pow_right _ ?_
  rw[Nat.Coprime,Nat.gcd_comm,Nat.gcd_rec,hn];rfl
theorem HO {n d : Nat} (hn : n ≠ 0) (hd :d≠0):n / Nat.gcd n d≠0∧d / Nat.gcd n d≠0∧n*(d / Nat.gcd n d)=n / Nat.gcd n d*d∧Nat.gcd (n / Nat.gcd n d) (d / Nat.gcd n d)=1:=by
  have hg:0 < Nat.gcd n d:=Nat.gcd_pos_of_pos_left _ (by omega)
  obtain⟨a,ha⟩:=Nat.gcd_dvd_left n d
  obtain⟨b,hb⟩:=Nat.gcd_dvd_right n d
  refine⟨?_,?_,?_,Nat.gcd_div_gcd_div_gcd_of_pos_left (by omega)⟩
  · have:=Nat.div_pos (Nat.gcd_le_left d (by omega:0 < n)) hg;omega
  · have:=Nat.div_pos (Nat.gcd_le_right n (by omega:0 < d)) hg;omega
  · have ea : n / Nat.gcd n d = a := by conv=>lhs;lhs;rw[ha]
                                        exact Nat.mul_div_cancel_left _ hg
    have eb : d / Nat.gcd n d = b := by conv=>lhs;lhs;rw[hb]
                                        exact Nat.mul_div_cancel_left _ hg
    rw[ea,eb];conv=>lhs;lhs;rw[ha]
    conv=>rhs;rhs;rw[hb]
    rw[σ,qBg]
theorem bW {h0 h:PH} [Le h0 h] {neg:Bool} {v w:Value} {n d:Nat} (hv:N32 h0 v n) (hw:N32 h0 w d) (hd:d≠0) (bn:bl n≤2^39) (bd:bl d≤2^39):
  Spec mach 119 #[.bool neg,v,w] h (fun v h'=>Fr h' v (sgn neg n d)) NP:=by
 obtain⟨va,vl,vc,rfl,hv⟩:=hv.sl
 obtain⟨wa,wl,wc,rfl,hw⟩:=hw.sl
 refine Spec.enter (args:=[_,_,_]) (n:=54) Tryz.func119 rfl (by kernel_rfl) rfl (by simp) [.cell 6 89] rfl (fun C _=>?_)
 by_cases hn:n=0
 ·subst hn
  rw[ov]
  repeat (first |(refine wo rfl (fun k hk=>?_);simp(disch:=omega) only[go_sem,ξ,ζ];apply hk;clear hk k) |refine wkt rfl ?_ |refine wk0 ?_ |refine rg rfl rfl (fun K hK=>?_) |((first |refine ae ?_ |refine ac ?_);simp(disch:=decide) only[qs,qb,if_true,if_false,reduceIte]) |refine ah rfl (fun K hK=>?_) |refine ct rfl ?_ |((try simp(disch:=omega) only[go_sem,ξ,ζ]);(first |apply hK |(clear hK;apply hK) |(clear hK;clear hK;apply hK));clear hK;(try clear K);(try dsimp only[ag,qs,qb])))
  refine cN rfl rfl rfl rfl (by exact bU hv) ?_;rintro v1 h1 s1 hz;obtain rfl:v1=.bool true:=hz
  repeat (first |(refine wo rfl (fun k hk=>?_);simp(disch:=omega) only[go_sem,ξ,ζ];apply hk;clear hk k) |refine wkt rfl ?_ |refine wk0 ?_ |refine rg rfl rfl (fun K hK=>?_) |((first |refine ae ?_ |refine ac ?_);simp(disch:=decide) only[qs,qb,if_true,if_false,reduceIte]) |refine ah rfl (fun K hK=>?_) |refine ct rfl ?_ |((try simp(disch:=omega) only[go_sem,ξ,ζ]);(first |apply hK |(clear hK;apply hK) |(clear hK;clear hK;apply hK));clear hK;(try clear K);(try dsimp only[ag,qs,qb])))
  refine cN rfl rfl rfl rfl (by exact aw (n:=1) (by decide)) ?_;rintro v2 h2 _ h2';obtain⟨v2,v2_l,v2_c,rfl,h2'⟩:=h2'.sl;(repeat (first |(refine wo rfl (fun k hk=>?_);simp(disch:=omega) only[go_sem,ξ,ζ];apply hk;clear hk k) |refine wkt rfl ?_));(try refine wk0 ?_)
  (try (simp(disch:=omega) only[go_sem,ξ,ζ]));apply hK;clear hK;(try clear K);(try dsimp only[ag,qs])
  refine ai ?_;simp(disch:=omega) only[go_sem,ξ,ζ]
  exact Fr.zero h2'
 ·obtain⟨e,he⟩:∃e,min (tw n) (tw d)=e:=⟨_,rfl⟩
  obtain⟨n1,hn1⟩:∃x,n / 2^e=x:=⟨_,rfl⟩
  obtain⟨d1,hd1⟩:∃x,d / 2^e=x:=⟨_,rfl⟩
  have hr:=red_two hn hd he.symm
  rw[hn1,hd1] at hr
  obtain⟨hn1',hd1',hnd,hodd⟩:=hr
  have hk1:=yJ hn
  have hk2:=yJ hd
  have hk3:=yJ hd1'
  have hmin:(if ((tw d:Nat):Int) < ((tw n:Nat):Int) then ((tw d:Nat):Int) else ((tw n:Nat):Int))=(e:Nat):=by split<;>omega
  have b1:bl n1≤2^39:=χ (aR (by rw[←hn1];exact Nat.div_le_self _ _)) bn
  have b2:bl d1≤2^39:=χ (aR (by rw[←hd1];exact Nat.div_le_self _ _)) bd
  have hsg:=BK (neg:=neg) hd hd1' hnd
  repeat (first |(refine wo rfl (fun k hk=>?_);simp(disch:=omega) only[go_sem,ξ,ζ];apply hk;clear hk k) |refine wkt rfl ?_ |refine wk0 ?_ |refine rg rfl rfl (fun K hK=>?_) |((first |refine ae ?_ |refine ac ?_);simp(disch:=decide) only[qs,qb,if_true,if_false,reduceIte]) |refine ah rfl (fun K hK=>?_) |refine ct rfl ?_ |((try simp(disch:=omega) only[go_sem,ξ,ζ]);(first |apply hK |(clear hK;apply hK) |(clear hK;clear hK;apply hK));clear hK;(try clear K);(try dsimp only[ag,qs,qb])))
  refine cN rfl rfl rfl rfl (by exact bU hv) ?_;rintro v1 h1 s1 rfl
  repeat (first |(refine wo rfl (fun k hk=>?_);simp(disch:=omega) only[go_sem,ξ,ζ];apply hk;clear hk k) |refine wkt rfl ?_ |refine wk0 ?_ |refine rg rfl rfl (fun K hK=>?_) |((first |refine ae ?_ |refine ac ?_);simp(disch:=decide) only[qs,qb,if_true,if_false,reduceIte]) |refine ah rfl (fun K hK=>?_) |refine ct rfl ?_ |((try simp(disch:=omega) only[go_sem,ξ,ζ]);(first |apply hK |(clear hK;apply hK) |(clear hK;clear hK;apply hK));clear hK;(try clear K);(try dsimp only[ag,qs,qb])))
  refine cN rfl rfl rfl rfl (by exact qC hv) ?_;rintro v2 h2 s2 rfl;(repeat (first |(refine wo rfl (fun k hk=>?_);simp(disch:=omega) only[go_sem,ξ,ζ];apply hk;clear hk k) |refine wkt rfl ?_));(try refine wk0 ?_)
  refine cN rfl rfl rfl rfl (by exact qC hw) ?_;rintro v3 h3 s3 rfl;(repeat (first |(refine wo rfl (fun k hk=>?_);simp(disch:=omega) only[go_sem,ξ,ζ];apply hk;clear hk k) |refine wkt rfl ?_));(try refine wk0 ?_)
  simp only[hmin]
  (try (simp(disch:=omega) only[go_sem,ξ,ζ]));apply hK;clear hK;(try clear K);(try dsimp only[ag,qs])
  have rest:∀(v w:Value) (S:AS) (h:PH),N32 h v n1→N32 h w d1→S.le ⟨[(0,.v (.bool neg)),(1,.v v),(2,.v w),(6,.p 0 0)],[[.bool false,.slice none 0 0,.slice none 0 0]]⟩→K S h:=by
   clear hv hw
   intro v w S h hv hw hS
   refine hK _ _ (fq _ hS ?_);clear hK K
   obtain⟨va,vl,vc,rfl,hv⟩:=hv.sl
   obtain⟨wa,wl,wc,rfl,hw⟩:=hw.sl
   refine oJ (fun K hK=>?_)
   refine rg rfl rfl (fun K hK=>?_);(repeat (first |(refine wo rfl (fun k hk=>?_);simp(disch:=omega) only[go_sem,ξ,ζ];apply hk;clear hk k) |refine wkt rfl ?_));(try refine wk0 ?_)
   refine cN rfl rfl rfl rfl (by exact qC hw) ?_;rintro v2 h2 s2 rfl;(repeat (first |(refine wo rfl (fun k hk=>?_);simp(disch:=omega) only[go_sem,ξ,ζ];apply hk;clear hk k) |refine wkt rfl ?_));(try refine wk0 ?_)
   refine cN rfl rfl rfl rfl (by exact mG hw) ?_;rintro v3 h3 s3 rfl;(repeat (first |(refine wo rfl (fun k hk=>?_);simp(disch:=omega) only[go_sem,ξ,ζ];apply hk;clear hk k) |refine wkt rfl ?_));(try refine wk0 ?_)
   by_cases hp:tw d1+1=bl d1
   ·repeat (first |(refine wo rfl (fun k hk=>?_);simp(disch:=omega) only[go_sem,ξ,ζ];apply hk;clear hk k) |refine wkt rfl ?_ |refine wk0 ?_ |refine rg rfl rfl (fun K hK=>?_) |((first |refine ae ?_ |refine ac ?_);simp(disch:=decide) only[qs,qb,if_true,if_false,reduceIte]) |refine ah rfl (fun K hK=>?_) |refine ct rfl ?_ |((try simp(disch:=omega) only[go_sem,ξ,ζ]);(first |apply hK |(clear hK;apply hK) |(clear hK;clear hK;apply hK));clear hK;(try clear K);(try dsimp only[ag,qs,qb])))
    refine ai ?_;simp(disch:=omega) only[go_sem,ξ,ζ]
    exact Fr.of hv.to hw.to hn1' hd1' (red_pow hd1' hodd hp) hsg
   ·have hg:=HO hn1' hd1'
    obtain⟨hg1,hg2,hg3,hg4⟩:=hg
    have hg0:0 < Nat.gcd n1 d1:=Nat.gcd_pos_of_pos_left _ (by omega)
    have b3:bl (Nat.gcd n1 d1)≤2^39:=χ (aR (Nat.gcd_le_left d1 (by omega))) b1
    have hsg2:=BK (neg:=neg) hd1' hg2 hg3
    repeat (first |(refine wo rfl (fun k hk=>?_);simp(disch:=omega) only[go_sem,ξ,ζ];apply hk;clear hk k) |refine wkt rfl ?_ |refine wk0 ?_ |refine rg rfl rfl (fun K hK=>?_) |((first |refine ae ?_ |refine ac ?_);simp(disch:=decide) only[qs,qb,if_true,if_false,reduceIte]) |refine ah rfl (fun K hK=>?_) |refine ct rfl ?_ |((try simp(disch:=omega) only[go_sem,ξ,ζ]);(first |apply hK |(clear hK;apply hK) |(clear hK;clear hK;apply hK));clear hK;(try clear K);(try dsimp only[ag,qs,qb])))
    refine cN rfl rfl rfl rfl (by exact GCD_spec hv hw b1 b2) ?_;rintro v4 h4 _ hg';obtain⟨v4,v4_l,v4_c,rfl,hg'⟩:=hg'.sl;(repeat (first |(refine wo rfl (fun k hk=>?_);simp(disch:=omega) only[go_sem,ξ,ζ];apply hk;clear hk k) |refine wkt rfl ?_));(try refine wk0 ?_)
    (try (simp(disch:=omega) only[go_sem,ξ,ζ]));apply hK;clear hK;(try clear K);(try dsimp only[ag,qs])
    refine rg rfl rfl (fun K hK=>?_);(repeat (first |(refine wo rfl (fun k hk=>?_);simp(disch:=omega) only[go_sem,ξ,ζ];apply hk;clear hk k) |refine wkt rfl ?_));(try refine wk0 ?_)
    refine cN rfl rfl rfl rfl (by exact wY hg') ?_;rintro v5 h5 s5 rfl;(repeat (first |(refine wo rfl (fun k hk=>?_);simp(disch:=omega) only[go_sem,ξ,ζ];apply hk;clear hk k) |refine wkt rfl ?_));(try refine wk0 ?_)
    by_cases h1:Nat.gcd n1 d1=1
    ·repeat (first |(refine wo rfl (fun k hk=>?_);simp(disch:=omega) only[go_sem,ξ,ζ];apply hk;clear hk k) |refine wkt rfl ?_ |refine wk0 ?_ |refine rg rfl rfl (fun K hK=>?_) |((first |refine ae ?_ |refine ac ?_);simp(disch:=decide) only[qs,qb,if_true,if_false,reduceIte]) |refine ah rfl (fun K hK=>?_) |refine ct rfl ?_ |((try simp(disch:=omega) only[go_sem,ξ,ζ]);(first |apply hK |(clear hK;apply hK) |(clear hK;clear hK;apply hK));clear hK;(try clear K);(try dsimp only[ag,qs,qb])))
     refine ai ?_;simp(disch:=omega) only[go_sem,ξ,ζ]
     exact Fr.of hv.to hw.to hn1' hd1' h1 hsg
    ·repeat (first |(refine wo rfl (fun k hk=>?_);simp(disch:=omega) only[go_sem,ξ,ζ];apply hk;clear hk k) |refine wkt rfl ?_ |refine wk0 ?_ |refine rg rfl rfl (fun K hK=>?_) |((first |refine ae ?_ |refine ac ?_);simp(disch:=decide) only[qs,qb,if_true,if_false,reduceIte]) |refine ah rfl (fun K hK=>?_) |refine ct rfl ?_ |((try simp(disch:=omega) only[go_sem,ξ,ζ]);(first |apply hK |(clear hK;apply hK) |(clear hK;clear hK;apply hK));clear hK;(try clear K);(try dsimp only[ag,qs,qb])))
     refine cN rfl rfl rfl rfl (by exact gU (hv.to (h':=h4)) hg' (by omega) b1 b3) ?_;rintro v6 h6 s6 ⟨q1,r1,rfl,hq1,hr1⟩;(repeat (first |(refine wo rfl (fun k hk=>?_);simp(disch:=omega) only[go_sem,ξ,ζ];apply hk;clear hk k) |refine wkt rfl ?_));(try refine wk0 ?_)
     obtain⟨qa,ql,qc,rfl,hq1⟩:=hq1.sl
     (try (simp(disch:=omega) only[go_sem,ξ,ζ]));apply hK;clear hK;(try clear K);(try dsimp only[ag,qs])
     refine rg rfl rfl (fun K hK=>?_);(repeat (first |(refine wo rfl (fun k hk=>?_);simp(disch:=omega) only[go_sem,ξ,ζ];apply hk;clear hk k) |refine wkt rfl ?_));(try refine wk0 ?_)
     refine cN rfl rfl rfl rfl (by exact gU (hw.to (h':=h4)) hg' (by omega) b2 b3) ?_;rintro v7 h7 s7 ⟨q2,r2,rfl,hq2,hr2⟩;(repeat (first |(refine wo rfl (fun k hk=>?_);simp(disch:=omega) only[go_sem,ξ,ζ];apply hk;clear hk k) |refine wkt rfl ?_));(try refine wk0 ?_)
     obtain⟨qa',ql',qc',rfl,hq2⟩:=hq2.sl
     repeat (first |(refine wo rfl (fun k hk=>?_);simp(disch:=omega) only[go_sem,ξ,ζ];apply hk;clear hk k) |refine wkt rfl ?_ |refine wk0 ?_ |refine rg rfl rfl (fun K hK=>?_) |((first |refine ae ?_ |refine ac ?_);simp(disch:=decide) only[qs,qb,if_true,if_false,reduceIte]) |refine ah rfl (fun K hK=>?_) |refine ct rfl ?_ |((try simp(disch:=omega) only[go_sem,ξ,ζ]);(first |apply hK |(clear hK;apply hK) |(clear hK;clear hK;apply hK));clear hK;(try clear K);(try dsimp only[ag,qs,qb])))
     refine ai ?_;simp(disch:=omega) only[go_sem,ξ,ζ]
     exact Fr.of hq1.to hq2.to hg1 hg2 hg4 (hsg.trans hsg2)
  repeat (first |(refine rg rfl rfl (fun K hK=>?_);(repeat (first |(refine wo rfl (fun k hk=>?_);simp(disch:=omega) only[go_sem,ξ,ζ];apply hk;clear hk k) |refine wkt rfl ?_));(try refine wk0 ?_);apply hK;clear hK K;(try dsimp only[ag,qs,qb])) |((first |refine ae ?_ |refine ac ?_);simp(disch:=decide) only[qs,qb,if_true,if_false,reduceIte]) |refine ah rfl (fun K hK=>?_) |refine ct rfl ?_ |((first |refine hK _ _ ?_ |(clear hK;refine hK _ _ ?_) |(clear hK;clear hK;refine hK _ _ ?_));clear hK;(try clear K)))
  refine mP rfl (fun ht=>?_) (fun ht=>?_)
  ·have:=of_decide_eq_true ht
   refine rg rfl rfl (fun K hK=>?_);(repeat (first |(refine wo rfl (fun k hk=>?_);simp(disch:=omega) only[go_sem,ξ,ζ];apply hk;clear hk k) |refine wkt rfl ?_));(try refine wk0 ?_)
   refine cN rfl rfl rfl rfl (by exact gD (n:=e) hv (by omega) (by omega)) ?_;rintro v4 h4 _ hv4;obtain⟨v4,v4_l,v4_c,rfl,hv4⟩:=hv4.sl;(repeat (first |(refine wo rfl (fun k hk=>?_);simp(disch:=omega) only[go_sem,ξ,ζ];apply hk;clear hk k) |refine wkt rfl ?_));(try refine wk0 ?_)
   refine cN rfl rfl rfl rfl (by exact gD (n:=e) hw (by omega) (by omega)) ?_;rintro v5 h5 _ hw5;obtain⟨v5,v5_l,v5_c,rfl,hw5⟩:=hw5.sl;(repeat (first |(refine wo rfl (fun k hk=>?_);simp(disch:=omega) only[go_sem,ξ,ζ];apply hk;clear hk k) |refine wkt rfl ?_));(try refine wk0 ?_)
   (try (simp(disch:=omega) only[go_sem,ξ,ζ]));apply hK;clear hK;(try clear K);(try dsimp only[ag,qs])
   rw[hn1] at hv4
   rw[hd1] at hw5
   refine rest _ _ _ _ hv4.to hw5 ?_
   simp(disch:=omega) only[go_sem,ξ,ζ]
  ·have:=of_decide_eq_false ht
   have h0:e=0:=by omega
   have e1:n1=n:=by rw[←hn1,h0];simp
   have e2:d1=d:=by rw[←hd1,h0];simp
   refine ac ?_;simp only[qs,qb,if_true,if_false,reduceIte]
   refine rest _ _ _ _ (by rw[e1];exact hv.to) (by rw[e2];exact hw.to) ?_
   simp(disch:=omega) only[go_sem,ξ,ζ]
theorem aG (m n:Nat):bl (m*n)≤bl m+bl n:=by
 rw[bl_le,qAs]
 rcases Nat.eq_zero_or_pos m with h |h
 ·subst h;rw[Nat.zero_mul];exact Nat.mul_pos (qAo (by decide)) (qAo (by decide))
 ·exact Nat.mul_lt_mul_of_lt_of_le (bl_le.1 (η _)) (Nat.le_of_lt (bl_le.1 (η _))) (qAo (by decide))
theorem cY (m n:Nat):bl (m+n)≤max (bl m) (bl n)+1:=by
 rw[bl_le,qAn]
 have h1:=bl_le.1 (Nat.le_max_left (bl m) (bl n))
 have h2:=bl_le.1 (Nat.le_max_right (bl m) (bl n))
 omega
theorem cu (m k:Nat):bl (m*2^k)≤bl m+k:=by
 rw[bl_le,qAs]
 exact Nat.mul_lt_mul_of_pos_right (bl_le.1 (η _)) (qAo (by decide))
theorem aZ (m k:Nat):bl (m / k)≤bl m:=aR (Nat.div_le_self _ _)
theorem fI:bl 1=1:=by decide
theorem bC (k:Nat):bl (2^k)≤k+1:=by
 have:=cu 1 k
 rw[qBm,fI] at this;omega
def sz (x:Rat):Nat:=max (bl x.num.natAbs) (bl x.den)
theorem bG (x:Rat):bl x.num.natAbs≤sz x:=Nat.le_max_left _ _
theorem bB (x:Rat):bl x.den≤sz x:=Nat.le_max_right _ _
theorem dg (neg:Bool) (n:Nat) {d:Nat} (hd:d≠0):sz (sgn neg n d)≤max (bl n) (bl d):=by
 have h1:(sgn neg n d).num.natAbs≤n:=by
  unfold sgn
  rw[Rat.num_mkRat,if_neg hd]
  refine χ (Int.natAbs_ediv_le_natAbs _ _) ?_
  cases neg<;>simp
 have h2:(sgn neg n d).den≤d:=by
  unfold sgn
  rw[Rat.den_mkRat,if_neg hd]
  exact Nat.div_le_self _ _
 have h3:=aR h1
 have h4:=aR h2
 unfold sz
 omega
theorem DW (x:Rat):sgn (decide (x.num < 0)) x.num.natAbs x.den=x:=by
 unfold sgn
 have:(if decide (x.num < 0)=true then -(x.num.natAbs:Int) else (x.num.natAbs:Int))=x.num:=by
  by_cases h:x.num < 0
  ·simp only[h,decide_true,if_true];omega
  ·simp only[h,decide_false,qAw,if_false];omega
 rw[this,Rat.mkRat_self]
theorem DV {x y:Rat} {neg:Bool} (hx:decide (x.num < 0)=neg) (hy:decide (y.num < 0)=neg):sgn neg (x.num.natAbs*y.den+y.num.natAbs*x.den) (x.den*y.den)=x+y:=by
 rw[Rat.add_def']
 unfold sgn
 congr 1
 generalize x.num=a at*
 generalize y.num=b at*
 cases neg with
 | true=>
  simp only[decide_eq_true_eq] at hx hy
  obtain⟨m,rfl⟩:∃m:Nat,a= -(m:Int):=⟨a.natAbs,by omega⟩
  obtain⟨n,rfl⟩:∃n:Nat,b= -(n:Int):=⟨b.natAbs,by omega⟩
  simp[Int.neg_mul,Int.neg_add]
 | false=>
  simp only[decide_eq_false_iff_not] at hx hy
  obtain⟨m,rfl⟩:∃m:Nat,a=(m:Int):=⟨a.natAbs,by omega⟩
  obtain⟨n,rfl⟩:∃n:Nat,b=(n:Int):=⟨b.natAbs,by omega⟩
  simp
theorem tP {x y:Rat} {neg:Bool} (hx:decide (x.num < 0)=neg) (hy:decide (y.num < 0)=!neg) (hle:y.num.natAbs*x.den≤x.num.natAbs*y.den):sgn neg (x.num.natAbs*y.den - y.num.natAbs*x.den) (x.den*y.den)=x+y:=by
 rw[Rat.add_def']
 unfold sgn
 congr 1
 generalize x.num=a at*
 generalize y.num=b at*
 cases neg with
 | true=>
  simp only[decide_eq_true_eq,Bool.not_true,decide_eq_false_iff_not] at hx hy
  obtain⟨m,rfl⟩:∃m:Nat,a= -(m:Int):=⟨a.natAbs,by omega⟩
  obtain⟨n,rfl⟩:∃n:Nat,b=(n:Int):=⟨b.natAbs,by omega⟩
  simp only[Int.natAbs_neg,Int.natAbs_natCast] at hle ⊢
  rw[if_pos trivial,Int.ofNat_sub hle]
  simp[Int.neg_mul];omega
 | false=>
  simp only[decide_eq_true_eq,Bool.not_false,decide_eq_false_iff_not] at hx hy
  obtain⟨m,rfl⟩:∃m:Nat,a=(m:Int):=⟨a.natAbs,by omega⟩
  obtain⟨n,rfl⟩:∃n:Nat,b= -(n:Int):=⟨b.natAbs,by omega⟩
  simp only[Int.natAbs_neg,Int.natAbs_natCast] at hle ⊢
  rw[if_neg (by simp),Int.ofNat_sub hle]
  simp[Int.neg_mul];omega
theorem qZ (x y:Rat):sgn (!(decide (x.num < 0) == decide (y.num < 0))) (x.num.natAbs*y.num.natAbs) (x.den*y.den)=x*y:=by
 rw[Rat.mul_def']
 unfold sgn
 congr 1
 generalize x.num=a at*
 generalize y.num=b at*
 rcases Int.lt_or_le a 0 with h |h<;>rcases Int.lt_or_le b 0 with h' |h'
 ·obtain⟨m,rfl⟩:∃m:Nat,a= -(m:Int):=⟨a.natAbs,by omega⟩
  obtain⟨n,rfl⟩:∃n:Nat,b= -(n:Int):=⟨b.natAbs,by omega⟩
  rw[decide_eq_true h,decide_eq_true h'];simp[Int.neg_mul,Int.mul_neg]
 ·obtain⟨m,rfl⟩:∃m:Nat,a= -(m:Int):=⟨a.natAbs,by omega⟩
  obtain⟨n,rfl⟩:∃n:Nat,b=(n:Int):=⟨b.natAbs,by omega⟩
  rw[decide_eq_true h,decide_eq_false (Int.not_lt.2 h')];simp[Int.neg_mul]
 ·obtain⟨m,rfl⟩:∃m:Nat,a=(m:Int):=⟨a.natAbs,by omega⟩
  obtain⟨n,rfl⟩:∃n:Nat,b= -(n:Int):=⟨b.natAbs,by omega⟩
  rw[decide_eq_true h',decide_eq_false (Int.not_lt.2 h)];simp[Int.mul_neg]
 ·obtain⟨m,rfl⟩:∃m:Nat,a=(m:Int):=⟨a.natAbs,by omega⟩
  obtain⟨n,rfl⟩:∃n:Nat,b=(n:Int):=⟨b.natAbs,by omega⟩
  rw[decide_eq_false (Int.not_lt.2 h),decide_eq_false (Int.not_lt.2 h')];simp
theorem dA (x y:Rat):sz (x+y)≤sz x+sz y+1:=by
 have hx:=x.den_nz
 have hy:=y.den_nz
 have h1:x+y=sgn (decide (x.num*y.den+y.num*x.den < 0)) (x.num*y.den+y.num*x.den).natAbs (x.den*y.den):=by
  rw[Rat.add_def']
  unfold sgn
  congr 1
  by_cases h:x.num*y.den+y.num*x.den < 0
  ·simp only[h,decide_true,if_true];omega
  ·simp only[h,decide_false,qAw,if_false];omega
 rw[h1]
 refine χ (dg _ _ (qBe hx hy)) ?_
 have h2:(x.num*y.den+y.num*x.den).natAbs≤x.num.natAbs*y.den+y.num.natAbs*x.den:=by
  refine χ (Int.natAbs_add_le _ _) ?_
  rw[Int.natAbs_mul,Int.natAbs_mul,Int.natAbs_natCast,Int.natAbs_natCast]
  omega
 have h3:=aR h2
 have h4:=cY (x.num.natAbs*y.den) (y.num.natAbs*x.den)
 have h5:=aG x.num.natAbs y.den
 have h6:=aG y.num.natAbs x.den
 have h7:=aG x.den y.den
 have:=bG x;have:=bG y;have:=bB x;have:=bB y
 omega
theorem bV (x y:Rat):sz (x*y)≤sz x+sz y:=by
 have hx:=x.den_nz
 have hy:=y.den_nz
 rw[←qZ]
 refine χ (dg _ _ (qBe hx hy)) ?_
 have h5:=aG x.num.natAbs y.num.natAbs
 have h7:=aG x.den y.den
 have:=bG x;have:=bG y;have:=bB x;have:=bB y
 omega
theorem cz (x:Rat):sz (-x)=sz x:=by unfold sz;simp
theorem iQ (x:Rat):sz x⁻¹≤sz x:=by
 unfold sz
 rw[Rat.num_inv,Rat.den_inv,Int.natAbs_mul,Int.natAbs_natCast]
 by_cases h:x.num=0
 ·have h1:bl 1≤bl x.den:=aR (τ x.den_nz)
  rw[h,if_pos rfl]
  simp only[Int.sign_zero,Int.natAbs_zero,Nat.zero_mul]
  have:bl 0=0:=by decide
  omega
 ·rw[if_neg h,Int.natAbs_sign_of_ne_zero h,qBm];omega
def gup (x:Rat) (p:Nat):Rat:=((x*2^p).ceil:Rat) / 2^p
def gdown (x:Rat) (p:Nat):Rat:=((x*2^p).floor:Rat) / 2^p
theorem B4 (p:Nat):((2^p:Nat):Rat)=2^p:=by simp
theorem ol (n:Int) (p:Nat):mkRat n (2^p)=(n:Rat) / 2^p:=by
 rw[qBb,B4]
theorem tp:(1:Rat)⁻¹=1:=Rat.inv_eq_of_mul_eq_one (by simp)
theorem pW (n:Int) {d:Nat} (hd:d≠0):(mkRat n d).floor=n / d:=by
 apply Int.le_antisymm
 ·have h:((mkRat n d).floor:Rat)≤mkRat n d:=Rat.floor_le _
  have hp:(0:Rat) < d:=Rat.natCast_pos.2 (τ hd)
  rw[qBb] at h
  have h2:=mlr h (llt hp)
  rw[Rat.div_mul_cancel (Rat.ne_of_gt hp),←qBb] at h2
  have h3:(mkRat n d).floor*d≤n:=by exact_mod_cast h2
  exact(Int.le_ediv_iff_mul_le (by omega)).2 h3
 ·rw[Rat.le_floor_iff,qBb]
  have hp:(0:Rat) < d:=Rat.natCast_pos.2 (τ hd)
  refine lmm ?_ hp
  rw[Rat.div_mul_cancel (Rat.ne_of_gt hp)]
  have h3:n / d*d≤n:=Int.ediv_mul_le _ (by omega)
  exact_mod_cast h3
theorem xH (n:Int) {d:Nat} (hd:d≠0):(mkRat n d).ceil= -(-n / d):=by
 rw[Rat.ceil_eq_neg_floor_neg,Rat.neg_mkRat,pW _ hd]
theorem Fr.sl {h:PH} {v:Value} {x:Rat} (r:Fr h v x):∃na nl nc da dl dc,v=.agg #[.bool (decide (x.num < 0)),.slice na nl nc,.slice da dl dc]∧N32 h (.slice na nl nc) x.num.natAbs∧N32 h (.slice da dl dc) x.den:=by
 obtain⟨sn,sd,rfl,h2,h3⟩:=r
 obtain⟨na,nl,nc,rfl,h2⟩:=h2.sl
 obtain⟨da,dl,dc,rfl,h3⟩:=h3.sl
 exact⟨_,_,_,_,_,_,rfl,h2,h3⟩
theorem Fr.sa {h:PH} {v:Value} {x:Rat} (r:Fr h v x):∃b na nl nc da dl dc,v=.agg #[.bool b,.slice na nl nc,.slice da dl dc]∧Fr h (.agg #[.bool b,.slice na nl nc,.slice da dl dc]) x:=by
 obtain⟨_,_,_,_,_,_,rfl,_⟩:=r.sl
 exact⟨_,_,_,_,_,_,_,rfl,r⟩
structure Jk (h:PH) (neg:Bool) (sn sd:Value) (n d:Nat):Prop where
 num:N32 h sn n
 den:N32 h sd d
theorem Jk.to {h h':PH} {neg:Bool} {sn sd:Value} {n d:Nat} (r:Jk h neg sn sd n d) [Le h h']:Jk h' neg sn sd n d:=⟨r.num.to,r.den.to⟩
theorem xt {n k:Nat}:(W 4294967296 n).length≤k↔bl n≤32*k:=by
 rw[bl_le,B_pow]
 refine⟨fun h=>?_,fun h=>cV (by decide) h⟩
 exact Nat.lt_of_lt_of_le (cW (by decide) n) (qAv (by decide) h)
theorem o7 {h0 h:PH} [Le h0 h] {neg:Bool} {sn sd:Value} {n d:Nat} (hj:Jk h0 neg sn sd n d):
  Spec mach 170 #[.agg #[.bool neg,sn,sd]] h (fun v _=>v=.agg #[.bool (!neg && !decide (n=0)),sn,sd]) NP:=by
 obtain⟨hn,hd⟩:=hj
 obtain⟨na,nl,nc,rfl,hn⟩:=hn.sl
 obtain⟨da,dl,dc,rfl,hd⟩:=hd.sl
 refine Spec.go [] Tryz.func170 rfl rfl (by kernel_rfl) fun C _=>?_
 try simp(maxSteps:=999999) (disch:=omega) only[go_sem,ξ,ζ]
 cases neg with
 | true=>
  try simp(maxSteps:=999999) (disch:=omega) only[go_sem,ξ,ζ]
  all_goals rfl
 | false=>
  try simp(maxSteps:=999999) (disch:=omega) only[go_sem,ξ,ζ]
  refine caN (by exact bU hn) ?_;rintro v1 h1 s1 rfl
  try simp(maxSteps:=999999) (disch:=omega) only[go_sem,ξ,ζ]
  all_goals rfl
theorem Fits_raw {h0 h:PH} [Le h0 h] {neg:Bool} {sn sd:Value} {n d:Nat} (hj:Jk h0 neg sn sd n d):
    Spec mach 120 #[.agg #[.bool neg,sn,sd]] h (fun v _=>v=.bool (decide (max (bl n) (bl d)≤2048))) NP:=by
  obtain⟨hn,hd⟩:=hj
  obtain⟨na,nc,rfl,hn⟩:=hn
  obtain⟨da,dc,rfl,hd⟩:=hd
  have hs:=hn.small
  have hs':=hd.small
  have e1:=xt (n:=n) (k:=64)
  have e2:=xt (n:=d) (k:=64)
  refine Spec.go [] Tryz.func120 rfl rfl (by kernel_rfl) fun C _=>?_
  try simp(maxSteps:=999999) (disch:=omega) only[go_sem,ξ,ζ]
  by_cases h1:(W 4294967296 n).length≤64
  · by_cases h2:(W 4294967296 d).length≤64
    · try simp(maxSteps:=999999) (disch:=omega) only[go_sem,ξ,ζ]
      all_goals (refine bv ?_;simp<;>omega)
    · try simp(maxSteps:=999999) (disch:=omega) only[go_sem,ξ,ζ]
      all_goals (refine bv ?_;simp<;>omega)
  · try simp(maxSteps:=999999) (disch:=omega) only[go_sem,ξ,ζ]
    all_goals (refine bv ?_;simp<;>omega)
theorem pP {h0 h:PH} [Le h0 h] {neg:Bool} {sn sd:Value} {n d:Nat} (hj:Jk h0 neg sn sd n d):
  Spec mach 63 #[.agg #[.bool neg,sn,sd]] h (fun v _=>v=.int .i64 (if n=0 then 0 else if neg then -1 else 1)) NP:=by
 obtain⟨hn,hd⟩:=hj
 obtain⟨na,nl,nc,rfl,hn⟩:=hn.sl
 obtain⟨da,dl,dc,rfl,hd⟩:=hd.sl
 refine Spec.go [] Tryz.func63 rfl rfl (by kernel_rfl) fun C _=>?_
 try simp(maxSteps:=999999) (disch:=omega) only[go_sem,ξ,ζ]
 by_cases h0:n=0
 ·try simp(maxSteps:=999999) (disch:=omega) only[go_sem,ξ,ζ]
  refine caN (by exact bU hn) ?_;rintro v1 h1 s1 rfl
  try simp(maxSteps:=999999) (disch:=omega) only[go_sem,ξ,ζ]
  simp[h0]
 ·cases neg with
  | true=>
   try simp(maxSteps:=999999) (disch:=omega) only[go_sem,ξ,ζ]
   refine caN (by exact bU hn) ?_;rintro v1 h1 s1 rfl
   try simp(maxSteps:=999999) (disch:=omega) only[go_sem,ξ,ζ]
   simp[h0]
  | false=>
   try simp(maxSteps:=999999) (disch:=omega) only[go_sem,ξ,ζ]
   refine caN (by exact bU hn) ?_;rintro v1 h1 s1 rfl
   try simp(maxSteps:=999999) (disch:=omega) only[go_sem,ξ,ζ]
   simp[h0]
theorem Fr.jk {h:PH} {v:Value} {x:Rat} (r:Fr h v x):∃sn sd,v=.agg #[.bool (decide (x.num < 0)),sn,sd]∧Jk h (decide (x.num < 0)) sn sd x.num.natAbs x.den:=
 let ⟨sn,sd,h1,h2,h3⟩:=r;⟨sn,sd,h1,h2,h3⟩
theorem kf {h0 h:PH} [Le h0 h] {v:Value} {x:Rat} (hx:Fr h0 v x):Spec mach 170 #[v] h (fun v h'=>Fr h' v (-x)) NP:=by
 obtain⟨sn,sd,rfl,hj⟩:=hx.jk
 refine(o7 hj).mono (fun v h' hs hv=>?_) (fun _ _ _ h=>h)
 haveI:Step h h':=⟨hs⟩
 subst hv
 refine⟨sn,sd,?_,by simpa using hj.num.to,by simpa using hj.den.to⟩
 have:(!decide (x.num < 0) && !decide (x.num.natAbs=0))=decide ((-x).num < 0):=by
  rw[Bool.eq_iff_iff];simp only[φ,Bool.not_eq_true',decide_eq_false_iff_not,decide_eq_true_eq,Rat.neg_num];omega
 rw[this]
theorem qx {h0 h:PH} [Le h0 h] {v:Value} {x:Rat} (hx:Fr h0 v x):Spec mach 120 #[v] h (fun v _=>v=.bool (decide (sz x≤2048))) NP:=by
 obtain⟨sn,sd,rfl,hj⟩:=hx.jk
 exact Fits_raw hj
def sgn3 (x:Rat):Int:=if x < 0 then -1 else if 0 < x then 1 else 0
theorem num_neg {x:Rat}:x.num < 0↔x < 0:=by rw[Rat.lt_iff];simp
theorem num_pos {x:Rat}:0 < x.num↔0 < x:=by rw[Rat.lt_iff];simp
theorem dv {h0 h:PH} [Le h0 h] {v:Value} {x:Rat} (hx:Fr h0 v x):Spec mach 63 #[v] h (fun v _=>v=.int .i64 (sgn3 x)) NP:=by
  obtain⟨sn,sd,rfl,hj⟩:=hx.jk
  refine(pP hj).mono (fun v h' hs hv=>?_) (fun _ _ _ h=>h)
  subst hv
  refine iv ?_
  simp only[sgn3,←num_neg,←num_pos]
  by_cases h1:x.num < 0
  · rw[if_neg (by omega),if_pos h1];simp[h1]
  · by_cases h2:x.num=0
    · simp[h2]
    · have h3:¬x.num.natAbs=0:=by omega
      have h4:0 < x.num:=by omega
      rw[if_neg h3,decide_eq_false h1,if_neg h1,if_pos h4];simp
theorem mu {h0 h:PH} [Le h0 h] {v:Value} {x:Rat} (hx:Fr h0 v x) (h0':x≠0):Spec mach 240 #[v] h (fun v h'=>Fr h' v x⁻¹) NP:=by
 obtain⟨na,nl,nc,da,dl,dc,rfl,hn,hd⟩:=hx.sl
 have hn0:x.num≠0:=fun e=>h0' (Rat.num_eq_zero.1 e)
 refine Spec.go [] Tryz.func240 rfl rfl (by kernel_rfl) fun C _=>?_
 try simp(maxSteps:=999999) (disch:=omega) only[go_sem,ξ,ζ]
 refine⟨_,_,?_,by rw[Rat.num_inv,Int.natAbs_mul,Int.natAbs_sign_of_ne_zero hn0,qBm,Int.natAbs_natCast];exact hd.to,by rw[Rat.den_inv,if_neg hn0];exact hn.to⟩
 have hp:=x.den_nz
 have:decide ((x⁻¹).num < 0)=decide (x.num < 0):=by
  rw[Rat.num_inv]
  rcases Int.lt_trichotomy x.num 0 with h |h |h
  ·rw[Int.sign_eq_neg_one_of_neg h,decide_eq_decide];omega
  ·exact(hn0 h).elim
  ·rw[Int.sign_eq_one_of_pos h,decide_eq_decide];omega
 rw[this]
theorem wU {h0 h:PH} [Le h0 h] {v w:Value} {x y:Rat} (hx:Fr h0 v x) (hy:Fr h0 w y) (bx:sz x≤2^36) (by_:sz y≤2^36):
  Spec mach 281 #[v,w] h (fun v h'=>Fr h' v (x*y)) NP:=by
 obtain⟨na,nl,nc,da,dl,dc,rfl,hn,hd⟩:=hx.sl
 obtain⟨na',nl',nc',da',dl',dc',rfl,hn',hd'⟩:=hy.sl
 have b1:=bG x;have b2:=bB x;have b3:=bG y;have b4:=bB y
 have b5:=aG x.num.natAbs y.num.natAbs
 have b6:=aG x.den y.den
 refine Spec.go [(1,.o [0,1,2,3,4,5,6,7,8,10,11,12,13,9,14,15,16])] Tryz.func281 rfl rfl (by kernel_rfl) fun C _=>?_
 try simp(maxSteps:=999999) (disch:=omega) only[go_sem,ξ,ζ]
 refine caN (by exact aI hn hn' (by omega) (by omega)) ?_;rintro _ h1 _ hv1;obtain⟨v1,_,_,rfl,hv1⟩:=hv1.sl
 try simp(maxSteps:=999999) (disch:=omega) only[go_sem,ξ,ζ]
 refine caN (by exact aI hd hd' (by omega) (by omega)) ?_;rintro _ h2 _ hv2;obtain⟨v2,_,_,rfl,hv2⟩:=hv2.sl
 try simp(maxSteps:=999999) (disch:=omega) only[go_sem,ξ,ζ]
 refine caN (by exact bW (hv1.to (h':=h2)) hv2 (qBe x.den_nz y.den_nz) (by omega) (by omega)) ?_;rintro _ h3 _ hv3;obtain⟨_,_,_,_,_,_,_,rfl,hv3⟩:=hv3.sa
 try simp(maxSteps:=999999) (disch:=omega) only[go_sem,ξ,ζ]
 rw[qZ] at hv3
 exact hv3
theorem iV {h0 h:PH} [Le h0 h] {v w:Value} {x y:Rat} (hx:Fr h0 v x) (hy:Fr h0 w y) (bx:sz x≤2^36) (by_:sz y≤2^36):
  Spec mach 203 #[v,w] h (fun v h'=>Fr h' v (x+y)) NP:=by
 obtain⟨na,nl,nc,da,dl,dc,rfl,hn,hd⟩:=hx.sl
 obtain⟨na',nl',nc',da',dl',dc',rfl,hn',hd'⟩:=hy.sl
 have b1:=bG x;have b2:=bB x;have b3:=bG y;have b4:=bB y
 have b5:=aG x.num.natAbs y.den
 have b6:=aG y.num.natAbs x.den
 have b7:=aG x.den y.den
 have b8:=cY (x.num.natAbs*y.den) (y.num.natAbs*x.den)
 have b9:=aR (Nat.sub_le (x.num.natAbs*y.den) (y.num.natAbs*x.den))
 have b10:=aR (Nat.sub_le (y.num.natAbs*x.den) (x.num.natAbs*y.den))
 obtain⟨n1,en1⟩:∃b,decide (x.num < 0)=b:=⟨_,rfl⟩
 obtain⟨n2,en2⟩:∃b,decide (y.num < 0)=b:=⟨_,rfl⟩
 rw[en1,en2]
 refine Spec.go [(1,.o [0,1,2,3,5,6,7,8,4,9,10,11]),(4,.o [0,1,2,3,5,4,6,7]),(6,.o [0,1,2,3,5,4,6,7]),(7,.o [0,1,2,3,5,4,6,7])] Tryz.func203 rfl rfl (by kernel_rfl) fun C _=>?_
 try simp(maxSteps:=999999) (disch:=omega) only[go_sem,ξ,ζ]
 refine caN (by exact aI hn hd' (by omega) (by omega)) ?_;rintro _ h1 _ hv1;obtain⟨v1,_,_,rfl,hv1⟩:=hv1.sl
 try simp(maxSteps:=999999) (disch:=omega) only[go_sem,ξ,ζ]
 refine caN (by exact aI hn' hd (by omega) (by omega)) ?_;rintro _ h2 _ hv2;obtain⟨v2,_,_,rfl,hv2⟩:=hv2.sl
 try simp(maxSteps:=999999) (disch:=omega) only[go_sem,ξ,ζ]
 refine caN (by exact aI hd hd' (by omega) (by omega)) ?_;rintro _ h3 _ hv3;obtain⟨v3,_,_,rfl,hv3⟩:=hv3.sl
 try simp(maxSteps:=999999) (disch:=omega) only[go_sem,ξ,ζ]
 by_cases he:n1=n2
 ·subst he
  try simp(maxSteps:=999999) (disch:=omega) only[go_sem,ξ,ζ]
  refine caN (by exact bR (hv1.to (h':=h2)) hv2 (by omega) (by omega)) ?_;rintro _ h4 _ hv4;obtain⟨v4,_,_,rfl,hv4⟩:=hv4.sl
  try simp(maxSteps:=999999) (disch:=omega) only[go_sem,ξ,ζ]
  refine caN (by exact bW (hv4.to (h':=h4)) hv3.to (qBe x.den_nz y.den_nz) (by omega) (by omega)) ?_;rintro _ h5 _ hv5;obtain⟨_,_,_,_,_,_,_,rfl,hv5⟩:=hv5.sa
  try simp(maxSteps:=999999) (disch:=omega) only[go_sem,ξ,ζ]
  rw[DV en1 en2] at hv5
  exact hv5
 ·have hb:(n1 == n2)=false:=by cases n1<;>cases n2<;>simp_all
  have hb':n2=!n1:=by cases n1<;>cases n2<;>simp_all
  try simp(maxSteps:=999999) (disch:=omega) only[go_sem,ξ,ζ,hb]
  refine caN (by exact fO (hv1.to (h':=h2)) hv2) ?_;rintro v4 h4 s4 rfl
  try simp(maxSteps:=999999) (disch:=omega) only[go_sem,ξ,ζ]
  by_cases hle:y.num.natAbs*x.den≤x.num.natAbs*y.den
  ·have hc:0≤cmp3 (x.num.natAbs*y.den) (y.num.natAbs*x.den):=by simp only[cmp3,if_neg (Nat.not_lt.2 hle)];split<;>decide
   try simp(maxSteps:=999999) (disch:=omega) only[go_sem,ξ,ζ]
   refine caN (by exact gE (hv1.to (h':=h2)) hv2 hle (by omega)) ?_;rintro _ h5 _ hv5;obtain⟨v5,_,_,rfl,hv5⟩:=hv5.sl
   try simp(maxSteps:=999999) (disch:=omega) only[go_sem,ξ,ζ]
   refine caN (by exact bW (hv5.to (h':=h5)) hv3.to (qBe x.den_nz y.den_nz) (by omega) (by omega)) ?_;rintro _ h6 _ hv6;obtain⟨_,_,_,_,_,_,_,rfl,hv6⟩:=hv6.sa
   try simp(maxSteps:=999999) (disch:=omega) only[go_sem,ξ,ζ]
   rw[tP en1 (by rw[en2,hb']) hle] at hv6
   exact hv6
  ·have hc:¬0≤cmp3 (x.num.natAbs*y.den) (y.num.natAbs*x.den):=by simp only[cmp3,if_pos (Nat.not_le.1 hle)];decide
   try simp(maxSteps:=999999) (disch:=omega) only[go_sem,ξ,ζ]
   refine caN (by exact gE (hv2.to (h':=h2)) (hv1.to (h':=h2)) (Nat.le_of_lt (Nat.not_le.1 hle)) (by omega)) ?_;rintro _ h5 _ hv5;obtain⟨v5,_,_,rfl,hv5⟩:=hv5.sl
   try simp(maxSteps:=999999) (disch:=omega) only[go_sem,ξ,ζ]
   refine caN (by exact bW (hv5.to (h':=h5)) hv3.to (qBe x.den_nz y.den_nz) (by omega) (by omega)) ?_;rintro _ h6 _ hv6;obtain⟨_,_,_,_,_,_,_,rfl,hv6⟩:=hv6.sa
   try simp(maxSteps:=999999) (disch:=omega) only[go_sem,ξ,ζ]
   rw[ρ x.den,tP en2 (by rw[en1,hb',Bool.not_not]) (Nat.le_of_lt (Nat.not_le.1 hle)),Rat.add_comm] at hv6
   exact hv6
def cmpQ (x y:Rat):Int:=if x < y then -1 else if y < x then 1 else 0
theorem cmp3_neg {x y:Rat} (hx:x.num < 0) (hy:y.num < 0):IntKind.i64.wrap (0 - cmp3 (x.num.natAbs*y.den) (y.num.natAbs*x.den))=cmpQ x y:=by
 have e1:x < y↔y.num.natAbs*x.den < x.num.natAbs*y.den:=by
  rw[Rat.lt_iff]
  generalize x.num=a at*
  generalize y.num=b at*
  obtain⟨m,rfl⟩:∃m:Nat,a= -(m:Int):=⟨a.natAbs,by omega⟩
  obtain⟨n,rfl⟩:∃n:Nat,b= -(n:Int):=⟨b.natAbs,by omega⟩
  simp only[Int.neg_mul,Int.natAbs_neg,Int.natAbs_natCast]
  rw[Int.neg_lt_neg_iff]
  exact_mod_cast Iff.rfl
 have e2:y < x↔x.num.natAbs*y.den < y.num.natAbs*x.den:=by
  rw[Rat.lt_iff]
  generalize x.num=a at*
  generalize y.num=b at*
  obtain⟨m,rfl⟩:∃m:Nat,a= -(m:Int):=⟨a.natAbs,by omega⟩
  obtain⟨n,rfl⟩:∃n:Nat,b= -(n:Int):=⟨b.natAbs,by omega⟩
  simp only[Int.neg_mul,Int.natAbs_neg,Int.natAbs_natCast]
  rw[Int.neg_lt_neg_iff]
  exact_mod_cast Iff.rfl
 simp only[cmpQ,e1,e2,cmp3]
 by_cases h1:x.num.natAbs*y.den < y.num.natAbs*x.den
 ·rw[if_pos h1,if_neg (by omega),if_pos h1];rfl
 ·by_cases h2:y.num.natAbs*x.den < x.num.natAbs*y.den
  ·rw[if_neg h1,if_pos h2,if_pos h2];rfl
  ·rw[if_neg h1,if_neg h2,if_neg h2,if_neg h1];rfl
theorem cmp3_pos {x y:Rat} (hx:¬x.num < 0) (hy:¬y.num < 0):cmp3 (x.num.natAbs*y.den) (y.num.natAbs*x.den)=cmpQ x y:=by
 have e1:x < y↔x.num.natAbs*y.den < y.num.natAbs*x.den:=by
  rw[Rat.lt_iff]
  generalize x.num=a at*
  generalize y.num=b at*
  obtain⟨m,rfl⟩:∃m:Nat,a=(m:Int):=⟨a.natAbs,by omega⟩
  obtain⟨n,rfl⟩:∃n:Nat,b=(n:Int):=⟨b.natAbs,by omega⟩
  simp only[Int.natAbs_natCast]
  exact_mod_cast Iff.rfl
 have e2:y < x↔y.num.natAbs*x.den < x.num.natAbs*y.den:=by
  rw[Rat.lt_iff]
  generalize x.num=a at*
  generalize y.num=b at*
  obtain⟨m,rfl⟩:∃m:Nat,a=(m:Int):=⟨a.natAbs,by omega⟩
  obtain⟨n,rfl⟩:∃n:Nat,b=(n:Int):=⟨b.natAbs,by omega⟩
  simp only[Int.natAbs_natCast]
  exact_mod_cast Iff.rfl
 simp only[cmpQ,e1,e2,cmp3]
theorem dq {h0 h:PH} [Le h0 h] {v w:Value} {x y:Rat} (hx:Fr h0 v x) (hy:Fr h0 w y) (bx:sz x≤2^36) (by_:sz y≤2^36):
    Spec mach 59 #[v,w] h (fun v _=>v=.int .i64 (cmpQ x y)) NP:=by
  obtain⟨na,nl,nc,da,dl,dc,rfl,hn,hd⟩:=hx.sl
  obtain⟨na',nl',nc',da',dl',dc',rfl,hn',hd'⟩:=hy.sl
  have b1:=bG x;have b2:=bB x;have b3:=bG y;have b4:=bB y
  have b5:=aG x.num.natAbs y.den
  have b6:=aG y.num.natAbs x.den
  refine Spec.go [(1,.o [0,2,1,3,4]),(2,.o [0,2,1,3,4]),(5,.o [0,1,2,3,5,6,7,8,4,9,10,11])] Tryz.func59 rfl rfl (by kernel_rfl) fun C _=>?_
  try simp(maxSteps:=999999) (disch:=omega) only[go_sem,ξ,ζ]
  refine caN (by exact dv hx) ?_;rintro v1 h1 s1 rfl
  try simp(maxSteps:=999999) (disch:=omega) only[go_sem,ξ,ζ]
  refine caN (by exact dv hy) ?_;rintro v2 h2 s2 rfl
  try simp(maxSteps:=999999) (disch:=omega) only[go_sem,ξ,ζ]
  by_cases he:sgn3 x=sgn3 y
  · try simp(maxSteps:=999999) (disch:=omega) only[go_sem,ξ,ζ]
    refine caN (by exact aI hn hd' (by omega) (by omega)) ?_;rintro _ h3 _ hv3;obtain⟨v3,_,_,rfl,hv3⟩:=hv3.sl
    try simp(maxSteps:=999999) (disch:=omega) only[go_sem,ξ,ζ]
    refine caN (by exact aI hn' hd (by omega) (by omega)) ?_;rintro _ h4 _ hv4;obtain⟨v4,_,_,rfl,hv4⟩:=hv4.sl
    try simp(maxSteps:=999999) (disch:=omega) only[go_sem,ξ,ζ]
    refine caN (by exact fO (hv3.to (h':=h4)) hv4) ?_;rintro v5 h5 s5 rfl
    try simp(maxSteps:=999999) (disch:=omega) only[go_sem,ξ,ζ]
    by_cases hneg:x.num < 0
    · have hneg':y.num < 0:=by
        have h1:=num_neg.1 hneg
        rw[num_neg]
        unfold sgn3 at he
        rw[if_pos h1] at he
        split at he
        · assumption
        · split at he<;>cases he
      have hw:=cmp3_neg hneg hneg'
      have e1:decide (x.num < 0)=true:=decide_eq_true hneg
      try simp(maxSteps:=999999) (disch:=omega) only[go_sem,ξ,ζ,e1]
      rw[hw]
    · have hneg':¬y.num < 0:=by
        intro h2
        rw[num_neg] at hneg h2
        unfold sgn3 at he
        rw[if_neg hneg,if_pos h2] at he
        split at he<;>cases he
      have hw:=cmp3_pos hneg hneg'
      have e1:decide (x.num < 0)=false:=decide_eq_false hneg
      try simp(maxSteps:=999999) (disch:=omega) only[go_sem,ξ,ζ,e1]
      rw[hw]
  · by_cases hl:sgn3 x < sgn3 y
    · have hr:x < y:=by
        unfold sgn3 at hl;grind
      try simp(maxSteps:=999999) (disch:=omega) only[go_sem,ξ,ζ]
      refine caN (by exact dv hx) ?_;rintro v3 h3 s3 rfl
      try simp(maxSteps:=999999) (disch:=omega) only[go_sem,ξ,ζ]
      refine caN (by exact dv hy) ?_;rintro v4 h4 s4 rfl
      try simp(maxSteps:=999999) (disch:=omega) only[go_sem,ξ,ζ]
      simp[cmpQ,hr]
    · have hr:y < x:=by
        unfold sgn3 at hl he;grind
      have hnl:¬x < y:=by grind
      try simp(maxSteps:=999999) (disch:=omega) only[go_sem,ξ,ζ]
      refine caN (by exact dv hx) ?_;rintro v3 h3 s3 rfl
      try simp(maxSteps:=999999) (disch:=omega) only[go_sem,ξ,ζ]
      refine caN (by exact dv hy) ?_;rintro v4 h4 s4 rfl
      try simp(maxSteps:=999999) (disch:=omega) only[go_sem,ξ,ζ]
      simp[cmpQ,hr,hnl]
set_option maxHeartbeats 8000000
theorem yj (a:Nat) {d:Nat} (hd:d≠0): -(a:Int) / d= -((a / d+(if a % d=0 then 0 else 1):Nat):Int):=by
 have h1:=Nat.div_add_mod a d
 have h2:=qBl a (τ hd)
 generalize a / d=q at*
 generalize a % d=r at*
 subst h1
 have hp:(0:Int) < d:=by omega
 by_cases hr:r=0
 ·subst hr
  rw[if_pos rfl]
  have: -((d*q+0:Nat):Int)=(d:Int)* -(q:Int):=by push_cast;rw[Int.mul_neg];omega
  rw[this,Int.mul_ediv_cancel_left _ (by omega)];simp
 ·rw[if_neg hr]
  refine((Int.ediv_emod_unique (r:=(d:Int) - r) hp).2 ⟨?_,by omega,by omega⟩).1
  push_cast
  rw[Int.mul_neg,Int.mul_add];omega
theorem mk_scaled (a:Int) (d p:Nat):mkRat a d*2^p=mkRat (a*2^p) d:=by
 have:=Rat.mkRat_mul_mkRat a (2^p) d 1
 rw[qAz] at this
 rw[←this]
 congr 1
 rw[Rat.mkRat_one]
 push_cast
 rfl
theorem grid_raw (neg:Bool) (m:Nat) {d:Nat} (hd:d≠0) (p:Nat) (u:Bool):sgn neg (m*2^p / d+(if (u != neg)=true∧m*2^p % d≠0 then 1 else 0)) (2^p)=if u then gup (sgn neg m d) p else gdown (sgn neg m d) p:=by
 unfold sgn gup gdown
 rw[mk_scaled,pW _ hd,xH _ hd,←ol,←ol]
 have e2:((2:Int)^p)=((2^p:Nat):Int):=by push_cast;rfl
 have h1:=yj (m*2^p) hd
 cases neg with
 | true=>
  have e3: -(m:Int)*2^p= -((m*2^p:Nat):Int):=by rw[e2,Int.neg_mul];push_cast;rfl
  simp only[if_true]
  rw[e3,Int.neg_neg]
  cases u with
  |true=>simp
  | false=>
   simp only[qAw,if_false]
   rw[h1]
   by_cases hr:m*2^p % d=0<;>simp[hr]
 | false=>
  have e3:(m:Int)*2^p=((m*2^p:Nat):Int):=by rw[e2];push_cast;rfl
  simp only[qAw,if_false]
  rw[e3]
  cases u with
  | true=>
   simp only[if_true]
   rw[h1,Int.neg_neg]
   by_cases hr:m*2^p % d=0<;>simp[hr]
  |false=>simp
theorem Grid_raw {h0 h:PH} [Le h0 h] {neg:Bool} {sn sd:Value} {m d p:Nat} {u:Bool} (hn:N32 h0 sn m) (hd:N32 h0 sd d) (hd0:d≠0) (b1:bl m≤2^36) (b2:bl d≤2^36) (hp:p≤2^36):
  Spec mach 208 #[.agg #[.bool neg,sn,sd],.int .i64 p,.bool u] h (fun v h'=>Fr h' v (if u then gup (sgn neg m d) p else gdown (sgn neg m d) p)) NP:=by
 obtain⟨na,nl,nc,rfl,hn⟩:=hn.sl
 obtain⟨da,dl,dc,rfl,hd⟩:=hd.sl
 have b3:=cu m p
 have b4:=aZ (m*2^p) d
 have b5:=cY (m*2^p / d) 1
 have b6:=bC p
 have b7:=fI
 have b8:bl (1*2^p)≤2^37:=by rw[qBm];omega
 have p0:1*2^p≠0:=by rw[qBm];exact Nat.ne_of_gt (qAo (by decide))
 have hgv:=grid_raw neg m hd0 p u
 generalize(if u then gup (sgn neg m d) p else gdown (sgn neg m d) p)=R at*
 have kD:=fun {h} [Le h0 h] {v:Value} (c:N32 h v (m*2^p))=>gU (h:=h) c (hd.to (h':=h)) hd0 (by omega) (by omega)
 have kS:=fun {h} [Le h0 h]=>aL (h:=h) (n:=p) hn (by omega)
 have c1:bl (m*2^p / d)≤2^38:=by omega
 have c2:bl (m*2^p / d+1)≤2^39:=by omega
 generalize m*2^p / d=q' at*
 generalize m*2^p % d=r' at*
 rw[←qBm (2^p)] at hgv
 clear b3 b4 b5 b6
 by_cases hun:u=neg
 ·rw[if_neg (by rw[hun];simp),Nat.add_zero] at hgv
  have e1:(u == neg)=true:=by rw[hun];simp
  refine Spec.go [(1,.o [0,1,2,4,5,3,6,7,8,9,10,11]),(4,.o [0,1,2,4,3,5,6,7])] Tryz.func208 rfl rfl (by kernel_rfl) fun C _=>?_
  try simp(maxSteps:=999999) (disch:=omega) only[go_sem,ξ,ζ]
  refine caN (by exact kS) ?_;rintro v1 h1 s1 q1;obtain⟨_,_,_,rfl,q1⟩:=q1.sl
  try simp(maxSteps:=999999) (disch:=omega) only[go_sem,ξ,ζ]
  refine caN (by exact kD q1) ?_;rintro v2 h2 s2 ⟨q,r,rfl,hq,hr⟩;obtain⟨_,_,_,rfl,hq⟩:=hq.sl;obtain⟨_,_,_,rfl,hr⟩:=hr.sl
  try simp(maxSteps:=999999) (disch:=omega) only[go_sem,ξ,ζ,e1]
  refine caN (by exact aw (n:=1) (by decide)) ?_;rintro _ h3 _ hw1;obtain⟨w1,_,_,rfl,hw1⟩:=hw1.sl
  try simp(maxSteps:=999999) (disch:=omega) only[go_sem,ξ,ζ]
  refine caN (by exact aL (n:=p) hw1 (by omega)) ?_;rintro _ h4 _ hw2;obtain⟨w2,_,_,rfl,hw2⟩:=hw2.sl
  try simp(maxSteps:=999999) (disch:=omega) only[go_sem,ξ,ζ]
  refine caN (by exact bW (neg:=neg) (hq.to (h':=h4)) hw2 p0 (by omega) (by omega)) ?_;rintro _ h5 _ hw3;obtain⟨_,_,_,_,_,_,_,rfl,hw3⟩:=hw3.sa
  try simp(maxSteps:=999999) (disch:=omega) only[go_sem,ξ,ζ]
  rw[hgv] at hw3
  exact hw3
 ·have hun':(u != neg)=true:=by simpa using hun
  have e1:(u == neg)=false:=by simpa using hun
  by_cases hr0:r'=0
  ·rw[if_neg (by simp[hr0]),Nat.add_zero] at hgv
   have e2:=decide_eq_true hr0
   refine Spec.go [(1,.o [0,1,2,4,5,3,6,7,8,9,10,11]),(4,.o [0,1,2,4,3,5,6,7])] Tryz.func208 rfl rfl (by kernel_rfl) fun C _=>?_
   try simp(maxSteps:=999999) (disch:=omega) only[go_sem,ξ,ζ]
   refine caN (by exact kS) ?_;rintro v1 h1 s1 q1;obtain⟨_,_,_,rfl,q1⟩:=q1.sl
   try simp(maxSteps:=999999) (disch:=omega) only[go_sem,ξ,ζ]
   refine caN (by exact kD q1) ?_;rintro v2 h2 s2 ⟨q,r,rfl,hq,hr⟩;obtain⟨_,_,_,rfl,hq⟩:=hq.sl;obtain⟨_,_,_,rfl,hr⟩:=hr.sl
   try simp(maxSteps:=999999) (disch:=omega) only[go_sem,ξ,ζ,e1]
   refine caN (by exact bU hr) ?_;rintro v3 h3 s3 rfl
   try simp(maxSteps:=999999) (disch:=omega) only[go_sem,ξ,ζ,e2]
   refine caN (by exact aw (n:=1) (by decide)) ?_;rintro _ h4 _ hw1;obtain⟨w1,_,_,rfl,hw1⟩:=hw1.sl
   try simp(maxSteps:=999999) (disch:=omega) only[go_sem,ξ,ζ]
   refine caN (by exact aL (n:=p) hw1 (by omega)) ?_;rintro _ h5 _ hw2;obtain⟨w2,_,_,rfl,hw2⟩:=hw2.sl
   try simp(maxSteps:=999999) (disch:=omega) only[go_sem,ξ,ζ]
   refine caN (by exact bW (neg:=neg) (hq.to (h':=h5)) hw2 p0 (by omega) (by omega)) ?_;rintro _ h6 _ hw3;obtain⟨_,_,_,_,_,_,_,rfl,hw3⟩:=hw3.sa
   try simp(maxSteps:=999999) (disch:=omega) only[go_sem,ξ,ζ]
   rw[hgv] at hw3
   exact hw3
  ·rw[if_pos ⟨hun',hr0⟩] at hgv
   have e2:=decide_eq_false hr0
   refine Spec.go [(1,.o [0,1,2,4,5,3,6,7,8,9,10,11]),(4,.o [0,1,2,4,3,5,6,7])] Tryz.func208 rfl rfl (by kernel_rfl) fun C _=>?_
   try simp(maxSteps:=999999) (disch:=omega) only[go_sem,ξ,ζ]
   refine caN (by exact kS) ?_;rintro v1 h1 s1 q1;obtain⟨_,_,_,rfl,q1⟩:=q1.sl
   try simp(maxSteps:=999999) (disch:=omega) only[go_sem,ξ,ζ]
   refine caN (by exact kD q1) ?_;rintro v2 h2 s2 ⟨q,r,rfl,hq,hr⟩;obtain⟨_,_,_,rfl,hq⟩:=hq.sl;obtain⟨_,_,_,rfl,hr⟩:=hr.sl
   try simp(maxSteps:=999999) (disch:=omega) only[go_sem,ξ,ζ,e1]
   refine caN (by exact bU hr) ?_;rintro v3 h3 s3 rfl
   try simp(maxSteps:=999999) (disch:=omega) only[go_sem,ξ,ζ,e2]
   refine caN (by exact aw (n:=1) (by decide)) ?_;rintro _ h4 _ hw1;obtain⟨w1,_,_,rfl,hw1⟩:=hw1.sl
   try simp(maxSteps:=999999) (disch:=omega) only[go_sem,ξ,ζ]
   refine caN (by exact bR (hq.to (h':=h4)) hw1 (by omega) (by decide)) ?_;rintro _ h7 _ hw4;obtain⟨_,_,_,rfl,hw4⟩:=hw4.sl
   try simp(maxSteps:=999999) (disch:=omega) only[go_sem,ξ,ζ]
   refine caN (by exact aw (n:=1) (by decide)) ?_;rintro _ h8 _ hw5;obtain⟨_,_,_,rfl,hw5⟩:=hw5.sl
   try simp(maxSteps:=999999) (disch:=omega) only[go_sem,ξ,ζ]
   refine caN (by exact aL (n:=p) hw5 (by omega)) ?_;rintro _ h5 _ hw2;obtain⟨w2,_,_,rfl,hw2⟩:=hw2.sl
   try simp(maxSteps:=999999) (disch:=omega) only[go_sem,ξ,ζ]
   refine caN (by exact bW (neg:=neg) (hw4.to (h':=h5)) hw2 p0 (by omega) (by omega)) ?_;rintro _ h6 _ hw3;obtain⟨_,_,_,_,_,_,_,rfl,hw3⟩:=hw3.sa
   try simp(maxSteps:=999999) (disch:=omega) only[go_sem,ξ,ζ]
   rw[hgv] at hw3
   exact hw3
theorem jG {h0 h:PH} [Le h0 h] {v:Value} {x:Rat} {p:Nat} {u:Bool} (hx:Fr h0 v x) (bx:sz x≤2^36) (hp:p≤2^36):
  Spec mach 208 #[v,.int .i64 p,.bool u] h (fun v h'=>Fr h' v (if u then gup x p else gdown x p)) NP:=by
 obtain⟨na,nl,nc,da,dl,dc,rfl,hn,hd⟩:=hx.sl
 have:=Grid_raw (h:=h) (neg:=decide (x.num < 0)) (p:=p) (u:=u) hn hd x.den_nz (χ (bG x) bx) (χ (bB x) bx) hp
 rwa[DW] at this
theorem wu64_neg {m:Nat} (h0:0 < m) (h:m≤9223372036854775808):IntKind.u64.wrap (-(m:Int))=((18446744073709551616 - m:Nat):Int):=by
 rw[IntKind.wrap_u64];omega
theorem J6 {m:Nat} (h0:0 < m) (h:m≤9223372036854775808):IntKind.u64.wrap (0 - ((18446744073709551616 - m:Nat):Int))=(m:Int):=by
 rw[IntKind.wrap_u64];omega
theorem tQ (neg:Bool) (m:Nat):sgn neg m 1=((if neg then -(m:Int) else m:Int):Rat):=by
 unfold sgn
 rw[qBb]
 simp[qAx,tp]
theorem cB {h:PH} {n:Int} (h1: -9223372036854775808≤n) (h2:n≤9223372036854775807):Spec mach 168 #[.int .i64 n] h (fun v h'=>Fr h' v (n:Rat)) NP:=by
 by_cases hn:n < 0
 ·obtain⟨m,rfl⟩:∃m:Nat,n= -(m:Int):=⟨n.natAbs,by omega⟩
  have e1:=wu64_neg (m:=m) (by omega) (by omega)
  have e2:=J6 (m:=m) (by omega) (by omega)
  refine Spec.go [] Tryz.func168 rfl rfl (by kernel_rfl) fun C _=>?_
  try simp(maxSteps:=999999) (disch:=omega) only[go_sem,ξ,ζ,e1,e2]
  refine caN (by exact aw (n:=m) (by omega)) ?_;rintro _ h1 _ hv1;obtain⟨v1,v1_l,v1_c,rfl,hv1⟩:=hv1.sl
  try simp(maxSteps:=999999) (disch:=omega) only[go_sem,ξ,ζ]
  refine caN (by exact aw (n:=1) (by decide)) ?_;rintro _ h2 _ hv2;obtain⟨v2,v2_l,v2_c,rfl,hv2⟩:=hv2.sl
  try simp(maxSteps:=999999) (disch:=omega) only[go_sem,ξ,ζ]
  exact Fr.of (neg:=true) hv1.to hv2 (by omega) (by decide) (by simp) (by rw[tQ];simp)
 ·obtain⟨m,rfl⟩:∃m:Nat,n=(m:Int):=⟨n.natAbs,by omega⟩
  refine Spec.go [] Tryz.func168 rfl rfl (by kernel_rfl) fun C _=>?_
  try simp(maxSteps:=999999) (disch:=omega) only[go_sem,ξ,ζ]
  refine caN (by exact aw (n:=m) (by omega)) ?_;rintro _ h1 _ hv1;obtain⟨v1,v1_l,v1_c,rfl,hv1⟩:=hv1.sl
  try simp(maxSteps:=999999) (disch:=omega) only[go_sem,ξ,ζ]
  refine caN (by exact aw (n:=1) (by decide)) ?_;rintro _ h2 _ hv2;obtain⟨v2,v2_l,v2_c,rfl,hv2⟩:=hv2.sl
  try simp(maxSteps:=999999) (disch:=omega) only[go_sem,ξ,ζ]
  by_cases h0:m=0
  ·subst h0
   exact⟨.slice v1 v1_l v1_c,.slice v2 v2_l v2_c,by simp,by simpa using hv1.to,by simpa using hv2⟩
  ·exact Fr.of (neg:=false) hv1.to hv2 h0 (by decide) (by simp) (by rw[tQ];simp)
theorem rE {h0 h:PH} [Le h0 h] {v:Value} {n:Nat} (hv:N32 h0 v n) (bn:bl n≤2^40):Spec mach 243 #[v] h (fun v h'=>N32 h' v n) NP:=by
 obtain⟨a,c,xs,rfl,ha,hxs,hm⟩:=hv.out
 have hs:xs.length≤2^40:=by have:=dj n;rw[hxs] at this;omega
 refine Spec.enter (args:=[_]) (n:=8) Tryz.func243 rfl (by kernel_rfl) rfl (by simp) [.tmp 2] rfl (fun C _=>?_)
 cases a with
 | none=>
  have:xs.length=0:=by
   rcases Nat.eq_zero_or_pos xs.length with h |h
   ·exact h
   ·obtain⟨ad,h1,_⟩:=ha.get h;cases h1
  repeat (first |(refine wo rfl (fun k hk=>?_);simp(disch:=omega) only[go_sem,ξ,ζ];apply hk;clear hk k) |refine wkt rfl ?_ |refine wk0 ?_ |refine rg rfl rfl (fun K hK=>?_) |((first |refine ae ?_ |refine ac ?_);simp(disch:=decide) only[qs,qb,if_true,if_false,reduceIte]) |refine ah rfl (fun K hK=>?_) |refine ct rfl ?_ |((try simp(disch:=omega) only[go_sem,ξ,ζ]);(first |apply hK |(clear hK;apply hK) |(clear hK;clear hK;apply hK));clear hK;(try clear K);(try dsimp only[ag,qs,qb])))
  refine ai ?_;simp(disch:=omega) only[go_sem,ξ,ζ]
  rw[←hm,List.eq_nil_of_length_eq_zero this];exact N32.zero _
 | some ad=>
  repeat (first |(refine wo rfl (fun k hk=>?_);simp(disch:=omega) only[go_sem,ξ,ζ];apply hk;clear hk k) |refine wkt rfl ?_ |refine wk0 ?_ |refine rg rfl rfl (fun K hK=>?_) |((first |refine ae ?_ |refine ac ?_);simp(disch:=decide) only[qs,qb,if_true,if_false,reduceIte]) |refine ah rfl (fun K hK=>?_) |refine ct rfl ?_ |((try simp(disch:=omega) only[go_sem,ξ,ζ]);(first |apply hK |(clear hK;apply hK) |(clear hK;clear hK;apply hK));clear hK;(try clear K);(try dsimp only[ag,qs,qb])))
  refine wo rfl (fun k hk=>?_);simp(disch:=omega) only[go_sem,ξ,ζ]
  refine⟨uw xs,by simp[uw],fun hne j v hv=>?_,uV xs,fun junk=>?_⟩
  ·obtain⟨ad',h1,h2⟩:=ha.cells h hne
   cases h1
   exact h2 j v hv
  apply hk;clear hk k
  (repeat (first |(refine wo rfl (fun k hk=>?_);simp(disch:=omega) only[go_sem,ξ,ζ];apply hk;clear hk k) |refine wkt rfl ?_));(try refine wk0 ?_)
  (try (simp(disch:=omega) only[go_sem,ξ,ζ]));apply hK;clear hK;(try clear K);(try dsimp only[ag,qs])
  refine mp 1 ?_
  simp(disch:=omega) only[go_sem,ξ,ζ]
  intro b h1 hs1 hb
  refine ai ?_;simp(disch:=omega) only[go_sem,ξ,ζ]
  refine⟨_,_,by rw[hxs],?_⟩
  rw[hxs]
  refine .of_block hb (fun i x hi=>?_) ha.lt (by omega) (by omega)
  have hil:i < xs.length:=(List.getElem?_eq_some_iff.1 hi).1
  rw[List.getElem?_append_left (by simp[uw];exact hil)]
  simp[uw,hi]
def Cn (h:PH) (v:Value) (x:Rat):Prop:=∃sn sd,v=.agg #[.bool (decide (x.num < 0)),sn,sd]∧N32 h sn x.num.natAbs∧N32 h sd (if x.den=1 then 0 else x.den)
theorem Cn.to {h h':PH} {v:Value} {x:Rat} (r:Cn h v x) [Le h h']:Cn h' v x:=let ⟨a,b,h1,h2,h3⟩:=r;⟨a,b,h1,h2.to,h3.to⟩
theorem Cn.sa {h:PH} {v:Value} {x:Rat} (r:Cn h v x):∃b na nl nc da dl dc,v=.agg #[.bool b,.slice na nl nc,.slice da dl dc]∧Cn h (.agg #[.bool b,.slice na nl nc,.slice da dl dc]) x:=by
 obtain⟨sn,sd,rfl,h2,h3⟩:=r
 obtain⟨na,nl,nc,rfl,h2⟩:=h2.sl
 obtain⟨da,dl,dc,rfl,h3⟩:=h3.sl
 exact⟨_,_,_,_,_,_,_,rfl,_,_,rfl,h2,h3⟩
def zRat:Value:=.agg #[.bool false,.slice none 0 0,.slice none 0 0]
theorem cO {h0 h:PH} [Le h0 h] {v:Value} {x:Rat} (hx:Fr h0 v x) (hs:sz x≤2048):Spec mach 186 #[v] h (fun r h'=>∃u,r=.tuple #[u,.int .i64 0]∧Cn h' u x) NP:=by
 obtain⟨na,nl,nc,da,dl,dc,rfl,hn,hd⟩:=hx.sl
 have b1:=bG x;have b2:=bB x
 obtain⟨neg,en⟩:∃b,decide (x.num < 0)=b:=⟨_,rfl⟩
 rw[en] at hx ⊢
 refine Spec.enter (args:=[_]) (n:=24) Tryz.func186 rfl (by kernel_rfl) rfl (by simp) [.cell 2 24,.tmp 3] rfl (fun C _=>?_)
 (repeat (first |(refine rg rfl rfl (fun K hK=>?_);(repeat (first |(refine wo rfl (fun k hk=>?_);simp(disch:=omega) only[go_sem,ξ,ζ];apply hk;clear hk k) |refine wkt rfl ?_));(try refine wk0 ?_);apply hK;clear hK K;(try dsimp only[ag,qs,qb])) |((first |refine ae ?_ |refine ac ?_);simp(disch:=decide) only[qs,qb,if_true,if_false,reduceIte]) |refine ah rfl (fun K hK=>?_) |refine ct rfl ?_ |((first |refine hK _ _ ?_ |(clear hK;refine hK _ _ ?_) |(clear hK;clear hK;refine hK _ _ ?_));clear hK;(try clear K))));(refine rg rfl rfl (fun K hK=>?_);(repeat (first |(refine wo rfl (fun k hk=>?_);simp(disch:=omega) only[go_sem,ξ,ζ];apply hk;clear hk k) |refine wkt rfl ?_ |with_reducible refine wk0 ?_ |with_reducible refine ao ?_ |with_reducible refine aj ?_ wt_no |with_reducible refine ak ?_)))
 refine cN rfl rfl rfl rfl (by exact qx hx) ?_;rintro v1 h1 s1 rfl;(repeat (first |(refine wo rfl (fun k hk=>?_);simp(disch:=omega) only[go_sem,ξ,ζ];apply hk;clear hk k) |refine wkt rfl ?_ |with_reducible refine wk0 ?_ |with_reducible refine ao ?_ |with_reducible refine aj ?_ wt_no |with_reducible refine ak ?_))
 ((try (simp(disch:=omega) only[go_sem,ξ,ζ]));apply hK;clear hK;(try clear K);(try dsimp only[ag,qs]));(repeat (first |(refine rg rfl rfl (fun K hK=>?_);(repeat (first |(refine wo rfl (fun k hk=>?_);simp(disch:=omega) only[go_sem,ξ,ζ];apply hk;clear hk k) |refine wkt rfl ?_));(try refine wk0 ?_);apply hK;clear hK K;(try dsimp only[ag,qs,qb])) |((first |refine ae ?_ |refine ac ?_);simp(disch:=decide) only[qs,qb,if_true,if_false,reduceIte]) |refine ah rfl (fun K hK=>?_) |refine ct rfl ?_ |((first |refine hK _ _ ?_ |(clear hK;refine hK _ _ ?_) |(clear hK;clear hK;refine hK _ _ ?_));clear hK;(try clear K))))
 (first |refine AWP_t (.seg [.o 0,.o 1,.o 2,.o 3] (.alt 4 (.seg [.o 5] (.alt 6 (.alt 7 .done .no) .no)) (.alt 6 (.alt 4 (.seg [.o 5] (.alt 7 .done .no)) .no) .no))) (by decide+kernel) rfl (fun K hK=>?_) |refine mR (.seg [.o 0,.o 1,.o 2,.o 3] (.alt 4 (.seg [.o 5] (.alt 6 (.alt 7 .done .no) .no)) (.alt 6 (.alt 4 (.seg [.o 5] (.alt 7 .done .no)) .no) .no))) (by decide+kernel) rfl (fun K hK=>?_))
 have rest:∀(va:Option Addr) (vl vc:Nat) (h':PH) (S:AS),Le h0 h'→N32 h' (.slice va vl vc) x.num.natAbs→S.le ⟨[(1,.p 0 0),(2,.p 1 0),(4,.p 2 0)],[[.bool neg,.slice na nl nc,.slice da dl dc],[.bool false,.slice none 0 0,.slice none 0 0],[.bool neg,.slice va vl vc,.slice none 0 0]]⟩→K S h':=by
  intro va vl vc h' S _ hn' hS
  refine hK _ _ (fq _ hS ?_);clear hK K
  refine oJ (fun K hK=>?_)
  refine rg rfl rfl (fun K hK=>?_);(repeat (first |(refine wo rfl (fun k hk=>?_);simp(disch:=omega) only[go_sem,ξ,ζ];apply hk;clear hk k) |refine wkt rfl ?_ |with_reducible refine wk0 ?_ |with_reducible refine ao ?_ |with_reducible refine aj ?_ wt_no |with_reducible refine ak ?_))
  refine cN rfl rfl rfl rfl (by exact wY hd) ?_;rintro v3 h3 s3 rfl;(repeat (first |(refine wo rfl (fun k hk=>?_);simp(disch:=omega) only[go_sem,ξ,ζ];apply hk;clear hk k) |refine wkt rfl ?_ |with_reducible refine wk0 ?_ |with_reducible refine ao ?_ |with_reducible refine aj ?_ wt_no |with_reducible refine ak ?_))
  by_cases h1:x.den=1
  ·((try (simp(disch:=omega) only[go_sem,ξ,ζ]));apply hK;clear hK;(try clear K);(try dsimp only[ag,qs]));(repeat (first |(refine rg rfl rfl (fun K hK=>?_);(repeat (first |(refine wo rfl (fun k hk=>?_);simp(disch:=omega) only[go_sem,ξ,ζ];apply hk;clear hk k) |refine wkt rfl ?_));(try refine wk0 ?_);apply hK;clear hK K;(try dsimp only[ag,qs,qb])) |((first |refine ae ?_ |refine ac ?_);simp(disch:=decide) only[qs,qb,if_true,if_false,reduceIte]) |refine ah rfl (fun K hK=>?_) |refine ct rfl ?_ |((first |refine hK _ _ ?_ |(clear hK;refine hK _ _ ?_) |(clear hK;clear hK;refine hK _ _ ?_));clear hK;(try clear K))))
   refine ai ?_;simp(disch:=omega) only[go_sem,ξ,ζ]
   exact⟨_,rfl,_,_,by rw[en],hn'.to,by rw[if_pos h1];exact N32.zero _⟩
  ·((try (simp(disch:=omega) only[go_sem,ξ,ζ]));apply hK;clear hK;(try clear K);(try dsimp only[ag,qs]));(repeat (first |(refine rg rfl rfl (fun K hK=>?_);(repeat (first |(refine wo rfl (fun k hk=>?_);simp(disch:=omega) only[go_sem,ξ,ζ];apply hk;clear hk k) |refine wkt rfl ?_));(try refine wk0 ?_);apply hK;clear hK K;(try dsimp only[ag,qs,qb])) |((first |refine ae ?_ |refine ac ?_);simp(disch:=decide) only[qs,qb,if_true,if_false,reduceIte]) |refine ah rfl (fun K hK=>?_) |refine ct rfl ?_ |((first |refine hK _ _ ?_ |(clear hK;refine hK _ _ ?_) |(clear hK;clear hK;refine hK _ _ ?_));clear hK;(try clear K))));(refine rg rfl rfl (fun K hK=>?_);(repeat (first |(refine wo rfl (fun k hk=>?_);simp(disch:=omega) only[go_sem,ξ,ζ];apply hk;clear hk k) |refine wkt rfl ?_ |with_reducible refine wk0 ?_ |with_reducible refine ao ?_ |with_reducible refine aj ?_ wt_no |with_reducible refine ak ?_)))
   refine cN rfl rfl rfl rfl (by exact rE hd (by omega)) ?_;rintro v4 h4 _ hv4;obtain⟨v4,v4_l,v4_c,rfl,hv4⟩:=hv4.sl;(repeat (first |(refine wo rfl (fun k hk=>?_);simp(disch:=omega) only[go_sem,ξ,ζ];apply hk;clear hk k) |refine wkt rfl ?_ |with_reducible refine wk0 ?_ |with_reducible refine ao ?_ |with_reducible refine aj ?_ wt_no |with_reducible refine ak ?_))
   ((try (simp(disch:=omega) only[go_sem,ξ,ζ]));apply hK;clear hK;(try clear K);(try dsimp only[ag,qs]));(repeat (first |(refine rg rfl rfl (fun K hK=>?_);(repeat (first |(refine wo rfl (fun k hk=>?_);simp(disch:=omega) only[go_sem,ξ,ζ];apply hk;clear hk k) |refine wkt rfl ?_));(try refine wk0 ?_);apply hK;clear hK K;(try dsimp only[ag,qs,qb])) |((first |refine ae ?_ |refine ac ?_);simp(disch:=decide) only[qs,qb,if_true,if_false,reduceIte]) |refine ah rfl (fun K hK=>?_) |refine ct rfl ?_ |((first |refine hK _ _ ?_ |(clear hK;refine hK _ _ ?_) |(clear hK;clear hK;refine hK _ _ ?_));clear hK;(try clear K))))
   refine ai ?_;simp(disch:=omega) only[go_sem,ξ,ζ]
   exact⟨_,rfl,_,_,by rw[en],hn'.to,by rw[if_neg h1];exact hv4⟩
 (repeat (first |(refine wo rfl (fun k hk=>?_);simp(disch:=omega) only[go_sem,ξ,ζ];apply hk;clear hk k) |refine wkt rfl ?_ |with_reducible refine wk0 ?_ |with_reducible refine ao ?_ |with_reducible refine aj ?_ wt_no |with_reducible refine ak ?_))
 refine aj ?_ (aj ?_ wt_no)
 ·refine cN rfl rfl rfl rfl (by exact rE hn (by omega)) ?_;rintro v2 h2 _ hv2;obtain⟨v2,v2_l,v2_c,rfl,hv2⟩:=hv2.sl;(repeat (first |(refine wo rfl (fun k hk=>?_);simp(disch:=omega) only[go_sem,ξ,ζ];apply hk;clear hk k) |refine wkt rfl ?_ |with_reducible refine wk0 ?_ |with_reducible refine ao ?_ |with_reducible refine aj ?_ wt_no |with_reducible refine ak ?_))
  refine rest _ _ _ _ _ inferInstance hv2 ?_
  simp(disch:=omega) only[go_sem,ξ,ζ]
 ·(repeat (first |(refine wo rfl (fun k hk=>?_);simp(disch:=omega) only[go_sem,ξ,ζ];apply hk;clear hk k) |refine wkt rfl ?_ |with_reducible refine wk0 ?_ |with_reducible refine ao ?_ |with_reducible refine aj ?_ wt_no |with_reducible refine ak ?_))
  refine cN rfl rfl rfl rfl (by exact rE hn (by omega)) ?_;rintro v2 h2 _ hv2;obtain⟨v2,v2_l,v2_c,rfl,hv2⟩:=hv2.sl;(repeat (first |(refine wo rfl (fun k hk=>?_);simp(disch:=omega) only[go_sem,ξ,ζ];apply hk;clear hk k) |refine wkt rfl ?_ |with_reducible refine wk0 ?_ |with_reducible refine ao ?_ |with_reducible refine aj ?_ wt_no |with_reducible refine ak ?_))
  refine rest _ _ _ _ _ inferInstance hv2 ?_
  simp(disch:=omega) only[go_sem,ξ,ζ]
theorem ms {h0 h:PH} [Le h0 h] {v:Value} {x:Rat} (hx:Fr h0 v x) (hs:¬sz x≤2048):Spec mach 186 #[v] h (fun r _=>r=.tuple #[zRat,.int .i64 1]) NP:=by
 obtain⟨na,nl,nc,da,dl,dc,rfl,hn,hd⟩:=hx.sl
 obtain⟨neg,en⟩:∃b,decide (x.num < 0)=b:=⟨_,rfl⟩
 rw[en] at hx ⊢
 refine Spec.go [(3,.t (.s [0,1,2,3] (.a 4 (.s [5] (.a 6 (.a 7 .d .n) .n)) (.a 6 (.a 4 (.s [5] (.a 7 .d .n)) .n) .n))))] Tryz.func186 rfl rfl (by kernel_rfl) fun C _=>?_
 try simp(maxSteps:=999999) (disch:=omega) only[go_sem,ξ,ζ]
 refine caN (by exact qx hx) ?_;rintro v1 h1 s1 rfl
 try simp(maxSteps:=999999) (disch:=omega) only[go_sem,ξ,ζ]
 rfl
def Rw (h:PH) (v:Value) (neg:Bool) (n d:Nat):Prop:=∃a c xs a' c' ys,v=.agg #[.bool neg,.slice a xs.length c,.slice a' ys.length c']∧Arr h a c xs∧Arr h a' c' ys∧val 4294967296 xs=n∧val 4294967296 ys=d∧xs.length≤2^30∧ys.length≤2^30
theorem Rw.to {h h':PH} {v:Value} {neg:Bool} {n d:Nat} (r:Rw h v neg n d) [Le h h']:Rw h' v neg n d:=let ⟨a,c,xs,a',c',ys,h1,h2,h3,h4,h5⟩:=r;⟨a,c,xs,a',c',ys,h1,h2.to,h3.to,h4,h5⟩
theorem Rw.sa {h:PH} {v:Value} {neg:Bool} {n d:Nat} (r:Rw h v neg n d):∃b na nl nc da dl dc,v=.agg #[.bool b,.slice na nl nc,.slice da dl dc]∧Rw h (.agg #[.bool b,.slice na nl nc,.slice da dl dc]) neg n d:=by
 have r0:=r
 obtain⟨a,c,xs,a',c',ys,rfl,_⟩:=r
 exact⟨_,_,_,_,_,_,_,rfl,r0⟩
theorem Cn.rw {h:PH} {v:Value} {x:Rat} (r:Cn h v x) (bx:sz x≤2^30):Rw h v (decide (x.num < 0)) x.num.natAbs (if x.den=1 then 0 else x.den):=by
 obtain⟨sn,sd,rfl,h2,h3⟩:=r
 have b1:=bG x;have b2:=bB x
 have b3:bl (if x.den=1 then 0 else x.den)≤bl x.den:=aR (by split<;>omega)
 obtain⟨a,c,xs,rfl,ha,hx,hm⟩:=h2.out
 obtain⟨a',c',ys,rfl,ha',hy,hm'⟩:=h3.out
 have l1:=dj x.num.natAbs
 have l2:=dj (if x.den=1 then 0 else x.den)
 rw[hx] at l1
 rw[hy] at l2
 exact⟨_,_,_,_,_,_,rfl,ha,ha',hm,hm',by omega,by omega⟩
def dz (d:Nat):Nat:=if d=0 then 1 else d
theorem dz_ne (d:Nat):dz d≠0:=by unfold dz;split<;>omega
def qof (neg:Bool) (n d:Nat):Rat:=sgn neg n (dz d)
theorem jA (x:Rat):qof (decide (x.num < 0)) x.num.natAbs (if x.den=1 then 0 else x.den)=x:=by
 have:dz (if x.den=1 then 0 else x.den)=x.den:=by
  have:=x.den_nz
  by_cases h:x.den=1
  ·simp[dz,h]
  ·simp[dz,h,this]
 unfold qof
 rw[this,DW]
def lg (neg:Bool) (n d:Nat):Prop:=8192 < bl n∨8192 < bl d∨2048 < sz (qof neg n d)
instance (neg:Bool) (n d:Nat):Decidable (lg neg n d):=by unfold lg;infer_instance
theorem lg_cn {x:Rat}:lg (decide (x.num < 0)) x.num.natAbs (if x.den=1 then 0 else x.den)↔2048 < sz x:=by
 unfold lg
 rw[jA]
 have b1:=bG x;have b2:=bB x
 have b3:bl (if x.den=1 then 0 else x.den)≤bl x.den:=aR (by split<;>omega)
 omega
theorem N32.len {h:PH} {a:Option Addr} {l c n:Nat} (r:N32 h (.slice a l c) n):l≤256↔bl n≤8192:=by
 obtain⟨a',c',h1,_⟩:=r
 cases h1
 exact xt (k:=256)
theorem Read_any {h0 h:PH} [Le h0 h] {v:Value} {neg:Bool} {n d:Nat} (hv:Rw h0 v neg n d):
  Spec mach 62 #[v] h (fun r h'=>∃b a l c a' l' c' t,r=.tuple #[.agg #[.bool b,.slice a l c,.slice a' l' c'],.bool t]∧(¬lg neg n d∧t=true∧Fr h' (.agg #[.bool b,.slice a l c,.slice a' l' c']) (qof neg n d)∨lg neg n d∧t=false)) NP:=by
 obtain⟨a,c,xs,a',c',ys,rfl,ha,ha',rfl,rfl,hsx,hsy⟩:=hv
 generalize hn:val 4294967296 xs=n at*
 generalize hd:val 4294967296 ys=d at*
 have kx:=fun {h} [Le h0 h]=>Of_N (h0:=h0) (h:=h) ha
 have ky:=fun {h} [Le h0 h]=>Of_N (h0:=h0) (h:=h) ha'
 rw[hn] at kx
 rw[hd] at ky
 clear hn hd
 have bz:bl d≤8192→bl (dz d)≤8193:=by
  unfold dz;split
  ·intro;decide
  ·omega
 have d0:=dz_ne d
 have e1:d=0→dz d=1:=fun k=>by unfold dz;rw[if_pos k]
 have e2:d≠0→dz d=d:=fun k=>by unfold dz;rw[if_neg k]
 have hlg:lg neg n d↔8192 < bl n∨8192 < bl d∨2048 < sz (qof neg n d):=Iff.rfl
 unfold qof at*
 generalize lg neg n d=L at*
 generalize dz d=D at*
 refine Spec.go [(1,.o [0,1,3,4,2,5,6,7])] Tryz.func62 rfl rfl (by kernel_rfl) fun C _=>?_
 try simp(maxSteps:=999999) (disch:=omega) only[go_sem,ξ,ζ]
 refine caN (by exact kx) ?_;rintro _ h1 _ hv1;obtain⟨_,v1_l,_,rfl,hv1⟩:=hv1.sl
 try simp(maxSteps:=999999) (disch:=omega) only[go_sem,ξ,ζ]
 refine caN (by exact ky) ?_;rintro _ h2 _ hv2;obtain⟨_,v2_l,_,rfl,hv2⟩:=hv2.sl
 try simp(maxSteps:=999999) (disch:=omega) only[go_sem,ξ,ζ]
 have l1:=hv1.len
 have l2:=hv2.len
 by_cases c1:v1_l≤256
 rotate_left
 ·try simp(maxSteps:=999999) (disch:=omega) only[go_sem,ξ,ζ]
  exact⟨_,_,_,_,_,_,_,_,rfl,.inr ⟨hlg.2 (by omega),rfl⟩⟩
 by_cases c2:v2_l≤256
 rotate_left
 ·try simp(maxSteps:=999999) (disch:=omega) only[go_sem,ξ,ζ]
  exact⟨_,_,_,_,_,_,_,_,rfl,.inr ⟨hlg.2 (by omega),rfl⟩⟩
 try simp(maxSteps:=999999) (disch:=omega) only[go_sem,ξ,ζ]
 refine caN (by exact bU hv2) ?_;rintro v3 h3 s3 rfl
 try simp(maxSteps:=999999) (disch:=omega) only[go_sem,ξ,ζ]
 have b1:=bz (by omega)
 by_cases k0:d=0
 ·have k1:=decide_eq_true k0
  rw[e1 k0] at*
  try simp(maxSteps:=999999) (disch:=omega) only[go_sem,ξ,ζ,k1]
  refine caN (by exact aw (n:=1) (by decide)) ?_;rintro _ h4 _ hv4;obtain⟨_,_,_,rfl,hv4⟩:=hv4.sl
  try simp(maxSteps:=999999) (disch:=omega) only[go_sem,ξ,ζ]
  refine caN (by exact bW (neg:=neg) (hv1.to (h':=h4)) hv4 (by decide) (by omega) (by decide)) ?_;rintro _ h5 _ hv5;obtain⟨_,_,_,_,_,_,_,rfl,hv5⟩:=hv5.sa
  try simp(maxSteps:=999999) (disch:=omega) only[go_sem,ξ,ζ]
  refine caN (by exact qx hv5) ?_;rintro v6 h6 s6 rfl
  try simp(maxSteps:=999999) (disch:=omega) only[go_sem,ξ,ζ]
  by_cases hs:sz (sgn neg n 1)≤2048
  ·exact⟨_,_,_,_,_,_,_,_,rfl,.inl ⟨fun k=>by have:=hlg.1 k;omega,decide_eq_true hs,hv5.to⟩⟩
  ·exact⟨_,_,_,_,_,_,_,_,rfl,.inr ⟨hlg.2 (by omega),decide_eq_false hs⟩⟩
 ·have k1:=decide_eq_false k0
  rw[e2 k0] at*
  try simp(maxSteps:=999999) (disch:=omega) only[go_sem,ξ,ζ,k1]
  refine caN (by exact bW (neg:=neg) (hv1.to (h':=h3)) (hv2.to (h':=h3)) k0 (by omega) (by omega)) ?_;rintro _ h5 _ hv5;obtain⟨_,_,_,_,_,_,_,rfl,hv5⟩:=hv5.sa
  try simp(maxSteps:=999999) (disch:=omega) only[go_sem,ξ,ζ]
  refine caN (by exact qx hv5) ?_;rintro v6 h6 s6 rfl
  try simp(maxSteps:=999999) (disch:=omega) only[go_sem,ξ,ζ]
  by_cases hs:sz (sgn neg n d)≤2048
  ·exact⟨_,_,_,_,_,_,_,_,rfl,.inl ⟨fun k=>by have:=hlg.1 k;omega,decide_eq_true hs,hv5.to⟩⟩
  ·exact⟨_,_,_,_,_,_,_,_,rfl,.inr ⟨hlg.2 (by omega),decide_eq_false hs⟩⟩
theorem sN {h0 h:PH} [Le h0 h] {v:Value} {neg:Bool} {n d:Nat} (hv:Rw h0 v neg n d) (hl:¬lg neg n d):
  Spec mach 62 #[v] h (fun r h'=>∃f,r=.tuple #[f,.bool true]∧Fr h' f (qof neg n d)) NP:=
 (Read_any hv).mono (fun _ _ _ r=>by obtain⟨_,_,_,_,_,_,_,_,rfl,⟨_,rfl,k⟩ |⟨k,_⟩⟩:=r;exact⟨_,rfl,k⟩;exact absurd k hl) (fun _ _ _ r=>r)
theorem Gm {h0 h:PH} [Le h0 h] {v:Value} {neg:Bool} {n d:Nat} (hv:Rw h0 v neg n d) (hl:lg neg n d):
  Spec mach 62 #[v] h (fun r _=>∃b a l c a' l' c',r=.tuple #[.agg #[.bool b,.slice a l c,.slice a' l' c'],.bool false]) NP:=
 (Read_any hv).mono (fun _ _ _ r=>by obtain⟨_,_,_,_,_,_,_,_,rfl,⟨k,_⟩ |⟨_,rfl⟩⟩:=r;exact absurd hl k;exact⟨_,_,_,_,_,_,_,rfl⟩) (fun _ _ _ r=>r)
theorem CloneA {h0 h:PH} [Le h0 h] {a:Option Addr} {c:Nat} {xs:List Nat} (ha:Arr h0 a c xs) (hs:xs.length≤2^40):Spec mach 243 #[.slice a xs.length c] h (fun v h'=>∃a' c',v=.slice a' xs.length c'∧Arr h' a' c' xs) NP:=by
 refine Spec.enter (args:=[_]) (n:=8) Tryz.func243 rfl (by kernel_rfl) rfl (by simp) [.tmp 2] rfl (fun C _=>?_)
 cases a with
 | none=>
  have:xs.length=0:=by
   rcases Nat.eq_zero_or_pos xs.length with h |h
   ·exact h
   ·obtain⟨ad,h1,_⟩:=ha.get h;cases h1
  repeat (first |(refine wo rfl (fun k hk=>?_);simp(disch:=omega) only[go_sem,ξ,ζ];apply hk;clear hk k) |refine wkt rfl ?_ |refine wk0 ?_ |refine rg rfl rfl (fun K hK=>?_) |((first |refine ae ?_ |refine ac ?_);simp(disch:=decide) only[qs,qb,if_true,if_false,reduceIte]) |refine ah rfl (fun K hK=>?_) |refine ct rfl ?_ |((try simp(disch:=omega) only[go_sem,ξ,ζ]);(first |apply hK |(clear hK;apply hK) |(clear hK;clear hK;apply hK));clear hK;(try clear K);(try dsimp only[ag,qs,qb])))
  refine ai ?_;simp(disch:=omega) only[go_sem,ξ,ζ]
  rw[List.eq_nil_of_length_eq_zero this];exact⟨_,_,rfl,Arr.nil _⟩
 | some ad=>
  repeat (first |(refine wo rfl (fun k hk=>?_);simp(disch:=omega) only[go_sem,ξ,ζ];apply hk;clear hk k) |refine wkt rfl ?_ |refine wk0 ?_ |refine rg rfl rfl (fun K hK=>?_) |((first |refine ae ?_ |refine ac ?_);simp(disch:=decide) only[qs,qb,if_true,if_false,reduceIte]) |refine ah rfl (fun K hK=>?_) |refine ct rfl ?_ |((try simp(disch:=omega) only[go_sem,ξ,ζ]);(first |apply hK |(clear hK;apply hK) |(clear hK;clear hK;apply hK));clear hK;(try clear K);(try dsimp only[ag,qs,qb])))
  refine wo rfl (fun k hk=>?_);simp(disch:=omega) only[go_sem,ξ,ζ]
  refine⟨uw xs,by simp[uw],fun hne j v hv=>?_,uV xs,fun junk=>?_⟩
  ·obtain⟨ad',h1,h2⟩:=ha.cells h hne
   cases h1
   exact h2 j v hv
  apply hk;clear hk k
  (repeat (first |(refine wo rfl (fun k hk=>?_);simp(disch:=omega) only[go_sem,ξ,ζ];apply hk;clear hk k) |refine wkt rfl ?_));(try refine wk0 ?_)
  (try (simp(disch:=omega) only[go_sem,ξ,ζ]));apply hK;clear hK;(try clear K);(try dsimp only[ag,qs])
  refine mp 1 ?_
  simp(disch:=omega) only[go_sem,ξ,ζ]
  intro b h1 hs1 hb
  refine ai ?_;simp(disch:=omega) only[go_sem,ξ,ζ]
  refine⟨_,_,rfl,.of_block hb (fun i x hi=>?_) ha.lt (by omega) (by omega)⟩
  have hil:i < xs.length:=(List.getElem?_eq_some_iff.1 hi).1
  rw[List.getElem?_append_left (by simp[uw];exact hil)]
  simp[uw,hi]
theorem B16:2≤65536:=by decide
def N16 (h:PH) (v:Value) (n:Nat):Prop:=∃a c,v=.slice a (W 65536 n).length c∧Arr h a c (W 65536 n)
theorem N16.to {h h':PH} {v:Value} {n:Nat} (r:N16 h v n) [Le h h']:N16 h' v n:=let ⟨a,c,h1,h2⟩:=r;⟨a,c,h1,h2.to⟩
theorem N16.zero (h:PH):N16 h (.slice none 0 0) 0:=⟨none,0,by rw[ff];rfl,by rw[ff];exact Arr.nil h⟩
theorem N16.out {h:PH} {v:Value} {n:Nat} (r:N16 h v n):∃a c xs,v=.slice a xs.length c∧Arr h a c xs∧W 65536 n=xs∧val 65536 xs=n∧(∀x∈xs,x < 65536):=let ⟨a,c,h1,h2⟩:=r
 ⟨a,c,_,h1,h2,rfl,val_W B16 n,W_lt B16 n⟩
theorem N16.sl {h:PH} {v:Value} {n:Nat} (r:N16 h v n):∃a l c,v=.slice a l c∧N16 h (.slice a l c) n:=by
 obtain⟨a,c,h1,h2⟩:=r;exact⟨a,_,c,h1,a,c,rfl,h2⟩
theorem cr (n:Nat):(W 65536 n).length≤bl n:=
 cV (by decide) (Nat.lt_of_lt_of_le (bl_le.1 (η _)) (Nat.pow_le_pow_left (by decide) _))
theorem arrW16 {h:PH} {a:Option Addr} {c:Nat} {xs:List Nat} (r:Arr h a c xs) (hlt:∀x∈xs,x < 65536):Arr h a c (W 65536 (val 65536 xs)):=by
 obtain⟨k,_,hk⟩:=xx (B:=65536) (by decide) xs hlt
 rw[hk];exact r.take k
theorem Aa {h0 h:PH} [Le h0 h] {a:Option Addr} {c:Nat} {xs:List Nat} (ha:Arr h0 a c xs) (hlt:∀x∈xs,x < 65536):
  Spec mach 133 #[.slice a xs.length c] h (fun v _=>v=.slice a (W 65536 (val 65536 xs)).length c) NP:=by
 have hs:=ha.small
 have hc:=ha.cap
 refine Spec.enter (args:=[_]) (n:=21) Tryz.func133 rfl (by kernel_rfl) rfl (by simp) [.tmp 2] rfl (fun C _=>?_)
 repeat (first |(refine wo rfl (fun k hk=>?_);simp(disch:=omega) only[go_sem,ξ,ζ];apply hk;clear hk k) |refine wkt rfl ?_ |refine wk0 ?_ |refine rg rfl rfl (fun K hK=>?_) |((first |refine ae ?_ |refine ac ?_);simp(disch:=decide) only[qs,qb,if_true,if_false,reduceIte]) |refine ah rfl (fun K hK=>?_) |refine ct rfl ?_ |((try simp(disch:=omega) only[go_sem,ξ,ζ]);(first |apply hK |(clear hK;apply hK) |(clear hK;clear hK;apply hK));clear hK;(try clear K);(try dsimp only[ag,qs,qb])))
 refine cg (fun k:Nat=>⟨[(0,.v (.slice a xs.length c)),(3,.v (.int .i64 k))],[]⟩) (fun k h'=>Le h0 h'∧k≤xs.length∧val 65536 (xs.take k)=val 65536 xs) id xs.length ?_ ⟨inferInstance,η _,by simp⟩ ?_
 ·simp(disch:=omega) only[go_sem,ξ,ζ]
 ·rintro k h1 ⟨hle,hk,hv⟩
  by_cases hk0:k=0
  ·subst hk0
   repeat (first |(refine wo rfl (fun k hk=>?_);simp(disch:=omega) only[go_sem,ξ,ζ];apply hk;clear hk k) |refine wkt rfl ?_ |refine wk0 ?_ |refine rg rfl rfl (fun K hK=>?_) |((first |refine ae ?_ |refine ac ?_);simp(disch:=decide) only[qs,qb,if_true,if_false,reduceIte]) |refine ah rfl (fun K hK=>?_) |refine ct rfl ?_ |((try simp(disch:=omega) only[go_sem,ξ,ζ]);(first |apply hK |(clear hK;apply hK) |(clear hK;clear hK;apply hK));clear hK;(try clear K);(try dsimp only[ag,qs,qb])))
   refine ai ?_;simp(disch:=omega) only[go_sem,ξ,ζ]
   rw[uq (by decide) 0 xs (by omega) hlt hv (.inl rfl)]
   simp
  ·obtain⟨ad,rfl,hat⟩:=ha.get (i:=k - 1) (by omega)
   have hat1:=hle.sub.at hat
   by_cases hz:xs.getD (k - 1) 0=0
   ·repeat (first |(refine rg rfl rfl (fun K hK=>?_);(repeat (first |(refine wo rfl (fun k hk=>?_);simp(disch:=omega) only[go_sem,ξ,ζ,hat1];apply hk;clear hk k) |refine wkt rfl ?_));(try refine wk0 ?_);apply hK;clear hK K;(try dsimp only[ag,qs,qb])) |((first |refine ae ?_ |refine ac ?_);simp(disch:=decide) only[qs,qb,if_true,if_false,reduceIte]) |refine ah rfl (fun K hK=>?_) |refine ct rfl ?_ |((first |refine hK _ _ ?_ |(clear hK;refine hK _ _ ?_) |(clear hK;clear hK;refine hK _ _ ?_));clear hK;(try clear K)))
    exact⟨k - 1,⟨⟨rfl,rfl,trivial⟩,trivial,rfl⟩,⟨hle,by omega,by rw[nZ (by omega) hz,show k - 1+1=k by omega];exact hv⟩,by simp only[id_eq];omega⟩
   ·repeat (first |(refine wo rfl (fun k hk=>?_);simp(disch:=omega) only[go_sem,ξ,ζ,hat1];apply hk;clear hk k) |refine wkt rfl ?_ |refine wk0 ?_ |refine rg rfl rfl (fun K hK=>?_) |((first |refine ae ?_ |refine ac ?_);simp(disch:=decide) only[qs,qb,if_true,if_false,reduceIte]) |refine ah rfl (fun K hK=>?_) |refine ct rfl ?_ |((try simp(disch:=omega) only[go_sem,ξ,ζ]);(first |apply hK |(clear hK;apply hK) |(clear hK;clear hK;apply hK));clear hK;(try clear K);(try dsimp only[ag,qs,qb])))
    refine ai ?_;simp(disch:=omega) only[go_sem,ξ,ζ]
    rw[uq (by decide) k xs (by omega) hlt hv (.inr hz)]
    simp;omega
theorem nY {h0 h:PH} [Le h0 h] {a:Option Addr} {c L:Nat} {xs:List Nat} (ha:Arr h0 a c xs) (hlt:∀x∈xs,x < 65536) (hl:xs.length=L):
  Spec mach 133 #[.slice a L c] h (fun v h'=>N16 h' v (val 65536 xs)) NP:=by
 subst hl
 exact(Aa ha hlt).mono (fun v h' hs hv=>⟨a,c,hv,(arrW16 ha hlt).to (l:=⟨(Le.sub (a:=h0) (b:=h)).trans hs⟩)⟩) (fun _ _ _ h=>h)
theorem eI {h0 h:PH} [Le h0 h] {v w:Value} {m n:Nat} (hv:N16 h0 v m) (hw:N16 h0 w n):Spec mach 148 #[v,w] h (fun v _=>v=.int .i64 (cmp3 m n)) NP:=by
  obtain⟨a,c,xs,rfl,ha,hxs,hm,hx16⟩:=hv.out
  obtain⟨a',c',ys,rfl,ha',hys,hn,hy16⟩:=hw.out
  have hs:=ha.small
  have hc:=ha.cap
  have hs':=ha'.small
  have hc':=ha'.cap
  refine Spec.enter (args:=[_,_]) (n:=41) Tryz.func148 rfl (by kernel_rfl) rfl (by simp) [.tmp 4] rfl (fun C _=>?_)
  by_cases hl:xs.length=ys.length
  · repeat (first |(refine wo rfl (fun k hk=>?_);simp(disch:=omega) only[go_sem,ξ,ζ];apply hk;clear hk k) |refine wkt rfl ?_ |refine wk0 ?_ |refine rg rfl rfl (fun K hK=>?_) |refine rd [.o 0,.o 1,.o 2,.o 3,.o 4,.o 5,.o 6,.o 7,.o 8] rfl (by decide+kernel) rfl (fun K hK=>?_) |((first |refine ae ?_ |refine ac ?_);simp(disch:=decide) only[qs,qb,if_true,if_false,reduceIte]) |refine ah rfl (fun K hK=>?_) |refine ct rfl ?_ |((try simp(disch:=omega) only[go_sem,ξ,ζ]);(first |apply hK |(clear hK;apply hK) |(clear hK;clear hK;apply hK));clear hK;(try clear K);(try dsimp only[ag,qs,qb])))
    refine cg (fun k:Nat=>⟨[(0,.v (.slice a xs.length c)),(1,.v (.slice a' ys.length c')),(5,.v (.int .i64 ((k:Int) - 1)))],[]⟩) (fun k h'=>Le h0 h'∧k≤xs.length∧xs.drop k=ys.drop k) id xs.length ?_ ⟨inferInstance,η _,by simp[hl]⟩ ?_
    · simp(disch:=omega) only[go_sem,ξ,ζ]
    · rintro k h1 ⟨hle,hk,hd⟩
      by_cases hk0:k=0
      · subst hk0
        repeat (first |(refine wo rfl (fun k hk=>?_);simp(disch:=omega) only[go_sem,ξ,ζ];apply hk;clear hk k) |refine wkt rfl ?_ |refine wk0 ?_ |refine rg rfl rfl (fun K hK=>?_) |refine rd [.o 0,.o 1,.o 2,.o 3,.o 4,.o 5,.o 6,.o 7,.o 8] rfl (by decide+kernel) rfl (fun K hK=>?_) |((first |refine ae ?_ |refine ac ?_);simp(disch:=decide) only[qs,qb,if_true,if_false,reduceIte]) |refine ah rfl (fun K hK=>?_) |refine ct rfl ?_ |((try simp(disch:=omega) only[go_sem,ξ,ζ]);(first |apply hK |(clear hK;apply hK) |(clear hK;clear hK;apply hK));clear hK;(try clear K);(try dsimp only[ag,qs,qb])))
        refine ai ?_;simp(disch:=omega) only[go_sem,ξ,ζ]
        have:m=n:=by rw[←hm,←hn,show xs=ys by simpa using hd]
        simp[cmp3,this]
      · obtain⟨k,rfl⟩:∃j,k=j+1:=⟨k - 1,by omega⟩
        obtain⟨ad,rfl,hat⟩:=ha.rd h1 (i:=k) (by omega)
        obtain⟨ad',rfl,hat'⟩:=ha'.rd h1 (i:=k) (by omega)
        by_cases hx:xs.getD k 0 < ys.getD k 0
        · repeat (first |(refine wo rfl (fun k hk=>?_);simp(disch:=omega) only[go_sem,ξ,ζ,hat,hat'];apply hk;clear hk k) |refine wkt rfl ?_ |refine wk0 ?_ |refine rg rfl rfl (fun K hK=>?_) |refine rd [.o 0,.o 1,.o 2,.o 3,.o 4,.o 5,.o 6,.o 7,.o 8] rfl (by decide+kernel) rfl (fun K hK=>?_) |((first |refine ae ?_ |refine ac ?_);simp(disch:=decide) only[qs,qb,if_true,if_false,reduceIte]) |refine ah rfl (fun K hK=>?_) |refine ct rfl ?_ |((try simp(disch:=omega) only[go_sem,ξ,ζ]);(first |apply hK |(clear hK;apply hK) |(clear hK;clear hK;apply hK));clear hK;(try clear K);(try dsimp only[ag,qs,qb])))
          refine ai ?_;simp(disch:=omega) only[go_sem,ξ,ζ]
          have:m < n:=by rw[←hm,←hn];exact rk B16 hx16 hl (by omega) hd hx
          simp[cmp3,this]
        · by_cases hy:ys.getD k 0 < xs.getD k 0
          · repeat (first |(refine wo rfl (fun k hk=>?_);simp(disch:=omega) only[go_sem,ξ,ζ,hat,hat'];apply hk;clear hk k) |refine wkt rfl ?_ |refine wk0 ?_ |refine rg rfl rfl (fun K hK=>?_) |refine rd [.o 0,.o 1,.o 2,.o 3,.o 4,.o 5,.o 6,.o 7,.o 8] rfl (by decide+kernel) rfl (fun K hK=>?_) |((first |refine ae ?_ |refine ac ?_);simp(disch:=decide) only[qs,qb,if_true,if_false,reduceIte]) |refine ah rfl (fun K hK=>?_) |refine ct rfl ?_ |((try simp(disch:=omega) only[go_sem,ξ,ζ]);(first |apply hK |(clear hK;apply hK) |(clear hK;clear hK;apply hK));clear hK;(try clear K);(try dsimp only[ag,qs,qb])))
            refine ai ?_;simp(disch:=omega) only[go_sem,ξ,ζ]
            have:n < m:=by rw[←hm,←hn];exact rk B16 hy16 hl.symm (by omega) hd.symm hy
            simp[cmp3,this,Nat.not_lt.2 (Nat.le_of_lt this)]
          · repeat (first |(refine wo rfl (fun k hk=>?_);simp(disch:=omega) only[go_sem,ξ,ζ,hat,hat'];apply hk;clear hk k) |refine wkt rfl ?_ |refine wk0 ?_ |refine rg rfl rfl (fun K hK=>?_) |refine rd [.o 0,.o 1,.o 2,.o 3,.o 4,.o 5,.o 6,.o 7,.o 8] rfl (by decide+kernel) rfl (fun K hK=>?_) |((first |refine ae ?_ |refine ac ?_);simp(disch:=decide) only[qs,qb,if_true,if_false,reduceIte]) |refine ah rfl (fun K hK=>?_) |refine ct rfl ?_ |((try simp(disch:=omega) only[go_sem,ξ,ζ]);(first |apply hK |(clear hK;apply hK) |(clear hK;clear hK;apply hK));clear hK;(try clear K);(try dsimp only[ag,qs,qb])))
            refine⟨k,?_,⟨hle,by omega,?_⟩,by simp⟩
            · simp(disch:=omega) only[go_sem,ξ,ζ]
            · rw[List.drop_eq_getElem_cons (by omega),List.drop_eq_getElem_cons (i:=k) (by omega:k < ys.length),hd]
              congr 1
              have h1:k < xs.length:=by omega
              have h2:k < ys.length:=by omega
              simp only[qAy,List.getElem?_eq_getElem h1,List.getElem?_eq_getElem h2,Option.getD_some] at hx hy
              omega
  · by_cases hl':xs.length < ys.length
    · repeat (first |(refine wo rfl (fun k hk=>?_);simp(disch:=omega) only[go_sem,ξ,ζ];apply hk;clear hk k) |refine wkt rfl ?_ |refine wk0 ?_ |refine rg rfl rfl (fun K hK=>?_) |refine rd [.o 0,.o 1,.o 2,.o 3,.o 4,.o 5,.o 6,.o 7,.o 8] rfl (by decide+kernel) rfl (fun K hK=>?_) |((first |refine ae ?_ |refine ac ?_);simp(disch:=decide) only[qs,qb,if_true,if_false,reduceIte]) |refine ah rfl (fun K hK=>?_) |refine ct rfl ?_ |((try simp(disch:=omega) only[go_sem,ξ,ζ]);(first |apply hK |(clear hK;apply hK) |(clear hK;clear hK;apply hK));clear hK;(try clear K);(try dsimp only[ag,qs,qb])))
      refine ai ?_;simp(disch:=omega) only[go_sem,ξ,ζ]
      have:m < n:=lm B16 (by rw[hxs,hys];exact hl')
      simp[cmp3,this]
    · repeat (first |(refine wo rfl (fun k hk=>?_);simp(disch:=omega) only[go_sem,ξ,ζ];apply hk;clear hk k) |refine wkt rfl ?_ |refine wk0 ?_ |refine rg rfl rfl (fun K hK=>?_) |refine rd [.o 0,.o 1,.o 2,.o 3,.o 4,.o 5,.o 6,.o 7,.o 8] rfl (by decide+kernel) rfl (fun K hK=>?_) |((first |refine ae ?_ |refine ac ?_);simp(disch:=decide) only[qs,qb,if_true,if_false,reduceIte]) |refine ah rfl (fun K hK=>?_) |refine ct rfl ?_ |((try simp(disch:=omega) only[go_sem,ξ,ζ]);(first |apply hK |(clear hK;apply hK) |(clear hK;clear hK;apply hK));clear hK;(try clear K);(try dsimp only[ag,qs,qb])))
      refine ai ?_;simp(disch:=omega) only[go_sem,ξ,ζ]
      have:n < m:=lm B16 (by rw[hxs,hys];omega)
      simp[cmp3,this,Nat.not_lt.2 (Nat.le_of_lt this)]
end Go.Q
