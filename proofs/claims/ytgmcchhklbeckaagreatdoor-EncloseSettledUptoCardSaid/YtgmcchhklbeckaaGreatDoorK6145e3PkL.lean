/-
  Contracts of the reference's rational numbers, and what stands on it. Conditions: each theorem's own.
-/
import Derived.Test.YtgmcchhklbeckaaGreatDoorKf08e96PkG
import Derived.Test.YtgmcchhklbeckaaGreatDoorK93e545PkK
import Derived.Test.YtgmcchhklbeckaaGreatDoorKe1901fPkI
import Derived.Test.YtgmcchhklbeckaaGreatDoorK0ef115PkD
import Derived.Test.YtgmcchhklbeckaaGreatDoorCards
import Derived.Test.YtgmcchhklbeckaaGreatDoorTie
import Derived.WalkKit
import Derived.ProofKit
import Derived.OpenShut
import Derived.Deep.DeepHandedRow
import Derived.Lib.LaidTab
set_option linter.unusedVariables false
set_option linter.unusedSimpArgs false
open Nat renaming reduceBEq→ξ,reduceAdd→ζ,le_trans→χ,mul_le_mul_right→ψ,le_refl→η,mul_comm→ρ,mul_le_mul_left→ω,mul_assoc→σ,mul_le_mul→qAk,mul_add→qAm,pow_succ→qAn,pow_le_pow_right→qAv,mul_one→qAz,one_mul→qBm
open Bool renaming and_eq_true→φ
open Rat renaming le_trans→qAq,le_refl→qBk
namespace Go.Q
open Go.Proofs
set_option maxRecDepth 100000
set_option maxHeartbeats 4000000
theorem EN {n k:Nat}:(W 65536 n).length≤k↔bl n≤16*k:=by
 rw[bl_le,vO]
 refine⟨fun h=>?_,fun h=>cV (by decide) h⟩
 exact Nat.lt_of_lt_of_le (cW (by decide) n) (qAv (by decide) h)
theorem N16.len {h:PH} {a:Option Addr} {l c n k:Nat} (r:N16 h (.slice a l c) n):l≤k↔bl n≤16*k:=by
 obtain⟨a',c',h1,_⟩:=r
 cases h1
 exact EN
theorem bl_e {e d:Nat} (he:dz e=d):(bl e≤2048↔bl d≤2048)∧bl e≤bl d:=by
 unfold dz at he
 split at he
 ·subst he;rename_i h;subst h;decide
 ·subst he;exact⟨Iff.rfl,η _⟩
theorem dh {h0 h:PH} [Le h0 h] {v:Value} {x:Rat} (hx:Qr h0 v x):Spec mach 73 #[v] h (fun v _=>v=.bool (decide (2048 < sz x))) NP:=by
  obtain⟨na,nl,nc,da,dl,dc,e,rfl,hn,hd,he⟩:=hx.sl
  have l1:=hn.len (k:=128)
  have l2:=hd.len (k:=128)
  have he':=bl_e he
  have hsz:sz x=max (bl x.num.natAbs) (bl x.den):=rfl
  refine Spec.go [] Tryz.func73 rfl rfl (by kernel_rfl) fun C _=>?_
  try simp(disch:=omega) only[go_sem,ξ,ζ]
  by_cases h1:nl≤128
  · by_cases h2:dl≤128
    · have e1:¬2048 < sz x:=by omega
      try simp(disch:=omega) only[go_sem,ξ,ζ]
      all_goals simp[e1]
    · have e1:2048 < sz x:=by omega
      try simp(disch:=omega) only[go_sem,ξ,ζ]
      all_goals simp[e1]
  · have e1:2048 < sz x:=by omega
    try simp(disch:=omega) only[go_sem,ξ,ζ]
    all_goals simp[e1]
theorem jJ {h0 h:PH} [Le h0 h] {v:Value} {neg:Bool} {n d:Nat} (hv:Rw h0 v neg n d):Spec mach 36 #[v] h (fun r _=>r=.bool (decide (lg neg n d))) NP:=by
  have hv0:=hv
  obtain⟨a,c,xs,a',c',ys,rfl,ha,ha',hn,hd,hsx,hsy⟩:=hv
  refine Spec.go [] Tryz.func36 rfl rfl (by kernel_rfl) fun C _=>?_
  try simp(disch:=omega) only[go_sem,ξ,ζ]
  by_cases hb1:bl n≤8192
  · by_cases hb2:bl d≤8192
    · try simp(disch:=omega) only[go_sem,ξ,ζ]
      refine caN (by exact jD ha rfl (by omega) hn) ?_;rintro v1 h1 s1 hv1;obtain⟨va1,vl1,vc1,rfl,hv1⟩:=hv1.sl;have e1:vl1≤512:=(hv1.len (k:=512)).2 (by omega)
      try simp(disch:=omega) only[go_sem,ξ,ζ]
      refine caN (by exact jD ha' rfl (by omega) hd) ?_;rintro v2 h2 s2 hv2;obtain⟨va2,vl2,vc2,rfl,hv2⟩:=hv2.sl;have e2:vl2≤512:=(hv2.len (k:=512)).2 (by omega)
      try simp(disch:=omega) only[go_sem,ξ,ζ]
      refine caN (by exact bM hv0) ?_;rintro _ h3 _ hv3;obtain⟨_,_,_,_,_,_,_,rfl,hv3⟩:=hv3.sa
      try simp(disch:=omega) only[go_sem,ξ,ζ]
      refine caN (by exact dh hv3) ?_;rintro v4 h4 s4 rfl
      try simp(disch:=omega) only[go_sem,ξ,ζ]
      have:lg neg n d↔2048 < sz (qof neg n d):=by unfold lg;omega
      simp[this]
    · have e3:lg neg n d:=by unfold lg;omega
      try simp(disch:=omega) only[go_sem,ξ,ζ]
      refine caN (by exact jD ha rfl (by omega) hn) ?_;rintro v1 h1 s1 hv1;obtain⟨va1,vl1,vc1,rfl,hv1⟩:=hv1.sl;have e1:vl1≤512:=(hv1.len (k:=512)).2 (by omega)
      try simp(disch:=omega) only[go_sem,ξ,ζ]
      refine caN (by exact jD ha' rfl (by omega) hd) ?_;rintro v2 h2 s2 hv2;obtain⟨va2,vl2,vc2,rfl,hv2⟩:=hv2.sl;have e2:¬vl2≤512:=fun e=>absurd ((hv2.len (k:=512)).1 e) (by omega)
      try simp(disch:=omega) only[go_sem,ξ,ζ]
      all_goals simp[e3]
  · have e3:lg neg n d:=by unfold lg;omega
    try simp(disch:=omega) only[go_sem,ξ,ζ]
    refine caN (by exact jD ha rfl (by omega) hn) ?_;rintro v1 h1 s1 hv1;obtain⟨va1,vl1,vc1,rfl,hv1⟩:=hv1.sl;have e1:¬vl1≤512:=fun e=>absurd ((hv1.len (k:=512)).1 e) (by omega)
    try simp(disch:=omega) only[go_sem,ξ,ζ]
    all_goals simp[e3]
theorem Jd (x:Rat):sgn (decide (x.num < 0)) (x.num.natAbs / x.den+(if decide (x.num < 0)=true∧x.num.natAbs % x.den≠0 then 1 else 0)) 1=(x.floor:Rat):=by
 rw[tQ,Rat.floor_def]
 have hd:=x.den_nz
 congr 1
 generalize x.num=a at*
 generalize x.den=d at*
 by_cases h:a < 0
 ·obtain⟨m,rfl⟩:∃m:Nat,a= -(m:Int):=⟨a.natAbs,by omega⟩
  rw[decide_eq_true h,yj m hd]
  simp only[Int.natAbs_neg,Int.natAbs_natCast,if_true]
  by_cases hr:m % d=0<;>simp[hr]
 ·obtain⟨m,rfl⟩:∃m:Nat,a=(m:Int):=⟨a.natAbs,by omega⟩
  rw[decide_eq_false h]
  simp
theorem ko {h0 h:PH} [Le h0 h] {v:Value} {x:Rat} (hx:Qr h0 v x) (bx:sz x≤2^35):
  Spec mach 262 #[v] h (fun v h'=>Qr h' v (x.floor:Rat)) NP:=by
 have hx0:=hx
 obtain⟨na,nl,nc,da,dl,dc,e,rfl,hn,hd,he⟩:=hx.sl
 have b1:=bG x;have b2:=bB x
 have b3:=aZ x.num.natAbs x.den
 have b4:=cY (x.num.natAbs / x.den) 1
 have b5:=fI
 have hs:=Jd x
 obtain⟨neg,en⟩:∃b,decide (x.num < 0)=b:=⟨_,rfl⟩
 rw[en] at hx0 hs ⊢
 refine Spec.enter (args:=[_]) (n:=28) Tryz.func262 rfl (by kernel_rfl) rfl (by simp) [.cell 2 60] rfl (fun C _=>?_)
 repeat (first |(refine wo rfl (fun k hk=>?_);simp(disch:=omega) only[go_sem,ξ,ζ];apply hk;clear hk k) |refine wkt rfl ?_ |refine wk0 ?_ |refine rg rfl rfl (fun K hK=>?_) |refine rd [.o 0,.o 1,.o 2,.o 3,.o 4,.o 5,.o 6,.o 7,.o 8,.o 9] rfl (by decide+kernel) rfl (fun K hK=>?_) |refine rd [.o 0,.o 1,.o 2,.o 3,.o 4,.o 5] rfl (by decide+kernel) rfl (fun K hK=>?_) |((first |refine ae ?_ |refine ac ?_);simp(disch:=decide) only[qs,qb,if_true,if_false,reduceIte]) |refine ah rfl (fun K hK=>?_) |refine ct rfl ?_ |((try simp(disch:=omega) only[go_sem,ξ,ζ]);(first |apply hK |(clear hK;apply hK) |(clear hK;clear hK;apply hK));clear hK;(try clear K);(try dsimp only[ag,qs,qb])))
 refine cN rfl rfl rfl rfl (by exact dU hx0) ?_;rintro d1 g1 _ hd1;obtain⟨d1,d1_l,d1_c,rfl,hd1⟩:=hd1.sl;(repeat (first |(refine wo rfl (fun k hk=>?_);simp(disch:=omega) only[go_sem,ξ,ζ];apply hk;clear hk k) |refine wkt rfl ?_));(try refine wk0 ?_)
 refine cN rfl rfl rfl rfl (by exact dJ (hn.to (h':=g1)) hd1 x.den_nz (by omega) (by omega)) ?_;rintro v2 h2 s2 ⟨q,r,rfl,hq,hr⟩;(repeat (first |(refine wo rfl (fun k hk=>?_);simp(disch:=omega) only[go_sem,ξ,ζ];apply hk;clear hk k) |refine wkt rfl ?_));(try refine wk0 ?_)
 obtain⟨qa,ql,qc,rfl,hq⟩:=hq.sl
 obtain⟨ra,rl,rc,rfl,hr⟩:=hr.sl
 have lr:=hr.len0
 (try (simp(disch:=omega) only[go_sem,ξ,ζ]));apply hK;clear hK;(try clear K);(try dsimp only[ag,qs])
 refine oJ (fun K hK=>?_)
 have rest:∀(v:Value) (q':Nat) (S:AS) (h:PH),Le h0 h→N16 h v q'→bl q'≤2^37→sgn neg q' 1=(x.floor:Rat)→S.le ⟨[(1,.p 0 0),(2,.p 1 0),(3,.v v)],[[.bool neg,.slice na nl nc,.slice da dl dc],[.bool false,.slice none 0 0,.slice none 0 0]]⟩→K S h:=by
  intro v q' S h _ hv bq hs hS
  refine hK _ _ (fq _ hS ?_);clear hK K
  obtain⟨va,vl,vc,rfl,hv⟩:=hv.sl
  (first |refine rg rfl rfl (fun K hK=>?_) |refine rd [.o 0,.o 1,.o 2,.o 3,.o 4,.o 5,.o 6,.o 7,.o 8,.o 9] rfl (by decide+kernel) rfl (fun K hK=>?_) |refine rd [.o 0,.o 1,.o 2,.o 3,.o 4,.o 5] rfl (by decide+kernel) rfl (fun K hK=>?_));(repeat (first |(refine wo rfl (fun k hk=>?_);simp(disch:=omega) only[go_sem,ξ,ζ];apply hk;clear hk k) |refine wkt rfl ?_));(try refine wk0 ?_)
  refine cN rfl rfl rfl rfl (by exact bQ (n:=1) (by decide)) ?_;rintro w1 h3 _ hw1;obtain⟨w1,w1_l,w1_c,rfl,hw1⟩:=hw1.sl;(repeat (first |(refine wo rfl (fun k hk=>?_);simp(disch:=omega) only[go_sem,ξ,ζ];apply hk;clear hk k) |refine wkt rfl ?_));(try refine wk0 ?_)
  refine cN rfl rfl rfl rfl (by exact fQ (neg:=neg) (hv.to (h':=h3)) hw1 (by omega) (by decide)) ?_;rintro w3 h5 _ hw3;obtain⟨w3_0,w3_1,w3_2,w3_3,w3_4,w3_5,w3_6,rfl,hw3⟩:=hw3.sa;(repeat (first |(refine wo rfl (fun k hk=>?_);simp(disch:=omega) only[go_sem,ξ,ζ];apply hk;clear hk k) |refine wkt rfl ?_));(try refine wk0 ?_)
  (try (simp(disch:=omega) only[go_sem,ξ,ζ]));apply hK;clear hK;(try clear K);(try dsimp only[ag,qs])
  refine ai ?_;simp(disch:=omega) only[go_sem,ξ,ζ]
  rw[hs] at hw3
  exact hw3
 cases neg with
 | false=>
  rw[if_neg (by simp),Nat.add_zero] at hs
  refine uf rfl (fun K hK=>?_);(repeat (first |(refine wo rfl (fun k hk=>?_);simp(disch:=omega) only[go_sem,ξ,ζ];apply hk;clear hk k) |refine wkt rfl ?_));(try refine wk0 ?_);(first |refine hK _ _ ?_ |(clear hK;refine hK _ _ ?_) |(clear hK;clear hK;refine hK _ _ ?_));clear hK;(try clear K)
  refine je rfl ?_
  refine ac ?_;simp only[qs,qb,if_true,if_false,reduceIte]
  refine rest _ _ _ _ inferInstance hq (by omega) hs ?_
  simp(disch:=omega) only[go_sem,ξ,ζ]
 | true=>
  by_cases hr0:x.num.natAbs % x.den=0
  ·rw[if_neg (by simp[hr0]),Nat.add_zero] at hs
   refine uf rfl (fun K hK=>?_);(repeat (first |(refine wo rfl (fun k hk=>?_);simp(disch:=omega) only[go_sem,ξ,ζ];apply hk;clear hk k) |refine wkt rfl ?_));(try refine wk0 ?_);(first |refine hK _ _ ?_ |(clear hK;refine hK _ _ ?_) |(clear hK;clear hK;refine hK _ _ ?_));clear hK;(try clear K)
   refine je rfl ?_
   refine ac ?_;simp only[qs,qb,if_true,if_false,reduceIte]
   refine rest _ _ _ _ inferInstance hq (by omega) hs ?_
   simp(disch:=omega) only[go_sem,ξ,ζ]
  ·rw[if_pos ⟨rfl,hr0⟩] at hs
   have e3:0 < rl:=by omega
   refine uf rfl (fun K hK=>?_);(repeat (first |(refine wo rfl (fun k hk=>?_);simp(disch:=omega) only[go_sem,ξ,ζ];apply hk;clear hk k) |refine wkt rfl ?_));(try refine wk0 ?_);(first |refine hK _ _ ?_ |(clear hK;refine hK _ _ ?_) |(clear hK;clear hK;refine hK _ _ ?_));clear hK;(try clear K)
   refine mE rfl ?_
   (first |refine rg rfl rfl (fun K hK=>?_) |refine rd [.o 0,.o 1,.o 2,.o 3,.o 4,.o 5,.o 6,.o 7,.o 8,.o 9] rfl (by decide+kernel) rfl (fun K hK=>?_) |refine rd [.o 0,.o 1,.o 2,.o 3,.o 4,.o 5] rfl (by decide+kernel) rfl (fun K hK=>?_));(repeat (first |(refine wo rfl (fun k hk=>?_);simp(disch:=omega) only[go_sem,ξ,ζ];apply hk;clear hk k) |refine wkt rfl ?_));(try refine wk0 ?_)
   refine cN rfl rfl rfl rfl (by exact bQ (n:=1) (by decide)) ?_;rintro w1 h4 _ hw1;obtain⟨w1,w1_l,w1_c,rfl,hw1⟩:=hw1.sl;(repeat (first |(refine wo rfl (fun k hk=>?_);simp(disch:=omega) only[go_sem,ξ,ζ];apply hk;clear hk k) |refine wkt rfl ?_));(try refine wk0 ?_)
   refine cN rfl rfl rfl rfl (by exact nr (hq.to (h':=h4)) hw1 (by omega) (by decide)) ?_;rintro w2 h5 _ hw2;obtain⟨w2,w2_l,w2_c,rfl,hw2⟩:=hw2.sl;(repeat (first |(refine wo rfl (fun k hk=>?_);simp(disch:=omega) only[go_sem,ξ,ζ];apply hk;clear hk k) |refine wkt rfl ?_));(try refine wk0 ?_)
   (try (simp(disch:=omega) only[go_sem,ξ,ζ]));apply hK;clear hK;(try clear K);(try dsimp only[ag,qs])
   refine rest _ _ _ _ inferInstance hw2 (by omega) hs ?_
   simp(disch:=omega) only[go_sem,ξ,ζ]

theorem gO {a b:Rat} (n:Nat) (h0:0≤a) (h:a≤b):a^n≤b^n:=by
 induction n with
 |zero=>rw[Rat.pow_zero,Rat.pow_zero];exact qBk
 | succ n ih=>
  rw[Rat.pow_succ,Rat.pow_succ]
  have h1:=mll h (Rat.pow_nonneg (n:=n) h0)
  have h2:=mlr ih (show 0≤b by grind)
  exact qAq h1 h2
theorem tK (a:Rat) (n:Nat):(-a)^n=if n % 2=0 then a^n else -(a^n):=by
 induction n with
 |zero=>simp
 | succ n ih=>
  rw[Rat.pow_succ,ih,Rat.pow_succ]
  by_cases h:n % 2=0
  ·rw[if_pos h,if_neg (by omega)];grind
  ·rw[if_neg h,if_pos (by omega)];grind
theorem tM {a b:Rat} {n:Nat} (hn:n % 2=1) (h:a≤b):a^n≤b^n:=by
 by_cases ha:0≤a
 ·exact gO n ha h
 ·have e1:=tK (-a) n
  rw[Rat.neg_neg,if_neg (by omega)] at e1
  by_cases hb:0≤b
  ·have h1:=Rat.pow_nonneg (n:=n) hb
   have h2:=Rat.pow_nonneg (n:=n) (show 0≤ -a by grind)
   grind
  ·have e2:=tK (-b) n
   rw[Rat.neg_neg,if_neg (by omega)] at e2
   have h1:=gO n (show 0≤ -b by grind) (show -b≤ -a by grind)
   grind
theorem uz (m n:Nat):bl (m^n)≤n*bl m+1:=by
 induction n with
 |zero=>rw[Nat.pow_zero,fI];omega
 | succ n ih=>
  rw[qAn]
  have:=aG (m^n) m
  have e:(n+1)*bl m=n*bl m+bl m:=Nat.succ_mul _ _
  omega
theorem FX (q:Rat) (n:Nat):sz (q^n)≤n*sz q+1:=by
 have h1:=uz q.num.natAbs n
 have h2:=uz q.den n
 have h3:=ω n (bG q)
 have h4:=ω n (bB q)
 show max (bl (q^n).num.natAbs) (bl (q^n).den)≤_
 rw[Rat.num_pow,Rat.den_pow,Int.natAbs_pow]
 omega
def irtTo (n a:Nat):Nat→Nat
 |0=>0
 |k+1=>if (k+1)^n≤a then k+1 else irtTo n a k
def irt (n a:Nat):Nat:=irtTo n a a
theorem emod_two (s:Int):((s % 18446744073709551616).toNat % 2:Nat)=(s % 2).toNat:=by omega
theorem vQ {k:Nat}:andI .i64 (k:Int) 1=((k % 2:Nat):Int):=by
 unfold andI
 rw[BitVec.toNat_and]
 have e1:(BitVec.ofInt IntKind.i64.bits (k:Int)).toNat=((k:Int) % 18446744073709551616).toNat:=by rw[BitVec.toNat_ofInt];rfl
 have e2:(BitVec.ofInt IntKind.i64.bits 1).toNat=2^1 - 1:=by decide
 rw[e1,e2,Nat.and_two_pow_sub_one_eq_mod,show(2:Nat)^1=2 from rfl,emod_two,IntKind.wrap_i64]
 omega
theorem BL {k:Nat}:(k:Int).fdiv (2^min (Int.toNat 1) 64)=((k / 2:Nat):Int):=by
 rw[show(2:Int)^min (Int.toNat 1) 64=2 from rfl,Int.fdiv_eq_ediv_of_nonneg _ (by decide)];omega
theorem npow_odd {a o k p:Nat} (hm:k % 2=1) (h:o*a^k=p):o*a*(a*a)^(k / 2)=p:=by
 obtain⟨j,rfl⟩:∃j,k=2*j+1:=⟨k / 2,by omega⟩
 rw[show(2*j+1) / 2=j by omega,←h,qAn,Nat.pow_mul,Nat.pow_two,σ,ρ ((a*a)^j) a]
theorem JE {a o k p:Nat} (hm:k % 2=0) (h:o*a^k=p):o*(a*a)^(k / 2)=p:=by
 obtain⟨j,rfl⟩:∃j,k=2*j:=⟨k / 2,by omega⟩
 rw[show(2*j) / 2=j by omega,←h,Nat.pow_mul,Nat.pow_two]
theorem JD {a o k B:Nat} (h:bl o+bl a*k≤B) (hk:k≠0):bl a+bl o≤B∧bl (o*a)+bl (a*a)*(k / 2)≤B+(bl a - bl a*(k % 2))∧bl o+bl (a*a)*(k / 2)≤B:=by
 have h1:=aG o a
 have h2:=aG a a
 have h3:bl (a*a)*(k / 2)≤(bl a+bl a)*(k / 2):=ψ _ h2
 have h4:bl a*k=bl a*(2*(k / 2))+bl a*(k % 2):=by rw[←qAm];congr 1;omega
 have h5:(bl a+bl a)*(k / 2)=bl a*(2*(k / 2)):=by rw[←Nat.two_mul,ρ 2,σ]
 have h6:bl a≤bl a*k:=Nat.le_mul_of_pos_right _ (by omega)
 rcases(show k % 2=0∨k % 2=1 by omega) with e |e<;>rw[e] at h4 ⊢<;>omega
theorem jL {h0 h:PH} [Le h0 h] {v:Value} {m n:Nat} (hv:N32 h0 v m) (hn:n≤2^20) (bm:bl m*n≤2^36):Spec mach 282 #[v,.int .i64 n] h (fun v h'=>N32 h' v (m^n)) NP:=by
  refine Spec.enter (args:=[_,_]) (n:=23) Tryz.func282 rfl (by kernel_rfl) rfl (by simp) [.tmp 4] rfl (fun C _=>?_)
  repeat (first |(refine wo rfl (fun k hk=>?_);simp(disch:=omega) only[go_sem,ξ,ζ];apply hk;clear hk k) |refine wkt rfl ?_ |refine wk0 ?_ |refine rg rfl rfl (fun K hK=>?_) |((first |refine ae ?_ |refine ac ?_);simp(disch:=decide) only[qs,qb,if_true,if_false,reduceIte]) |refine ah rfl (fun K hK=>?_) |refine ct rfl ?_ |((try simp(disch:=omega) only[go_sem,ξ,ζ]);(first |apply hK |(clear hK;apply hK) |(clear hK;clear hK;apply hK));clear hK;(try clear K);(try dsimp only[ag,qs,qb])))
  refine cN rfl rfl rfl rfl (by exact aw (n:=1) (by decide)) ?_;rintro o1 h1 s1 ho1
  repeat (first |(refine wo rfl (fun k hk=>?_);simp(disch:=omega) only[go_sem,ξ,ζ];apply hk;clear hk k) |refine wkt rfl ?_ |refine wk0 ?_ |refine rg rfl rfl (fun K hK=>?_) |((first |refine ae ?_ |refine ac ?_);simp(disch:=decide) only[qs,qb,if_true,if_false,reduceIte]) |refine ah rfl (fun K hK=>?_) |refine ct rfl ?_ |((try simp(disch:=omega) only[go_sem,ξ,ζ]);(first |apply hK |(clear hK;apply hK) |(clear hK;clear hK;apply hK));clear hK;(try clear K);(try dsimp only[ag,qs,qb])))
  refine cg (fun x:Value×Value×Nat×Nat×Nat=>⟨[(0,.v x.1),(1,.v (.int .i64 (x.2.2.2.2:Nat))),(5,.v x.2.1)],[]⟩)
    (fun x h'=>N32 h' x.1 x.2.2.1∧N32 h' x.2.1 x.2.2.2.1∧x.2.2.2.2≤2^20∧bl x.2.2.2.1+bl x.2.2.1*x.2.2.2.2≤1+bl m*n∧x.2.2.2.1*x.2.2.1^x.2.2.2.2=m^n)
    (fun x=>x.2.2.2.2) (v,o1,m,1,n) ?_ ⟨hv.to,ho1,hn,by rw[fI];exact η _,by rw[qBm]⟩ ?_
  · simp(disch:=omega) only[go_sem,ξ,ζ]
  · rintro⟨va,vo,a,o,k⟩ h2 ⟨ha,ho,hk,hb,he⟩
    dsimp only at ha ho hk hb he ⊢
    by_cases hk0:k=0
    · repeat (first |(refine wo rfl (fun k hk=>?_);simp(disch:=omega) only[go_sem,ξ,ζ];apply hk;clear hk k) |refine wkt rfl ?_ |refine wk0 ?_ |refine rg rfl rfl (fun K hK=>?_) |((first |refine ae ?_ |refine ac ?_);simp(disch:=decide) only[qs,qb,if_true,if_false,reduceIte]) |refine ah rfl (fun K hK=>?_) |refine ct rfl ?_ |((try simp(disch:=omega) only[go_sem,ξ,ζ]);(first |apply hK |(clear hK;apply hK) |(clear hK;clear hK;apply hK));clear hK;(try clear K);(try dsimp only[ag,qs,qb])))
      refine ai ?_;simp(disch:=omega) only[go_sem,ξ,ζ]
      rw[hk0,Nat.pow_zero,qAz] at he
      rwa[←he]
    · obtain⟨b1,b2,b3⟩:=JD hb hk0
      have hk2:k / 2≤2^20:=by omega
      have hlt:k / 2 < k:=by omega
      by_cases hm:k % 2=1
      · by_cases hk1:k=1
        · subst hk1
          repeat (first |(refine wo rfl (fun k hk=>?_);simp(disch:=omega) only[go_sem,ξ,ζ,vQ,hm];apply hk;clear hk k) |refine wkt rfl ?_ |refine wk0 ?_ |refine rg rfl rfl (fun K hK=>?_) |((first |refine ae ?_ |refine ac ?_);simp(disch:=decide) only[qs,qb,if_true,if_false,reduceIte]) |refine ah rfl (fun K hK=>?_) |refine ct rfl ?_ |((try simp(disch:=omega) only[go_sem,ξ,ζ]);(first |apply hK |(clear hK;apply hK) |(clear hK;clear hK;apply hK));clear hK;(try clear K);(try dsimp only[ag,qs,qb])))
          refine cN rfl rfl rfl rfl (by exact aI ho ha (by omega) (by omega)) ?_;rintro v3 h3 s3 q3
          repeat (first |(refine wo rfl (fun k hk=>?_);simp(disch:=omega) only[go_sem,ξ,ζ,vQ,BL];apply hk;clear hk k) |refine wkt rfl ?_ |refine wk0 ?_ |refine rg rfl rfl (fun K hK=>?_) |((first |refine ae ?_ |refine ac ?_);simp(disch:=decide) only[qs,qb,if_true,if_false,reduceIte]) |refine ah rfl (fun K hK=>?_) |refine ct rfl ?_ |((try simp(disch:=omega) only[go_sem,ξ,ζ]);(first |apply hK |(clear hK;apply hK) |(clear hK;clear hK;apply hK));clear hK;(try clear K);(try dsimp only[ag,qs,qb])))
          refine⟨(va,v3,a,o*a,0),?_,⟨ha.to,q3,by omega,?_,?_⟩,(show 0 < 1 by decide)⟩
          · simp(disch:=omega) only[go_sem,ξ,ζ]
            rfl
          · show bl (o*a)+bl a*0≤1+bl m*n
            rw[Nat.mul_zero]
            have:=aG o a
            omega
          · show o*a*a^0=m^n
            rw[Nat.pow_zero,qAz];rw[Nat.pow_one] at he;exact he
        · have h1k:1 < k:=by omega
          repeat (first |(refine wo rfl (fun k hk=>?_);simp(disch:=omega) only[go_sem,ξ,ζ,vQ,hm];apply hk;clear hk k) |refine wkt rfl ?_ |refine wk0 ?_ |refine rg rfl rfl (fun K hK=>?_) |((first |refine ae ?_ |refine ac ?_);simp(disch:=decide) only[qs,qb,if_true,if_false,reduceIte]) |refine ah rfl (fun K hK=>?_) |refine ct rfl ?_ |((try simp(disch:=omega) only[go_sem,ξ,ζ]);(first |apply hK |(clear hK;apply hK) |(clear hK;clear hK;apply hK));clear hK;(try clear K);(try dsimp only[ag,qs,qb])))
          refine cN rfl rfl rfl rfl (by exact aI ho ha (by omega) (by omega)) ?_;rintro v3 h3 s3 q3
          repeat (first |(refine wo rfl (fun k hk=>?_);simp(disch:=omega) only[go_sem,ξ,ζ];apply hk;clear hk k) |refine wkt rfl ?_ |refine wk0 ?_ |refine rg rfl rfl (fun K hK=>?_) |((first |refine ae ?_ |refine ac ?_);simp(disch:=decide) only[qs,qb,if_true,if_false,reduceIte]) |refine ah rfl (fun K hK=>?_) |refine ct rfl ?_ |((try simp(disch:=omega) only[go_sem,ξ,ζ]);(first |apply hK |(clear hK;apply hK) |(clear hK;clear hK;apply hK));clear hK;(try clear K);(try dsimp only[ag,qs,qb])))
          refine cN rfl rfl rfl rfl (by exact aI (ha.to (h':=h3)) (ha.to (h':=h3)) (by omega) (by omega)) ?_;rintro v4 h4 s4 q4
          repeat (first |(refine wo rfl (fun k hk=>?_);simp(disch:=omega) only[go_sem,ξ,ζ,BL];apply hk;clear hk k) |refine wkt rfl ?_ |refine wk0 ?_ |refine rg rfl rfl (fun K hK=>?_) |((first |refine ae ?_ |refine ac ?_);simp(disch:=decide) only[qs,qb,if_true,if_false,reduceIte]) |refine ah rfl (fun K hK=>?_) |refine ct rfl ?_ |((try simp(disch:=omega) only[go_sem,ξ,ζ]);(first |apply hK |(clear hK;apply hK) |(clear hK;clear hK;apply hK));clear hK;(try clear K);(try dsimp only[ag,qs,qb])))
          refine⟨(v4,v3,a*a,o*a,k / 2),?_,⟨q4,q3.to,hk2,?_,npow_odd hm he⟩,hlt⟩
          · simp(disch:=omega) only[go_sem,ξ,ζ]
          · show bl (o*a)+bl (a*a)*(k / 2)≤1+bl m*n
            rw[hm,qAz] at b2;omega
      · have hm:k % 2=0:=by omega
        have h1k:1 < k:=by omega
        repeat (first |(refine wo rfl (fun k hk=>?_);simp(disch:=omega) only[go_sem,ξ,ζ,vQ,hm];apply hk;clear hk k) |refine wkt rfl ?_ |refine wk0 ?_ |refine rg rfl rfl (fun K hK=>?_) |((first |refine ae ?_ |refine ac ?_);simp(disch:=decide) only[qs,qb,if_true,if_false,reduceIte]) |refine ah rfl (fun K hK=>?_) |refine ct rfl ?_ |((try simp(disch:=omega) only[go_sem,ξ,ζ]);(first |apply hK |(clear hK;apply hK) |(clear hK;clear hK;apply hK));clear hK;(try clear K);(try dsimp only[ag,qs,qb])))
        refine cN rfl rfl rfl rfl (by exact aI ha ha (by omega) (by omega)) ?_;rintro v4 h4 s4 q4
        repeat (first |(refine wo rfl (fun k hk=>?_);simp(disch:=omega) only[go_sem,ξ,ζ,BL];apply hk;clear hk k) |refine wkt rfl ?_ |refine wk0 ?_ |refine rg rfl rfl (fun K hK=>?_) |((first |refine ae ?_ |refine ac ?_);simp(disch:=decide) only[qs,qb,if_true,if_false,reduceIte]) |refine ah rfl (fun K hK=>?_) |refine ct rfl ?_ |((try simp(disch:=omega) only[go_sem,ξ,ζ]);(first |apply hK |(clear hK;apply hK) |(clear hK;clear hK;apply hK));clear hK;(try clear K);(try dsimp only[ag,qs,qb])))
        refine⟨(v4,vo,a*a,o,k / 2),?_,⟨q4,ho.to,hk2,b3,JE hm he⟩,hlt⟩
        simp(disch:=omega) only[go_sem,ξ,ζ]
theorem N32.len0 {h:PH} {a:Option Addr} {l c n:Nat} (r:N32 h (.slice a l c) n):l=0↔n=0:=by
 obtain⟨_,_,_,e,_,h2,_⟩:=r.out
 cases e
 have:=nP B32 (n:=n)
 rw[h2] at this
 exact this
@[go_sem] theorem wrap_div {x y:Nat} (h:x < 4611686018427387904):IntKind.i64.wrap ((x / y:Nat):Int)=((x / y:Nat):Int):=by
 have:=Nat.div_le_self x y
 generalize x / y=z at*
 exact wi64 (by omega) (by omega)
@[go_sem] theorem wrap_div1 {x y c:Nat} (h:x+c < 4611686018427387904):IntKind.i64.wrap ((x / y+c:Nat):Int)=((x / y+c:Nat):Int):=by
 have:=Nat.div_le_self x y
 generalize x / y=z at*
 exact wi64 (by omega) (by omega)
theorem Ju (a:Int) (n:Nat):(a < 0→(n % 2=1→a^n < 0)∧(n % 2=0→0 < a^n))∧(0≤a→0≤a^n):=by
 induction n with
 |zero=>exact⟨fun _=>⟨fun h=>by omega,fun _=>by rw[Int.pow_zero];decide⟩,fun _=>by rw[Int.pow_zero];decide⟩
 | succ n ih=>
  rw[Int.pow_succ]
  refine⟨fun h=>⟨fun hm=>?_,fun hm=>?_⟩,fun h=>Int.mul_nonneg (ih.2 h) h⟩
  ·exact Int.mul_neg_of_pos_of_neg ((ih.1 h).2 (by omega)) h
  ·exact Int.mul_pos_of_neg_of_neg ((ih.1 h).1 (by omega)) h
theorem HL (x:Rat) (n:Nat):decide ((x^n).num < 0)=(decide (x.num < 0) && decide (n % 2=1)):=by
  have h:=Ju x.num n
  rw[Rat.num_pow]
  generalize x.num^n=z at*
  by_cases h1:x.num < 0
  · by_cases h2:n % 2=1
    · have:=(h.1 h1).1 h2
      simp[h1,h2,this]
    · have:=(h.1 h1).2 (by omega)
      have h3:¬z < 0:=by omega
      simp[h1,h2,h3]
  · have:=h.2 (by omega)
    have h3:¬z < 0:=by omega
    simp[h1,h3]
theorem jM {h0 h:PH} [Le h0 h] {v:Value} {x:Rat} {n:Nat} (hx:Fr h0 v x) (hn:n≤64) (bx:sz x≤2^20):Spec mach 241 #[v,.int .i64 n] h (fun v h'=>Fr h' v (x^n)) NP:=by
 obtain⟨na,nl,nc,da,dl,dc,rfl,hn1,hd1⟩:=hx.sl
 have b1:=bG x
 have b2:=bB x
 have m1:bl x.num.natAbs*n≤2^20*64:=qAk (by omega) hn
 have m2:bl x.den*n≤2^20*64:=qAk (by omega) hn
 have e1:(x^n).num.natAbs=x.num.natAbs^n:=by rw[Rat.num_pow,Int.natAbs_pow]
 have e2:(x^n).den=x.den^n:=Rat.den_pow ..
 have e3:=HL x n
 generalize decide (x.num < 0)=s at*
 by_cases hm:n % 2=1
 ·rw[decide_eq_true hm,Bool.and_true] at e3
  cases s<;>
  ·refine Spec.enter (args:=[_,_]) (n:=21) Tryz.func241 rfl (by kernel_rfl) rfl (by simp) [.cell 4 89] rfl (fun C _=>?_)
   repeat (first |(refine wo rfl (fun k hk=>?_);simp(disch:=omega) only[go_sem,ξ,ζ];apply hk;clear hk k) |refine wkt rfl ?_ |refine wk0 ?_ |refine rg rfl rfl (fun K hK=>?_) |refine rd [.o 0,.o 1,.o 2,.o 3,.o 4,.o 5,.o 6,.o 7,.o 8,.o 9,.o 11,.o 12,.o 13,.o 10,.o 14,.o 15,.o 16] rfl (by decide+kernel) rfl (fun K hK=>?_) |((first |refine ae ?_ |refine ac ?_);simp(disch:=decide) only[qs,qb,if_true,if_false,reduceIte]) |refine ah rfl (fun K hK=>?_) |refine ct rfl ?_ |((try simp(disch:=omega) only[go_sem,ξ,ζ]);(first |apply hK |(clear hK;apply hK) |(clear hK;clear hK;apply hK));clear hK;(try clear K);(try dsimp only[ag,qs,qb])))
   refine cN rfl rfl rfl rfl (by exact jL hn1 (by omega) (by omega)) ?_;rintro v1 h1 _ q1;obtain⟨v1,v1_l,v1_c,rfl,q1⟩:=q1.sl;(repeat (first |(refine wo rfl (fun k hk=>?_);simp(disch:=omega) only[go_sem,ξ,ζ];apply hk;clear hk k) |refine wkt rfl ?_));(try refine wk0 ?_)
   refine cN rfl rfl rfl rfl (by exact jL (hd1.to (h':=h1)) (by omega) (by omega)) ?_;rintro v2 h2 _ q2;obtain⟨v2,v2_l,v2_c,rfl,q2⟩:=q2.sl;(repeat (first |(refine wo rfl (fun k hk=>?_);simp(disch:=omega) only[go_sem,ξ,ζ];apply hk;clear hk k) |refine wkt rfl ?_));(try refine wk0 ?_)
   (try (simp(disch:=omega) only[go_sem,ξ,ζ]));apply hK;clear hK;(try clear K);(try dsimp only[ag,qs])
   refine ai ?_;simp(disch:=omega) only[go_sem,ξ,ζ]
   exact⟨_,_,by rw[e3],by rw[e1];exact q1.to,by rw[e2];exact q2⟩
 ·rw[decide_eq_false hm,Bool.and_false] at e3
  cases s<;>
  ·refine Spec.enter (args:=[_,_]) (n:=21) Tryz.func241 rfl (by kernel_rfl) rfl (by simp) [.cell 4 89] rfl (fun C _=>?_)
   repeat (first |(refine wo rfl (fun k hk=>?_);simp(disch:=omega) only[go_sem,ξ,ζ];apply hk;clear hk k) |refine wkt rfl ?_ |refine wk0 ?_ |refine rg rfl rfl (fun K hK=>?_) |refine rd [.o 0,.o 1,.o 2,.o 3,.o 4,.o 5,.o 6,.o 7,.o 8,.o 9,.o 11,.o 12,.o 13,.o 10,.o 14,.o 15,.o 16] rfl (by decide+kernel) rfl (fun K hK=>?_) |((first |refine ae ?_ |refine ac ?_);simp(disch:=decide) only[qs,qb,if_true,if_false,reduceIte]) |refine ah rfl (fun K hK=>?_) |refine ct rfl ?_ |((try simp(disch:=omega) only[go_sem,ξ,ζ]);(first |apply hK |(clear hK;apply hK) |(clear hK;clear hK;apply hK));clear hK;(try clear K);(try dsimp only[ag,qs,qb])))
   refine cN rfl rfl rfl rfl (by exact jL hn1 (by omega) (by omega)) ?_;rintro v1 h1 _ q1;obtain⟨v1,v1_l,v1_c,rfl,q1⟩:=q1.sl;(repeat (first |(refine wo rfl (fun k hk=>?_);simp(disch:=omega) only[go_sem,ξ,ζ];apply hk;clear hk k) |refine wkt rfl ?_));(try refine wk0 ?_)
   refine cN rfl rfl rfl rfl (by exact jL (hd1.to (h':=h1)) (by omega) (by omega)) ?_;rintro v2 h2 _ q2;obtain⟨v2,v2_l,v2_c,rfl,q2⟩:=q2.sl;(repeat (first |(refine wo rfl (fun k hk=>?_);simp(disch:=omega) only[go_sem,ξ,ζ];apply hk;clear hk k) |refine wkt rfl ?_));(try refine wk0 ?_)
   (try (simp(disch:=omega) only[go_sem,ξ,ζ]));apply hK;clear hK;(try clear K);(try dsimp only[ag,qs])
   refine ai ?_;simp(disch:=omega) only[go_sem,ξ,ζ]
   exact⟨_,_,by rw[e3],by rw[e1];exact q1.to,by rw[e2];exact q2⟩
def fail (e:Int):List PanicEntry→PH→Prop:=fun ch _=>ch=[{v:=.iface 133 (.agg #[.int .i64 e]),recovered:=false}]
def NR:Value→PH→Prop:=fun _ _=>False
theorem must_ok {h:PH}:Spec mach 147 #[.int .i64 0] h (fun _ _=>True) NP:=by
 refine Spec.enter (args:=[_]) (n:=7) Tryz.func147 rfl (by kernel_rfl) rfl (by simp) [] rfl (fun C _=>?_)
 repeat (first |(refine rg rfl rfl (fun K hK=>?_);(repeat (first |(refine wo rfl (fun k hk=>?_);simp(disch:=omega) only[go_sem,ξ,ζ];apply hk;clear hk k) |refine wkt rfl ?_));(try refine wk0 ?_);apply hK;clear hK K;(try dsimp only[ag,qs,qb])) |((first |refine ae ?_ |refine ac ?_);simp(disch:=decide) only[qs,qb,if_true,if_false,reduceIte]) |refine ah rfl (fun K hK=>?_) |refine ct rfl ?_ |((first |refine hK _ _ ?_ |(clear hK;refine hK _ _ ?_) |(clear hK;clear hK;refine hK _ _ ?_));clear hK;(try clear K)))
 refine ac ?_
 simp(disch:=omega) only[go_sem,ξ,ζ]
theorem jm {h:PH} {e:Int} (he:e≠0):Spec mach 147 #[.int .i64 e] h NR (fail e):=by
 refine Spec.enter (args:=[_]) (n:=7) Tryz.func147 rfl (by kernel_rfl) rfl (by simp) [] rfl (fun C _=>?_)
 repeat (first |(refine wo rfl (fun k hk=>?_);simp(disch:=omega) only[go_sem,ξ,ζ];apply hk;clear hk k) |refine wkt rfl ?_ |refine wk0 ?_ |refine rg rfl rfl (fun K hK=>?_) |((first |refine ae ?_ |refine ac ?_);simp(disch:=decide) only[qs,qb,if_true,if_false,reduceIte]) |refine ah rfl (fun K hK=>?_) |refine ct rfl ?_ |((try simp(disch:=omega) only[go_sem,ξ,ζ]);(first |apply hK |(clear hK;apply hK) |(clear hK;clear hK;apply hK));clear hK;(try clear K);(try dsimp only[ag,qs,qb])))
 refine wo rfl (fun k hk=>?_);simp(disch:=omega) only[go_sem,ξ,ζ]
 refine⟨by kernel_rfl,?_⟩
 apply hk;clear hk k
 refine wo rfl (fun k hk=>?_);simp(disch:=omega) only[go_sem,ξ,ζ]
 all_goals exact rfl
theorem aU {h:PH} {n a b:Int} (h1:a≤n) (h2:n≤b):Spec mach 126 #[.int .i64 n,.int .i64 a,.int .i64 b] h (fun _ _=>True) NP:=by
 refine Spec.enter (args:=[_,_,_]) (n:=15) Tryz.func126 rfl (by kernel_rfl) rfl (by simp) [] rfl (fun C _=>?_)
 repeat (first |(refine rg rfl rfl (fun K hK=>?_);(repeat (first |(refine wo rfl (fun k hk=>?_);simp(disch:=omega) only[go_sem,ξ,ζ];apply hk;clear hk k) |refine wkt rfl ?_));(try refine wk0 ?_);apply hK;clear hK K;(try dsimp only[ag,qs,qb])) |((first |refine ae ?_ |refine ac ?_);simp(disch:=decide) only[qs,qb,if_true,if_false,reduceIte]) |refine ah rfl (fun K hK=>?_) |refine ct rfl ?_ |((first |refine hK _ _ ?_ |(clear hK;refine hK _ _ ?_) |(clear hK;clear hK;refine hK _ _ ?_));clear hK;(try clear K)))
 refine ac ?_
 simp(disch:=omega) only[go_sem,ξ,ζ]
theorem iN {h:PH} {n a b:Int} (h1:n < a∨b < n):Spec mach 126 #[.int .i64 n,.int .i64 a,.int .i64 b] h NR (fail 2):=by
 refine Spec.go [] Tryz.func126 rfl rfl (by kernel_rfl) fun C _=>?_
 try simp(maxSteps:=999999) (disch:=omega) only[go_sem,ξ,ζ]
 by_cases h2:n < a
 ·try simp(maxSteps:=999999) (disch:=omega) only[go_sem,ξ,ζ]
  exact caF (by exact jm (by decide)) (fun _ _ h=>h)
 ·have h3:b < n:=h1.resolve_left h2
  try simp(maxSteps:=999999) (disch:=omega) only[go_sem,ξ,ζ]
  exact caF (by exact jm (by decide)) (fun _ _ h=>h)
theorem iM {h0 h:PH} [Le h0 h] {v:Value} {neg:Bool} {n d:Nat} (hv:Rw h0 v neg n d) (hl:¬lg neg n d):Spec mach 86 #[v] h (fun v h'=>Fr h' v (qof neg n d)) NP:=by
 obtain⟨_,_,_,_,_,_,_,rfl,hv⟩:=hv.sa
 refine Spec.go [] Tryz.func86 rfl rfl (by kernel_rfl) fun C _=>?_
 try simp(maxSteps:=999999) (disch:=omega) only[go_sem,ξ,ζ]
 refine caN (by exact sN hv hl) ?_;rintro v1 h1 s1 ⟨f,rfl,hf⟩;obtain⟨_,_,_,_,_,_,_,rfl,hf⟩:=hf.sa
 try simp(maxSteps:=999999) (disch:=omega) only[go_sem,ξ,ζ]
 exact hf.to
theorem jn {h0 h:PH} [Le h0 h] {v:Value} {neg:Bool} {n d:Nat} (hv:Rw h0 v neg n d) (hl:lg neg n d):Spec mach 86 #[v] h NR (fail 1):=by
 obtain⟨_,_,_,_,_,_,_,rfl,hv⟩:=hv.sa
 refine Spec.go [] Tryz.func86 rfl rfl (by kernel_rfl) fun C _=>?_
 try simp(maxSteps:=999999) (disch:=omega) only[go_sem,ξ,ζ]
 refine caN (by exact Gm hv hl) ?_;rintro v1 h1 s1 ⟨b,a,l,c,a',l',c',rfl⟩
 try simp(maxSteps:=999999) (disch:=omega) only[go_sem,ξ,ζ]
 exact caF (by exact jm (by decide)) (fun _ _ h=>h)
theorem fm {h0 h:PH} [Le h0 h] {v:Value} {x:Rat} (hv:Cn h0 v x):Spec mach 184 #[v,.int .i64 0] h (fun w _=>w=v) NP:=by
 obtain⟨_,_,_,_,_,_,_,rfl,hv⟩:=hv.sa
 refine Spec.go [] Tryz.func184 rfl rfl (by kernel_rfl) fun C _=>?_
 try simp(maxSteps:=999999) (disch:=omega) only[go_sem,ξ,ζ]
 refine caN (by exact must_ok) ?_;rintro v1 h1 s1 _
 try simp(maxSteps:=999999) (disch:=omega) only[go_sem,ξ,ζ]
 all_goals exact rfl
theorem jj {h:PH} {e:Int} (he:e≠0):Spec mach 184 #[zRat,.int .i64 e] h NR (fail e):=by
 unfold zRat
 refine Spec.go [] Tryz.func184 rfl rfl (by kernel_rfl) fun C _=>?_
 try simp(maxSteps:=999999) (disch:=omega) only[go_sem,ξ,ζ]
 exact caF (by exact jm he) (fun _ _ h=>h)
structure PS where
 lo:Rat
 hi:Rat
 l:Bool
 u:Bool
 e:Bool
def Iw (h:PH) (v:Value) (n1:Bool) (a1 d1:Nat) (n2:Bool) (a2 d2:Nat) (l u:Bool):Prop:=
 ∃x1 y1 x2 y2,v=.agg #[.bool n1,x1,y1,.bool n2,x2,y2,.bool l,.bool u]∧Rw h (.agg #[.bool n1,x1,y1]) n1 a1 d1∧Rw h (.agg #[.bool n2,x2,y2]) n2 a2 d2
def Sr (h:PH) (v:Value) (s:PS):Prop:=∃b1 x1 y1 b2 x2 y2,v=.agg #[.bool b1,x1,y1,.bool b2,x2,y2,.bool s.l,.bool s.u,.bool s.e]∧(∃n d,Jk h b1 x1 y1 n d)∧(∃n d,Jk h b2 x2 y2 n d)∧
 (s.l=false→s.e=false→Fr h (.agg #[.bool b1,x1,y1]) s.lo)∧(s.u=false→s.e=false→Fr h (.agg #[.bool b2,x2,y2]) s.hi)
def Sf (h:PH) (v:Value) (s:PS):Prop:=∃b1 x1 y1 b2 x2 y2,v=.agg #[.bool b1,x1,y1,.bool b2,x2,y2,.bool s.l,.bool s.u,.bool s.e]∧Fr h (.agg #[.bool b1,x1,y1]) s.lo∧Fr h (.agg #[.bool b2,x2,y2]) s.hi
theorem Sf.to {h h':PH} {v:Value} {s:PS} (r:Sf h v s) [Le h h']:Sf h' v s:=let ⟨a,b,c,d,e,f,h1,h2,h3⟩:=r;⟨a,b,c,d,e,f,h1,h2.to,h3.to⟩
theorem Sr.to {h h':PH} {v:Value} {s:PS} (r:Sr h v s) [Le h h']:Sr h' v s:=let ⟨a,b,c,d,e,f,h1,⟨m,n,h2⟩,⟨m',n',h3⟩,h4,h5⟩:=r;⟨a,b,c,d,e,f,h1,⟨m,n,h2.to⟩,⟨m',n',h3.to⟩,fun x y=>(h4 x y).to,fun x y=>(h5 x y).to⟩
theorem Fr.jk' {h:PH} {b:Bool} {x y:Value} {q:Rat} (r:Fr h (.agg #[.bool b,x,y]) q):Jk h b x y q.num.natAbs q.den:=by
 obtain⟨sn,sd,h1,h2,h3⟩:=r
 simp only[Value.agg.injEq,Array.mk.injEq,List.cons.injEq,and_true] at h1
 obtain⟨_,rfl,rfl⟩:=h1
 exact⟨h2,h3⟩
theorem Sf.sr {h:PH} {v:Value} {s:PS} (r:Sf h v s):Sr h v s:=let ⟨a,b,c,d,e,f,h1,h2,h3⟩:=r;⟨a,b,c,d,e,f,h1,⟨_,_,h2.jk'⟩,⟨_,_,h3.jk'⟩,fun _ _=>h2,fun _ _=>h3⟩
def rdS (q1 q2:Rat) (l u:Bool):PS:=⟨q1,q2,l,u,!l && !u && decide (q2 < q1)⟩
theorem wy {h0 h:PH} [Le h0 h] {v:Value} {n1 n2:Bool} {a1 d1 a2 d2:Nat} {l u:Bool} (hv:Iw h0 v n1 a1 d1 n2 a2 d2 l u) (g1:¬lg n1 a1 d1) (g2:¬lg n2 a2 d2):
  Spec mach 47 #[v] h (fun v h'=>Sf h' v (rdS (qof n1 a1 d1) (qof n2 a2 d2) l u)) NP:=by
 obtain⟨x1,y1,x2,y2,rfl,hx,hy⟩:=hv
 have hx0:=hx
 have hy0:=hy
 obtain⟨_,_,_,_,_,_,e1,_⟩:=hx
 obtain⟨_,_,_,_,_,_,e2,_⟩:=hy
 simp only[Value.agg.injEq,Array.mk.injEq,List.cons.injEq,and_true,true_and] at e1 e2
 obtain⟨rfl,rfl⟩:=e1
 obtain⟨rfl,rfl⟩:=e2
 refine Spec.enter (args:=[_]) (n:=33) Tryz.func47 rfl (by kernel_rfl) rfl (by simp) [.cell 2 91] rfl (fun C _=>?_)
 repeat (first |(refine rg rfl rfl (fun K hK=>?_);(repeat (first |(refine wo rfl (fun k hk=>?_);simp(disch:=omega) only[go_sem,ξ,ζ];apply hk;clear hk k) |refine wkt rfl ?_));(try refine wk0 ?_);apply hK;clear hK K;(try dsimp only[ag,qs,qb])) |((first |refine ae ?_ |refine ac ?_);simp(disch:=decide) only[qs,qb,if_true,if_false,reduceIte]) |refine ah rfl (fun K hK=>?_) |refine ct rfl ?_ |((first |refine hK _ _ ?_ |(clear hK;refine hK _ _ ?_) |(clear hK;clear hK;refine hK _ _ ?_));clear hK;(try clear K)))
 have z1:sz (qof n1 a1 d1)≤2048:=by unfold lg at g1;omega
 have z2:sz (qof n2 a2 d2)≤2048:=by unfold lg at g2;omega
 obtain⟨q1,hq1⟩:∃q,qof n1 a1 d1=q:=⟨_,rfl⟩
 obtain⟨q2,hq2⟩:∃q,qof n2 a2 d2=q:=⟨_,rfl⟩
 rw[hq1] at z1 ⊢
 rw[hq2] at z2 ⊢
 (first |refine AWP_t (.seg [.o 0,.o 1,.o 3,.o 4,.o 6,.o 7,.o 8,.o 9] (.alt 2 (.alt 5 (.seg [.o 10] (.alt 11 (.alt 12 .done .no) .no)) (.alt 11 (.alt 5 (.seg [.o 10] (.alt 12 .done .no)) .no) .no)) (.alt 11 (.alt 2 (.alt 5 (.seg [.o 10] (.alt 12 .done .no)) .no) .no) .no))) (by decide+kernel) rfl (fun K hK=>?_) |refine mR (.seg [.o 0,.o 1,.o 3,.o 4,.o 6,.o 7,.o 8,.o 9] (.alt 2 (.alt 5 (.seg [.o 10] (.alt 11 (.alt 12 .done .no) .no)) (.alt 11 (.alt 5 (.seg [.o 10] (.alt 12 .done .no)) .no) .no)) (.alt 11 (.alt 2 (.alt 5 (.seg [.o 10] (.alt 12 .done .no)) .no) .no) .no))) (by decide+kernel) rfl (fun K hK=>?_))
 have rest:∀(b1:Bool) (xa:Option Addr) (xl xc:Nat) (ya:Option Addr) (yl yc:Nat) (b2:Bool) (xa':Option Addr) (xl' xc':Nat) (ya':Option Addr) (yl' yc':Nat) (h':PH) (S:AS),Fr h' (.agg #[.bool b1,.slice xa xl xc,.slice ya yl yc]) q1→Fr h' (.agg #[.bool b2,.slice xa' xl' xc',.slice ya' yl' yc']) q2→
   S.le ⟨[(2,.p 1 0),(3,.p 2 0)],[[],[.bool false,.slice none 0 0,.slice none 0 0,.bool false,.slice none 0 0,.slice none 0 0,.bool false,.bool false,.bool false],[.bool b1,.slice xa xl xc,.slice ya yl yc,.bool b2,.slice xa' xl' xc',.slice ya' yl' yc',.bool l,.bool u,.bool false]]⟩→K S h':=by
  intro b1 xa xl xc ya yl yc b2 xa' xl' xc' ya' yl' yc' h' S hf1 hf2 hS
  refine hK _ _ (fq _ hS ?_);clear hK K
  cases l with
  | true=>
   (repeat (first |(refine rg rfl rfl (fun K hK=>?_);(repeat (first |(refine wo rfl (fun k hk=>?_);simp(disch:=omega) only[go_sem,ξ,ζ];apply hk;clear hk k) |refine wkt rfl ?_));(try refine wk0 ?_);apply hK;clear hK K;(try dsimp only[ag,qs,qb])) |((first |refine ae ?_ |refine ac ?_);simp(disch:=decide) only[qs,qb,if_true,if_false,reduceIte]) |refine ah rfl (fun K hK=>?_) |refine ct rfl ?_ |((first |refine hK _ _ ?_ |(clear hK;refine hK _ _ ?_) |(clear hK;clear hK;refine hK _ _ ?_));clear hK;(try clear K))))
   refine ai ?_;simp(disch:=omega) only[go_sem,ξ,ζ]
   exact⟨_,_,_,_,_,_,rfl,hf1.to,hf2.to⟩
  | false=>
   cases u with
   | true=>
    (repeat (first |(refine rg rfl rfl (fun K hK=>?_);(repeat (first |(refine wo rfl (fun k hk=>?_);simp(disch:=omega) only[go_sem,ξ,ζ];apply hk;clear hk k) |refine wkt rfl ?_));(try refine wk0 ?_);apply hK;clear hK K;(try dsimp only[ag,qs,qb])) |((first |refine ae ?_ |refine ac ?_);simp(disch:=decide) only[qs,qb,if_true,if_false,reduceIte]) |refine ah rfl (fun K hK=>?_) |refine ct rfl ?_ |((first |refine hK _ _ ?_ |(clear hK;refine hK _ _ ?_) |(clear hK;clear hK;refine hK _ _ ?_));clear hK;(try clear K))))
    refine ai ?_;simp(disch:=omega) only[go_sem,ξ,ζ]
    exact⟨_,_,_,_,_,_,rfl,hf1.to,hf2.to⟩
   | false=>
    by_cases hc:q2 < q1
    ·have e1:0 < cmpQ q1 q2:=by unfold cmpQ;grind
     have e2:rdS q1 q2 false false=⟨q1,q2,false,false,true⟩:=by simp[rdS,hc]
     rw[e2]
     (repeat (first |(refine rg rfl rfl (fun K hK=>?_);(repeat (first |(refine wo rfl (fun k hk=>?_);simp(disch:=omega) only[go_sem,ξ,ζ];apply hk;clear hk k) |refine wkt rfl ?_));(try refine wk0 ?_);apply hK;clear hK K;(try dsimp only[ag,qs,qb])) |((first |refine ae ?_ |refine ac ?_);simp(disch:=decide) only[qs,qb,if_true,if_false,reduceIte]) |refine ah rfl (fun K hK=>?_) |refine ct rfl ?_ |((first |refine hK _ _ ?_ |(clear hK;refine hK _ _ ?_) |(clear hK;clear hK;refine hK _ _ ?_));clear hK;(try clear K))));(refine rg rfl rfl (fun K hK=>?_);(repeat (first |(refine wo rfl (fun k hk=>?_);simp(disch:=omega) only[go_sem,ξ,ζ];apply hk;clear hk k) |refine wkt rfl ?_ |with_reducible refine wk0 ?_ |with_reducible refine ao ?_ |with_reducible refine aj ?_ wt_no |with_reducible refine ak ?_)))
     refine cN rfl rfl rfl rfl (by exact dq hf1 hf2 (by omega) (by omega)) ?_;rintro v1 h1 s1 rfl;(repeat (first |(refine wo rfl (fun k hk=>?_);simp(disch:=omega) only[go_sem,ξ,ζ];apply hk;clear hk k) |refine wkt rfl ?_ |with_reducible refine wk0 ?_ |with_reducible refine ao ?_ |with_reducible refine aj ?_ wt_no |with_reducible refine ak ?_))
     ((try (simp(disch:=omega) only[go_sem,ξ,ζ]));apply hK;clear hK;(try clear K);(try dsimp only[ag,qs]));(repeat (first |(refine rg rfl rfl (fun K hK=>?_);(repeat (first |(refine wo rfl (fun k hk=>?_);simp(disch:=omega) only[go_sem,ξ,ζ];apply hk;clear hk k) |refine wkt rfl ?_));(try refine wk0 ?_);apply hK;clear hK K;(try dsimp only[ag,qs,qb])) |((first |refine ae ?_ |refine ac ?_);simp(disch:=decide) only[qs,qb,if_true,if_false,reduceIte]) |refine ah rfl (fun K hK=>?_) |refine ct rfl ?_ |((first |refine hK _ _ ?_ |(clear hK;refine hK _ _ ?_) |(clear hK;clear hK;refine hK _ _ ?_));clear hK;(try clear K))))
     refine ai ?_;simp(disch:=omega) only[go_sem,ξ,ζ]
     exact⟨_,_,_,_,_,_,rfl,hf1.to,hf2.to⟩
    ·have e1:¬0 < cmpQ q1 q2:=by unfold cmpQ;grind
     have e2:rdS q1 q2 false false=⟨q1,q2,false,false,false⟩:=by simp[rdS,hc]
     rw[e2]
     (repeat (first |(refine rg rfl rfl (fun K hK=>?_);(repeat (first |(refine wo rfl (fun k hk=>?_);simp(disch:=omega) only[go_sem,ξ,ζ];apply hk;clear hk k) |refine wkt rfl ?_));(try refine wk0 ?_);apply hK;clear hK K;(try dsimp only[ag,qs,qb])) |((first |refine ae ?_ |refine ac ?_);simp(disch:=decide) only[qs,qb,if_true,if_false,reduceIte]) |refine ah rfl (fun K hK=>?_) |refine ct rfl ?_ |((first |refine hK _ _ ?_ |(clear hK;refine hK _ _ ?_) |(clear hK;clear hK;refine hK _ _ ?_));clear hK;(try clear K))));(refine rg rfl rfl (fun K hK=>?_);(repeat (first |(refine wo rfl (fun k hk=>?_);simp(disch:=omega) only[go_sem,ξ,ζ];apply hk;clear hk k) |refine wkt rfl ?_ |with_reducible refine wk0 ?_ |with_reducible refine ao ?_ |with_reducible refine aj ?_ wt_no |with_reducible refine ak ?_)))
     refine cN rfl rfl rfl rfl (by exact dq hf1 hf2 (by omega) (by omega)) ?_;rintro v1 h1 s1 rfl;(repeat (first |(refine wo rfl (fun k hk=>?_);simp(disch:=omega) only[go_sem,ξ,ζ];apply hk;clear hk k) |refine wkt rfl ?_ |with_reducible refine wk0 ?_ |with_reducible refine ao ?_ |with_reducible refine aj ?_ wt_no |with_reducible refine ak ?_))
     ((try (simp(disch:=omega) only[go_sem,ξ,ζ]));apply hK;clear hK;(try clear K);(try dsimp only[ag,qs]));(repeat (first |(refine rg rfl rfl (fun K hK=>?_);(repeat (first |(refine wo rfl (fun k hk=>?_);simp(disch:=omega) only[go_sem,ξ,ζ];apply hk;clear hk k) |refine wkt rfl ?_));(try refine wk0 ?_);apply hK;clear hK K;(try dsimp only[ag,qs,qb])) |((first |refine ae ?_ |refine ac ?_);simp(disch:=decide) only[qs,qb,if_true,if_false,reduceIte]) |refine ah rfl (fun K hK=>?_) |refine ct rfl ?_ |((first |refine hK _ _ ?_ |(clear hK;refine hK _ _ ?_) |(clear hK;clear hK;refine hK _ _ ?_));clear hK;(try clear K))))
     refine ai ?_;simp(disch:=omega) only[go_sem,ξ,ζ]
     exact⟨_,_,_,_,_,_,rfl,hf1.to,hf2.to⟩
 (repeat (first |(refine wo rfl (fun k hk=>?_);simp(disch:=omega) only[go_sem,ξ,ζ];apply hk;clear hk k) |refine wkt rfl ?_ |with_reducible refine wk0 ?_ |with_reducible refine ao ?_ |with_reducible refine aj ?_ wt_no |with_reducible refine ak ?_))
 refine aj ?_ (aj ?_ wt_no)
 ·refine cN rfl rfl rfl rfl (by exact iM hx0 g1) ?_;rintro v1 h1 _ hv1;obtain⟨v1_0,v1_1,v1_2,v1_3,v1_4,v1_5,v1_6,rfl,hv1⟩:=hv1.sa;(repeat (first |(refine wo rfl (fun k hk=>?_);simp(disch:=omega) only[go_sem,ξ,ζ];apply hk;clear hk k) |refine wkt rfl ?_ |with_reducible refine wk0 ?_ |with_reducible refine ao ?_ |with_reducible refine aj ?_ wt_no |with_reducible refine ak ?_))
  refine aj ?_ (aj ?_ wt_no)
  ·refine cN rfl rfl rfl rfl (by exact iM hy0 g2) ?_;rintro v2 h2 _ hv2;obtain⟨v2_0,v2_1,v2_2,v2_3,v2_4,v2_5,v2_6,rfl,hv2⟩:=hv2.sa;(repeat (first |(refine wo rfl (fun k hk=>?_);simp(disch:=omega) only[go_sem,ξ,ζ];apply hk;clear hk k) |refine wkt rfl ?_ |with_reducible refine wk0 ?_ |with_reducible refine ao ?_ |with_reducible refine aj ?_ wt_no |with_reducible refine ak ?_))
   rw[hq1] at hv1
   rw[hq2] at hv2
   refine rest _ _ _ _ _ _ _ _ _ _ _ _ _ _ _ _ hv1.to hv2 ?_
   simp(disch:=omega) only[go_sem,ξ,ζ,true_or]
  ·(repeat (first |(refine wo rfl (fun k hk=>?_);simp(disch:=omega) only[go_sem,ξ,ζ];apply hk;clear hk k) |refine wkt rfl ?_ |with_reducible refine wk0 ?_ |with_reducible refine ao ?_ |with_reducible refine aj ?_ wt_no |with_reducible refine ak ?_))
   refine cN rfl rfl rfl rfl (by exact iM hy0 g2) ?_;rintro v2 h2 _ hv2;obtain⟨v2_0,v2_1,v2_2,v2_3,v2_4,v2_5,v2_6,rfl,hv2⟩:=hv2.sa;(repeat (first |(refine wo rfl (fun k hk=>?_);simp(disch:=omega) only[go_sem,ξ,ζ];apply hk;clear hk k) |refine wkt rfl ?_ |with_reducible refine wk0 ?_ |with_reducible refine ao ?_ |with_reducible refine aj ?_ wt_no |with_reducible refine ak ?_))
   rw[hq1] at hv1
   rw[hq2] at hv2
   refine rest _ _ _ _ _ _ _ _ _ _ _ _ _ _ _ _ hv1.to hv2 ?_
   simp(disch:=omega) only[go_sem,ξ,ζ,true_or]
 ·(repeat (first |(refine wo rfl (fun k hk=>?_);simp(disch:=omega) only[go_sem,ξ,ζ];apply hk;clear hk k) |refine wkt rfl ?_ |with_reducible refine wk0 ?_ |with_reducible refine ao ?_ |with_reducible refine aj ?_ wt_no |with_reducible refine ak ?_))
  refine cN rfl rfl rfl rfl (by exact iM hx0 g1) ?_;rintro v1 h1 _ hv1;obtain⟨v1_0,v1_1,v1_2,v1_3,v1_4,v1_5,v1_6,rfl,hv1⟩:=hv1.sa;(repeat (first |(refine wo rfl (fun k hk=>?_);simp(disch:=omega) only[go_sem,ξ,ζ];apply hk;clear hk k) |refine wkt rfl ?_ |with_reducible refine wk0 ?_ |with_reducible refine ao ?_ |with_reducible refine aj ?_ wt_no |with_reducible refine ak ?_))
  refine cN rfl rfl rfl rfl (by exact iM hy0 g2) ?_;rintro v2 h2 _ hv2;obtain⟨v2_0,v2_1,v2_2,v2_3,v2_4,v2_5,v2_6,rfl,hv2⟩:=hv2.sa;(repeat (first |(refine wo rfl (fun k hk=>?_);simp(disch:=omega) only[go_sem,ξ,ζ];apply hk;clear hk k) |refine wkt rfl ?_ |with_reducible refine wk0 ?_ |with_reducible refine ao ?_ |with_reducible refine aj ?_ wt_no |with_reducible refine ak ?_))
  rw[hq1] at hv1
  rw[hq2] at hv2
  refine rest _ _ _ _ _ _ _ _ _ _ _ _ _ _ _ _ hv1.to hv2 ?_
  simp(disch:=omega) only[go_sem,ξ,ζ,true_or]
theorem JL {h0 h:PH} [Le h0 h] {v:Value} {n1 n2:Bool} {a1 d1 a2 d2:Nat} {l u:Bool} (hv:Iw h0 v n1 a1 d1 n2 a2 d2 l u) (g:lg n1 a1 d1∨lg n2 a2 d2):
  Spec mach 47 #[v] h NR (fail 1):=by
 obtain⟨x1,y1,x2,y2,rfl,hx,hy⟩:=hv
 have hx0:=hx
 have hy0:=hy
 obtain⟨_,_,_,_,_,_,e1,_⟩:=hx
 obtain⟨_,_,_,_,_,_,e2,_⟩:=hy
 simp only[Value.agg.injEq,Array.mk.injEq,List.cons.injEq,and_true,true_and] at e1 e2
 obtain⟨rfl,rfl⟩:=e1
 obtain⟨rfl,rfl⟩:=e2
 refine Spec.enter (args:=[_]) (n:=33) Tryz.func47 rfl (by kernel_rfl) rfl (by simp) [.cell 2 91] rfl (fun C _=>?_)
 repeat (first |(refine rg rfl rfl (fun K hK=>?_);(repeat (first |(refine wo rfl (fun k hk=>?_);simp(disch:=omega) only[go_sem,ξ,ζ];apply hk;clear hk k) |refine wkt rfl ?_));(try refine wk0 ?_);apply hK;clear hK K;(try dsimp only[ag,qs,qb])) |((first |refine ae ?_ |refine ac ?_);simp(disch:=decide) only[qs,qb,if_true,if_false,reduceIte]) |refine ah rfl (fun K hK=>?_) |refine ct rfl ?_ |((first |refine hK _ _ ?_ |(clear hK;refine hK _ _ ?_) |(clear hK;clear hK;refine hK _ _ ?_));clear hK;(try clear K)))
 (first |refine AWP_t (.seg [.o 0,.o 1,.o 3,.o 4,.o 6,.o 7,.o 8,.o 9] (.alt 2 (.alt 5 (.seg [.o 10] (.alt 11 (.alt 12 .done .no) .no)) (.alt 11 (.alt 5 (.seg [.o 10] (.alt 12 .done .no)) .no) .no)) (.alt 11 (.alt 2 (.alt 5 (.seg [.o 10] (.alt 12 .done .no)) .no) .no) .no))) (by decide+kernel) rfl (fun K hK=>?_) |refine mR (.seg [.o 0,.o 1,.o 3,.o 4,.o 6,.o 7,.o 8,.o 9] (.alt 2 (.alt 5 (.seg [.o 10] (.alt 11 (.alt 12 .done .no) .no)) (.alt 11 (.alt 5 (.seg [.o 10] (.alt 12 .done .no)) .no) .no)) (.alt 11 (.alt 2 (.alt 5 (.seg [.o 10] (.alt 12 .done .no)) .no) .no) .no))) (by decide+kernel) rfl (fun K hK=>?_))
 (repeat (first |(refine wo rfl (fun k hk=>?_);simp(disch:=omega) only[go_sem,ξ,ζ];apply hk;clear hk k) |refine wkt rfl ?_ |with_reducible refine wk0 ?_ |with_reducible refine ao ?_ |with_reducible refine aj ?_ wt_no |with_reducible refine ak ?_))
 by_cases g1:lg n1 a1 d1
 ·refine aj ?_ (aj ?_ wt_no)
  ·exact cF rfl rfl rfl rfl (by exact jn hx0 g1) (fun _ _ h=>h)
  ·(repeat (first |(refine wo rfl (fun k hk=>?_);simp(disch:=omega) only[go_sem,ξ,ζ];apply hk;clear hk k) |refine wkt rfl ?_ |with_reducible refine wk0 ?_ |with_reducible refine ao ?_ |with_reducible refine aj ?_ wt_no |with_reducible refine ak ?_))
   exact cF rfl rfl rfl rfl (by exact jn hx0 g1) (fun _ _ h=>h)
 ·have g2:=g.resolve_left g1
  refine aj ?_ (aj ?_ wt_no)
  ·refine cN rfl rfl rfl rfl (by exact iM hx0 g1) ?_;rintro v1 h1 _ hv1;obtain⟨v1_0,v1_1,v1_2,v1_3,v1_4,v1_5,v1_6,rfl,hv1⟩:=hv1.sa;(repeat (first |(refine wo rfl (fun k hk=>?_);simp(disch:=omega) only[go_sem,ξ,ζ];apply hk;clear hk k) |refine wkt rfl ?_ |with_reducible refine wk0 ?_ |with_reducible refine ao ?_ |with_reducible refine aj ?_ wt_no |with_reducible refine ak ?_))
   refine aj ?_ (aj ?_ wt_no)
   ·exact cF rfl rfl rfl rfl (by exact jn hy0 g2) (fun _ _ h=>h)
   ·(repeat (first |(refine wo rfl (fun k hk=>?_);simp(disch:=omega) only[go_sem,ξ,ζ];apply hk;clear hk k) |refine wkt rfl ?_ |with_reducible refine wk0 ?_ |with_reducible refine ao ?_ |with_reducible refine aj ?_ wt_no |with_reducible refine ak ?_))
    exact cF rfl rfl rfl rfl (by exact jn hy0 g2) (fun _ _ h=>h)
  ·(repeat (first |(refine wo rfl (fun k hk=>?_);simp(disch:=omega) only[go_sem,ξ,ζ];apply hk;clear hk k) |refine wkt rfl ?_ |with_reducible refine wk0 ?_ |with_reducible refine ao ?_ |with_reducible refine aj ?_ wt_no |with_reducible refine ak ?_))
   refine cN rfl rfl rfl rfl (by exact iM hx0 g1) ?_;rintro v1 h1 _ hv1;obtain⟨v1_0,v1_1,v1_2,v1_3,v1_4,v1_5,v1_6,rfl,hv1⟩:=hv1.sa;(repeat (first |(refine wo rfl (fun k hk=>?_);simp(disch:=omega) only[go_sem,ξ,ζ];apply hk;clear hk k) |refine wkt rfl ?_ |with_reducible refine wk0 ?_ |with_reducible refine ao ?_ |with_reducible refine aj ?_ wt_no |with_reducible refine ak ?_))
   exact cF rfl rfl rfl rfl (by exact jn hy0 g2) (fun _ _ h=>h)
theorem Jk.sl {h:PH} {b:Bool} {x y:Value} {n d:Nat} (r:Jk h b x y n d):∃na nl nc da dl dc,x=.slice na nl nc∧y=.slice da dl dc:=by
 obtain⟨_,_,_,rfl,_⟩:=r.num.sl
 obtain⟨_,_,_,rfl,_⟩:=r.den.sl
 exact⟨_,_,_,_,_,_,rfl,rfl⟩
def PS.fin (s:PS) (k:Nat):Prop:=(s.l=false→s.e=false→sz s.lo≤k)∧(s.u=false→s.e=false→sz s.hi≤k)
theorem Sr.parts {h:PH} {v:Value} {s:PS} (r:Sr h v s):∃b1 a1 m1 c1 a2 m2 c2 b2 a3 m3 c3 a4 m4 c4,v=.agg #[.bool b1,.slice a1 m1 c1,.slice a2 m2 c2,.bool b2,.slice a3 m3 c3,.slice a4 m4 c4,.bool s.l,.bool s.u,.bool s.e]∧
  (∃n d,Jk h b1 (.slice a1 m1 c1) (.slice a2 m2 c2) n d)∧(∃n d,Jk h b2 (.slice a3 m3 c3) (.slice a4 m4 c4) n d)∧
  (s.l=false→s.e=false→Fr h (.agg #[.bool b1,.slice a1 m1 c1,.slice a2 m2 c2]) s.lo)∧(s.u=false→s.e=false→Fr h (.agg #[.bool b2,.slice a3 m3 c3,.slice a4 m4 c4]) s.hi):=by
 obtain⟨b1,x1,y1,b2,x2,y2,rfl,⟨n,d,j1⟩,⟨n',d',j2⟩,f1,f2⟩:=r
 obtain⟨_,_,_,_,_,_,rfl,rfl⟩:=j1.sl
 obtain⟨_,_,_,_,_,_,rfl,rfl⟩:=j2.sl
 exact⟨_,_,_,_,_,_,_,_,_,_,_,_,_,_,rfl,⟨n,d,j1⟩,⟨n',d',j2⟩,f1,f2⟩
def hullS (s:PS) (p:Nat):PS:=⟨gdown s.lo p,gup s.hi p,s.l,s.u,s.e⟩
theorem Jq {h0 h:PH} [Le h0 h] {v:Value} {s:PS} {p:Nat} (hv:Sr h0 v s) (hf:s.fin (2^30)) (hp:p≤2^30):
  Spec mach 127 #[v,.int .i64 p] h (fun v h'=>Sr h' v (hullS s p)) NP:=by
 obtain⟨lo,hi,l,u,e⟩:=s
 obtain⟨b1,a1,m1,c1,a2,m2,c2,b2,a3,m3,c3,a4,m4,c4,rfl,⟨n,d,j1⟩,⟨n',d',j2⟩,f1,f2⟩:=hv.parts
 obtain⟨k1,k2⟩:=hf
 dsimp only at f1 f2 k1 k2 ⊢
 refine Spec.go [] Tryz.func127 rfl rfl (by kernel_rfl) fun C _=>?_
 try simp(maxSteps:=999999) (disch:=omega) only[go_sem,ξ,ζ]
 cases e with
 | true=>
  try simp(maxSteps:=999999) (disch:=omega) only[go_sem,ξ,ζ]
  exact⟨_,_,_,_,_,_,rfl,⟨n,d,j1.to⟩,⟨n',d',j2.to⟩,(fun _ e=>by cases e),(fun _ e=>by cases e)⟩
 | false=>
  cases l with
  | true=>
   cases u with
   | true=>
    try simp(maxSteps:=999999) (disch:=omega) only[go_sem,ξ,ζ]
    exact⟨_,_,_,_,_,_,rfl,⟨n,d,j1.to⟩,⟨n',d',j2.to⟩,(fun e _=>by cases e),(fun e _=>by cases e)⟩
   | false=>
    have g2:=f2 rfl rfl
    have z2:=k2 rfl rfl
    try simp(maxSteps:=999999) (disch:=omega) only[go_sem,ξ,ζ]
    refine caN (by exact jG (p:=p) (u:=true) g2 (by omega) (by omega)) ?_;rintro _ h1 _ hv1;obtain⟨_,_,_,_,_,_,_,rfl,hv1⟩:=hv1.sa
    try simp(maxSteps:=999999) (disch:=omega) only[go_sem,ξ,ζ]
    exact⟨_,_,_,_,_,_,rfl,⟨n,d,j1.to⟩,⟨_,_,hv1.jk'⟩,(fun e _=>by cases e),fun _ _=>hv1⟩
  | false=>
   have g1:=f1 rfl rfl
   have z1:=k1 rfl rfl
   cases u with
   | true=>
    try simp(maxSteps:=999999) (disch:=omega) only[go_sem,ξ,ζ]
    refine caN (by exact jG (p:=p) (u:=false) g1 (by omega) (by omega)) ?_;rintro _ h1 _ hv1;obtain⟨_,_,_,_,_,_,_,rfl,hv1⟩:=hv1.sa
    try simp(maxSteps:=999999) (disch:=omega) only[go_sem,ξ,ζ]
    exact⟨_,_,_,_,_,_,rfl,⟨_,_,hv1.jk'⟩,⟨n',d',j2.to⟩,fun _ _=>hv1,(fun e _=>by cases e)⟩
   | false=>
    have g2:=f2 rfl rfl
    have z2:=k2 rfl rfl
    try simp(maxSteps:=999999) (disch:=omega) only[go_sem,ξ,ζ]
    refine caN (by exact jG (p:=p) (u:=false) g1 (by omega) (by omega)) ?_;rintro _ h1 _ hv1;obtain⟨_,_,_,_,_,_,_,rfl,hv1⟩:=hv1.sa
    try simp(maxSteps:=999999) (disch:=omega) only[go_sem,ξ,ζ]
    refine caN (by exact jG (p:=p) (u:=true) g2 (by omega) (by omega)) ?_;rintro _ h2 _ hv2;obtain⟨_,_,_,_,_,_,_,rfl,hv2⟩:=hv2.sa
    try simp(maxSteps:=999999) (disch:=omega) only[go_sem,ξ,ζ]
    exact⟨_,_,_,_,_,_,rfl,⟨_,_,hv1.to.jk'⟩,⟨_,_,hv2.jk'⟩,fun _ _=>hv1.to,fun _ _=>hv2⟩
theorem N32.inj {h:PH} {v:Value} {m n:Nat} (r:N32 h v m) (q:N32 h v n):m=n:=by
 obtain⟨a,c,rfl,A⟩:=r
 obtain⟨a',c',h2,A'⟩:=q
 simp only[Value.slice.injEq] at h2
 obtain⟨rfl,hl,rfl⟩:=h2
 have:W 4294967296 m=W 4294967296 n:=by
  refine List.ext_getElem hl (fun i h1 h2=>?_)
  obtain⟨ad,e1,e2⟩:=A.at_ i _ (List.getElem?_eq_getElem h1)
  obtain⟨ad',e3,e4⟩:=A'.at_ i _ (List.getElem?_eq_getElem h2)
  obtain rfl:ad=ad':=by rw[e1] at e3;exact Option.some.inj e3
  rw[e2] at e4
  simp only[Option.some.injEq,Value.int.injEq,true_and] at e4
  omega
 rw[←val_W B32 m,this,val_W B32]
theorem Fr.neg {h:PH} {b:Bool} {x y:Value} {n d:Nat} {q:Rat} (r:Fr h (.agg #[.bool b,x,y]) q) (j:Jk h b x y n d):Fr h (.agg #[.bool (!b && !decide (n=0)),x,y]) (-q):=by
 obtain⟨sn,sd,h1,h2,h3⟩:=r
 simp only[Value.agg.injEq,Array.mk.injEq,List.cons.injEq,and_true,Value.bool.injEq] at h1
 obtain⟨rfl,rfl,rfl⟩:=h1
 obtain rfl:=j.num.inj h2
 refine⟨x,y,?_,by simpa using h2,by simpa using h3⟩
 have:(!decide (q.num < 0) && !decide (q.num.natAbs=0))=decide ((-q).num < 0):=by
  rw[Bool.eq_iff_iff];simp only[φ,Bool.not_eq_true',decide_eq_false_iff_not,decide_eq_true_eq,Rat.neg_num];omega
 rw[this]
def minusS (s:PS):PS:=⟨-s.hi,-s.lo,s.u,s.l,s.e⟩
theorem Fu {h0 h:PH} [Le h0 h] {v:Value} {s:PS} (hv:Sr h0 v s):
  Spec mach 165 #[v] h (fun v h'=>Sr h' v (minusS s)) NP:=by
 obtain⟨lo,hi,l,u,e⟩:=s
 obtain⟨b1,a1,m1,c1,a2,m2,c2,b2,a3,m3,c3,a4,m4,c4,rfl,⟨n,d,j1⟩,⟨n',d',j2⟩,f1,f2⟩:=hv.parts
 dsimp only at f1 f2 ⊢
 refine Spec.go [(1,.o [0,1,3,4,6,7,8,9,10,11,2,5,12,13])] Tryz.func165 rfl rfl (by kernel_rfl) fun C _=>?_
 try simp(maxSteps:=999999) (disch:=omega) only[go_sem,ξ,ζ]
 refine caN (by exact o7 j2) ?_;rintro v1 h1 s1 rfl
 try simp(maxSteps:=999999) (disch:=omega) only[go_sem,ξ,ζ]
 refine caN (by exact o7 j1) ?_;rintro v2 h2 s2 rfl
 try simp(maxSteps:=999999) (disch:=omega) only[go_sem,ξ,ζ]
 exact⟨_,_,_,_,_,_,rfl,⟨n',d',j2.num.to,j2.den.to⟩,⟨n,d,j1.num.to,j1.den.to⟩,fun x y=>((f2 x y).neg j2).to,fun x y=>((f1 x y).neg j1).to⟩
theorem Cn.zero (h:PH):Cn h (.agg #[.bool false,.slice none 0 0,.slice none 0 0]) 0:=⟨.slice none 0 0,.slice none 0 0,by simp,by simpa using N32.zero h,by simpa using N32.zero h⟩
def canS (s:PS):PS:=if s.e then ⟨1,0,false,false,true⟩ else ⟨if s.l then 0 else s.lo,if s.u then 0 else s.hi,s.l,s.u,false⟩
def Ci (h:PH) (v:Value) (c:PS):Prop:=∃b1 x1 y1 b2 x2 y2,v=.agg #[.bool b1,x1,y1,.bool b2,x2,y2,.bool c.l,.bool c.u]∧Cn h (.agg #[.bool b1,x1,y1]) c.lo∧Cn h (.agg #[.bool b2,x2,y2]) c.hi
theorem Ci.to {h h':PH} {v:Value} {s:PS} (r:Ci h v s) [Le h h']:Ci h' v s:=let ⟨a,b,c,d,e,f,h1,h2,h3⟩:=r;⟨a,b,c,d,e,f,h1,h2.to,h3.to⟩
theorem give_ok {h0 h:PH} [Le h0 h] {v:Value} {s:PS} (hv:Sr h0 v s) (hf:s.fin 2048):
  Spec mach 207 #[v] h (fun v h'=>Ci h' v (canS s)) NP:=by
 obtain⟨lo,hi,l,u,e⟩:=s
 obtain⟨b1,a1,m1,c1,a2,m2,c2,b2,a3,m3,c3,a4,m4,c4,rfl,⟨n,d,j1⟩,⟨n',d',j2⟩,f1,f2⟩:=hv.parts
 obtain⟨k1,k2⟩:=hf
 dsimp only at f1 f2 k1 k2 ⊢
 refine Spec.go [] Tryz.func207 rfl rfl (by kernel_rfl) fun C _=>?_
 try simp(maxSteps:=999999) (disch:=omega) only[go_sem,ξ,ζ]
 cases e with
 | true=>
  try simp(maxSteps:=999999) (disch:=omega) only[go_sem,ξ,ζ]
  refine caN (by exact cB (n:=1) (by decide) (by decide)) ?_;rintro _ h1 _ hv1;obtain⟨_,_,_,_,_,_,_,rfl,hv1⟩:=hv1.sa
  try simp(maxSteps:=999999) (disch:=omega) only[go_sem,ξ,ζ]
  refine caN (by exact cO hv1 (by decide)) ?_;rintro v2 h2 s2 ⟨w,rfl,hw⟩;obtain⟨_,_,_,_,_,_,_,rfl,hw⟩:=hw.sa
  try simp(maxSteps:=999999) (disch:=omega) only[go_sem,ξ,ζ]
  refine caN (by exact fm hw) ?_;rintro v3 h3 s3 rfl
  try simp(maxSteps:=999999) (disch:=omega) only[go_sem,ξ,ζ]
  exact⟨_,_,_,_,_,_,rfl,hw.to,Cn.zero _⟩
 | false=>
  cases l with
  | true=>
   cases u with
   | true=>
    try simp(maxSteps:=999999) (disch:=omega) only[go_sem,ξ,ζ]
    exact⟨_,_,_,_,_,_,rfl,Cn.zero _,Cn.zero _⟩
   | false=>
    try simp(maxSteps:=999999) (disch:=omega) only[go_sem,ξ,ζ]
    refine caN (by exact cO (f2 rfl rfl) (k2 rfl rfl)) ?_;rintro v2 h2 s2 ⟨w,rfl,hw⟩;obtain⟨_,_,_,_,_,_,_,rfl,hw⟩:=hw.sa
    try simp(maxSteps:=999999) (disch:=omega) only[go_sem,ξ,ζ]
    refine caN (by exact fm hw) ?_;rintro v3 h3 s3 rfl
    try simp(maxSteps:=999999) (disch:=omega) only[go_sem,ξ,ζ]
    exact⟨_,_,_,_,_,_,rfl,Cn.zero _,hw.to⟩
  | false=>
   cases u with
   | true=>
    try simp(maxSteps:=999999) (disch:=omega) only[go_sem,ξ,ζ]
    refine caN (by exact cO (f1 rfl rfl) (k1 rfl rfl)) ?_;rintro v2 h2 s2 ⟨w,rfl,hw⟩;obtain⟨_,_,_,_,_,_,_,rfl,hw⟩:=hw.sa
    try simp(maxSteps:=999999) (disch:=omega) only[go_sem,ξ,ζ]
    refine caN (by exact fm hw) ?_;rintro v3 h3 s3 rfl
    try simp(maxSteps:=999999) (disch:=omega) only[go_sem,ξ,ζ]
    exact⟨_,_,_,_,_,_,rfl,hw.to,Cn.zero _⟩
   | false=>
    try simp(maxSteps:=999999) (disch:=omega) only[go_sem,ξ,ζ]
    refine caN (by exact cO (f1 rfl rfl) (k1 rfl rfl)) ?_;rintro v2 h2 s2 ⟨w,rfl,hw⟩;obtain⟨_,_,_,_,_,_,_,rfl,hw⟩:=hw.sa
    try simp(maxSteps:=999999) (disch:=omega) only[go_sem,ξ,ζ]
    refine caN (by exact fm hw) ?_;rintro v3 h3 s3 rfl
    try simp(maxSteps:=999999) (disch:=omega) only[go_sem,ξ,ζ]
    refine caN (by exact cO (f2 rfl rfl) (k2 rfl rfl)) ?_;rintro v4 h4 s4 ⟨w',rfl,hw'⟩;obtain⟨_,_,_,_,_,_,_,rfl,hw'⟩:=hw'.sa
    try simp(maxSteps:=999999) (disch:=omega) only[go_sem,ξ,ζ]
    refine caN (by exact fm hw') ?_;rintro v5 h5 s5 rfl
    try simp(maxSteps:=999999) (disch:=omega) only[go_sem,ξ,ζ]
    exact⟨_,_,_,_,_,_,rfl,hw.to,hw'.to⟩
theorem Jj {h0 h:PH} [Le h0 h] {v:Value} {s:PS} (hv:Sr h0 v s) (hf:¬s.fin 2048):
  Spec mach 207 #[v] h NR (fail 1):=by
 obtain⟨lo,hi,l,u,e⟩:=s
 obtain⟨b1,a1,m1,c1,a2,m2,c2,b2,a3,m3,c3,a4,m4,c4,rfl,⟨n,d,j1⟩,⟨n',d',j2⟩,f1,f2⟩:=hv.parts
 unfold PS.fin at hf
 dsimp only at f1 f2 hf ⊢
 refine Spec.go [] Tryz.func207 rfl rfl (by kernel_rfl) fun C _=>?_
 try simp(maxSteps:=999999) (disch:=omega) only[go_sem,ξ,ζ]
 cases e with
 |true=>exact(hf ⟨(fun _ e=>by cases e),(fun _ e=>by cases e)⟩).elim
 | false =>
  cases l with
  | true=>
   cases u with
   |true=>exact(hf ⟨(fun e _=>by cases e),(fun e _=>by cases e)⟩).elim
   | false=>
    have z2:¬sz hi≤2048:=fun k=>hf ⟨(fun e _=>by cases e),fun _ _=>k⟩
    try simp(maxSteps:=999999) (disch:=omega) only[go_sem,ξ,ζ]
    refine caN (by exact ms (f2 rfl rfl) z2) ?_;rintro v2 h2 s2 rfl
    try simp(maxSteps:=999999) (disch:=omega) only[go_sem,ξ,ζ]
    exact caF (by exact jj (by decide)) (fun _ _ h=>h)
  | false=>
   by_cases z1:sz lo≤2048
   ·cases u with
    |true=>exact(hf ⟨fun _ _=>z1,(fun e _=>by cases e)⟩).elim
    | false=>
     have z2:¬sz hi≤2048:=fun k=>hf ⟨fun _ _=>z1,fun _ _=>k⟩
     try simp(maxSteps:=999999) (disch:=omega) only[go_sem,ξ,ζ]
     refine caN (by exact cO (f1 rfl rfl) z1) ?_;rintro v2 h2 s2 ⟨w,rfl,hw⟩;obtain⟨_,_,_,_,_,_,_,rfl,hw⟩:=hw.sa
     try simp(maxSteps:=999999) (disch:=omega) only[go_sem,ξ,ζ]
     refine caN (by exact fm hw) ?_;rintro v3 h3 s3 rfl
     try simp(maxSteps:=999999) (disch:=omega) only[go_sem,ξ,ζ]
     refine caN (by exact ms (f2 rfl rfl) z2) ?_;rintro v4 h4 s4 rfl
     try simp(maxSteps:=999999) (disch:=omega) only[go_sem,ξ,ζ]
     exact caF (by exact jj (by decide)) (fun _ _ h=>h)
   ·cases u with
    | true=>
     try simp(maxSteps:=999999) (disch:=omega) only[go_sem,ξ,ζ]
     refine caN (by exact ms (f1 rfl rfl) z1) ?_;rintro v2 h2 s2 rfl
     try simp(maxSteps:=999999) (disch:=omega) only[go_sem,ξ,ζ]
     exact caF (by exact jj (by decide)) (fun _ _ h=>h)
    | false=>
     try simp(maxSteps:=999999) (disch:=omega) only[go_sem,ξ,ζ]
     refine caN (by exact ms (f1 rfl rfl) z1) ?_;rintro v2 h2 s2 rfl
     try simp(maxSteps:=999999) (disch:=omega) only[go_sem,ξ,ζ]
     exact caF (by exact jj (by decide)) (fun _ _ h=>h)
inductive NS where
 |e
 |i (lo hi:Option Rat)
def omax:Option Rat→Option Rat→Option Rat
 |none,b=>b
 |some x,none=>some x
 |some x,some y=>some (max x y)
def omin:Option Rat→Option Rat→Option Rat
 |none,b=>b
 |some x,none=>some x
 |some x,some y=>some (min x y)
def jmin:Option Rat→Option Rat→Option Rat
 |some x,some y=>some (min x y)
 |_,_=>none
def jmax:Option Rat→Option Rat→Option Rat
 |some x,some y=>some (max x y)
 |_,_=>none
def oadd:Option Rat→Option Rat→Option Rat
 |some x,some y=>some (x+y)
 |_,_=>none
def ordO:Option Rat→Option Rat→Bool
 |some x,some y=>!decide (y < x)
 |_,_=>true
namespace NS
def mk' (a b:Option Rat):NS:=bif ordO a b then .i a b else .e
def hull (p:Nat):NS→NS
 |.e=>.e
 |.i a b=>.i (a.map (gdown · p)) (b.map (gup · p))
def minus:NS→NS
 |.e=>.e
 |.i a b=>.i (b.map (-·)) (a.map (-·))
def met:NS→NS→NS
 |.i a b,.i c d=>mk' (omax a c) (omin b d)
 |_,_=>.e
def joined:NS→NS→NS
 |.e,y=>y
 |x,.e=>x
 |.i a b,.i c d=>.i (jmin a c) (jmax b d)
def lesser:NS→NS→NS
 |.i a b,.i c d=>.i (jmin a c) (omin b d)
 |_,_=>.e
def sum:NS→NS→NS
 |.i a b,.i c d=>.i (oadd a c) (oadd b d)
 |_,_=>.e
def void:NS→Bool
 |.e=>true
 |_=>false
def ok:NS→Prop
 |.e=>True
 |.i a b=>ordO a b=true
def all (f:Rat→Bool):NS→Bool
 |.e=>true
 |.i a b=>a.all f && b.all f
def le (k:Nat) (x:NS):Prop:=x.all (fun q=>decide (sz q≤k))=true
instance (k:Nat) (x:NS):Decidable (x.le k):=by unfold le;infer_instance
def slo:NS→Int
 |.e=>0
 | .i a _=>match a with
  |none=>-1
  |some q=>sgn3 q
def shi:NS→Int
 |.e=>0
 | .i _ b=>match b with
  |none=>1
  |some q=>sgn3 q
def zero (x:NS):Bool:=!x.void && decide (x.slo≤0) && decide (0≤x.shi)
def lowIn:Option Rat→Option Rat→Bool
 |none,_=>true
 |some _,none=>false
 |some c,some a=>!decide (a < c)
def highIn:Option Rat→Option Rat→Bool
 |none,_=>true
 |some _,none=>false
 |some d,some b=>!decide (d < b)
def within:NS→NS→Bool
 |.e,_=>true
 |_,.e=>false
 |.i a b,.i c d=>lowIn c a && highIn d b
def has:NS→Rat→Bool
 |.e,_=>false
 |.i a b,q=>a.all (fun x=>!decide (q < x)) && b.all (fun x=>!decide (x < q))
end NS
abbrev Out:=Except Int NS
def Out.fin:Out→Out
 |.error e=>.error e
 |.ok x=>bif decide (x.le 2048) then .ok x else .error 1
structure En (h:PH) (b:Bool) (x y:Value) (o:Option Rat):Prop where
 jk:∃n d,Jk h b x y n d
 fr:∀q,o=some q→Fr h (.agg #[.bool b,x,y]) q
theorem En.to {h h':PH} {b:Bool} {x y:Value} {o:Option Rat} (r:En h b x y o) [Le h h']:En h' b x y o:=⟨let ⟨n,d,j⟩:=r.jk;⟨n,d,j.to⟩,fun q e=>(r.fr q e).to⟩
theorem En.of {h:PH} {b:Bool} {x y:Value} {q:Rat} (r:Fr h (.agg #[.bool b,x,y]) q):En h b x y (some q):=⟨⟨_,_,r.jk'⟩,fun q' e=>by cases e;exact r⟩
theorem En.num {h:PH} {b:Bool} {x y:Value} {q:Rat} (r:En h b x y (some q)):Fr h (.agg #[.bool b,x,y]) q:=r.fr q rfl
theorem En.junk {h:PH} {b:Bool} {x y:Value} {o:Option Rat} (r:En h b x y o):En h b x y none:=⟨r.jk,fun _ e=>by cases e⟩
theorem En.nil (h:PH):En h false (.slice none 0 0) (.slice none 0 0) none:=⟨⟨0,0,N32.zero h,N32.zero h⟩,fun _ e=>by cases e⟩
theorem En.sl {h:PH} {b:Bool} {x y:Value} {o:Option Rat} (r:En h b x y o):∃na nl nc da dl dc,x=.slice na nl nc∧y=.slice da dl dc:=let ⟨_,_,j⟩:=r.jk;j.sl
def Sn (h:PH) (v:Value):NS→Prop
 |.e=>∃b1 x1 y1 b2 x2 y2 l u,v=.agg #[.bool b1,x1,y1,.bool b2,x2,y2,.bool l,.bool u,.bool true]∧En h b1 x1 y1 none∧En h b2 x2 y2 none
 |.i lo hi=>∃b1 x1 y1 b2 x2 y2,v=.agg #[.bool b1,x1,y1,.bool b2,x2,y2,.bool lo.isNone,.bool hi.isNone,.bool false]∧En h b1 x1 y1 lo∧En h b2 x2 y2 hi
theorem Sn.to {h h':PH} {v:Value} {x:NS} (r:Sn h v x) [Le h h']:Sn h' v x:=by
 cases x with
 |e=>obtain⟨b1,x1,y1,b2,x2,y2,l,u,hv,h1,h2⟩:=r;exact⟨b1,x1,y1,b2,x2,y2,l,u,hv,h1.to,h2.to⟩
 |i a b=>obtain⟨b1,x1,y1,b2,x2,y2,hv,h1,h2⟩:=r;exact⟨b1,x1,y1,b2,x2,y2,hv,h1.to,h2.to⟩
theorem Sn.ee {h:PH} {v:Value} (r:Sn h v .e):∃b1 a1 m1 c1 a2 m2 c2 b2 a3 m3 c3 a4 m4 c4 l u,v=.agg #[.bool b1,.slice a1 m1 c1,.slice a2 m2 c2,.bool b2,.slice a3 m3 c3,.slice a4 m4 c4,.bool l,.bool u,.bool true]∧
  En h b1 (.slice a1 m1 c1) (.slice a2 m2 c2) none∧En h b2 (.slice a3 m3 c3) (.slice a4 m4 c4) none:=by
 obtain⟨b1,x1,y1,b2,x2,y2,l,u,rfl,h1,h2⟩:=r
 obtain⟨_,_,_,_,_,_,rfl,rfl⟩:=h1.sl
 obtain⟨_,_,_,_,_,_,rfl,rfl⟩:=h2.sl
 exact⟨_,_,_,_,_,_,_,_,_,_,_,_,_,_,_,_,rfl,h1,h2⟩
theorem Sn.ie {h:PH} {v:Value} {lo hi:Option Rat} (r:Sn h v (.i lo hi)):∃b1 a1 m1 c1 a2 m2 c2 b2 a3 m3 c3 a4 m4 c4,v=.agg #[.bool b1,.slice a1 m1 c1,.slice a2 m2 c2,.bool b2,.slice a3 m3 c3,.slice a4 m4 c4,.bool lo.isNone,.bool hi.isNone,.bool false]∧
  En h b1 (.slice a1 m1 c1) (.slice a2 m2 c2) lo∧En h b2 (.slice a3 m3 c3) (.slice a4 m4 c4) hi:=by
 obtain⟨b1,x1,y1,b2,x2,y2,rfl,h1,h2⟩:=r
 obtain⟨_,_,_,_,_,_,rfl,rfl⟩:=h1.sl
 obtain⟨_,_,_,_,_,_,rfl,rfl⟩:=h2.sl
 exact⟨_,_,_,_,_,_,_,_,_,_,_,_,_,_,rfl,h1,h2⟩
theorem Sn.sa {h:PH} {v:Value} {x:NS} (r:Sn h v x):∃b1 a1 m1 c1 a2 m2 c2 b2 a3 m3 c3 a4 m4 c4 l u,v=.agg #[.bool b1,.slice a1 m1 c1,.slice a2 m2 c2,.bool b2,.slice a3 m3 c3,.slice a4 m4 c4,.bool l,.bool u,.bool x.void]∧
  Sn h (.agg #[.bool b1,.slice a1 m1 c1,.slice a2 m2 c2,.bool b2,.slice a3 m3 c3,.slice a4 m4 c4,.bool l,.bool u,.bool x.void]) x:=by
 cases x with
 |e=>obtain⟨b1,a1,m1,c1,a2,m2,c2,b2,a3,m3,c3,a4,m4,c4,l,u,rfl,h1,h2⟩:=r.ee;exact⟨_,_,_,_,_,_,_,_,_,_,_,_,_,_,_,_,rfl,_,_,_,_,_,_,_,_,rfl,h1,h2⟩
 |i a b=>obtain⟨b1,a1,m1,c1,a2,m2,c2,b2,a3,m3,c3,a4,m4,c4,rfl,h1,h2⟩:=r.ie;exact⟨_,_,_,_,_,_,_,_,_,_,_,_,_,_,_,_,rfl,_,_,_,_,_,_,rfl,h1,h2⟩
def PS.n (s:PS):NS:=bif s.e then .e else .i (bif s.l then none else some s.lo) (bif s.u then none else some s.hi)
theorem Sr.sn {h:PH} {v:Value} {s:PS} (r:Sr h v s):Sn h v s.n:=by
 obtain⟨lo,hi,l,u,e⟩:=s
 obtain⟨b1,x1,y1,b2,x2,y2,rfl,j1,j2,f1,f2⟩:=r
 dsimp only at*
 cases e with
 |true=>exact⟨b1,x1,y1,b2,x2,y2,l,u,rfl,⟨j1,(fun _ e=>by cases e)⟩,⟨j2,(fun _ e=>by cases e)⟩⟩
 | false=>
  cases l<;>cases u<;>refine⟨b1,x1,y1,b2,x2,y2,rfl,⟨j1,fun q e=>?_⟩,⟨j2,fun q e=>?_⟩⟩<;>simp at e
  ·subst e;exact f1 rfl rfl
  ·subst e;exact f2 rfl rfl
  ·subst e;exact f1 rfl rfl
  ·subst e;exact f2 rfl rfl
theorem Sn.sr {h:PH} {v:Value} {x:NS} (r:Sn h v x):∃s,Sr h v s∧s.n=x:=by
 cases x with
 | e=>
  obtain⟨b1,x1,y1,b2,x2,y2,l,u,rfl,h1,h2⟩:=r
  exact⟨⟨0,0,l,u,true⟩,⟨b1,x1,y1,b2,x2,y2,rfl,h1.jk,h2.jk,(fun _ e=>by cases e),(fun _ e=>by cases e)⟩,rfl⟩
 | i a b=>
  obtain⟨b1,x1,y1,b2,x2,y2,rfl,h1,h2⟩:=r
  refine⟨⟨a.getD 0,b.getD 0,a.isNone,b.isNone,false⟩,⟨b1,x1,y1,b2,x2,y2,rfl,h1.jk,h2.jk,fun e _=>?_,fun e _=>?_⟩,?_⟩
  ·cases a with
   |none=>cases e
   |some a=>exact h1.num
  ·cases b with
   |none=>cases e
   |some b=>exact h2.num
  ·cases a<;>cases b<;>rfl
structure RI where
 n1:Bool
 a1:Nat
 d1:Nat
 n2:Bool
 a2:Nat
 d2:Nat
 l:Bool
 u:Bool
def Iv (h:PH) (v:Value) (x:RI):Prop:=Iw h v x.n1 x.a1 x.d1 x.n2 x.a2 x.d2 x.l x.u
theorem Iv.to {h h':PH} {v:Value} {x:RI} (r:Iv h v x) [Le h h']:Iv h' v x:=let ⟨a,b,c,d,e,h1,h2⟩:=r;⟨a,b,c,d,e,h1.to,h2.to⟩
theorem Iv.sa {h:PH} {v:Value} {x:RI} (r:Iv h v x):∃a1 m1 c1 a2 m2 c2 a3 m3 c3 a4 m4 c4,v=.agg #[.bool x.n1,.slice a1 m1 c1,.slice a2 m2 c2,.bool x.n2,.slice a3 m3 c3,.slice a4 m4 c4,.bool x.l,.bool x.u]∧
  Rw h (.agg #[.bool x.n1,.slice a1 m1 c1,.slice a2 m2 c2]) x.n1 x.a1 x.d1∧Rw h (.agg #[.bool x.n2,.slice a3 m3 c3,.slice a4 m4 c4]) x.n2 x.a2 x.d2:=by
 obtain⟨x1,y1,x2,y2,rfl,h1,h2⟩:=r
 have e1:=h1
 have e2:=h2
 obtain⟨_,_,_,_,_,_,e1,_⟩:=e1
 obtain⟨_,_,_,_,_,_,e2,_⟩:=e2
 simp only[Value.agg.injEq,Array.mk.injEq,List.cons.injEq,and_true,true_and] at e1 e2
 obtain⟨rfl,rfl⟩:=e1
 obtain⟨rfl,rfl⟩:=e2
 exact⟨_,_,_,_,_,_,_,_,_,_,_,_,rfl,h1,h2⟩
namespace RI
def lo (x:RI):Option Rat:=bif x.l then none else some (qof x.n1 x.a1 x.d1)
def hi (x:RI):Option Rat:=bif x.u then none else some (qof x.n2 x.a2 x.d2)
def set (x:RI):NS:=NS.mk' x.lo x.hi
def big (x:RI):Bool:=decide (Go.Q.lg x.n1 x.a1 x.d1) || decide (Go.Q.lg x.n2 x.a2 x.d2)
theorem set_ok (x:RI):x.set.ok:=by
 unfold set NS.mk'
 cases h:ordO x.lo x.hi with
 |true=>exact h
 |false=>trivial
theorem small {x:RI} (h:x.big=false):¬Go.Q.lg x.n1 x.a1 x.d1∧¬Go.Q.lg x.n2 x.a2 x.d2:=by
 unfold big at h
 simpa using h
theorem large {x:RI} (h:x.big=true):Go.Q.lg x.n1 x.a1 x.d1∨Go.Q.lg x.n2 x.a2 x.d2:=by
 unfold big at h
 simpa using h
theorem set_eq (x:RI):(rdS (qof x.n1 x.a1 x.d1) (qof x.n2 x.a2 x.d2) x.l x.u).n=x.set:=by
 unfold set lo hi rdS PS.n NS.mk'
 generalize qof x.n1 x.a1 x.d1=a
 generalize qof x.n2 x.a2 x.d2=b
 cases x.l<;>cases x.u<;>simp[ordO]
theorem le {x:RI} (h:x.big=false):x.set.le 2048:=by
 obtain⟨h1,h2⟩:=small h
 have z1:sz (qof x.n1 x.a1 x.d1)≤2048:=by unfold Go.Q.lg at h1;omega
 have z2:sz (qof x.n2 x.a2 x.d2)≤2048:=by unfold Go.Q.lg at h2;omega
 unfold set lo hi NS.mk'
 cases x.l<;>cases x.u<;>simp[ordO]
 ·generalize qof x.n1 x.a1 x.d1=a at*
  generalize qof x.n2 x.a2 x.d2=b at*
  by_cases h:b < a<;>simp[h,NS.le,NS.all,z1,z2]
 ·simp[NS.le,NS.all,z1]
 ·simp[NS.le,NS.all,z2]
 ·simp[NS.le,NS.all]
end RI
theorem NS.le_i {k:Nat} {a b:Option Rat}:(NS.i a b).le k↔(∀q,a=some q→sz q≤k)∧(∀q,b=some q→sz q≤k):=by
 unfold NS.le NS.all
 cases a<;>cases b<;>simp
theorem NS.le.up {k m:Nat} {x:NS} (h:x.le k) (hm:k≤m):x.le m:=by
 cases x with
 |e=>rfl
 | i a b=>
  rw[NS.le_i] at h ⊢
  exact⟨fun q e=>χ (h.1 q e) hm,fun q e=>χ (h.2 q e) hm⟩
theorem PS.fin_n {s:PS} {k:Nat}:s.fin k↔s.n.le k:=by
 obtain⟨lo,hi,l,u,e⟩:=s
 unfold PS.fin PS.n
 cases e with
 |true=>simp[NS.le,NS.all]
 | false=>
  dsimp only[cond_false]
  rw[NS.le_i]
  cases l<;>cases u<;>simp
theorem fF {h0 h:PH} [Le h0 h] {v:Value} {x:RI} (hv:Iv h0 v x) (g:x.big=true):Spec mach 47 #[v] h NR (fail 1):=JL hv (RI.large g)
theorem Hull_set {h0 h:PH} [Le h0 h] {v:Value} {x:NS} {p:Nat} (hv:Sn h0 v x) (hf:x.le (2^30)) (hp:p≤2^30):
  Spec mach 127 #[v,.int .i64 p] h (fun v h'=>Sn h' v (x.hull p)) NP:=by
 obtain⟨s,hs,rfl⟩:=hv.sr
 refine(Jq hs (PS.fin_n.2 hf) hp).mono (fun v h' _ r=>?_) (fun _ _ _ e=>e)
 have:(hullS s p).n=s.n.hull p:=by
  obtain⟨lo,hi,l,u,e⟩:=s
  cases e<;>cases l<;>cases u<;>rfl
 rw[←this]
 exact r.sn
theorem jK {h0 h:PH} [Le h0 h] {v:Value} {x:NS} (hv:Sn h0 v x):Spec mach 165 #[v] h (fun v h'=>Sn h' v x.minus) NP:=by
 obtain⟨s,hs,rfl⟩:=hv.sr
 refine(Fu hs).mono (fun v h' _ r=>?_) (fun _ _ _ e=>e)
 have:(minusS s).n=s.n.minus:=by
  obtain⟨lo,hi,l,u,e⟩:=s
  cases e<;>cases l<;>cases u<;>rfl
 rw[←this]
 exact r.sn
def Cv (h:PH) (v:Value) (x:NS):Prop:=Ci h v (match x with |.e=>⟨1,0,false,false,true⟩ |.i a b=>⟨a.getD 0,b.getD 0,a.isNone,b.isNone,false⟩)
theorem Cv.to {h h':PH} {v:Value} {x:NS} (r:Cv h v x) [Le h h']:Cv h' v x:=Ci.to r
theorem canS_n (s:PS):canS s=(match s.n with |.e=>⟨1,0,false,false,true⟩ |.i a b=>⟨a.getD 0,b.getD 0,a.isNone,b.isNone,false⟩:PS):=by
 obtain⟨lo,hi,l,u,e⟩:=s
 cases e<;>cases l<;>cases u<;>rfl
theorem Ck {h0 h:PH} [Le h0 h] {v:Value} {x:NS} (hv:Sn h0 v x) (hf:x.le 2048):Spec mach 207 #[v] h (fun v h'=>Cv h' v x) NP:=by
 obtain⟨s,hs,rfl⟩:=hv.sr
 refine(give_ok hs (PS.fin_n.2 hf)).mono (fun v h' _ r=>?_) (fun _ _ _ e=>e)
 unfold Cv
 rw[←canS_n]
 exact r
theorem ze {h0 h:PH} [Le h0 h] {v:Value} {x:NS} (hv:Sn h0 v x) (hf:¬x.le 2048):Spec mach 207 #[v] h NR (fail 1):=by
 obtain⟨s,hs,rfl⟩:=hv.sr
 exact Jj hs (fun k=>hf (PS.fin_n.1 k))
open Go.Proofs Go.Proofs.YtgmcchhklbeckaaGreatDoor
open Go.ChangeShapes Go.WideShapes Go.ChangeAt Go.RowKit
def pub (W:World):PH:=fun b=>match W.heap[b]? with
 |some (.cells cs _ _)=>some cs
 |_=>none
theorem pub_has (W:World):Has W (pub W):=fun b cs hb=>by
 unfold pub at hb
 split at hb
 ·rename_i hx;cases hb;exact⟨_,_,hx⟩
 ·cases hb
theorem pub_at (W:World) (a:Addr):(pub W).at a=W.cell? a:=by
 unfold PH.at pub World.cell?
 cases hx:W.heap[a.block]? with
 |none=>simp
 |some o=>cases o<;>simp
def flds (P:Program) (t:TypeId):Option (List (Nat×Nat)):=match P.underlying t with
 |some (.struct fs)=>some (fs.toList.map fun f=>(f.type,f.offset))
 |_=>none
theorem flds_some {P:Program} {t:TypeId} {l:List (Nat×Nat)} (h:flds P t=some l):∃fs,P.underlying t=some (.struct fs)∧fs.toList.map (fun f=>(f.type,f.offset))=l:=by
 unfold flds at h
 split at h
 ·rename_i fs hx;cases h;exact⟨fs,hx,rfl⟩
 ·cases h
theorem fl24:flds Tryz.prog 24=some [(4,0),(22,1),(22,2)]:=by kernel_rfl
theorem fl26:flds Tryz.prog 35=some [(24,0),(24,3),(4,6),(4,7)]:=by kernel_rfl
theorem un22:Tryz.prog.underlying 22=some (.slice 62):=by kernel_rfl
theorem un76:Tryz.prog.underlying 62=some (.int .u32):=by kernel_rfl
theorem un4:Tryz.prog.underlying 4=some .bool:=by kernel_rfl
theorem un3:Tryz.prog.underlying 3=some (.int .i64):=by kernel_rfl
theorem ce4:Tryz.prog.cellsOf 4=1:=by kernel_rfl
theorem ce22:Tryz.prog.cellsOf 22=1:=by kernel_rfl
theorem ce76:Tryz.prog.cellsOf 62=1:=by kernel_rfl
theorem ce24:Tryz.prog.cellsOf 24=3:=by kernel_rfl
theorem ce26:Tryz.prog.cellsOf 35=8:=by kernel_rfl
section
variable {H:Type} {enc:TypeId×Value→H} {W:World} {sp:Nat→Bool} {held:Bool}
theorem bulk_mem {d:DataW H} {l:List (DataW H)} (h:d∈l):Rows.uptoBulk d≤Rows.uptoBulkAll l:=by
 induction l with
 |nil=>cases h
 | cons x r ih=>
  simp only[Rows.uptoBulkAll]
  cases List.mem_cons.1 h with
  |inl e=>subst e;omega
  |inr e=>have:=ih e;omega
theorem bulk_len (l:List (DataW H)):l.length≤Rows.uptoBulkAll l:=by
 induction l with
 |nil=>simp[Rows.uptoBulkAll]
 | cons x r ih=>
  have:1≤Rows.uptoBulk x:=by
   cases x with
   |lit l=>cases l<;>simp[Rows.uptoBulk]
   |_=>simp[Rows.uptoBulk]
  simp only[Rows.uptoBulkAll,List.length_cons]
  omega
theorem open_words {fuel:Nat} {cs:List Value} {x:DataW H×List MemPlace} (h:DataW.trod enc Tryz.prog W 0 sp held fuel 22 cs=some x) {B:Nat} (hB:B≤1048576) (hk:Rows.uptoBulk x.1≤B):
  ∃a xs c,cs=[.slice a xs.length c]∧Arr (pub W) a c xs∧xs.length≤2^30:=by
 rcases open_ints un22 un76 ce76 h with⟨rfl,rfl⟩ |⟨a,len,cap,zs,rfl,_,hl,hm,hz,rfl,hcell,hwf⟩
 ·exact⟨none,[],0,rfl,Arr.nil _,by simp⟩
 ·have hzl:len≤zs.length:=by rw[hz];split<;>omega
  have hb:len≤1048576:=by
   simp only[Rows.uptoBulk] at hk
   have e:(lits (H:=H) .u32 (zs.take len)).length=len:=by simp[lits];omega
   have:=bulk_len (H:=H) (lits .u32 (zs.take len))
   rw[e] at this
   omega
  refine⟨some a,(zs.take len).map Int.toNat,cap,?_,⟨?_,?_,?_,?_⟩,?_⟩
  ·simp;omega
  ·simp;omega
  ·simp;omega
  ·intro y hy
   obtain⟨z,hz,rfl⟩:=List.mem_map.1 hy
   have:=bounds_u32 (hwf z (List.mem_of_mem_take hz))
   omega
  ·intro i y hy
   rw[List.getElem?_map,Option.map_eq_some_iff] at hy
   obtain⟨z,hz',rfl⟩:=hy
   rw[List.getElem?_take] at hz'
   split at hz'
   ·refine⟨a,rfl,?_⟩
    have hi:i < zs.length:=(List.getElem?_eq_some_iff.1 hz').1
    rw[pub_at,hcell i hi]
    have e:zs.getD i 0=z:=by simp[hz']
    have:=bounds_u32 (hwf z (List.mem_of_getElem? hz'))
    rw[e]
    congr 2
    omega
   ·cases hz'
  ·simp;omega
theorem open_rat {fuel:Nat} {cs:List Value} {x:DataW H×List MemPlace} (h:DataW.trod enc Tryz.prog W 0 sp held fuel 24 cs=some x) {B:Nat} (hB:B≤1048576) (hk:Rows.uptoBulk x.1≤B):
  ∃neg n d,Rw (pub W) (.agg cs.toArray) neg n d∧cs.length=3:=by
 obtain⟨fs,hu,hf⟩:=flds_some fl24
 obtain⟨xs,n,rfl,rfl,hl,hsz,hg⟩:=DataW.trod_struct hu h
 rw[ce24] at hl
 have hfs:fs.size=3:=by
  have:=congrArg List.length hf
  simpa using this
 match cs,hl with
 |[c0,c1,c2],_=>
 have get:∀(i t o:Nat),(fs.toList.map fun f=>(f.type,f.offset))[i]?=some (t,o)→∃f:Field,fs[i]?=some f∧f.type=t∧f.offset=o:=by
  intro i t o hi
  rw[List.getElem?_map,Option.map_eq_some_iff] at hi
  obtain⟨f,h1,h2⟩:=hi
  cases h2
  exact⟨f,by simpa using h1,rfl,rfl⟩
 obtain⟨f0,k0,e0,o0⟩:=get 0 4 0 (by rw[hf];rfl)
 obtain⟨f1,k1,e1,o1⟩:=get 1 22 1 (by rw[hf];rfl)
 obtain⟨f2,k2,e2,o2⟩:=get 2 22 2 (by rw[hf];rfl)
 have g0:=hg 0 f0 k0
 have g1:=hg 1 f1 k1
 have g2:=hg 2 f2 k2
 rw[e0,o0,ce4] at g0
 rw[e1,o1,ce22] at g1
 rw[e2,o2,ce22] at g2
 rw[hfs] at hsz
 match xs,hsz with
 |[y0,y1,y2],_=>
 simp only[List.drop_zero,List.take_succ_cons,List.take_zero,List.drop_succ_cons,List.getElem?_cons_zero,List.getElem?_cons_succ] at g0 g1 g2
 simp only[Rows.uptoBulk,List.map_cons,List.map_nil,Rows.uptoBulkAll] at hk
 obtain⟨b,e,_⟩:=DataW.trod_bool un4 g0
 obtain⟨a1,xs1,c1',e1,A1,l1⟩:=open_words g1 hB (by omega)
 obtain⟨a2,xs2,c2',e2,A2,l2⟩:=open_words g2 hB (by omega)
 cases e
 cases e1
 cases e2
 exact⟨b,_,_,⟨a1,c1',xs1,a2,c2',xs2,rfl,A1,A2,rfl,rfl,l1,l2⟩,rfl⟩
theorem open_iv {fuel:Nat} {cs:List Value} {x:DataW H×List MemPlace} (h:DataW.trod enc Tryz.prog W 0 sp held fuel 35 cs=some x) {B:Nat} (hB:B≤1048576) (hk:Rows.uptoBulk x.1≤B):
  ∃y:RI,Iv (pub W) (.agg cs.toArray) y:=by
 obtain⟨fs,hu,hf⟩:=flds_some fl26
 obtain⟨xs,n,rfl,rfl,hl,hsz,hg⟩:=DataW.trod_struct hu h
 rw[ce26] at hl
 have hfs:fs.size=4:=by
  have:=congrArg List.length hf
  simpa using this
 match cs,hl with
 |[c0,c1,c2,c3,c4,c5,c6,c7],_=>
 have get:∀(i t o:Nat),(fs.toList.map fun f=>(f.type,f.offset))[i]?=some (t,o)→∃f:Field,fs[i]?=some f∧f.type=t∧f.offset=o:=by
  intro i t o hi
  rw[List.getElem?_map,Option.map_eq_some_iff] at hi
  obtain⟨f,h1,h2⟩:=hi
  cases h2
  exact⟨f,by simpa using h1,rfl,rfl⟩
 obtain⟨f0,k0,e0,o0⟩:=get 0 24 0 (by rw[hf];rfl)
 obtain⟨f1,k1,e1,o1⟩:=get 1 24 3 (by rw[hf];rfl)
 obtain⟨f2,k2,e2,o2⟩:=get 2 4 6 (by rw[hf];rfl)
 obtain⟨f3,k3,e3,o3⟩:=get 3 4 7 (by rw[hf];rfl)
 have g0:=hg 0 f0 k0
 have g1:=hg 1 f1 k1
 have g2:=hg 2 f2 k2
 have g3:=hg 3 f3 k3
 rw[e0,o0,ce24] at g0
 rw[e1,o1,ce24] at g1
 rw[e2,o2,ce4] at g2
 rw[e3,o3,ce4] at g3
 rw[hfs] at hsz
 match xs,hsz with
 |[y0,y1,y2,y3],_=>
 simp only[List.drop_zero,List.take_succ_cons,List.take_zero,List.drop_succ_cons,List.getElem?_cons_zero,List.getElem?_cons_succ] at g0 g1 g2 g3
 simp only[Rows.uptoBulk,List.map_cons,List.map_nil,Rows.uptoBulkAll] at hk
 obtain⟨l,e2,_⟩:=DataW.trod_bool un4 g2
 obtain⟨u,e3,_⟩:=DataW.trod_bool un4 g3
 obtain⟨n1,a1,d1,r1,_⟩:=open_rat g0 hB (by omega)
 obtain⟨n2,a2,d2,r2,_⟩:=open_rat g1 hB (by omega)
 cases e2
 cases e3
 have q1:=r1
 have q2:=r2
 obtain⟨_,_,_,_,_,_,e1,_⟩:=q1
 obtain⟨_,_,_,_,_,_,e2,_⟩:=q2
 simp only[Value.agg.injEq,Array.mk.injEq,List.cons.injEq,and_true] at e1 e2
 obtain⟨rfl,rfl,rfl⟩:=e1
 obtain⟨rfl,rfl,rfl⟩:=e2
 exact⟨⟨n1,a1,d1,n2,a2,d2,l,u⟩,_,_,_,_,rfl,r1,r2⟩
theorem stays {P:Program} {W':World} {sp:Nat→Bool} (hl:laidOutB P=true) (hb:Below W.heap.size W W') (ts:List TypeId):∀(vs:List Value) (ds:List (DataW H)) (p:List MemPlace),(∀t∈ts,P.readableRec t=true∧t < P.types.size)→(∀x∈p,x.block < W.heap.size)→(∀x∈p,sp x.block=true)→
  DataW.TrodAll enc P W 0 (fun _=>true) true ts vs ds p→DataW.TrodAll enc P W' 0 sp true ts vs ds p:=by
 induction ts with
 | nil=>
  intro vs ds p _ _ _ h
  cases vs with
  | nil=>cases ds with
   |nil=>exact h
   |cons d ds=>exact h.elim
  |cons v vs=>exact h.elim
 | cons t ts ih=>
  intro vs ds p hr hlt hsp h
  cases vs with
  |nil=>exact h.elim
  | cons v vs=>
   cases ds with
   |nil=>exact h.elim
   | cons d ds=>
    obtain⟨p,q,h1,h2,rfl⟩:=h
    have ht:=hr t (by simp)
    exact⟨p,q,WideElems.Trod_stays hl ht.1 ht.2 h1 (fun x hx=>hb.same (hlt x (by simp[hx]))) (fun x hx=>hsp x (by simp[hx])),ih vs ds q (fun u hu=>hr u (by simp[hu])) (fun x hx=>hlt x (by simp[hx])) (fun x hx=>hsp x (by simp[hx])) h2,rfl⟩
theorem post_true {f:Func} {s:ChangeSpec} {W':World} {args:Array Value} {ds:List (DataW H)} {before:List MemPlace} (hl:laidOutB Tryz.prog=true) (hv:s.vars=[]) (hr:f.resultTypes=#[4]) (hs:s.fn H ds={results:=[.lit (.bool true)],args:=ds})
  (hrd:∀t∈f.params.toList,Tryz.prog.readableRec t=true∧t < Tryz.prog.types.size)
  (hW:DataW.Whole enc Tryz.prog f.params.toList s.vars false W args.toList ds [] before) (hb:Below W.heap.size W W'):s.post enc Tryz.prog f false true false false W args (.bool true) W':=by
 have hlt:∀p∈before,p.block < W.heap.size:=hW.lt
 have hW0:=hW
 rw[hv] at hW0
 obtain⟨p,q,hA,hV,rfl,hz,hn⟩:=hW0
 obtain rfl:q=[]:=hV
 rw[List.append_nil] at hlt hz
 have hold:∀x∈p,(fun b=>decide (b < W.heap.size)) x.block=true:=fun x hx=>by simpa using hlt x hx
 have hres:∀(b:Nat) (sp:Nat→Bool) (hd:Bool),DataW.TrodAll enc Tryz.prog W' b sp hd f.resultTypes.toList ((Value.bool true).resultList f.resultTypes.size) (s.fn H (ds ++[])).results []:=by
  intro b sp hd
  rw[List.append_nil,hs,hr]
  exact trodAll_cons_mk (shut_bool un4 _) trodAll_mk0
 have hargs:∀sp:Nat→Bool,(∀x∈p,sp x.block=true)→DataW.TrodAll enc Tryz.prog W' 0 sp true f.params.toList args.toList (s.fn H (ds ++[])).args p:=by
  intro sp hsp
  rw[List.append_nil,hs]
  exact stays hl hb _ _ _ _ hrd hlt hsp hA
 have hvars:∀sp:Nat→Bool,DataW.TrodVars enc Tryz.prog W' sp s.vars (s.fn H (ds ++[])).vars []:=by
  intro sp
  rw[List.append_nil,hs,hv]
  rfl
 refine⟨ds,[],p ++[],[],p,[],hW,hres _ _ _,hargs _ hold,hvars _,World.keptBut_mono (fun x hx=>⟨hx,?_⟩) (hb.frame (· ∈p ++[])),fun h=>by cases h⟩
 simpa using hx
theorem laid_gl {W:World} (h:laidMetH Tryz.prog [("math/bits.deBruijn32tab",Rows.laid_math_bits_deBruijn32tab)] W):Sub mach.gl (pub W):=by
 have ht:Lib.TabIs Tryz.prog W "math/bits.deBruijn32tab" .u8 debruijn:=
  Lib.tabIs_of_head (rest:=[]) (g:=0) (t:=289) (e:=5) (n:=32) (by kernel_rfl) (by kernel_rfl) (by kernel_rfl) (by kernel_rfl) (by kernel_rfl) (by kernel_rfl) h
 have hg:Tryz.prog.globalNamed "math/bits.deBruijn32tab"=some 0:=by kernel_rfl
 unfold Lib.TabIs World.var? at ht
 rw[hg] at ht
 intro b cs hb
 have hb':(if b=0 then some tabCells else none)=some cs:=hb
 split at hb'
 ·rename_i e
  subst e
  cases hb'
  unfold pub
  simp only[Option.bind_some] at ht
  split at ht
  ·rename_i hx
   rw[hx]
   simpa[tabCells] using ht
  ·cases ht
 ·cases hb'
end
end Go.Q
