/-
  Contracts of the reference's rational numbers, and what stands on it. Conditions: each theorem's own.
-/
import Derived.Test.YtdagofmikpgjjaaGreatDoorK98c21dPkF
import Derived.Test.YtdagofmikpgjjaaGreatDoorKea3f49PkK
import Derived.Test.YtdagofmikpgjjaaGreatDoorK56fa9ePkH
import Derived.Test.YtdagofmikpgjjaaGreatDoorK78b478PkI
import Derived.Test.YtdagofmikpgjjaaGreatDoorK55d58ePkJ
import Derived.Test.YtdagofmikpgjjaaGreatDoorCards
import Derived.Test.YtdagofmikpgjjaaGreatDoorTie
import Derived.WalkKit
import Derived.ProofKit
import Derived.OpenShut
import Derived.Deep.DeepHandedRow
import Derived.Lib.LaidTab
set_option linter.unusedVariables false
set_option linter.unusedSimpArgs false
open Nat (reduceAdd)
namespace Go.Q
open Go.Proofs
set_option maxRecDepth 100000
set_option maxHeartbeats 4000000
theorem Top_spec {h0 h:PH} [Le h0 h] {v:Value} {x:Rat} (hx:Qr h0 v x) (bx:sz x≤2^34):
    Spec mach 210 #[v] h (fun v h'=>Qr h' v (x.ceil:Rat)) NP:=by
  obtain⟨_,_,_,_,_,_,_,rfl,hx⟩:=hx.sa
  refine Spec.go [] Tryz.func210 rfl rfl (by kernel_rfl) fun C _=>?_
  try simp(maxSteps:=999999) (disch:=omega) only[go_sem,Nat.reduceBEq,reduceAdd]
  refine caN (by exact bK hx) ?_;rintro _ h1 _ hv1;obtain⟨_,_,_,_,_,_,_,rfl,hv1⟩:=hv1.sa
  try simp(maxSteps:=999999) (disch:=omega) only[go_sem,Nat.reduceBEq,reduceAdd]
  refine caN (by exact ko hv1 (by rw[cz];omega)) ?_;rintro _ h2 _ hv2;obtain⟨_,_,_,_,_,_,_,rfl,hv2⟩:=hv2.sa
  try simp(maxSteps:=999999) (disch:=omega) only[go_sem,Nat.reduceBEq,reduceAdd]
  refine caN (by exact bK hv2) ?_;rintro _ h3 _ hv3;obtain⟨_,_,_,_,_,_,_,rfl,hv3⟩:=hv3.sa
  try simp(maxSteps:=999999) (disch:=omega) only[go_sem,Nat.reduceBEq,reduceAdd]
  have: -(((-x).floor:Int):Rat)=((x.ceil:Int):Rat):=by rw[Rat.ceil_eq_neg_floor_neg];simp
  rw[this] at hv3;exact hv3
theorem sz_ceil (x:Rat):sz (x.ceil:Rat)≤sz x:=by
  rw[Rat.ceil_eq_neg_floor_neg,Rat.intCast_neg,cz]
  have:=oz (-x)
  rw[cz] at this;exact this
theorem neg_i {p:Nat} (hp:p≤2^30):IntKind.i64.wrap (0 - (p:Int))= -(p:Int):=by rw[wi64 (by omega) (by omega)];omega
theorem j9 {h0 h:PH} [Le h0 h] {v:Value} {x:Rat} {p:Nat} (hx:Qr h0 v x) (bx:sz x≤2^30) (hp:p≤2^30):
    Spec mach 156 #[v,.int .i64 p] h (fun v h'=>Qr h' v (gdown x p)) NP:=by
  obtain⟨_,_,_,_,_,_,_,rfl,hx⟩:=hx.sa
  have b1:=yH x p
  have b2:=oz (x*2^p)
  have e1:=neg_i hp
  refine Spec.go [] Tryz.func156 rfl rfl (by kernel_rfl) fun C _=>?_
  try simp(maxSteps:=999999) (disch:=omega) only[go_sem,Nat.reduceBEq,reduceAdd]
  refine caN (by exact ll (p:=p) hx (by omega) (by omega)) ?_;rintro _ h1 _ hv1;obtain⟨_,_,_,_,_,_,_,rfl,hv1⟩:=hv1.sa
  try simp(maxSteps:=999999) (disch:=omega) only[go_sem,Nat.reduceBEq,reduceAdd]
  refine caN (by exact ko hv1 (by omega)) ?_;rintro v2 h2 s2 hv2;obtain⟨_,_,_,_,_,_,_,rfl,hv2⟩:=hv2.sa
  try simp(maxSteps:=999999) (disch:=omega) only[go_sem,Nat.reduceBEq,reduceAdd,e1]
  refine caN (by exact gI (p:=p) hv2 (by omega) (by omega) (by omega)) ?_;rintro _ h3 _ hv3;obtain⟨_,_,_,_,_,_,_,rfl,hv3⟩:=hv3.sa
  try simp(maxSteps:=999999) (disch:=omega) only[go_sem,Nat.reduceBEq,reduceAdd]
  exact hv3
theorem np {h0 h:PH} [Le h0 h] {v:Value} {x:Rat} {p:Nat} (hx:Qr h0 v x) (bx:sz x≤2^30) (hp:p≤2^30):
    Spec mach 136 #[v,.int .i64 p] h (fun v h'=>Qr h' v (gup x p)) NP:=by
  obtain⟨_,_,_,_,_,_,_,rfl,hx⟩:=hx.sa
  have b1:=yH x p
  have b2:=sz_ceil (x*2^p)
  have e1:=neg_i hp
  refine Spec.go [] Tryz.func136 rfl rfl (by kernel_rfl) fun C _=>?_
  try simp(maxSteps:=999999) (disch:=omega) only[go_sem,Nat.reduceBEq,reduceAdd]
  refine caN (by exact ll (p:=p) hx (by omega) (by omega)) ?_;rintro _ h1 _ hv1;obtain⟨_,_,_,_,_,_,_,rfl,hv1⟩:=hv1.sa
  try simp(maxSteps:=999999) (disch:=omega) only[go_sem,Nat.reduceBEq,reduceAdd]
  refine caN (by exact Top_spec hv1 (by omega)) ?_;rintro v2 h2 s2 hv2;obtain⟨_,_,_,_,_,_,_,rfl,hv2⟩:=hv2.sa
  try simp(maxSteps:=999999) (disch:=omega) only[go_sem,Nat.reduceBEq,reduceAdd,e1]
  refine caN (by exact gI (p:=p) hv2 (by omega) (by omega) (by omega)) ?_;rintro _ h3 _ hv3;obtain⟨_,_,_,_,_,_,_,rfl,hv3⟩:=hv3.sa
  try simp(maxSteps:=999999) (disch:=omega) only[go_sem,Nat.reduceBEq,reduceAdd]
  exact hv3
theorem sgn_quo (x y:Rat):sgn (!(decide (x.num < 0) == decide (y.num < 0))) (x.num.natAbs*y.den) (x.den*y.num.natAbs)=x / y:=by
  by_cases hy:y=0
  · subst hy
    simp[sgn,Rat.div_def]
  · have hn0:y.num≠0:=fun e=>hy (Rat.num_eq_zero.1 e)
    have hp:=y.den_nz
    have e1:decide ((y⁻¹).num < 0)=decide (y.num < 0):=by
      rw[Rat.num_inv]
      rcases Int.lt_trichotomy y.num 0 with h |h |h
      · rw[Int.sign_eq_neg_one_of_neg h,decide_eq_decide];omega
      · exact(hn0 h).elim
      · rw[Int.sign_eq_one_of_pos h,decide_eq_decide];omega
    have e2:(y⁻¹).num.natAbs=y.den:=by rw[Rat.num_inv,Int.natAbs_mul,Int.natAbs_sign_of_ne_zero hn0,Nat.one_mul,Int.natAbs_natCast]
    have e3:(y⁻¹).den=y.num.natAbs:=by rw[Rat.den_inv,if_neg hn0]
    have:=qZ x y⁻¹
    rw[e1,e2,e3] at this
    rw[this,Rat.div_def]
theorem cU {h0 h:PH} [Le h0 h] {v w:Value} {x y:Rat} (hx:Qr h0 v x) (hy:Qr h0 w y) (bx:sz x≤2^35) (by_:sz y≤2^35):
    Spec mach 109 #[v,w] h (fun v h'=>Qr h' v (x / y)) NP:=by
  have hx0:=hx
  have hy0:=hy
  obtain⟨na,nl,nc,da,dl,dc,e,rfl,hn,hd,he⟩:=hx.sl
  obtain⟨na',nl',nc',da',dl',dc',e',rfl,hn',hd',he'⟩:=hy.sl
  have b1:=bG x;have b2:=bB x;have b3:=bG y;have b4:=bB y
  have b5:=aG x.num.natAbs y.den
  have b6:=aG x.den y.num.natAbs
  refine Spec.go [(1,.o [0,1,2,3,4,5,6,7,10,12,13,8,9,11,14,15,16])] Tryz.func109 rfl rfl (by kernel_rfl) fun C _=>?_
  try simp(maxSteps:=999999) (disch:=omega) only[go_sem,Nat.reduceBEq,reduceAdd]
  refine caN (by exact dU hy0) ?_;rintro _ g1 _ hd1;obtain⟨_,_,_,rfl,hd1⟩:=hd1.sl
  try simp(maxSteps:=999999) (disch:=omega) only[go_sem,Nat.reduceBEq,reduceAdd]
  refine caN (by exact aV (hn.to (h':=g1)) hd1 (by omega) (by omega)) ?_;rintro _ h1 _ hv1;obtain⟨_,_,_,rfl,hv1⟩:=hv1.sl
  try simp(maxSteps:=999999) (disch:=omega) only[go_sem,Nat.reduceBEq,reduceAdd]
  refine caN (by exact dU hx0) ?_;rintro _ g2 _ hd2;obtain⟨_,_,_,rfl,hd2⟩:=hd2.sl
  try simp(maxSteps:=999999) (disch:=omega) only[go_sem,Nat.reduceBEq,reduceAdd]
  refine caN (by exact aV hd2 (hn'.to (h':=g2)) (by omega) (by omega)) ?_;rintro _ h2 _ hv2;obtain⟨_,_,_,rfl,hv2⟩:=hv2.sl
  try simp(maxSteps:=999999) (disch:=omega) only[go_sem,Nat.reduceBEq,reduceAdd]
  refine caN (by exact fQ (hv1.to (h':=h2)) hv2 (by omega) (by omega)) ?_;rintro _ h3 _ hv3;obtain⟨_,_,_,_,_,_,_,rfl,hv3⟩:=hv3.sa
  try simp(maxSteps:=999999) (disch:=omega) only[go_sem,Nat.reduceBEq,reduceAdd]
  rw[sgn_quo] at hv3
  exact hv3
theorem fD {h0 h:PH} [Le h0 h] {v w:Value} {x y:Rat} (hx:Qr h0 v x) (hy:Qr h0 w y) (bx:sz x≤2^34) (by_:sz y≤2^34):
    Spec mach 154 #[v,w] h (fun v h'=>Qr h' v (min x y)) NP:=by
  obtain⟨_,_,_,_,_,_,_,rfl,hx⟩:=hx.sa
  obtain⟨_,_,_,_,_,_,_,rfl,hy⟩:=hy.sa
  refine Spec.go [] Tryz.func154 rfl rfl (by kernel_rfl) fun C _=>?_
  try simp(maxSteps:=999999) (disch:=omega) only[go_sem,Nat.reduceBEq,reduceAdd]
  refine caN (by exact av hy hx by_ bx) ?_;rintro v1 h1 s1 rfl
  try simp(maxSteps:=999999) (disch:=omega) only[go_sem,Nat.reduceBEq,reduceAdd]
  by_cases hc:y < x
  · have e1:cmpQ y x < 0:=by simp[cmpQ,hc]
    try simp(maxSteps:=999999) (disch:=omega) only[go_sem,Nat.reduceBEq,reduceAdd]
    have:min x y=y:=by grind
    rw[this];exact hy.to
  · have e1:¬cmpQ y x < 0:=by unfold cmpQ;rw[if_neg hc];split<;>decide
    try simp(maxSteps:=999999) (disch:=omega) only[go_sem,Nat.reduceBEq,reduceAdd]
    have:min x y=x:=by grind
    rw[this];exact hx.to
theorem mq {h0 h:PH} [Le h0 h] {v:Value} {x:Rat} (hx:Cn h0 v x) (bx:sz x≤2^30):Spec mach 34 #[v] h (fun v _=>v=.bool true) NP:=by
  have hrw:=hx.rw bx
  have hq:=jA x
  obtain⟨sn,sd,rfl,h2,h3⟩:=hx
  obtain⟨a,c,xs,rfl,ha,hxs,hxm⟩:=h2.out
  obtain⟨a',c',ys,rfl,ha',hys,hym⟩:=h3.out
  have sx:=ha.small
  have sy:=ha'.small
  obtain⟨neg,en⟩:∃b,decide (x.num < 0)=b:=⟨_,rfl⟩
  rw[en] at hrw hq ⊢
  refine Spec.enter (args:=[_]) (n:=68) Tryz.func34 rfl (by kernel_rfl) rfl (by simp) [.tmp 2] rfl (fun C _=>?_)
  repeat (first |(refine wo rfl (fun k hk=>?_);simp(disch:=omega) only[go_sem,Nat.reduceBEq,reduceAdd];apply hk;clear hk k) |refine wkt rfl ?_ |refine wk0 ?_ |refine rg rfl rfl (fun K hK=>?_) |refine rd [.o 0,.o 1,.o 2,.o 3,.o 4,.o 5,.o 6,.o 7,.o 8,.o 9,.o 10] rfl (by decide+kernel) rfl (fun K hK=>?_) |((first |refine ae ?_ |refine ac ?_);simp(disch:=decide) only[qs,qb,if_true,if_false,reduceIte]) |refine ah rfl (fun K hK=>?_) |refine ct rfl ?_ |((try simp(disch:=omega) only[go_sem,Nat.reduceBEq,reduceAdd]);(first |apply hK |(clear hK;apply hK) |(clear hK;clear hK;apply hK));clear hK;(try clear K);(try dsimp only[ag,qs,qb])))
  refine cN rfl rfl rfl rfl (by exact bM hrw) ?_;rintro v1 h1 _ hv1;obtain⟨v1_0,v1_1,v1_2,v1_3,v1_4,v1_5,v1_6,rfl,hv1⟩:=hv1.sa;(repeat (first |(refine wo rfl (fun k hk=>?_);simp(disch:=omega) only[go_sem,Nat.reduceBEq,reduceAdd];apply hk;clear hk k) |refine wkt rfl ?_));(try refine wk0 ?_)
  rw[hq] at hv1
  refine cN rfl rfl rfl rfl (by exact cA hv1 (by omega)) ?_;rintro v2 h2' s2 hv2;(repeat (first |(refine wo rfl (fun k hk=>?_);simp(disch:=omega) only[go_sem,Nat.reduceBEq,reduceAdd];apply hk;clear hk k) |refine wkt rfl ?_));(try refine wk0 ?_)
  obtain⟨tn,td,rfl,t2,t3⟩:=hv2
  rw[en]
  obtain⟨ta,tc,ts,rfl,hta,hts,_⟩:=t2.out
  obtain rfl:xs=ts:=hxs.symm.trans hts
  obtain⟨ta',tc',ts',rfl,hta',hts',_⟩:=t3.out
  obtain rfl:ys=ts':=hys.symm.trans hts'
  (repeat (first |(refine wo rfl (fun k hk=>?_);simp(disch:=omega) only[go_sem,Nat.reduceBEq,reduceAdd];apply hk;clear hk k) |refine wkt rfl ?_));(try refine wk0 ?_)
  have e0:(neg == neg)=true:=by simp
  repeat (first |(refine wo rfl (fun k hk=>?_);simp(disch:=omega) only[go_sem,Nat.reduceBEq,reduceAdd,e0];apply hk;clear hk k) |refine wkt rfl ?_ |refine wk0 ?_ |refine rg rfl rfl (fun K hK=>?_) |refine rd [.o 0,.o 1,.o 2,.o 3,.o 4,.o 5,.o 6,.o 7,.o 8,.o 9,.o 10] rfl (by decide+kernel) rfl (fun K hK=>?_) |((first |refine ae ?_ |refine ac ?_);simp(disch:=decide) only[qs,qb,if_true,if_false,reduceIte]) |refine ah rfl (fun K hK=>?_) |refine ct rfl ?_ |((try simp(disch:=omega) only[go_sem,Nat.reduceBEq,reduceAdd]);(first |apply hK |(clear hK;apply hK) |(clear hK;clear hK;apply hK));clear hK;(try clear K);(try dsimp only[ag,qs,qb])))
  refine cg (fun i:Nat=>⟨[(1,.p 0 0),(3,.p 1 0),(34,.v (.int .i64 xs.length)),(35,.v (.int .i64 i))],[[.bool neg,.slice a xs.length c,.slice a' ys.length c'],[.bool neg,.slice ta xs.length tc,.slice ta' ys.length tc']]⟩)
    (fun i h'=>Le h2' h'∧Le h0 h'∧i≤xs.length) (fun i=>xs.length - i) 0 ?_ ⟨inferInstance,inferInstance,by omega⟩ ?_
  · simp(disch:=omega) only[go_sem,Nat.reduceBEq,reduceAdd]
  rintro i g1 ⟨hle,hle0,hi⟩
  by_cases hil:i < xs.length
  · obtain⟨ad,rfl,hat⟩:=ha.rd g1 (i:=i) (by omega)
    obtain⟨ad',rfl,hat'⟩:=hta.rd g1 (i:=i) (by omega)
    repeat (first |(refine wo rfl (fun k hk=>?_);simp(disch:=omega) only[go_sem,Nat.reduceBEq,reduceAdd,hat,hat'];apply hk;clear hk k) |refine wkt rfl ?_ |refine wk0 ?_ |refine rg rfl rfl (fun K hK=>?_) |refine rd [.o 0,.o 1,.o 2,.o 3,.o 4,.o 5,.o 6,.o 7,.o 8,.o 9,.o 10] rfl (by decide+kernel) rfl (fun K hK=>?_) |((first |refine ae ?_ |refine ac ?_);simp(disch:=decide) only[qs,qb,if_true,if_false,reduceIte]) |refine ah rfl (fun K hK=>?_) |refine ct rfl ?_ |((try simp(disch:=omega) only[go_sem,Nat.reduceBEq,reduceAdd]);(first |apply hK |(clear hK;apply hK) |(clear hK;clear hK;apply hK));clear hK;(try clear K);(try dsimp only[ag,qs,qb])))
    refine⟨i+1,?_,⟨hle,hle0,by omega⟩,by omega⟩
    simp(disch:=omega) only[go_sem,Nat.reduceBEq,reduceAdd]
  · repeat (first |(refine wo rfl (fun k hk=>?_);simp(disch:=omega) only[go_sem,Nat.reduceBEq,reduceAdd];apply hk;clear hk k) |refine wkt rfl ?_ |refine wk0 ?_ |refine rg rfl rfl (fun K hK=>?_) |refine rd [.o 0,.o 1,.o 2,.o 3,.o 4,.o 5,.o 6,.o 7,.o 8,.o 9,.o 10] rfl (by decide+kernel) rfl (fun K hK=>?_) |((first |refine ae ?_ |refine ac ?_);simp(disch:=decide) only[qs,qb,if_true,if_false,reduceIte]) |refine ah rfl (fun K hK=>?_) |refine ct rfl ?_ |((try simp(disch:=omega) only[go_sem,Nat.reduceBEq,reduceAdd]);(first |apply hK |(clear hK;apply hK) |(clear hK;clear hK;apply hK));clear hK;(try clear K);(try dsimp only[ag,qs,qb])))
    refine cg (fun i:Nat=>⟨[(1,.p 0 0),(3,.p 1 0),(52,.v (.int .i64 ys.length)),(53,.v (.int .i64 i))],[[.bool neg,.slice a xs.length c,.slice a' ys.length c'],[.bool neg,.slice ta xs.length tc,.slice ta' ys.length tc']]⟩)
      (fun i h'=>Le h2' h'∧Le h0 h'∧i≤ys.length) (fun i=>ys.length - i) 0 ?_ ⟨hle,hle0,by omega⟩ ?_
    · simp(disch:=omega) only[go_sem,Nat.reduceBEq,reduceAdd]
    rintro i g2 ⟨hle,hle0,hi⟩
    by_cases hil:i < ys.length
    · obtain⟨ad,rfl,hat⟩:=ha'.rd g2 (i:=i) (by omega)
      obtain⟨ad',rfl,hat'⟩:=hta'.rd g2 (i:=i) (by omega)
      repeat (first |(refine wo rfl (fun k hk=>?_);simp(disch:=omega) only[go_sem,Nat.reduceBEq,reduceAdd,hat,hat'];apply hk;clear hk k) |refine wkt rfl ?_ |refine wk0 ?_ |refine rg rfl rfl (fun K hK=>?_) |refine rd [.o 0,.o 1,.o 2,.o 3,.o 4,.o 5,.o 6,.o 7,.o 8,.o 9,.o 10] rfl (by decide+kernel) rfl (fun K hK=>?_) |((first |refine ae ?_ |refine ac ?_);simp(disch:=decide) only[qs,qb,if_true,if_false,reduceIte]) |refine ah rfl (fun K hK=>?_) |refine ct rfl ?_ |((try simp(disch:=omega) only[go_sem,Nat.reduceBEq,reduceAdd]);(first |apply hK |(clear hK;apply hK) |(clear hK;clear hK;apply hK));clear hK;(try clear K);(try dsimp only[ag,qs,qb])))
      refine⟨i+1,?_,⟨hle,hle0,by omega⟩,by omega⟩
      simp(disch:=omega) only[go_sem,Nat.reduceBEq,reduceAdd]
    · repeat (first |(refine wo rfl (fun k hk=>?_);simp(disch:=omega) only[go_sem,Nat.reduceBEq,reduceAdd];apply hk;clear hk k) |refine wkt rfl ?_ |refine wk0 ?_ |refine rg rfl rfl (fun K hK=>?_) |refine rd [.o 0,.o 1,.o 2,.o 3,.o 4,.o 5,.o 6,.o 7,.o 8,.o 9,.o 10] rfl (by decide+kernel) rfl (fun K hK=>?_) |((first |refine ae ?_ |refine ac ?_);simp(disch:=decide) only[qs,qb,if_true,if_false,reduceIte]) |refine ah rfl (fun K hK=>?_) |refine ct rfl ?_ |((try simp(disch:=omega) only[go_sem,Nat.reduceBEq,reduceAdd]);(first |apply hK |(clear hK;apply hK) |(clear hK;clear hK;apply hK));clear hK;(try clear K);(try dsimp only[ag,qs,qb])))
      refine ai ?_;simp(disch:=omega) only[go_sem,Nat.reduceBEq,reduceAdd]
theorem uz (m n:Nat):bl (m^n)≤n*bl m+1:=by
  induction n with
  |zero=>rw[Nat.pow_zero,fI];omega
  | succ n ih=>
    rw[Nat.pow_succ]
    have:=aG (m^n) m
    have e:(n+1)*bl m=n*bl m+bl m:=Nat.succ_mul _ _
    omega
theorem FX (q:Rat) (n:Nat):sz (q^n)≤n*sz q+1:=by
  have h1:=uz q.num.natAbs n
  have h2:=uz q.den n
  have h3:=Nat.mul_le_mul_left n (bG q)
  have h4:=Nat.mul_le_mul_left n (bB q)
  show max (bl (q^n).num.natAbs) (bl (q^n).den)≤_
  rw[Rat.num_pow,Rat.den_pow,Int.natAbs_pow]
  omega
def irtTo (n a:Nat):Nat→Nat
  |0=>0
  |k+1=>if (k+1)^n≤a then k+1 else irtTo n a k
def irt (n a:Nat):Nat:=irtTo n a a
theorem irtTo_le (n a k:Nat) (hn:n≠0):irtTo n a k^n≤a:=by
  induction k with
  |zero=>show 0^n≤a;rw[Nat.zero_pow (Nat.pos_of_ne_zero hn)];exact Nat.zero_le _
  | succ k ih=>
    show(if _ then _ else _)^n≤a
    split
    · assumption
    · exact ih
theorem irtTo_lt (n a k:Nat) {j:Nat} (h:j^n≤a) (hj:j≤k):j≤irtTo n a k:=by
  induction k with
  |zero=>omega
  | succ k ih=>
    show j≤if _ then _ else _
    split
    · exact hj
    · rename_i h1
      have:j≠k+1:=fun e=>h1 (e▸h)
      exact ih (by omega)
theorem jS {n a:Nat} (hn:n≠0):irt n a^n≤a:=irtTo_le n a a hn
theorem jx {n a j:Nat} (hn:n≠0) (h:j^n≤a):j≤irt n a:=by
  refine irtTo_lt n a a h (Nat.le_trans ?_ h)
  cases j with
  |zero=>exact Nat.zero_le _
  |succ j=>exact Nat.le_self_pow hn _
theorem irt_eq {n a x:Nat} (hn:n≠0) (h1:x^n≤a) (h2:irt n a≤x):x=irt n a:=Nat.le_antisymm (jx hn h1) h2
theorem tz {n:Nat} (hn:n≠0):irt n 0=0:=by
  have:=jS (n:=n) (a:=0) hn
  have h1:irt n 0≤irt n 0^n:=Nat.le_self_pow hn _
  omega
theorem xZ {n a k:Nat} (hn:n≠0) (h:a < 2^(n*k)):irt n a < 2^k:=by
  refine Decidable.byContradiction fun c=>?_
  have h1:2^k≤irt n a:=by omega
  have h2:=Nat.pow_le_pow_left h1 n
  rw[←Nat.pow_mul,Nat.mul_comm k n] at h2
  have:=jS (n:=n) (a:=a) hn
  omega
theorem bern (r x m:Nat):(m+1)*(r*x^m)≤r^(m+1)+m*x^(m+1):=by
  induction m with
  |zero=>simp
  | succ m ih=>
    have h1:=Nat.mul_le_mul_right r ih
    have h2:2*(r*x)≤r*r+x*x:=by
      rcases Nat.le_total r x with h |h
      · obtain⟨d,rfl⟩:=Nat.exists_eq_add_of_le h
        have:0≤d*d:=Nat.zero_le _
        grind
      · obtain⟨d,rfl⟩:=Nat.exists_eq_add_of_le h
        have:0≤d*d:=Nat.zero_le _
        grind
    have h3:=Nat.mul_le_mul_left ((m+1)*x^m) h2
    have e1:r^(m+1+1)=r^(m+1)*r:=Nat.pow_succ ..
    have e2:x^(m+1)=x^m*x:=Nat.pow_succ ..
    have e3:x^(m+1+1)=x^m*x*x:=by rw[Nat.pow_succ,e2]
    rw[e1,e3,e2]
    rw[e2] at h1
    generalize x^m=y at*
    generalize r^(m+1)=z at*
    grind
def nwt (n a x:Nat):Nat:=((n - 1)*x+a / x^(n - 1)) / n
theorem FA {n a x:Nat} (hn:n≠0) (hx:0 < x):irt n a≤nwt n a x:=by
  have hr:=jS (n:=n) (a:=a) hn
  generalize irt n a=r at*
  obtain⟨m,rfl⟩:∃m,n=m+1:=⟨n - 1,by omega⟩
  unfold nwt
  rw[Nat.add_sub_cancel,Nat.le_div_iff_mul_le (by omega)]
  have hb:=bern r x m
  have hp:0 < x^m:=Nat.pow_pos hx
  by_cases hc:r*(m+1)≤m*x
  · exact Nat.le_trans hc (Nat.le_add_right _ _)
  · obtain⟨t,ht⟩:∃t,r*(m+1)=m*x+t:=⟨r*(m+1) - m*x,by omega⟩
    have h1:t≤a / x^m:=by
      rw[Nat.le_div_iff_mul_le hp]
      have e1:(m+1)*(r*x^m)=m*x*x^m+t*x^m:=by
        rw[←Nat.add_mul,←ht,←Nat.mul_assoc,Nat.mul_comm (m+1) r]
      have e2:m*x^(m+1)=m*x*x^m:=by rw[Nat.pow_succ,Nat.mul_comm (x^m) x,Nat.mul_assoc]
      omega
    omega
theorem Dy {n a x:Nat} (hn:n≠0) (hx:0 < x) (h:x≤nwt n a x):x^n≤a:=by
  obtain⟨m,rfl⟩:∃m,n=m+1:=⟨n - 1,by omega⟩
  unfold nwt at h
  rw[Nat.add_sub_cancel,Nat.le_div_iff_mul_le (by omega)] at h
  have hp:0 < x^m:=Nat.pow_pos hx
  have e1:x*(m+1)=m*x+x:=by rw[Nat.mul_add,Nat.mul_one,Nat.mul_comm]
  have h1:x≤a / x^m:=by omega
  rw[Nat.le_div_iff_mul_le hp] at h1
  rw[Nat.pow_succ,Nat.mul_comm]
  exact h1
theorem irt_pos {n a:Nat} (hn:n≠0) (ha:0 < a):0 < irt n a:=jx hn (by rw[Nat.one_pow];exact ha)
theorem HB {n a x:Nat} (hn:n≠0) (ha:0 < a) (hx:0 < x):0 < nwt n a x:=Nat.lt_of_lt_of_le (irt_pos hn ha) (FA hn hx)
theorem lf {h0 h:PH} [Le h0 h] {v:Value} {m n:Nat} (hv:N16 h0 v m) (hn:n≤2^20) (bm:bl m*n≤2^36):Spec mach 279 #[v,.int .i64 n] h (fun v h'=>N16 h' v (m^n)) NP:=by
  refine Spec.go [] Tryz.func279 rfl rfl (by kernel_rfl) fun C _=>?_
  try simp(maxSteps:=999999) (disch:=omega) only[go_sem,Nat.reduceBEq,reduceAdd]
  refine caN (by exact bQ (n:=1) (by decide)) ?_;rintro o1 h1 s1 ho1
  try simp(maxSteps:=999999) (disch:=omega) only[go_sem,Nat.reduceBEq,reduceAdd]
  refine lp [] (fun x:Value×Nat=>⟨[(0,.v v),(5,.v x.1),(7,.v (.int .i64 n)),(8,.v (.int .i64 (x.2:Nat)))],[]⟩) (fun x h'=>Le h0 h'∧N16 h' x.1 (m^x.2)∧x.2≤n) (fun x=>n - x.2) (o1,0) ?_ ⟨inferInstance,by rw[Nat.pow_zero];exact ho1,Nat.zero_le _⟩ (by kernel_rfl) ?_
  · try simp(maxSteps:=999999) (disch:=omega) only[go_sem,Nat.reduceBEq,reduceAdd]
  · rintro⟨vo,k⟩ h2 ⟨hle,ho,hk⟩
    dsimp only at ho hk ⊢
    by_cases hkn:k < n
    · have b1:=uz m k
      have b2:k*bl m≤bl m*n:=by rw[Nat.mul_comm];exact Nat.mul_le_mul_left _ hk
      have b3:bl m*1≤bl m*n:=Nat.mul_le_mul_left _ (by omega)
      try simp(maxSteps:=999999) (disch:=omega) only[go_sem,Nat.reduceBEq,reduceAdd]
      refine caN (by exact aV ho (hv.to (h':=h2)) (by omega) (by omega)) ?_;rintro v3 h3 s3 q3
      try simp(maxSteps:=999999) (disch:=omega) only[go_sem,Nat.reduceBEq,reduceAdd]
      dsimp only[lpE];refine⟨(v3,k+1),?_,⟨inferInstance,by rw[Nat.pow_succ];exact q3,by omega⟩,by omega⟩
      try simp(maxSteps:=999999) (disch:=omega) only[go_sem,Nat.reduceBEq,reduceAdd]
    · have:k=n:=by omega
      subst this
      try simp(maxSteps:=999999) (disch:=omega) only[go_sem,Nat.reduceBEq,reduceAdd]
      exact ho
theorem emod_two (s:Int):((s % 18446744073709551616).toNat % 2:Nat)=(s % 2).toNat:=by omega
theorem vQ {k:Nat}:andI .i64 (k:Int) 1=((k % 2:Nat):Int):=by
  unfold andI
  rw[BitVec.toNat_and]
  have e1:(BitVec.ofInt IntKind.i64.bits (k:Int)).toNat=((k:Int) % 18446744073709551616).toNat:=by rw[BitVec.toNat_ofInt];rfl
  have e2:(BitVec.ofInt IntKind.i64.bits 1).toNat=2^1 - 1:=by decide
  rw[e1,e2,Nat.and_two_pow_sub_one_eq_mod,show(2:Nat)^1=2 from rfl,emod_two,IntKind.wrap_i64]
  omega
theorem BL {k:Nat}:(k:Int).fdiv (2^min (Int.toNat 1) 64)=((k / 2:Nat):Int):=by
  rw[show(2:Int)^min (Int.toNat 1) 64=2 from rfl,Int.fdiv_eq_ediv_of_nonneg _ (by decide)];omega
theorem npow_odd {a o k p:Nat} (hm:k % 2=1) (h:o*a^k=p):o*a*(a*a)^(k / 2)=p:=by
  obtain⟨j,rfl⟩:∃j,k=2*j+1:=⟨k / 2,by omega⟩
  rw[show(2*j+1) / 2=j by omega,←h,Nat.pow_succ,Nat.pow_mul,Nat.pow_two,Nat.mul_assoc,Nat.mul_comm ((a*a)^j) a]
theorem JE {a o k p:Nat} (hm:k % 2=0) (h:o*a^k=p):o*(a*a)^(k / 2)=p:=by
  obtain⟨j,rfl⟩:∃j,k=2*j:=⟨k / 2,by omega⟩
  rw[show(2*j) / 2=j by omega,←h,Nat.pow_mul,Nat.pow_two]
theorem JD {a o k B:Nat} (h:bl o+bl a*k≤B) (hk:k≠0):bl a+bl o≤B∧bl (o*a)+bl (a*a)*(k / 2)≤B+(bl a - bl a*(k % 2))∧bl o+bl (a*a)*(k / 2)≤B:=by
  have h1:=aG o a
  have h2:=aG a a
  have h3:bl (a*a)*(k / 2)≤(bl a+bl a)*(k / 2):=Nat.mul_le_mul_right _ h2
  have h4:bl a*k=bl a*(2*(k / 2))+bl a*(k % 2):=by rw[←Nat.mul_add];congr 1;omega
  have h5:(bl a+bl a)*(k / 2)=bl a*(2*(k / 2)):=by rw[←Nat.two_mul,Nat.mul_comm 2,Nat.mul_assoc]
  have h6:bl a≤bl a*k:=Nat.le_mul_of_pos_right _ (by omega)
  rcases(show k % 2=0∨k % 2=1 by omega) with e |e<;>rw[e] at h4 ⊢<;>omega
theorem jL {h0 h:PH} [Le h0 h] {v:Value} {m n:Nat} (hv:N32 h0 v m) (hn:n≤2^20) (bm:bl m*n≤2^36):Spec mach 276 #[v,.int .i64 n] h (fun v h'=>N32 h' v (m^n)) NP:=by
  refine Spec.enter (args:=[_,_]) (n:=23) Tryz.func276 rfl (by kernel_rfl) rfl (by simp) [.tmp 4] rfl (fun C _=>?_)
  repeat (first |(refine wo rfl (fun k hk=>?_);simp(disch:=omega) only[go_sem,Nat.reduceBEq,reduceAdd];apply hk;clear hk k) |refine wkt rfl ?_ |refine wk0 ?_ |refine rg rfl rfl (fun K hK=>?_) |((first |refine ae ?_ |refine ac ?_);simp(disch:=decide) only[qs,qb,if_true,if_false,reduceIte]) |refine ah rfl (fun K hK=>?_) |refine ct rfl ?_ |((try simp(disch:=omega) only[go_sem,Nat.reduceBEq,reduceAdd]);(first |apply hK |(clear hK;apply hK) |(clear hK;clear hK;apply hK));clear hK;(try clear K);(try dsimp only[ag,qs,qb])))
  refine cN rfl rfl rfl rfl (by exact aw (n:=1) (by decide)) ?_;rintro o1 h1 s1 ho1
  repeat (first |(refine wo rfl (fun k hk=>?_);simp(disch:=omega) only[go_sem,Nat.reduceBEq,reduceAdd];apply hk;clear hk k) |refine wkt rfl ?_ |refine wk0 ?_ |refine rg rfl rfl (fun K hK=>?_) |((first |refine ae ?_ |refine ac ?_);simp(disch:=decide) only[qs,qb,if_true,if_false,reduceIte]) |refine ah rfl (fun K hK=>?_) |refine ct rfl ?_ |((try simp(disch:=omega) only[go_sem,Nat.reduceBEq,reduceAdd]);(first |apply hK |(clear hK;apply hK) |(clear hK;clear hK;apply hK));clear hK;(try clear K);(try dsimp only[ag,qs,qb])))
  refine cg (fun x:Value×Value×Nat×Nat×Nat=>⟨[(0,.v x.1),(1,.v (.int .i64 (x.2.2.2.2:Nat))),(5,.v x.2.1)],[]⟩)
    (fun x h'=>N32 h' x.1 x.2.2.1∧N32 h' x.2.1 x.2.2.2.1∧x.2.2.2.2≤2^20∧bl x.2.2.2.1+bl x.2.2.1*x.2.2.2.2≤1+bl m*n∧x.2.2.2.1*x.2.2.1^x.2.2.2.2=m^n)
    (fun x=>x.2.2.2.2) (v,o1,m,1,n) ?_ ⟨hv.to,ho1,hn,by rw[fI];exact Nat.le_refl _,by rw[Nat.one_mul]⟩ ?_
  · simp(disch:=omega) only[go_sem,Nat.reduceBEq,reduceAdd]
  · rintro⟨va,vo,a,o,k⟩ h2 ⟨ha,ho,hk,hb,he⟩
    dsimp only at ha ho hk hb he ⊢
    by_cases hk0:k=0
    · repeat (first |(refine wo rfl (fun k hk=>?_);simp(disch:=omega) only[go_sem,Nat.reduceBEq,reduceAdd];apply hk;clear hk k) |refine wkt rfl ?_ |refine wk0 ?_ |refine rg rfl rfl (fun K hK=>?_) |((first |refine ae ?_ |refine ac ?_);simp(disch:=decide) only[qs,qb,if_true,if_false,reduceIte]) |refine ah rfl (fun K hK=>?_) |refine ct rfl ?_ |((try simp(disch:=omega) only[go_sem,Nat.reduceBEq,reduceAdd]);(first |apply hK |(clear hK;apply hK) |(clear hK;clear hK;apply hK));clear hK;(try clear K);(try dsimp only[ag,qs,qb])))
      refine ai ?_;simp(disch:=omega) only[go_sem,Nat.reduceBEq,reduceAdd]
      rw[hk0,Nat.pow_zero,Nat.mul_one] at he
      rwa[←he]
    · obtain⟨b1,b2,b3⟩:=JD hb hk0
      have hk2:k / 2≤2^20:=by omega
      have hlt:k / 2 < k:=by omega
      by_cases hm:k % 2=1
      · by_cases hk1:k=1
        · subst hk1
          repeat (first |(refine wo rfl (fun k hk=>?_);simp(disch:=omega) only[go_sem,Nat.reduceBEq,reduceAdd,vQ,hm];apply hk;clear hk k) |refine wkt rfl ?_ |refine wk0 ?_ |refine rg rfl rfl (fun K hK=>?_) |((first |refine ae ?_ |refine ac ?_);simp(disch:=decide) only[qs,qb,if_true,if_false,reduceIte]) |refine ah rfl (fun K hK=>?_) |refine ct rfl ?_ |((try simp(disch:=omega) only[go_sem,Nat.reduceBEq,reduceAdd]);(first |apply hK |(clear hK;apply hK) |(clear hK;clear hK;apply hK));clear hK;(try clear K);(try dsimp only[ag,qs,qb])))
          refine cN rfl rfl rfl rfl (by exact aI ho ha (by omega) (by omega)) ?_;rintro v3 h3 s3 q3
          repeat (first |(refine wo rfl (fun k hk=>?_);simp(disch:=omega) only[go_sem,Nat.reduceBEq,reduceAdd,vQ,BL];apply hk;clear hk k) |refine wkt rfl ?_ |refine wk0 ?_ |refine rg rfl rfl (fun K hK=>?_) |((first |refine ae ?_ |refine ac ?_);simp(disch:=decide) only[qs,qb,if_true,if_false,reduceIte]) |refine ah rfl (fun K hK=>?_) |refine ct rfl ?_ |((try simp(disch:=omega) only[go_sem,Nat.reduceBEq,reduceAdd]);(first |apply hK |(clear hK;apply hK) |(clear hK;clear hK;apply hK));clear hK;(try clear K);(try dsimp only[ag,qs,qb])))
          refine⟨(va,v3,a,o*a,0),?_,⟨ha.to,q3,by omega,?_,?_⟩,(show 0 < 1 by decide)⟩
          · simp(disch:=omega) only[go_sem,Nat.reduceBEq,reduceAdd]
            rfl
          · show bl (o*a)+bl a*0≤1+bl m*n
            rw[Nat.mul_zero]
            have:=aG o a
            omega
          · show o*a*a^0=m^n
            rw[Nat.pow_zero,Nat.mul_one];rw[Nat.pow_one] at he;exact he
        · have h1k:1 < k:=by omega
          repeat (first |(refine wo rfl (fun k hk=>?_);simp(disch:=omega) only[go_sem,Nat.reduceBEq,reduceAdd,vQ,hm];apply hk;clear hk k) |refine wkt rfl ?_ |refine wk0 ?_ |refine rg rfl rfl (fun K hK=>?_) |((first |refine ae ?_ |refine ac ?_);simp(disch:=decide) only[qs,qb,if_true,if_false,reduceIte]) |refine ah rfl (fun K hK=>?_) |refine ct rfl ?_ |((try simp(disch:=omega) only[go_sem,Nat.reduceBEq,reduceAdd]);(first |apply hK |(clear hK;apply hK) |(clear hK;clear hK;apply hK));clear hK;(try clear K);(try dsimp only[ag,qs,qb])))
          refine cN rfl rfl rfl rfl (by exact aI ho ha (by omega) (by omega)) ?_;rintro v3 h3 s3 q3
          repeat (first |(refine wo rfl (fun k hk=>?_);simp(disch:=omega) only[go_sem,Nat.reduceBEq,reduceAdd];apply hk;clear hk k) |refine wkt rfl ?_ |refine wk0 ?_ |refine rg rfl rfl (fun K hK=>?_) |((first |refine ae ?_ |refine ac ?_);simp(disch:=decide) only[qs,qb,if_true,if_false,reduceIte]) |refine ah rfl (fun K hK=>?_) |refine ct rfl ?_ |((try simp(disch:=omega) only[go_sem,Nat.reduceBEq,reduceAdd]);(first |apply hK |(clear hK;apply hK) |(clear hK;clear hK;apply hK));clear hK;(try clear K);(try dsimp only[ag,qs,qb])))
          refine cN rfl rfl rfl rfl (by exact aI (ha.to (h':=h3)) (ha.to (h':=h3)) (by omega) (by omega)) ?_;rintro v4 h4 s4 q4
          repeat (first |(refine wo rfl (fun k hk=>?_);simp(disch:=omega) only[go_sem,Nat.reduceBEq,reduceAdd,BL];apply hk;clear hk k) |refine wkt rfl ?_ |refine wk0 ?_ |refine rg rfl rfl (fun K hK=>?_) |((first |refine ae ?_ |refine ac ?_);simp(disch:=decide) only[qs,qb,if_true,if_false,reduceIte]) |refine ah rfl (fun K hK=>?_) |refine ct rfl ?_ |((try simp(disch:=omega) only[go_sem,Nat.reduceBEq,reduceAdd]);(first |apply hK |(clear hK;apply hK) |(clear hK;clear hK;apply hK));clear hK;(try clear K);(try dsimp only[ag,qs,qb])))
          refine⟨(v4,v3,a*a,o*a,k / 2),?_,⟨q4,q3.to,hk2,?_,npow_odd hm he⟩,hlt⟩
          · simp(disch:=omega) only[go_sem,Nat.reduceBEq,reduceAdd]
          · show bl (o*a)+bl (a*a)*(k / 2)≤1+bl m*n
            rw[hm,Nat.mul_one] at b2;omega
      · have hm:k % 2=0:=by omega
        have h1k:1 < k:=by omega
        repeat (first |(refine wo rfl (fun k hk=>?_);simp(disch:=omega) only[go_sem,Nat.reduceBEq,reduceAdd,vQ,hm];apply hk;clear hk k) |refine wkt rfl ?_ |refine wk0 ?_ |refine rg rfl rfl (fun K hK=>?_) |((first |refine ae ?_ |refine ac ?_);simp(disch:=decide) only[qs,qb,if_true,if_false,reduceIte]) |refine ah rfl (fun K hK=>?_) |refine ct rfl ?_ |((try simp(disch:=omega) only[go_sem,Nat.reduceBEq,reduceAdd]);(first |apply hK |(clear hK;apply hK) |(clear hK;clear hK;apply hK));clear hK;(try clear K);(try dsimp only[ag,qs,qb])))
        refine cN rfl rfl rfl rfl (by exact aI ha ha (by omega) (by omega)) ?_;rintro v4 h4 s4 q4
        repeat (first |(refine wo rfl (fun k hk=>?_);simp(disch:=omega) only[go_sem,Nat.reduceBEq,reduceAdd,BL];apply hk;clear hk k) |refine wkt rfl ?_ |refine wk0 ?_ |refine rg rfl rfl (fun K hK=>?_) |((first |refine ae ?_ |refine ac ?_);simp(disch:=decide) only[qs,qb,if_true,if_false,reduceIte]) |refine ah rfl (fun K hK=>?_) |refine ct rfl ?_ |((try simp(disch:=omega) only[go_sem,Nat.reduceBEq,reduceAdd]);(first |apply hK |(clear hK;apply hK) |(clear hK;clear hK;apply hK));clear hK;(try clear K);(try dsimp only[ag,qs,qb])))
        refine⟨(v4,vo,a*a,o,k / 2),?_,⟨q4,ho.to,hk2,b3,JE hm he⟩,hlt⟩
        simp(disch:=omega) only[go_sem,Nat.reduceBEq,reduceAdd]
def rt0 (n a:Nat):Nat:=2^((bl a+n - 1) / n+1)
theorem DM {n a k:Nat} (hn:n≠0) (hk:(bl a+n - 1) / n≤k):irt n a≤2^k:=by
  have h1:bl a≤n*((bl a+n - 1) / n):=by
    have:=Nat.div_add_mod (bl a+n - 1) n
    have:=Nat.mod_lt (bl a+n - 1) (Nat.pos_of_ne_zero hn)
    omega
  have h2:a < 2^bl a:=bl_le.1 (Nat.le_refl _)
  have h3:(2:Nat)^bl a≤2^(n*k):=Nat.pow_le_pow_right (by decide) (Nat.le_trans h1 (Nat.mul_le_mul_left _ hk))
  exact Nat.le_of_lt (xZ hn (Nat.lt_of_lt_of_le h2 h3))
theorem cmp3_ge {m n:Nat}:0≤cmp3 m n↔n≤m:=by unfold cmp3;(repeat' split)<;>omega
theorem cmp3_eq0 {m n:Nat}:cmp3 m n=0↔m=n:=by unfold cmp3;(repeat' split)<;>omega
theorem vW {b n:Nat} (hn:2≤n) (hb:b≤2^20):(b+n - 1) / n≤2^20:=by
  rw[Nat.div_le_iff_le_mul_add_pred (by omega)]
  have:=Nat.mul_le_mul hn (Nat.le_refl (2^20))
  omega
theorem N32.len0 {h:PH} {a:Option Addr} {l c n:Nat} (r:N32 h (.slice a l c) n):l=0↔n=0:=by
  obtain⟨_,_,_,e,_,h2,_⟩:=r.out
  cases e
  have:=nP B32 (n:=n)
  rw[h2] at this
  exact this
@[go_sem] theorem wrap_div {x y:Nat} (h:x < 4611686018427387904):IntKind.i64.wrap ((x / y:Nat):Int)=((x / y:Nat):Int):=by
  have:=Nat.div_le_self x y
  generalize x / y=z at*
  exact wi64 (by omega) (by omega)
@[go_sem] theorem wrap_div1 {x y c:Nat} (h:x+c < 4611686018427387904):IntKind.i64.wrap ((x / y+c:Nat):Int)=((x / y+c:Nat):Int):=by
  have:=Nat.div_le_self x y
  generalize x / y=z at*
  exact wi64 (by omega) (by omega)
theorem gj {h0 h:PH} [Le h0 h] {v:Value} {a n:Nat} (hv:N32 h0 v a) (hn:2≤n) (hn8:n≤8) (ba:bl a≤2^20):Spec mach 254 #[v,.int .i64 n] h (fun v h'=>∃r,v=.tuple #[r,.bool (decide (irt n a^n=a))]∧N32 h' r (irt n a)) NP:=by
  obtain⟨va,vl,vc,rfl,hv⟩:=hv.sl
  have hv0:=hv.len0
  have hn0:n≠0:=by omega
  by_cases ha0:a=0
  · have hl:vl=0:=hv0.2 ha0
    subst ha0 hl
    refine Spec.enter (args:=[_,_]) (n:=59) Tryz.func254 rfl (by kernel_rfl) rfl (by simp) [.tmp 4,.tmp 5] rfl (fun C _=>?_)
    repeat (first |(refine wo rfl (fun k hk=>?_);simp(disch:=omega) only[go_sem,Nat.reduceBEq,reduceAdd];apply hk;clear hk k) |refine wkt rfl ?_ |refine wk0 ?_ |refine rg rfl rfl (fun K hK=>?_) |((first |refine ae ?_ |refine ac ?_);simp(disch:=decide) only[qs,qb,if_true,if_false,reduceIte]) |refine ah rfl (fun K hK=>?_) |refine ct rfl ?_ |((try simp(disch:=omega) only[go_sem,Nat.reduceBEq,reduceAdd]);(first |apply hK |(clear hK;apply hK) |(clear hK;clear hK;apply hK));clear hK;(try clear K);(try dsimp only[ag,qs,qb])))
    refine ai ?_;simp(disch:=omega) only[go_sem,Nat.reduceBEq,reduceAdd]
    rw[tz hn0,Nat.zero_pow (by omega)]
    exact⟨_,rfl,N32.zero _⟩
  · have hl:¬vl=0:=fun k=>ha0 (hv0.1 k)
    refine Spec.enter (args:=[_,_]) (n:=59) Tryz.func254 rfl (by kernel_rfl) rfl (by simp) [.tmp 4,.tmp 5] rfl (fun C _=>?_)
    repeat (first |(refine rg rfl rfl (fun K hK=>?_);(repeat (first |(refine wo rfl (fun k hk=>?_);simp(disch:=omega) only[go_sem,Nat.reduceBEq,reduceAdd];apply hk;clear hk k) |refine wkt rfl ?_));(try refine wk0 ?_);apply hK;clear hK K;(try dsimp only[ag,qs,qb])) |((first |refine ae ?_ |refine ac ?_);simp(disch:=decide) only[qs,qb,if_true,if_false,reduceIte]) |refine ah rfl (fun K hK=>?_) |refine ct rfl ?_ |((first |refine hK _ _ ?_ |(clear hK;refine hK _ _ ?_) |(clear hK;clear hK;refine hK _ _ ?_));clear hK;(try clear K)))
    have bx:∀x,x≤rt0 n a→bl x≤2^20+2:=fun x hx=>by
      have h1:=aR hx
      have h2:=bC ((bl a+n - 1) / n+1)
      have h3:=vW hn ba
      unfold rt0 at h1
      omega
    have hs:(bl a+n - 1) / n+1≤2^20+1:=by have:=vW hn ba;omega
    refine rg rfl rfl (fun K hK=>?_);(repeat (first |(refine wo rfl (fun k hk=>?_);simp(disch:=omega) only[go_sem,Nat.reduceBEq,reduceAdd];apply hk;clear hk k) |refine wkt rfl ?_));(try refine wk0 ?_)
    refine cN rfl rfl rfl rfl (by exact aw (n:=1) (by decide)) ?_;rintro o1 h1 _ q1;obtain⟨o1,o1_l,o1_c,rfl,q1⟩:=q1.sl;(repeat (first |(refine wo rfl (fun k hk=>?_);simp(disch:=omega) only[go_sem,Nat.reduceBEq,reduceAdd];apply hk;clear hk k) |refine wkt rfl ?_));(try refine wk0 ?_)
    refine cN rfl rfl rfl rfl (by exact mG hv) ?_;rintro o2 h2 s2 rfl;(repeat (first |(refine wo rfl (fun k hk=>?_);simp(disch:=omega) only[go_sem,Nat.reduceBEq,reduceAdd];apply hk;clear hk k) |refine wkt rfl ?_));(try refine wk0 ?_)
    refine cN rfl rfl rfl rfl (by exact aL (n:=(bl a+n - 1) / n+1) (q1.to (h':=h2)) (by rw[fI];omega)) ?_;rintro o3 h3 _ q3;obtain⟨o3,o3_l,o3_c,rfl,q3⟩:=q3.sl
    repeat (first |(refine wo rfl (fun k hk=>?_);simp(disch:=omega) only[go_sem,Nat.reduceBEq,reduceAdd];apply hk;clear hk k) |refine wkt rfl ?_ |refine wk0 ?_ |((first |refine rg rfl rfl (fun K hK=>?_));(repeat (first |(refine wo rfl (fun k hk=>?_);simp(disch:=omega) only[go_sem,Nat.reduceBEq,reduceAdd];apply hk;clear hk k) |refine wkt rfl ?_ |refine wk0 ?_));(first |apply hK |(clear hK;apply hK) |(clear hK;clear hK;apply hK));clear hK;(try clear K);(try dsimp only[ag,qs,qb])) |((first |refine ae ?_ |refine ac ?_);simp(disch:=decide) only[qs,qb,if_true,if_false,reduceIte]) |refine ah rfl (fun K hK=>?_) |refine ct rfl ?_ |((try simp(disch:=omega) only[go_sem,Nat.reduceBEq,reduceAdd]);(first |apply hK |(clear hK;apply hK) |(clear hK;clear hK;apply hK));clear hK;(try clear K);(try dsimp only[ag,qs,qb])))
    rw[Nat.one_mul] at q3
    refine cg (fun x:Value×Nat=>⟨[(0,.v (.slice va vl vc)),(1,.v (.int .i64 n)),(6,.v x.1)],[]⟩)
      (fun x h'=>Le h0 h'∧N32 h' x.1 x.2∧0 < x.2∧irt n a≤x.2∧x.2≤rt0 n a) (fun x=>x.2) (.slice o3 o3_l o3_c,rt0 n a) ?_ ⟨inferInstance,q3,Nat.pow_pos (by decide),DM hn0 (Nat.le_succ _),Nat.le_refl _⟩ ?_
    · simp(disch:=omega) only[go_sem,Nat.reduceBEq,reduceAdd]
    · rintro⟨xv,x⟩ h4 ⟨le4,hx,hx0,hxi,hxr⟩
      dsimp only at hx hx0 hxi hxr ⊢
      have bxx:=bx x hxr
      obtain⟨xa,xl,xc,rfl,hx⟩:=hx.sl
      have m1:bl x*(n - 1)≤(2^20+2)*8:=Nat.mul_le_mul bxx (by omega)
      have m2:bl x*n≤(2^20+2)*8:=Nat.mul_le_mul bxx hn8
      have p1:=uz x (n - 1)
      have p2:=uz x n
      rw[Nat.mul_comm] at p1 p2
      have hp:0 < x^(n - 1):=Nat.pow_pos hx0
      have hy1:=FA (n:=n) (a:=a) hn0 hx0
      have hy2:=Dy (n:=n) (a:=a) hn0 hx0
      have hy3:=HB (n:=n) (a:=a) hn0 (by omega) hx0
      have b3:=aR (Nat.div_le_self a (x^(n - 1)))
      have b4:=aG x (n - 1)
      have b5:bl (n - 1)≤8:=Nat.le_trans (aR (show n - 1≤8 by omega)) (by decide)
      have b6:=cY (x*(n - 1)) (a / x^(n - 1))
      repeat (first |(refine wo rfl (fun k hk=>?_);simp(disch:=omega) only[go_sem,Nat.reduceBEq,reduceAdd];apply hk;clear hk k) |refine wkt rfl ?_ |refine wk0 ?_ |refine rg rfl rfl (fun K hK=>?_) |((first |refine ae ?_ |refine ac ?_);simp(disch:=decide) only[qs,qb,if_true,if_false,reduceIte]) |refine ah rfl (fun K hK=>?_) |refine ct rfl ?_ |((try simp(disch:=omega) only[go_sem,Nat.reduceBEq,reduceAdd]);(first |apply hK |(clear hK;apply hK) |(clear hK;clear hK;apply hK));clear hK;(try clear K);(try dsimp only[ag,qs,qb])))
      refine cN rfl rfl rfl rfl (by exact jL (n:=n - 1) hx (by omega) (by omega)) ?_;rintro u1 g1 _ t1;obtain⟨u1,u1_l,u1_c,rfl,t1⟩:=t1.sl;(repeat (first |(refine wo rfl (fun k hk=>?_);simp(disch:=omega) only[go_sem,Nat.reduceBEq,reduceAdd];apply hk;clear hk k) |refine wkt rfl ?_));(try refine wk0 ?_)
      refine cN rfl rfl rfl rfl (by exact gU (hv.to (h':=g1)) t1 (by omega) (by omega) (by omega)) ?_;rintro w2 g2 s2 ⟨q,r,rfl,hq,hr⟩;(repeat (first |(refine wo rfl (fun k hk=>?_);simp(disch:=omega) only[go_sem,Nat.reduceBEq,reduceAdd];apply hk;clear hk k) |refine wkt rfl ?_));(try refine wk0 ?_)
      (repeat (first |(refine wo rfl (fun k hk=>?_);simp(disch:=omega) only[go_sem,Nat.reduceBEq,reduceAdd];apply hk;clear hk k) |refine wkt rfl ?_));(try refine wk0 ?_)
      repeat (first |(refine wo rfl (fun k hk=>?_);simp(disch:=omega) only[go_sem,Nat.reduceBEq,reduceAdd];apply hk;clear hk k) |refine wkt rfl ?_ |refine wk0 ?_ |((first |refine rg rfl rfl (fun K hK=>?_));(repeat (first |(refine wo rfl (fun k hk=>?_);simp(disch:=omega) only[go_sem,Nat.reduceBEq,reduceAdd];apply hk;clear hk k) |refine wkt rfl ?_ |refine wk0 ?_));(first |apply hK |(clear hK;apply hK) |(clear hK;clear hK;apply hK));clear hK;(try clear K);(try dsimp only[ag,qs,qb])) |((first |refine ae ?_ |refine ac ?_);simp(disch:=decide) only[qs,qb,if_true,if_false,reduceIte]) |refine ah rfl (fun K hK=>?_) |refine ct rfl ?_ |((try simp(disch:=omega) only[go_sem,Nat.reduceBEq,reduceAdd]);(first |apply hK |(clear hK;apply hK) |(clear hK;clear hK;apply hK));clear hK;(try clear K);(try dsimp only[ag,qs,qb])))
      have en:x*(n - 1)+a / x^(n - 1)=(n - 1)*x+a / x^(n - 1):=by rw[Nat.mul_comm]
      refine rg rfl rfl (fun K hK=>?_);(repeat (first |(refine wo rfl (fun k hk=>?_);simp(disch:=omega) only[go_sem,Nat.reduceBEq,reduceAdd];apply hk;clear hk k) |refine wkt rfl ?_));(try refine wk0 ?_)
      refine cN rfl rfl rfl rfl (by exact aw (n:=n - 1) (by omega)) ?_;rintro u3 g3 _ t3;obtain⟨u3,u3_l,u3_c,rfl,t3⟩:=t3.sl;(repeat (first |(refine wo rfl (fun k hk=>?_);simp(disch:=omega) only[go_sem,Nat.reduceBEq,reduceAdd];apply hk;clear hk k) |refine wkt rfl ?_));(try refine wk0 ?_)
      refine cN rfl rfl rfl rfl (by exact aI (hx.to (h':=g3)) t3 (by omega) (by omega)) ?_;rintro u4 g4 _ t4;obtain⟨u4,u4_l,u4_c,rfl,t4⟩:=t4.sl;(repeat (first |(refine wo rfl (fun k hk=>?_);simp(disch:=omega) only[go_sem,Nat.reduceBEq,reduceAdd];apply hk;clear hk k) |refine wkt rfl ?_));(try refine wk0 ?_)
      refine cN rfl rfl rfl rfl (by exact bR t4 (hq.to (h':=g4)) (by omega) (by omega)) ?_;rintro u5 g5 _ t5;obtain⟨u5,u5_l,u5_c,rfl,t5⟩:=t5.sl;(repeat (first |(refine wo rfl (fun k hk=>?_);simp(disch:=omega) only[go_sem,Nat.reduceBEq,reduceAdd];apply hk;clear hk k) |refine wkt rfl ?_));(try refine wk0 ?_)
      refine cN rfl rfl rfl rfl (by exact nN (d:=n) t5 (by omega) (by omega) (by omega)) ?_;rintro w6 g6 s6 ⟨y,rfl,hy⟩;(repeat (first |(refine wo rfl (fun k hk=>?_);simp(disch:=omega) only[go_sem,Nat.reduceBEq,reduceAdd];apply hk;clear hk k) |refine wkt rfl ?_));(try refine wk0 ?_)
      (repeat (first |(refine wo rfl (fun k hk=>?_);simp(disch:=omega) only[go_sem,Nat.reduceBEq,reduceAdd];apply hk;clear hk k) |refine wkt rfl ?_));(try refine wk0 ?_)
      (try (simp(disch:=omega) only[go_sem,Nat.reduceBEq,reduceAdd]));apply hK;clear hK;(try clear K);(try dsimp only[ag,qs])
      rw[en] at hy
      have hy:N32 g6 y (nwt n a x):=hy
      clear en
      generalize nwt n a x=z at*
      obtain⟨ya,yl,yc,rfl,hy⟩:=hy.sl
      repeat (first |(refine rg rfl rfl (fun K hK=>?_);(repeat (first |(refine wo rfl (fun k hk=>?_);simp(disch:=omega) only[go_sem,Nat.reduceBEq,reduceAdd];apply hk;clear hk k) |refine wkt rfl ?_));(try refine wk0 ?_);apply hK;clear hK K;(try dsimp only[ag,qs,qb])) |((first |refine ae ?_ |refine ac ?_);simp(disch:=decide) only[qs,qb,if_true,if_false,reduceIte]) |refine ah rfl (fun K hK=>?_) |refine ct rfl ?_ |((first |refine hK _ _ ?_ |(clear hK;refine hK _ _ ?_) |(clear hK;clear hK;refine hK _ _ ?_));clear hK;(try clear K)))
      by_cases hc:x≤z
      · have e1:0≤cmp3 z x:=cmp3_ge.2 hc
        have exi:x=irt n a:=irt_eq hn0 (hy2 hc) hxi
        refine rg rfl rfl (fun K hK=>?_);(repeat (first |(refine wo rfl (fun k hk=>?_);simp(disch:=omega) only[go_sem,Nat.reduceBEq,reduceAdd];apply hk;clear hk k) |refine wkt rfl ?_));(try refine wk0 ?_)
        refine cN rfl rfl rfl rfl (by exact fO hy (hx.to (h':=g6))) ?_;rintro w7 g7 s7 rfl
        repeat (first |(refine wo rfl (fun k hk=>?_);simp(disch:=omega) only[go_sem,Nat.reduceBEq,reduceAdd];apply hk;clear hk k) |refine wkt rfl ?_ |refine wk0 ?_ |((first |refine rg rfl rfl (fun K hK=>?_));(repeat (first |(refine wo rfl (fun k hk=>?_);simp(disch:=omega) only[go_sem,Nat.reduceBEq,reduceAdd];apply hk;clear hk k) |refine wkt rfl ?_ |refine wk0 ?_));(first |apply hK |(clear hK;apply hK) |(clear hK;clear hK;apply hK));clear hK;(try clear K);(try dsimp only[ag,qs,qb])) |((first |refine ae ?_ |refine ac ?_);simp(disch:=decide) only[qs,qb,if_true,if_false,reduceIte]) |refine ah rfl (fun K hK=>?_) |refine ct rfl ?_ |((try simp(disch:=omega) only[go_sem,Nat.reduceBEq,reduceAdd]);(first |apply hK |(clear hK;apply hK) |(clear hK;clear hK;apply hK));clear hK;(try clear K);(try dsimp only[ag,qs,qb])))
        by_cases hq0:x^n=a
        · have e2:cmp3 (x^n) a=0:=cmp3_eq0.2 hq0
          refine rg rfl rfl (fun K hK=>?_);(repeat (first |(refine wo rfl (fun k hk=>?_);simp(disch:=omega) only[go_sem,Nat.reduceBEq,reduceAdd];apply hk;clear hk k) |refine wkt rfl ?_));(try refine wk0 ?_)
          refine cN rfl rfl rfl rfl (by exact jL (n:=n) (hx.to (h':=g7)) (by omega) (by omega)) ?_;rintro u8 g8 _ t8;obtain⟨u8,u8_l,u8_c,rfl,t8⟩:=t8.sl;(repeat (first |(refine wo rfl (fun k hk=>?_);simp(disch:=omega) only[go_sem,Nat.reduceBEq,reduceAdd];apply hk;clear hk k) |refine wkt rfl ?_));(try refine wk0 ?_)
          refine cN rfl rfl rfl rfl (by exact fO t8 (hv.to (h':=g8))) ?_;rintro w9 g9 s9 rfl
          repeat (first |(refine wo rfl (fun k hk=>?_);simp(disch:=omega) only[go_sem,Nat.reduceBEq,reduceAdd];apply hk;clear hk k) |refine wkt rfl ?_ |refine wk0 ?_ |refine rg rfl rfl (fun K hK=>?_) |((first |refine ae ?_ |refine ac ?_);simp(disch:=decide) only[qs,qb,if_true,if_false,reduceIte]) |refine ah rfl (fun K hK=>?_) |refine ct rfl ?_ |((try simp(disch:=omega) only[go_sem,Nat.reduceBEq,reduceAdd]);(first |apply hK |(clear hK;apply hK) |(clear hK;clear hK;apply hK));clear hK;(try clear K);(try dsimp only[ag,qs,qb])))
          refine ai ?_;simp(disch:=omega) only[go_sem,Nat.reduceBEq,reduceAdd]
          rw[←exi,decide_eq_true hq0]
          exact⟨_,rfl,hx.to⟩
        · have e2:¬cmp3 (x^n) a=0:=fun k=>hq0 (cmp3_eq0.1 k)
          refine rg rfl rfl (fun K hK=>?_);(repeat (first |(refine wo rfl (fun k hk=>?_);simp(disch:=omega) only[go_sem,Nat.reduceBEq,reduceAdd];apply hk;clear hk k) |refine wkt rfl ?_));(try refine wk0 ?_)
          refine cN rfl rfl rfl rfl (by exact jL (n:=n) (hx.to (h':=g7)) (by omega) (by omega)) ?_;rintro u8 g8 _ t8;obtain⟨u8,u8_l,u8_c,rfl,t8⟩:=t8.sl;(repeat (first |(refine wo rfl (fun k hk=>?_);simp(disch:=omega) only[go_sem,Nat.reduceBEq,reduceAdd];apply hk;clear hk k) |refine wkt rfl ?_));(try refine wk0 ?_)
          refine cN rfl rfl rfl rfl (by exact fO t8 (hv.to (h':=g8))) ?_;rintro w9 g9 s9 rfl
          repeat (first |(refine wo rfl (fun k hk=>?_);simp(disch:=omega) only[go_sem,Nat.reduceBEq,reduceAdd];apply hk;clear hk k) |refine wkt rfl ?_ |refine wk0 ?_ |refine rg rfl rfl (fun K hK=>?_) |((first |refine ae ?_ |refine ac ?_);simp(disch:=decide) only[qs,qb,if_true,if_false,reduceIte]) |refine ah rfl (fun K hK=>?_) |refine ct rfl ?_ |((try simp(disch:=omega) only[go_sem,Nat.reduceBEq,reduceAdd]);(first |apply hK |(clear hK;apply hK) |(clear hK;clear hK;apply hK));clear hK;(try clear K);(try dsimp only[ag,qs,qb])))
          refine ai ?_;simp(disch:=omega) only[go_sem,Nat.reduceBEq,reduceAdd]
          rw[←exi,decide_eq_false hq0]
          exact⟨_,rfl,hx.to⟩
      · have e1:¬0≤cmp3 z x:=fun k=>hc (cmp3_ge.1 k)
        refine rg rfl rfl (fun K hK=>?_);(repeat (first |(refine wo rfl (fun k hk=>?_);simp(disch:=omega) only[go_sem,Nat.reduceBEq,reduceAdd];apply hk;clear hk k) |refine wkt rfl ?_));(try refine wk0 ?_)
        refine cN rfl rfl rfl rfl (by exact fO hy (hx.to (h':=g6))) ?_;rintro w7 g7 s7 rfl
        repeat (first |(refine wo rfl (fun k hk=>?_);simp(disch:=omega) only[go_sem,Nat.reduceBEq,reduceAdd];apply hk;clear hk k) |refine wkt rfl ?_ |refine wk0 ?_ |refine rg rfl rfl (fun K hK=>?_) |((first |refine ae ?_ |refine ac ?_);simp(disch:=decide) only[qs,qb,if_true,if_false,reduceIte]) |refine ah rfl (fun K hK=>?_) |refine ct rfl ?_ |((try simp(disch:=omega) only[go_sem,Nat.reduceBEq,reduceAdd]);(first |apply hK |(clear hK;apply hK) |(clear hK;clear hK;apply hK));clear hK;(try clear K);(try dsimp only[ag,qs,qb])))
        refine⟨(_,z),?_,⟨inferInstance,hy.to,hy3,hy1,by omega⟩,by omega⟩
        simp(disch:=omega) only[go_sem,Nat.reduceBEq,reduceAdd]
theorem Gi (k:Nat):2^(16*k)=65536^k:=by
  rw[Nat.pow_mul,show(2:Nat)^16=65536 from by decide]
theorem bl_half {y:Nat} (hy:y≠0):bl (y / 2)+1=bl y:=by
  have h1:y < 2^(bl (y / 2)+1):=by
    have:=bl_le.1 (Nat.le_refl (bl (y / 2)))
    rw[Nat.pow_succ];omega
  have h2:=bl_le.2 h1
  have h3:y < 2^bl y:=bl_le.1 (Nat.le_refl _)
  obtain⟨k,hk⟩:∃k,bl y=k+1:=by
    cases hb:bl y with
    |zero=>rw[hb,Nat.pow_zero] at h3;omega
    |succ k=>exact⟨k,rfl⟩
  rw[hk,Nat.pow_succ] at h3
  have h4:bl (y / 2)≤k:=bl_le.2 (by omega)
  omega
theorem mv {h0 h:PH} [Le h0 h] {v:Value} {n:Nat} (hv:N16 h0 v n) (bn:bl n≤2^40):Spec mach 213 #[v] h (fun v _=>v=.int .i64 (bl n)) NP:=by
  obtain⟨a,c,rfl,ha⟩:=hv
  have hs:=ha.small
  have hc:=ha.cap
  have hl:=nP B16 (n:=n)
  refine Spec.enter (args:=[_]) (n:=25) Tryz.func213 rfl (by kernel_rfl) rfl (by simp) [.tmp 2] rfl (fun C _=>?_)
  by_cases hn:n=0
  · repeat (first |(refine wo rfl (fun k hk=>?_);simp(disch:=omega) only[go_sem,Nat.reduceBEq,reduceAdd];apply hk;clear hk k) |refine wkt rfl ?_ |refine wk0 ?_ |refine rg rfl rfl (fun K hK=>?_) |((first |refine ae ?_ |refine ac ?_);simp(disch:=decide) only[qs,qb,if_true,if_false,reduceIte]) |refine ah rfl (fun K hK=>?_) |refine ct rfl ?_ |((try simp(disch:=omega) only[go_sem,Nat.reduceBEq,reduceAdd]);(first |apply hK |(clear hK;apply hK) |(clear hK;clear hK;apply hK));clear hK;(try clear K);(try dsimp only[ag,qs,qb])))
    refine ai ?_;simp(disch:=omega) only[go_sem,Nat.reduceBEq,reduceAdd]
    subst hn;rfl
  · have hp:=jQ B16 hn
    obtain⟨h1,h2,h3⟩:=W_top B16 hn
    obtain⟨ad,rfl,hat⟩:=ha.rd h (i:=(W 65536 n).length - 1) (by omega)
    rw[h1] at hat
    have h6:=rS (n:=n) (k:=16*((W 65536 n).length - 1)) (by rw[Gi];exact h2)
    rw[Gi] at h6
    clear h1 h2 ha
    generalize(W 65536 n).length=L at*
    generalize n / 65536^(L - 1)=t at*
    repeat (first |(refine wo rfl (fun k hk=>?_);simp(disch:=omega) only[go_sem,Nat.reduceBEq,reduceAdd,hat];apply hk;clear hk k) |refine wkt rfl ?_ |refine wk0 ?_ |refine rg rfl rfl (fun K hK=>?_) |((first |refine ae ?_ |refine ac ?_);simp(disch:=decide) only[qs,qb,if_true,if_false,reduceIte]) |refine ah rfl (fun K hK=>?_) |refine ct rfl ?_ |((try simp(disch:=omega) only[go_sem,Nat.reduceBEq,reduceAdd]);(first |apply hK |(clear hK;apply hK) |(clear hK;clear hK;apply hK));clear hK;(try clear K);(try dsimp only[ag,qs,qb])))
    refine cg (fun x:Nat×Nat=>⟨[(3,.v (.int .i64 (x.1:Nat))),(4,.v (.int .u32 (x.2:Nat)))],[]⟩) (fun x h'=>x.2 < 65536∧x.1+bl x.2=bl n) (fun x=>x.2) (16*(L - 1),t) ?_ ⟨h3,by dsimp only;omega⟩ ?_
    · simp(disch:=omega) only[go_sem,Nat.reduceBEq,reduceAdd]
    · rintro⟨s,y⟩ h' ⟨hy,he⟩
      dsimp only at hy he ⊢
      by_cases hy0:y=0
      · subst hy0
        rw[show bl 0=0 from by decide] at he
        repeat (first |(refine wo rfl (fun k hk=>?_);simp(disch:=omega) only[go_sem,Nat.reduceBEq,reduceAdd];apply hk;clear hk k) |refine wkt rfl ?_ |refine wk0 ?_ |refine rg rfl rfl (fun K hK=>?_) |((first |refine ae ?_ |refine ac ?_);simp(disch:=decide) only[qs,qb,if_true,if_false,reduceIte]) |refine ah rfl (fun K hK=>?_) |refine ct rfl ?_ |((try simp(disch:=omega) only[go_sem,Nat.reduceBEq,reduceAdd]);(first |apply hK |(clear hK;apply hK) |(clear hK;clear hK;apply hK));clear hK;(try clear K);(try dsimp only[ag,qs,qb])))
        refine ai ?_;simp(disch:=omega) only[go_sem,Nat.reduceBEq,reduceAdd]
        refine iv ?_
        omega
      · have hb:=bl_half hy0
        repeat (first |(refine wo rfl (fun k hk=>?_);simp(disch:=omega) only[go_sem,Nat.reduceBEq,reduceAdd];apply hk;clear hk k) |refine wkt rfl ?_ |refine wk0 ?_ |refine rg rfl rfl (fun K hK=>?_) |((first |refine ae ?_ |refine ac ?_);simp(disch:=decide) only[qs,qb,if_true,if_false,reduceIte]) |refine ah rfl (fun K hK=>?_) |refine ct rfl ?_ |((try simp(disch:=omega) only[go_sem,Nat.reduceBEq,reduceAdd]);(first |apply hK |(clear hK;apply hK) |(clear hK;clear hK;apply hK));clear hK;(try clear K);(try dsimp only[ag,qs,qb])))
        refine⟨(s+1,y / 2),?_,⟨by dsimp only;omega,by dsimp only;omega⟩,by dsimp only;omega⟩
        simp(disch:=omega) only[go_sem,Nat.reduceBEq,reduceAdd]
theorem Aj {h0 h:PH} [Le h0 h] {v:Value} {a n:Nat} (hv:N16 h0 v a) (hn:2≤n) (hn8:n≤8) (ba:bl a≤2^20):Spec mach 270 #[v,.int .i64 n] h (fun r h'=>N16 h' r (irt n a)) NP:=by
  obtain⟨va,vl,vc,rfl,hv⟩:=hv.sl
  have hv0:=hv.len0
  have hn0:n≠0:=by omega
  have hn1:¬(n:Int) < 1:=by omega
  by_cases ha0:a=0
  · have hl:vl=0:=hv0.2 ha0
    subst ha0 hl
    refine Spec.go [] Tryz.func270 rfl rfl (by kernel_rfl) fun C _=>?_
    try simp(maxSteps:=999999) (disch:=omega) only[go_sem,Nat.reduceBEq,reduceAdd]
    rw[tz hn0]
    exact N16.zero _
  · have hl:¬vl=0:=fun k=>ha0 (hv0.1 k)
    refine Spec.go [] Tryz.func270 rfl rfl (by kernel_rfl) fun C _=>?_
    try simp(maxSteps:=999999) (disch:=omega) only[go_sem,Nat.reduceBEq,reduceAdd]
    have bx:∀x,x≤2^((bl a+n - 1) / n)→bl x≤2^20+2:=fun x hx=>by
      have h1:=aR hx
      have h2:=bC ((bl a+n - 1) / n)
      have h3:=vW hn ba
      omega
    have hs:(bl a+n - 1) / n≤2^20:=vW hn ba
    try simp(maxSteps:=999999) (disch:=omega) only[go_sem,Nat.reduceBEq,reduceAdd]
    refine caN (by exact bQ (n:=1) (by decide)) ?_;rintro _ h1 _ q1;obtain⟨_,_,_,rfl,q1⟩:=q1.sl
    try simp(maxSteps:=999999) (disch:=omega) only[go_sem,Nat.reduceBEq,reduceAdd]
    refine caN (by exact mv hv (by omega)) ?_;rintro o2 h2 s2 rfl
    try simp(maxSteps:=999999) (disch:=omega) only[go_sem,Nat.reduceBEq,reduceAdd]
    refine caN (by exact gf (n:=(bl a+n - 1) / n) (q1.to (h':=h2)) (by rw[fI];omega)) ?_;rintro _ h3 _ q3;obtain⟨o3,o3_l,o3_c,rfl,q3⟩:=q3.sl
    try simp(maxSteps:=999999) (disch:=omega) only[go_sem,Nat.reduceBEq,reduceAdd]
    rw[Nat.one_mul] at q3
    refine lp [] (fun x:Value×Nat=>⟨[(0,.v (.slice va vl vc)),(1,.v (.int .i64 n)),(5,.v x.1)],[]⟩) (fun x h'=>Le h0 h'∧N16 h' x.1 x.2∧0 < x.2∧irt n a≤x.2∧x.2≤2^((bl a+n - 1) / n)) (fun x=>x.2) (.slice o3 o3_l o3_c,2^((bl a+n - 1) / n)) ?_ ⟨inferInstance,q3,Nat.pow_pos (by decide),DM hn0 (Nat.le_refl _),Nat.le_refl _⟩ (by kernel_rfl) ?_
    · try simp(maxSteps:=999999) (disch:=omega) only[go_sem,Nat.reduceBEq,reduceAdd]
    · rintro⟨xv,x⟩ h4 ⟨le4,hx,hx0,hxi,hxr⟩
      dsimp only at hx hx0 hxi hxr ⊢
      have bxx:=bx x hxr
      obtain⟨xa,xl,xc,rfl,hx⟩:=hx.sl
      have m1:bl x*(n - 1)≤(2^20+2)*8:=Nat.mul_le_mul bxx (by omega)
      have p1:=uz x (n - 1)
      rw[Nat.mul_comm] at p1
      have hp:0 < x^(n - 1):=Nat.pow_pos hx0
      have hy1:=FA (n:=n) (a:=a) hn0 hx0
      have hy2:=Dy (n:=n) (a:=a) hn0 hx0
      have hy3:=HB (n:=n) (a:=a) hn0 (by omega) hx0
      have b3:=aR (Nat.div_le_self a (x^(n - 1)))
      have b4:=aG x (n - 1)
      have b5:bl (n - 1)≤8:=Nat.le_trans (aR (show n - 1≤8 by omega)) (by decide)
      have b7:bl n≤8:=Nat.le_trans (aR hn8) (by decide)
      have b6:=cY (x*(n - 1)) (a / x^(n - 1))
      try simp(maxSteps:=999999) (disch:=omega) only[go_sem,Nat.reduceBEq,reduceAdd]
      refine caN (by exact lf (n:=n - 1) hx (by omega) (by omega)) ?_;rintro _ g1 _ t1;obtain⟨_,_,_,rfl,t1⟩:=t1.sl
      try simp(maxSteps:=999999) (disch:=omega) only[go_sem,Nat.reduceBEq,reduceAdd]
      refine caN (by exact dJ (hv.to (h':=g1)) t1 (by omega) (by omega) (by omega)) ?_;rintro w2 g2 s2 ⟨q,r,rfl,hq,hr⟩
      try simp(maxSteps:=999999) (disch:=omega) only[go_sem,Nat.reduceBEq,reduceAdd]
      have en:x*(n - 1)+a / x^(n - 1)=(n - 1)*x+a / x^(n - 1):=by rw[Nat.mul_comm]
      try simp(maxSteps:=999999) (disch:=omega) only[go_sem,Nat.reduceBEq,reduceAdd]
      refine caN (by exact bQ (n:=n - 1) (by omega)) ?_;rintro _ g3 _ t3;obtain⟨_,_,_,rfl,t3⟩:=t3.sl
      try simp(maxSteps:=999999) (disch:=omega) only[go_sem,Nat.reduceBEq,reduceAdd]
      refine caN (by exact aV (hx.to (h':=g3)) t3 (by omega) (by omega)) ?_;rintro _ g4 _ t4;obtain⟨_,_,_,rfl,t4⟩:=t4.sl
      try simp(maxSteps:=999999) (disch:=omega) only[go_sem,Nat.reduceBEq,reduceAdd]
      refine caN (by exact nr t4 (hq.to (h':=g4)) (by omega) (by omega)) ?_;rintro _ g5 _ t5;obtain⟨_,_,_,rfl,t5⟩:=t5.sl
      try simp(maxSteps:=999999) (disch:=omega) only[go_sem,Nat.reduceBEq,reduceAdd]
      refine caN (by exact bQ (n:=n) (by omega)) ?_;rintro _ g6' _ t6;obtain⟨_,_,_,rfl,t6⟩:=t6.sl
      try simp(maxSteps:=999999) (disch:=omega) only[go_sem,Nat.reduceBEq,reduceAdd]
      refine caN (by exact dJ (t5.to (h':=g6')) t6 (by omega) (by omega) (by omega)) ?_;rintro w6 g6 s6 ⟨y,r',rfl,hy,_⟩
      try simp(maxSteps:=999999) (disch:=omega) only[go_sem,Nat.reduceBEq,reduceAdd]
      rw[en] at hy
      have hy:N16 g6 y (nwt n a x):=hy
      clear en
      generalize nwt n a x=z at*
      obtain⟨ya,yl,yc,rfl,hy⟩:=hy.sl
      try simp(maxSteps:=999999) (disch:=omega) only[go_sem,Nat.reduceBEq,reduceAdd]
      by_cases hc:x≤z
      · have e1:0≤cmp3 z x:=cmp3_ge.2 hc
        have exi:x=irt n a:=irt_eq hn0 (hy2 hc) hxi
        try simp(maxSteps:=999999) (disch:=omega) only[go_sem,Nat.reduceBEq,reduceAdd]
        refine caN (by exact eI hy (hx.to (h':=g6))) ?_;rintro w7 g7 s7 rfl
        try simp(maxSteps:=999999) (disch:=omega) only[go_sem,Nat.reduceBEq,reduceAdd]
        rw[←exi]
        exact hx.to
      · have e1:¬0≤cmp3 z x:=fun k=>hc (cmp3_ge.1 k)
        try simp(maxSteps:=999999) (disch:=omega) only[go_sem,Nat.reduceBEq,reduceAdd]
        refine caN (by exact eI hy (hx.to (h':=g6))) ?_;rintro w7 g7 s7 rfl
        try simp(maxSteps:=999999) (disch:=omega) only[go_sem,Nat.reduceBEq,reduceAdd]
        dsimp only[lpE];refine⟨(_,z),?_,⟨inferInstance,hy.to,hy3,hy1,by omega⟩,by omega⟩
        try simp(maxSteps:=999999) (disch:=omega) only[go_sem,Nat.reduceBEq,reduceAdd]
theorem Ju (a:Int) (n:Nat):(a < 0→(n % 2=1→a^n < 0)∧(n % 2=0→0 < a^n))∧(0≤a→0≤a^n):=by
  induction n with
  |zero=>exact⟨fun _=>⟨fun h=>by omega,fun _=>by rw[Int.pow_zero];decide⟩,fun _=>by rw[Int.pow_zero];decide⟩
  | succ n ih=>
    rw[Int.pow_succ]
    refine⟨fun h=>⟨fun hm=>?_,fun hm=>?_⟩,fun h=>Int.mul_nonneg (ih.2 h) h⟩
    · exact Int.mul_neg_of_pos_of_neg ((ih.1 h).2 (by omega)) h
    · exact Int.mul_pos_of_neg_of_neg ((ih.1 h).1 (by omega)) h
theorem HL (x:Rat) (n:Nat):decide ((x^n).num < 0)=(decide (x.num < 0) && decide (n % 2=1)):=by
  have h:=Ju x.num n
  rw[Rat.num_pow]
  generalize x.num^n=z at*
  by_cases h1:x.num < 0
  · by_cases h2:n % 2=1
    · have:=(h.1 h1).1 h2
      simp[h1,h2,this]
    · have:=(h.1 h1).2 (by omega)
      have h3:¬z < 0:=by omega
      simp[h1,h2,h3]
  · have:=h.2 (by omega)
    have h3:¬z < 0:=by omega
    simp[h1,h3]
theorem gZ {h0 h:PH} [Le h0 h] {v:Value} {x:Rat} {n:Nat} (hx:Qr h0 v x) (hn:n≤64) (bx:sz x≤2^20):Spec mach 269 #[v,.int .i64 n] h (fun v h'=>Qr h' v (x^n)) NP:=by
  have hx0:=hx
  obtain⟨na,nl,nc,da,dl,dc,e,rfl,hn1,hd1,he⟩:=hx.sl
  have kD:=fun {h} [Le h0 h]=>dU (h:=h) hx0
  have b1:=bG x
  have b2:=bB x
  have m1:bl x.num.natAbs*n≤2^20*64:=Nat.mul_le_mul (by omega) hn
  have m2:bl x.den*n≤2^20*64:=Nat.mul_le_mul (by omega) hn
  have e1:(x^n).num.natAbs=x.num.natAbs^n:=by rw[Rat.num_pow,Int.natAbs_pow]
  have e2:(x^n).den=x.den^n:=Rat.den_pow ..
  have e3:=HL x n
  have hz:x.den^n≠0:=Nat.pos_iff_ne_zero.1 (Nat.pow_pos (Nat.pos_of_ne_zero x.den_nz))
  generalize decide (x.num < 0)=s at*
  by_cases hm:n % 2=1
  · rw[decide_eq_true hm,Bool.and_true] at e3
    cases s<;>
    · refine Spec.go [(2,.o [1,3,4,0,2,5,6]),(3,.o [0,1,2,3,4,5,6,7,8,9,11,13,10,12,14,15,16])] Tryz.func269 rfl rfl (by kernel_rfl) fun C _=>?_
      try simp(maxSteps:=999999) (disch:=omega) only[go_sem,Nat.reduceBEq,reduceAdd]
      refine caN (by exact lf hn1 (by omega) (by omega)) ?_;rintro _ h1 _ q1;obtain⟨_,_,_,rfl,q1⟩:=q1.sl
      try simp(maxSteps:=999999) (disch:=omega) only[go_sem,Nat.reduceBEq,reduceAdd]
      refine caN (by exact kD) ?_;rintro _ h2 _ q2;obtain⟨_,_,_,rfl,q2⟩:=q2.sl
      try simp(maxSteps:=999999) (disch:=omega) only[go_sem,Nat.reduceBEq,reduceAdd]
      refine caN (by exact lf q2 (by omega) (by omega)) ?_;rintro _ h3 _ q3;obtain⟨_,_,_,rfl,q3⟩:=q3.sl
      try simp(maxSteps:=999999) (disch:=omega) only[go_sem,Nat.reduceBEq,reduceAdd]
      exact⟨_,_,_,by rw[e3],by rw[e1];exact q1.to,q3,by rw[e2,my hz]⟩
  · rw[decide_eq_false hm,Bool.and_false] at e3
    cases s<;>
    · refine Spec.go [(2,.o [1,3,4,0,2,5,6]),(3,.o [0,1,2,3,4,5,6,7,8,9,11,13,10,12,14,15,16])] Tryz.func269 rfl rfl (by kernel_rfl) fun C _=>?_
      try simp(maxSteps:=999999) (disch:=omega) only[go_sem,Nat.reduceBEq,reduceAdd]
      refine caN (by exact lf hn1 (by omega) (by omega)) ?_;rintro _ h1 _ q1;obtain⟨_,_,_,rfl,q1⟩:=q1.sl
      try simp(maxSteps:=999999) (disch:=omega) only[go_sem,Nat.reduceBEq,reduceAdd]
      refine caN (by exact kD) ?_;rintro _ h2 _ q2;obtain⟨_,_,_,rfl,q2⟩:=q2.sl
      try simp(maxSteps:=999999) (disch:=omega) only[go_sem,Nat.reduceBEq,reduceAdd]
      refine caN (by exact lf q2 (by omega) (by omega)) ?_;rintro _ h3 _ q3;obtain⟨_,_,_,rfl,q3⟩:=q3.sl
      try simp(maxSteps:=999999) (disch:=omega) only[go_sem,Nat.reduceBEq,reduceAdd]
      exact⟨_,_,_,by rw[e3],by rw[e1];exact q1.to,q3,by rw[e2,my hz]⟩
set_option maxHeartbeats 8000000
def rtw (q:Rat) (n p:Nat):Nat:=q.num.natAbs*2^(p*n) / q.den
def rtx (q:Rat) (n p:Nat):Bool:=decide (irt n (rtw q n p)^n=rtw q n p) && decide (q.num.natAbs*2^(p*n) % q.den=0)
def rtm (up:Bool) (q:Rat) (n p:Nat):Nat:=if (up != decide (q.num < 0))=true∧rtx q n p=false then irt n (rtw q n p)+1 else irt n (rtw q n p)
def rootg (up:Bool) (q:Rat) (n p:Nat):Rat:=sgn (decide (q.num < 0)) (rtm up q n p) (2^p)
theorem Bg {n a k:Nat} (hn:n≠0) (h:bl a≤n*k):bl (irt n a)≤k:=by
  have h1:a < 2^bl a:=bl_le.1 (Nat.le_refl _)
  have h2:(2:Nat)^bl a≤2^(n*k):=Nat.pow_le_pow_right (by decide) h
  exact bl_le.2 (xZ hn (Nat.lt_of_lt_of_le h1 h2))
theorem BF {q:Rat} {n p:Nat} (hs:sz q≤2048) (hn:2≤n):bl (rtw q n p)≤n*(1024+p):=by
  have h1:=aZ (q.num.natAbs*2^(p*n)) q.den
  have h2:=cu q.num.natAbs (p*n)
  have h3:=bG q
  have h4:2*1024≤n*1024:=Nat.mul_le_mul_right _ hn
  have h5:n*(1024+p)=n*1024+p*n:=by rw[Nat.mul_add,Nat.mul_comm n p]
  unfold rtw
  omega
theorem rtm_bl {up:Bool} {q:Rat} {n p:Nat} (hs:sz q≤2048) (hn:2≤n):bl (rtm up q n p)≤1025+p:=by
  have h1:=Bg (n:=n) (by omega) (BF (p:=p) hs hn)
  unfold rtm
  split
  · have h2:=cY (irt n (rtw q n p)) 1
    rw[fI] at h2
    omega
  · omega
theorem iY {up:Bool} {q:Rat} {n p:Nat} (hs:sz q≤2048) (hn:2≤n) (hp:p≤256):sz (rootg up q n p)≤2048:=by
  have h1:=dg (decide (q.num < 0)) (rtm up q n p) (d:=2^p) (Nat.ne_of_gt (Nat.pow_pos (by decide)))
  have h2:=rtm_bl (up:=up) (p:=p) hs hn
  have h3:=bC p
  unfold rootg
  omega
theorem qk (m d:Nat):sgn true m d= -(sgn false m d):=by
  show mkRat (-(m:Int)) d= -(mkRat (m:Int) d)
  rw[Rat.neg_mkRat]
theorem pk {q:Rat} (h:0≤q):decide (q.num < 0)=false:=by
  rw[decide_eq_false_iff_not,num_neg]
  grind
theorem AJ {q:Rat} (h:q < 0):decide (q.num < 0)=true:=by
  rw[decide_eq_true_iff,num_neg]
  exact h
theorem HR (q:Rat) (n p:Nat):rtw (-q) n p=rtw q n p:=by
  unfold rtw
  rw[Rat.neg_num,Int.natAbs_neg,Rat.neg_den]
theorem rtx_neg (q:Rat) (n p:Nat):rtx (-q) n p=rtx q n p:=by
  unfold rtx
  rw[HR,Rat.neg_num,Int.natAbs_neg,Rat.neg_den]
theorem gM {q:Rat} (h:q < 0) (up:Bool) (n p:Nat):rootg up q n p= -(rootg (!up) (-q) n p):=by
  unfold rootg rtm
  rw[AJ h,pk (show 0≤ -q by grind),HR,rtx_neg,qk]
  cases up<;>rfl
theorem jB {q:Rat} (h:0≤q) (n p:Nat):rootg false q n p=sgn false (irt n (rtw q n p)) (2^p):=by
  unfold rootg rtm
  rw[pk h]
  rfl
theorem ou {q:Rat} (h:0≤q) (n p:Nat):rootg true q n p=sgn false (if rtx q n p=true then irt n (rtw q n p) else irt n (rtw q n p)+1) (2^p):=by
  unfold rootg rtm
  rw[pk h]
  cases rtx q n p<;>rfl
theorem rmul_pow (a b:Rat) (n:Nat):(a*b)^n=a^n*b^n:=by
  induction n with
  |zero=>simp
  |succ n ih=>rw[Rat.pow_succ,Rat.pow_succ,Rat.pow_succ,ih];grind
theorem qj (m:Nat) {d:Nat} (hd:d≠0):sgn false m d*(d:Rat)=(m:Rat):=by
  show mkRat (m:Int) d*(d:Rat)=_
  have h1:(d:Rat)≠0:=by exact_mod_cast hd
  rw[Rat.mkRat_eq_div]
  exact Rat.div_mul_cancel h1
theorem num_den {q:Rat} (h:0≤q):q*(q.den:Rat)=(q.num.natAbs:Rat):=by
  have h1:=DW q
  rw[pk h] at h1
  have h2:=qj q.num.natAbs (d:=q.den) q.den_nz
  rwa[h1] at h2
theorem De (m n p:Nat) (q:Rat):sgn false m (2^p)^n*((2^(p*n):Nat):Rat)*(q.den:Rat)=((m^n*q.den:Nat):Rat):=by
  have h1:=qj m (d:=2^p) (Nat.ne_of_gt (Nat.pow_pos (by decide)))
  have h2:(sgn false m (2^p)*((2^p:Nat):Rat))^n=(m:Rat)^n:=by rw[h1]
  rw[rmul_pow] at h2
  have h3:(((2^p:Nat):Rat))^n=((2^(p*n):Nat):Rat):=by rw[Nat.pow_mul];push_cast;rfl
  rw[h3] at h2
  rw[h2]
  push_cast
  rfl
theorem Dx {q:Rat} (h:0≤q) (n p:Nat):q*((2^(p*n):Nat):Rat)*(q.den:Rat)=((q.num.natAbs*2^(p*n):Nat):Rat):=by
  have h1:=num_den h
  have:q*((2^(p*n):Nat):Rat)*(q.den:Rat)=(q*(q.den:Rat))*((2^(p*n):Nat):Rat):=by grind
  rw[this,h1]
  push_cast
  rfl
theorem zW (q:Rat) (n p:Nat):(0:Rat) < ((2^(p*n):Nat):Rat)∧(0:Rat) < (q.den:Rat):=by
  have h1:0 < 2^(p*n):=Nat.pow_pos (by decide)
  have h2:0 < q.den:=Nat.pos_of_ne_zero q.den_nz
  exact⟨by exact_mod_cast h1,by exact_mod_cast h2⟩
theorem zN {a b c d:Rat} (hc:0 < c) (hd:0 < d):a*c*d≤b*c*d↔a≤b:=by
  constructor
  · intro h
    refine Decidable.byContradiction fun k=>?_
    have h1:b < a:=by grind
    have h2:=Rat.mul_lt_mul_of_pos_right h1 hc
    have h3:=Rat.mul_lt_mul_of_pos_right h2 hd
    grind
  · intro h
    have h2:=mlr h (show 0≤c by grind)
    exact mlr h2 (show 0≤d by grind)
theorem Ba {q:Rat} (h:0≤q) (m n p:Nat):sgn false m (2^p)^n≤q↔m^n*q.den≤q.num.natAbs*2^(p*n):=by
  obtain⟨h1,h2⟩:=zW q n p
  rw[←zN h1 h2,De,Dx h]
  exact_mod_cast Iff.rfl
theorem A9 {q:Rat} (h:0≤q) (m n p:Nat):q≤sgn false m (2^p)^n↔q.num.natAbs*2^(p*n)≤m^n*q.den:=by
  obtain⟨h1,h2⟩:=zW q n p
  rw[←zN h1 h2,De,Dx h]
  exact_mod_cast Iff.rfl
theorem BG (q:Rat) (n p:Nat):rtx q n p=true↔irt n (rtw q n p)^n*q.den=q.num.natAbs*2^(p*n):=by
  have hd:0 < q.den:=Nat.pos_of_ne_zero q.den_nz
  unfold rtx
  rw[Bool.and_eq_true,decide_eq_true_iff,decide_eq_true_iff]
  have hw:rtw q n p=q.num.natAbs*2^(p*n) / q.den:=rfl
  generalize irt n (rtw q n p)^n=r at*
  rw[hw]
  generalize q.num.natAbs*2^(p*n)=N at*
  have:=Nat.div_add_mod N q.den
  constructor
  · rintro⟨h1,h2⟩
    rw[h1,Nat.mul_comm];omega
  · intro h
    rw[←h]
    exact⟨(Nat.mul_div_cancel _ hd).symm,Nat.mul_mod_left ..⟩
theorem yA {q:Rat} (h:0≤q) (n p:Nat):rootg false q n p^n=q↔rtx q n p=true:=by
  rw[jB h,BG]
  have h1:=Ba h (irt n (rtw q n p)) n p
  have h2:=A9 h (irt n (rtw q n p)) n p
  constructor
  · intro k
    have:=h1.1 (by rw[k];exact Rat.le_refl)
    have:=h2.1 (by rw[k];exact Rat.le_refl)
    omega
  · intro k
    exact Rat.le_antisymm (h1.2 (by omega)) (h2.2 (by omega))
theorem wD (m p:Nat):sgn false m 1 / 2^p=sgn false m (2^p):=by
  have e1:sgn false m 1=((m:Int):Rat):=by
    show mkRat (m:Int) 1=_
    rw[Rat.mkRat_eq_div,show((1:Nat):Rat)=1 from rfl,Rat.div_def,tp,Rat.mul_one]
  rw[e1]
  show _=mkRat (m:Int) (2^p)
  rw[ol]
theorem rI {h0 h:PH} [Le h0 h] {v:Value} {x:Rat} {n p:Nat} (hx:Qr h0 v x) (bx:sz x≤2048) (hn:2≤n) (hn8:n≤8) (hp:p≤256) (h0':0≤x):Spec mach 229 #[v,.int .i64 n,.int .i64 p] h (fun v h'=>Qr h' v (rootg false x n p)) NP:=by
  have hx0:=hx
  have kD:=fun {h} [Le h0 h]=>dU (h:=h) hx0
  have en:=pk h0'
  obtain⟨na,nl,nc,da,dl,dc,e,rfl,hn1,hd1,he⟩:=hx.sl
  have b1:=bG x
  have b2:=bB x
  have hpn:n*p≤2048:=Nat.mul_le_mul hn8 hp
  have b3:=cu x.num.natAbs (n*p)
  have bw:=BF (p:=p) bx hn
  have bw':n*(1024+p)≤8*1280:=Nat.mul_le_mul hn8 (by omega)
  have bi:=Bg (n:=n) (by omega) bw
  have b0:=fI
  have hw0:x.num.natAbs*2^(n*p) / x.den=rtw x n p:=by rw[Nat.mul_comm n p];rfl
  have hdn:=x.den_nz
  have e1:rootg false x n p=sgn false (irt n (rtw x n p)) (2^p):=jB h0' n p
  have b4:bl (x.num.natAbs*2^(n*p))≤8192:=by omega
  generalize hk:n*p=k at*
  have kS:=fun {h1 h:PH} [Le h1 h] {v:Value} (y:N16 h1 v x.num.natAbs)=>gf (h:=h) (n:=k) y (by omega)
  have kD':=fun {h1 h:PH} [Le h1 h] {v w:Value} (y:N16 h1 v (x.num.natAbs*2^k)) (l:N16 h1 w x.den)=>dJ (h:=h) y l hdn (by omega) (by omega)
  rw[hw0] at kD'
  have hsz:sz (sgn false (irt n (rtw x n p)) 1)≤2^34:=Nat.le_trans (dg false _ (d:=1) (by decide)) (by omega)
  have hbw:bl (rtw x n p)≤2^20:=by omega
  have hi1:bl (irt n (rtw x n p))≤2^38:=by omega
  have hk2:k≤2048:=hpn
  clear b1 b2 b3 b4 bw bw' bi hpn hw0
  rw[en] at*
  refine Spec.go [(3,.o [0,1,2,3,4,6,5,7,8,9,10,11,12,13])] Tryz.func229 rfl rfl (by kernel_rfl) fun C _=>?_
  try simp(maxSteps:=999999) (disch:=omega) only[go_sem,Nat.reduceBEq,reduceAdd]
  rw[hk]
  refine caN (by exact kS hn1) ?_;rintro _ h1 _ q1;obtain⟨v1,_,_,rfl,q1⟩:=q1.sl
  try simp(maxSteps:=999999) (disch:=omega) only[go_sem,Nat.reduceBEq,reduceAdd]
  refine caN (by exact kD) ?_;rintro _ h2 _ q2;obtain⟨v2,_,_,rfl,q2⟩:=q2.sl
  try simp(maxSteps:=999999) (disch:=omega) only[go_sem,Nat.reduceBEq,reduceAdd]
  refine caN (by exact kD' (q1.to (h':=h2)) q2) ?_;rintro w3 g3 s3 ⟨q,r,rfl,hq,hr⟩
  try simp(maxSteps:=999999) (disch:=omega) only[go_sem,Nat.reduceBEq,reduceAdd]
  refine caN (by exact Aj (n:=n) hq hn hn8 hbw) ?_;rintro _ h4 _ q4;obtain⟨v4,_,_,rfl,q4⟩:=q4.sl
  try simp(maxSteps:=999999) (disch:=omega) only[go_sem,Nat.reduceBEq,reduceAdd]
  refine caN (by exact bQ (n:=1) (by decide)) ?_;rintro _ h5 _ q5;obtain⟨v5,_,_,rfl,q5⟩:=q5.sl
  try simp(maxSteps:=999999) (disch:=omega) only[go_sem,Nat.reduceBEq,reduceAdd]
  refine caN (by exact fQ (neg:=false) (q4.to (h':=h5)) q5 hi1 (by omega)) ?_;rintro _ h6 _ q6;obtain⟨_,_,_,_,_,_,_,rfl,q6⟩:=q6.sa
  try simp(maxSteps:=999999) (disch:=omega) only[go_sem,Nat.reduceBEq,reduceAdd]
  refine caN (by exact gI (p:=p) q6 (by omega) hsz (by omega)) ?_;rintro _ h7 _ q7;obtain⟨_,_,_,_,_,_,_,rfl,q7⟩:=q7.sa
  try simp(maxSteps:=999999) (disch:=omega) only[go_sem,Nat.reduceBEq,reduceAdd]
  rw[wD] at q7
  rw[e1]
  exact q7
theorem FP {q:Rat} (h:0≤q) (n p:Nat):rootg true q n p=if rtx q n p=true then rootg false q n p else rootg false q n p+((1:Int):Rat) / 2^p:=by
  rw[ou h,jB h]
  cases rtx q n p with
  |true=>rfl
  | false=>
    show mkRat ((irt n (rtw q n p)+1:Nat):Int) (2^p)=mkRat ((irt n (rtw q n p):Nat):Int) (2^p)+_
    rw[ol,ol]
    generalize irt n (rtw q n p)=r
    have e2:(((r+1:Nat):Int):Rat)=((r:Int):Rat)+((1:Int):Rat):=by push_cast;rfl
    rw[e2,Rat.div_def,Rat.div_def,Rat.div_def,Rat.add_mul]
theorem cmp_zero {x y:Rat}:cmpQ x y=0↔x=y:=by unfold cmpQ;grind
theorem wZ {h0 h:PH} [Le h0 h] {v:Value} {x:Rat} {n p:Nat} (hx:Qr h0 v x) (bx:sz x≤2048) (hn:2≤n) (hn8:n≤8) (hp:p≤256) (h0':0≤x):Spec mach 228 #[v,.int .i64 n,.int .i64 p] h (fun v h'=>Qr h' v (rootg true x n p)) NP:=by
  have hx0:=hx
  have kB:=fun {h} [Le h0 h]=>rI (h:=h) hx0 bx hn hn8 hp h0'
  have en:=pk h0'
  have hst:=FP h0' n p
  have hex:=yA h0' n p
  have br:=iY (up:=false) bx hn hp
  have bp:=FX (rootg false x n p) n
  have bp2:n*sz (rootg false x n p)≤8*2048:=Nat.mul_le_mul hn8 br
  have hz1:sz (rootg false x n p)≤2^20:=by omega
  have hz2:sz (rootg false x n p^n)≤2^34:=by omega
  have hz3:sz x≤2^34:=by omega
  have hz4:sz (((1:Int):Rat) / 2^p)≤2^34:=by
    have:=su ((1:Int):Rat) p
    have:sz ((1:Int):Rat)≤2:=by decide
    omega
  obtain⟨_,_,_,_,_,_,_,rfl,_,_,_⟩:=hx.sl
  generalize rootg false x n p=y at*
  generalize rootg true x n p=z at*
  rw[en] at*
  cases hr:rtx x n p with
  | true=>
    have ey:y^n=x:=hex.2 hr
    have ec:cmpQ (y^n) x=0:=cmp_zero.2 ey
    rw[hr,if_pos rfl] at hst
    clear hex br bp bp2 bx
    refine Spec.go [(4,.o [0,1,3,2,4,5]),(6,.o [0,2,3,1,4,5,6])] Tryz.func228 rfl rfl (by kernel_rfl) fun C _=>?_
    try simp(maxSteps:=999999) (disch:=omega) only[go_sem,Nat.reduceBEq,reduceAdd]
    refine caN (by exact kB) ?_;rintro _ h1 _ q1;obtain⟨_,_,_,_,_,_,_,rfl,q1⟩:=q1.sa
    try simp(maxSteps:=999999) (disch:=omega) only[go_sem,Nat.reduceBEq,reduceAdd]
    refine caN (by exact gZ q1 (by omega) hz1) ?_;rintro _ h2 _ q2;obtain⟨_,_,_,_,_,_,_,rfl,q2⟩:=q2.sa
    try simp(maxSteps:=999999) (disch:=omega) only[go_sem,Nat.reduceBEq,reduceAdd]
    refine caN (by exact av q2 (hx0.to (h':=h2)) hz2 hz3) ?_;rintro v3 h3 s3 rfl
    try simp(maxSteps:=999999) (disch:=omega) only[go_sem,Nat.reduceBEq,reduceAdd]
    rw[hst]
    exact q1.to
  | false=>
    have ec:¬cmpQ (y^n) x=0:=fun k=>by
      have:=hex.1 (cmp_zero.1 k)
      rw[hr] at this;cases this
    rw[hr,if_neg (by intro k;cases k)] at hst
    clear hex br bp bp2 bx
    refine Spec.go [(4,.o [0,1,3,2,4,5]),(6,.o [0,2,3,1,4,5,6])] Tryz.func228 rfl rfl (by kernel_rfl) fun C _=>?_
    try simp(maxSteps:=999999) (disch:=omega) only[go_sem,Nat.reduceBEq,reduceAdd]
    refine caN (by exact kB) ?_;rintro _ h1 _ q1;obtain⟨_,_,_,_,_,_,_,rfl,q1⟩:=q1.sa
    try simp(maxSteps:=999999) (disch:=omega) only[go_sem,Nat.reduceBEq,reduceAdd]
    refine caN (by exact gZ q1 (by omega) hz1) ?_;rintro _ h2 _ q2;obtain⟨_,_,_,_,_,_,_,rfl,q2⟩:=q2.sa
    try simp(maxSteps:=999999) (disch:=omega) only[go_sem,Nat.reduceBEq,reduceAdd]
    refine caN (by exact av q2 (hx0.to (h':=h2)) hz2 hz3) ?_;rintro v3 h3 s3 rfl
    try simp(maxSteps:=999999) (disch:=omega) only[go_sem,Nat.reduceBEq,reduceAdd]
    refine caN (by exact aF (n:=1) (by decide) (by decide)) ?_;rintro _ h4 _ q4;obtain⟨_,_,_,_,_,_,_,rfl,q4⟩:=q4.sa
    try simp(maxSteps:=999999) (disch:=omega) only[go_sem,Nat.reduceBEq,reduceAdd]
    refine caN (by exact gI (p:=p) q4 (by omega) (by decide) (by omega)) ?_;rintro _ h5 _ q5;obtain⟨_,_,_,_,_,_,_,rfl,q5⟩:=q5.sa
    try simp(maxSteps:=999999) (disch:=omega) only[go_sem,Nat.reduceBEq,reduceAdd]
    refine caN (by exact aW (q1.to (h':=h5)) q5 (by omega) (by omega)) ?_;rintro _ h6 _ q6;obtain⟨_,_,_,_,_,_,_,rfl,q6⟩:=q6.sa
    try simp(maxSteps:=999999) (disch:=omega) only[go_sem,Nat.reduceBEq,reduceAdd]
    rw[hst]
    exact q6
theorem nt {h0 h:PH} [Le h0 h] {v:Value} {x:Rat} {n p:Nat} (hx:Qr h0 v x) (bx:sz x≤2048) (hn:2≤n) (hn8:n≤8) (hp:p≤256):Spec mach 229 #[v,.int .i64 n,.int .i64 p] h (fun v h'=>Qr h' v (rootg false x n p)) NP:=by
  by_cases h0':0≤x
  · exact rI hx bx hn hn8 hp h0'
  · have hx0:=hx
    have en:=AJ (show x < 0 by grind)
    have hneg:rootg false x n p= -(rootg true (-x) n p):=gM (show x < 0 by grind) false n p
    have bx':sz (-x)≤2048:=by rw[cz];exact bx
    obtain⟨_,_,_,_,_,_,_,rfl,_,_,_⟩:=hx.sl
    rw[en] at*
    rw[hneg]
    refine Spec.go [(3,.o [0,1,2,3,4,6,5,7,8,9,10,11,12,13])] Tryz.func229 rfl rfl (by kernel_rfl) fun C _=>?_
    try simp(maxSteps:=999999) (disch:=omega) only[go_sem,Nat.reduceBEq,reduceAdd]
    refine caN (by exact bK hx0) ?_;rintro _ h1 _ q1;obtain⟨_,_,_,_,_,_,_,rfl,q1⟩:=q1.sa
    try simp(maxSteps:=999999) (disch:=omega) only[go_sem,Nat.reduceBEq,reduceAdd]
    refine caN (by exact wZ q1 bx' hn hn8 hp (by grind)) ?_;rintro _ h2 _ q2;obtain⟨_,_,_,_,_,_,_,rfl,q2⟩:=q2.sa
    try simp(maxSteps:=999999) (disch:=omega) only[go_sem,Nat.reduceBEq,reduceAdd]
    refine caN (by exact bK q2) ?_;rintro _ h3 _ q3;obtain⟨_,_,_,_,_,_,_,rfl,q3⟩:=q3.sa
    try simp(maxSteps:=999999) (disch:=omega) only[go_sem,Nat.reduceBEq,reduceAdd]
    exact q3
theorem pM {h0 h:PH} [Le h0 h] {v:Value} {x:Rat} {n p:Nat} (hx:Qr h0 v x) (bx:sz x≤2048) (hn:2≤n) (hn8:n≤8) (hp:p≤256):Spec mach 228 #[v,.int .i64 n,.int .i64 p] h (fun v h'=>Qr h' v (rootg true x n p)) NP:=by
  by_cases h0':0≤x
  · exact wZ hx bx hn hn8 hp h0'
  · have hx0:=hx
    have en:=AJ (show x < 0 by grind)
    have hneg:rootg true x n p= -(rootg false (-x) n p):=gM (show x < 0 by grind) true n p
    have bx':sz (-x)≤2048:=by rw[cz];exact bx
    obtain⟨_,_,_,_,_,_,_,rfl,_,_,_⟩:=hx.sl
    rw[en] at*
    rw[hneg]
    refine Spec.go [(4,.o [0,1,3,2,4,5]),(6,.o [0,2,3,1,4,5,6])] Tryz.func228 rfl rfl (by kernel_rfl) fun C _=>?_
    try simp(maxSteps:=999999) (disch:=omega) only[go_sem,Nat.reduceBEq,reduceAdd]
    refine caN (by exact bK hx0) ?_;rintro _ h1 _ q1;obtain⟨_,_,_,_,_,_,_,rfl,q1⟩:=q1.sa
    try simp(maxSteps:=999999) (disch:=omega) only[go_sem,Nat.reduceBEq,reduceAdd]
    refine caN (by exact rI q1 bx' hn hn8 hp (by grind)) ?_;rintro _ h2 _ q2;obtain⟨_,_,_,_,_,_,_,rfl,q2⟩:=q2.sa
    try simp(maxSteps:=999999) (disch:=omega) only[go_sem,Nat.reduceBEq,reduceAdd]
    refine caN (by exact bK q2) ?_;rintro _ h3 _ q3;obtain⟨_,_,_,_,_,_,_,rfl,q3⟩:=q3.sa
    try simp(maxSteps:=999999) (disch:=omega) only[go_sem,Nat.reduceBEq,reduceAdd]
    exact q3
open Go.Proofs Go.Proofs.YtdagofmikpgjjaaGreatDoor
open Go.ChangeShapes Go.WideShapes Go.ChangeAt Go.RowKit
def pub (W:World):PH:=fun b=>match W.heap[b]? with
  |some (.cells cs _ _)=>some cs
  |_=>none
theorem pub_has (W:World):Has W (pub W):=fun b cs hb=>by
  unfold pub at hb
  split at hb
  · rename_i hx;cases hb;exact⟨_,_,hx⟩
  · cases hb
theorem pub_at (W:World) (a:Addr):(pub W).at a=W.cell? a:=by
  unfold PH.at pub World.cell?
  cases hx:W.heap[a.block]? with
  |none=>simp
  |some o=>cases o<;>simp
def flds (P:Program) (t:TypeId):Option (List (Nat×Nat)):=match P.underlying t with
  |some (.struct fs)=>some (fs.toList.map fun f=>(f.type,f.offset))
  |_=>none
theorem flds_some {P:Program} {t:TypeId} {l:List (Nat×Nat)} (h:flds P t=some l):∃fs,P.underlying t=some (.struct fs)∧fs.toList.map (fun f=>(f.type,f.offset))=l:=by
  unfold flds at h
  split at h
  · rename_i fs hx;cases h;exact⟨fs,hx,rfl⟩
  · cases h
theorem fl24:flds Tryz.prog 24=some [(4,0),(22,1),(22,2)]:=by kernel_rfl
theorem un22:Tryz.prog.underlying 22=some (.slice 61):=by kernel_rfl
theorem un76:Tryz.prog.underlying 61=some (.int .u32):=by kernel_rfl
theorem un4:Tryz.prog.underlying 4=some .bool:=by kernel_rfl
theorem un3:Tryz.prog.underlying 3=some (.int .i64):=by kernel_rfl
theorem ce4:Tryz.prog.cellsOf 4=1:=by kernel_rfl
theorem ce22:Tryz.prog.cellsOf 22=1:=by kernel_rfl
theorem ce76:Tryz.prog.cellsOf 61=1:=by kernel_rfl
theorem ce24:Tryz.prog.cellsOf 24=3:=by kernel_rfl
section
variable {H:Type} {enc:TypeId×Value→H} {W:World} {sp:Nat→Bool} {held:Bool}
theorem bulk_len (l:List (DataW H)):l.length≤Rows.uptoBulkAll l:=by
  induction l with
  |nil=>simp[Rows.uptoBulkAll]
  | cons x r ih=>
    have:1≤Rows.uptoBulk x:=by
      cases x with
      |lit l=>cases l<;>simp[Rows.uptoBulk]
      |_=>simp[Rows.uptoBulk]
    simp only[Rows.uptoBulkAll,List.length_cons]
    omega
theorem open_words {fuel:Nat} {cs:List Value} {x:DataW H×List MemPlace} (h:DataW.trod enc Tryz.prog W 0 sp held fuel 22 cs=some x) {B:Nat} (hB:B≤1048576) (hk:Rows.uptoBulk x.1≤B):
    ∃a xs c,cs=[.slice a xs.length c]∧Arr (pub W) a c xs∧xs.length≤2^30:=by
  rcases open_ints un22 un76 ce76 h with⟨rfl,rfl⟩ |⟨a,len,cap,zs,rfl,_,hl,hm,hz,rfl,hcell,hwf⟩
  · exact⟨none,[],0,rfl,Arr.nil _,by simp⟩
  · have hzl:len≤zs.length:=by rw[hz];split<;>omega
    have hb:len≤1048576:=by
      simp only[Rows.uptoBulk] at hk
      have e:(lits (H:=H) .u32 (zs.take len)).length=len:=by simp[lits];omega
      have:=bulk_len (H:=H) (lits .u32 (zs.take len))
      rw[e] at this
      omega
    refine⟨some a,(zs.take len).map Int.toNat,cap,?_,⟨?_,?_,?_,?_⟩,?_⟩
    · simp;omega
    · simp;omega
    · simp;omega
    · intro y hy
      obtain⟨z,hz,rfl⟩:=List.mem_map.1 hy
      have:=bounds_u32 (hwf z (List.mem_of_mem_take hz))
      omega
    · intro i y hy
      rw[List.getElem?_map,Option.map_eq_some_iff] at hy
      obtain⟨z,hz',rfl⟩:=hy
      rw[List.getElem?_take] at hz'
      split at hz'
      · refine⟨a,rfl,?_⟩
        have hi:i < zs.length:=(List.getElem?_eq_some_iff.1 hz').1
        rw[pub_at,hcell i hi]
        have e:zs.getD i 0=z:=by simp[hz']
        have:=bounds_u32 (hwf z (List.mem_of_getElem? hz'))
        rw[e]
        congr 2
        omega
      · cases hz'
    · simp;omega
theorem open_rat {fuel:Nat} {cs:List Value} {x:DataW H×List MemPlace} (h:DataW.trod enc Tryz.prog W 0 sp held fuel 24 cs=some x) {B:Nat} (hB:B≤1048576) (hk:Rows.uptoBulk x.1≤B):
    ∃neg n d,Rw (pub W) (.agg cs.toArray) neg n d∧cs.length=3:=by
  obtain⟨fs,hu,hf⟩:=flds_some fl24
  obtain⟨xs,n,rfl,rfl,hl,hsz,hg⟩:=DataW.trod_struct hu h
  rw[ce24] at hl
  have hfs:fs.size=3:=by
    have:=congrArg List.length hf
    simpa using this
  match cs,hl with
  |[c0,c1,c2],_=>
  have get:∀(i t o:Nat),(fs.toList.map fun f=>(f.type,f.offset))[i]?=some (t,o)→∃f:Field,fs[i]?=some f∧f.type=t∧f.offset=o:=by
    intro i t o hi
    rw[List.getElem?_map,Option.map_eq_some_iff] at hi
    obtain⟨f,h1,h2⟩:=hi
    cases h2
    exact⟨f,by simpa using h1,rfl,rfl⟩
  obtain⟨f0,k0,e0,o0⟩:=get 0 4 0 (by rw[hf];rfl)
  obtain⟨f1,k1,e1,o1⟩:=get 1 22 1 (by rw[hf];rfl)
  obtain⟨f2,k2,e2,o2⟩:=get 2 22 2 (by rw[hf];rfl)
  have g0:=hg 0 f0 k0
  have g1:=hg 1 f1 k1
  have g2:=hg 2 f2 k2
  rw[e0,o0,ce4] at g0
  rw[e1,o1,ce22] at g1
  rw[e2,o2,ce22] at g2
  rw[hfs] at hsz
  match xs,hsz with
  |[y0,y1,y2],_=>
  simp only[List.drop_zero,List.take_succ_cons,List.take_zero,List.drop_succ_cons,List.getElem?_cons_zero,List.getElem?_cons_succ] at g0 g1 g2
  simp only[Rows.uptoBulk,List.map_cons,List.map_nil,Rows.uptoBulkAll] at hk
  obtain⟨b,e,_⟩:=DataW.trod_bool un4 g0
  obtain⟨a1,xs1,c1',e1,A1,l1⟩:=open_words g1 hB (by omega)
  obtain⟨a2,xs2,c2',e2,A2,l2⟩:=open_words g2 hB (by omega)
  cases e
  cases e1
  cases e2
  exact⟨b,_,_,⟨a1,c1',xs1,a2,c2',xs2,rfl,A1,A2,rfl,rfl,l1,l2⟩,rfl⟩
theorem stays {P:Program} {W':World} {sp:Nat→Bool} (hl:laidOutB P=true) (hb:Below W.heap.size W W') (ts:List TypeId):∀(vs:List Value) (ds:List (DataW H)) (p:List MemPlace),(∀t∈ts,P.readableRec t=true∧t < P.types.size)→(∀x∈p,x.block < W.heap.size)→(∀x∈p,sp x.block=true)→
    DataW.TrodAll enc P W 0 (fun _=>true) true ts vs ds p→DataW.TrodAll enc P W' 0 sp true ts vs ds p:=by
  induction ts with
  | nil=>
    intro vs ds p _ _ _ h
    cases vs with
    | nil=>cases ds with
      |nil=>exact h
      |cons d ds=>exact h.elim
    |cons v vs=>exact h.elim
  | cons t ts ih=>
    intro vs ds p hr hlt hsp h
    cases vs with
    |nil=>exact h.elim
    | cons v vs=>
      cases ds with
      |nil=>exact h.elim
      | cons d ds=>
        obtain⟨p,q,h1,h2,rfl⟩:=h
        have ht:=hr t (by simp)
        exact⟨p,q,WideElems.Trod_stays hl ht.1 ht.2 h1 (fun x hx=>hb.same (hlt x (by simp[hx]))) (fun x hx=>hsp x (by simp[hx])),ih vs ds q (fun u hu=>hr u (by simp[hu])) (fun x hx=>hlt x (by simp[hx])) (fun x hx=>hsp x (by simp[hx])) h2,rfl⟩
theorem post_true {f:Func} {s:ChangeSpec} {W':World} {args:Array Value} {ds:List (DataW H)} {before:List MemPlace} (hl:laidOutB Tryz.prog=true) (hv:s.vars=[]) (hr:f.resultTypes=#[4]) (hs:s.fn H ds={results:=[.lit (.bool true)],args:=ds})
    (hrd:∀t∈f.params.toList,Tryz.prog.readableRec t=true∧t < Tryz.prog.types.size)
    (hW:DataW.Whole enc Tryz.prog f.params.toList s.vars false W args.toList ds [] before) (hb:Below W.heap.size W W'):s.post enc Tryz.prog f false true false false W args (.bool true) W':=by
  have hlt:∀p∈before,p.block < W.heap.size:=hW.lt
  have hW0:=hW
  rw[hv] at hW0
  obtain⟨p,q,hA,hV,rfl,hz,hn⟩:=hW0
  obtain rfl:q=[]:=hV
  rw[List.append_nil] at hlt hz
  have hold:∀x∈p,(fun b=>decide (b < W.heap.size)) x.block=true:=fun x hx=>by simpa using hlt x hx
  have hres:∀(b:Nat) (sp:Nat→Bool) (hd:Bool),DataW.TrodAll enc Tryz.prog W' b sp hd f.resultTypes.toList ((Value.bool true).resultList f.resultTypes.size) (s.fn H (ds ++[])).results []:=by
    intro b sp hd
    rw[List.append_nil,hs,hr]
    exact trodAll_cons_mk (shut_bool un4 _) trodAll_mk0
  have hargs:∀sp:Nat→Bool,(∀x∈p,sp x.block=true)→DataW.TrodAll enc Tryz.prog W' 0 sp true f.params.toList args.toList (s.fn H (ds ++[])).args p:=by
    intro sp hsp
    rw[List.append_nil,hs]
    exact stays hl hb _ _ _ _ hrd hlt hsp hA
  have hvars:∀sp:Nat→Bool,DataW.TrodVars enc Tryz.prog W' sp s.vars (s.fn H (ds ++[])).vars []:=by
    intro sp
    rw[List.append_nil,hs,hv]
    rfl
  refine⟨ds,[],p ++[],[],p,[],hW,hres _ _ _,hargs _ hold,hvars _,World.keptBut_mono (fun x hx=>⟨hx,?_⟩) (hb.frame (· ∈p ++[])),fun h=>by cases h⟩
  simpa using hx
theorem laid_gl {W:World} (h:laidMetH Tryz.prog [("math/bits.deBruijn32tab",Rows.laid_math_bits_deBruijn32tab)] W):Sub mach.gl (pub W):=by
  have ht:Lib.TabIs Tryz.prog W "math/bits.deBruijn32tab" .u8 debruijn:=
    Lib.tabIs_of_head (rest:=[]) (g:=0) (t:=250) (e:=5) (n:=32) (by kernel_rfl) (by kernel_rfl) (by kernel_rfl) (by kernel_rfl) (by kernel_rfl) (by kernel_rfl) h
  have hg:Tryz.prog.globalNamed "math/bits.deBruijn32tab"=some 0:=by kernel_rfl
  unfold Lib.TabIs World.var? at ht
  rw[hg] at ht
  intro b cs hb
  have hb':(if b=0 then some tabCells else none)=some cs:=hb
  split at hb'
  · rename_i e
    subst e
    cases hb'
    unfold pub
    simp only[Option.bind_some] at ht
    split at ht
    · rename_i hx
      rw[hx]
      simpa[tabCells] using ht
    · cases ht
  · cases hb'
end
end Go.Q
