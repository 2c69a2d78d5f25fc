/-
  Contracts of the reference's rational numbers, and what stands on it. Conditions: each theorem's own.
-/
import Derived.Test.YtdagofmikpgjjaaGreatDoorK98c21dPkF
import Derived.Test.YtdagofmikpgjjaaGreatDoorK55d58ePkJ
import Derived.Test.YtdagofmikpgjjaaGreatDoorK78b478PkI
set_option linter.unusedVariables false
set_option linter.unusedSimpArgs false
open Nat (reduceAdd)
namespace Go.Q
open Go.Proofs
set_option maxRecDepth 100000
set_option maxHeartbeats 4000000
def Qr (h:PH) (v:Value) (x:Rat):Prop:=∃sn sd e,v=.agg #[.bool (decide (x.num < 0)),sn,sd]∧N16 h sn x.num.natAbs∧N16 h sd e∧dz e=x.den
theorem Qr.to {h h':PH} {v:Value} {x:Rat} (r:Qr h v x) [Le h h']:Qr h' v x:=let ⟨a,b,e,h1,h2,h3,h4⟩:=r;⟨a,b,e,h1,h2.to,h3.to,h4⟩
theorem Qr.sl {h:PH} {v:Value} {x:Rat} (r:Qr h v x):∃na nl nc da dl dc e,v=.agg #[.bool (decide (x.num < 0)),.slice na nl nc,.slice da dl dc]∧N16 h (.slice na nl nc) x.num.natAbs∧N16 h (.slice da dl dc) e∧dz e=x.den:=by
  obtain⟨sn,sd,e,rfl,h2,h3,h4⟩:=r
  obtain⟨na,nl,nc,rfl,h2⟩:=h2.sl
  obtain⟨da,dl,dc,rfl,h3⟩:=h3.sl
  exact⟨_,_,_,_,_,_,e,rfl,h2,h3,h4⟩
theorem Qr.sa {h:PH} {v:Value} {x:Rat} (r:Qr h v x):∃b na nl nc da dl dc,v=.agg #[.bool b,.slice na nl nc,.slice da dl dc]∧Qr h (.agg #[.bool b,.slice na nl nc,.slice da dl dc]) x:=by
  obtain⟨_,_,_,_,_,_,_,rfl,_⟩:=r.sl
  exact⟨_,_,_,_,_,_,_,rfl,r⟩
theorem my {d:Nat} (h:d≠0):dz d=d:=by unfold dz;rw[if_neg h]
theorem Qr.of {h:PH} {neg:Bool} {n d:Nat} {sn sd:Value} {x:Rat} (hn:N16 h sn n) (hd:N16 h sd d) (h0:n≠0) (hd0:d≠0) (hc:Nat.gcd n d=1) (hx:x=sgn neg n d):Qr h (.agg #[.bool neg,sn,sd]) x:=by
  obtain⟨h1,h2⟩:=rf (neg:=neg) hd0 hc
  rw[←hx] at h1 h2
  refine⟨sn,sd,d,?_,?_,hd,by rw[h2,my hd0]⟩
  · have:decide (x.num < 0)=neg:=by rw[h1];cases neg<;>simp<;>omega
    rw[this]
  · have:x.num.natAbs=n:=by rw[h1];cases neg<;>simp
    rw[this];exact hn
theorem Qr.zero {h:PH} {sd:Value} {e:Nat} (hd:N16 h sd e) (he:dz e=1):Qr h (.agg #[.bool false,.slice none 0 0,sd]) 0:=⟨.slice none 0 0,sd,e,by simp,by simpa using N16.zero h,hd,by simpa using he⟩
theorem Qr.none (h:PH):Qr h (.agg #[.bool false,.slice none 0 0,.slice none 0 0]) 0:=Qr.zero (N16.zero h) (by simp[dz])
theorem N16.len0 {h:PH} {a:Option Addr} {l c n:Nat} (r:N16 h (.slice a l c) n):l=0↔n=0:=by
  obtain⟨a',c',h1,_⟩:=r
  cases h1
  exact nP B16
theorem sgn_den0 (neg:Bool) (n:Nat):sgn neg n 0=0:=by simp[sgn]
theorem Ai {h0 h:PH} [Le h0 h] {neg:Bool} {v w:Value} {n:Nat} (hv:N16 h0 v n) (hw:N16 h0 w 1) (bn:bl n≤2^38):
    Spec mach 75 #[.bool neg,v,w] h (fun v h'=>Qr h' v (sgn neg n 1)) NP:=by
  obtain⟨va,vc,xs,rfl,hva,hxs,hxm,hx16⟩:=hv.out
  obtain⟨wa,wc,ys,rfl,hwa,hys,hym,hy16⟩:=hw.out
  have lv:=hv.len0
  have sx:xs.length≤2^38:=by have:=cr n;rw[hxs] at this;omega
  have hl:ys.length=1:=by rw[←hys,W_one B16];rfl
  obtain⟨ad,rfl,hat⟩:=hwa.rd0 h (by omega)
  have e1:ys.getD 0 0=1:=by rw[←hys,W_one B16];rfl
  rw[e1,nc1] at hat
  refine Spec.enter (args:=[_,_,_]) (n:=56) Tryz.func75 rfl (by kernel_rfl) rfl (by simp) [.cell 6 28] rfl (fun C _=>?_)
  by_cases hn:n=0
  · rw[hn,ov]
    repeat (first |(refine wo rfl (fun k hk=>?_);simp(disch:=omega) only[go_sem,Nat.reduceBEq,reduceAdd];apply hk;clear hk k) |refine wkt rfl ?_ |refine wk0 ?_ |refine rg rfl rfl (fun K hK=>?_) |((first |refine ae ?_ |refine ac ?_);simp(disch:=decide) only[qs,qb,if_true,if_false,reduceIte]) |refine ah rfl (fun K hK=>?_) |refine ct rfl ?_ |((try simp(disch:=omega) only[go_sem,Nat.reduceBEq,reduceAdd]);(first |apply hK |(clear hK;apply hK) |(clear hK;clear hK;apply hK));clear hK;(try clear K);(try dsimp only[ag,qs,qb])))
    refine cN rfl rfl rfl rfl (by exact bQ (n:=1) (by decide)) ?_;rintro v1 h1 s1 hv1;obtain⟨va1,vl1,vc1,rfl,hv1⟩:=hv1.sl;(repeat (first |(refine wo rfl (fun k hk=>?_);simp(disch:=omega) only[go_sem,Nat.reduceBEq,reduceAdd];apply hk;clear hk k) |refine wkt rfl ?_));(try refine wk0 ?_)
    (try (simp(disch:=omega) only[go_sem,Nat.reduceBEq,reduceAdd]));apply hK;clear hK;(try clear K);(try dsimp only[ag,qs])
    refine ai ?_;simp(disch:=omega) only[go_sem,Nat.reduceBEq,reduceAdd]
    exact Qr.zero hv1 (by decide)
  · repeat (first |(refine rg rfl rfl (fun K hK=>?_);(repeat (first |(refine wo rfl (fun k hk=>?_);simp(disch:=omega) only[go_sem,Nat.reduceBEq,reduceAdd,hat];apply hk;clear hk k) |refine wkt rfl ?_));(try refine wk0 ?_);apply hK;clear hK K;(try dsimp only[ag,qs,qb])) |((first |refine ae ?_ |refine ac ?_);simp(disch:=decide) only[qs,qb,if_true,if_false,reduceIte]) |refine ah rfl (fun K hK=>?_) |refine ct rfl ?_ |((first |refine hK _ _ ?_ |(clear hK;refine hK _ _ ?_) |(clear hK;clear hK;refine hK _ _ ?_));clear hK;(try clear K)))
    refine fk [.o 0,.o 1,.o 2,.o 3,.p 2,.o 4,.o 5,.o 6] rfl rfl (fun K hK=>?_);(repeat (first |(refine wo rfl (fun k hk=>?_);simp(disch:=omega) only[go_sem,Nat.reduceBEq,reduceAdd];apply hk;clear hk k) |refine wkt rfl ?_));(try refine wk0 ?_)
    refine wo rfl (fun k hk=>?_);simp(disch:=omega) only[go_sem,Nat.reduceBEq,reduceAdd]
    refine⟨uw xs,by simp[uw],fun hne=>?_,uV xs,fun junk=>?_⟩
    · obtain⟨ad',h3,h4⟩:=hva.cells h hne
      exact⟨ad',h3,h4⟩
    apply hk;clear hk k
    refine wkp ?_;simp(disch:=omega) only[go_sem,Nat.reduceBEq,reduceAdd];intro b h2 hs2 hb;(repeat (first |(refine wo rfl (fun k hk=>?_);simp(disch:=omega) only[go_sem,Nat.reduceBEq,reduceAdd];apply hk;clear hk k) |refine wkt rfl ?_));(try refine wk0 ?_)
    have hA:N16 h2 (.slice (some ⟨b,0,none⟩) xs.length (xs.length+junk.length)) n:=N16.of_pub hb hxs (by omega) rfl (by omega)
    refine cN rfl rfl rfl rfl (by exact bQ (n:=1) (by decide)) ?_;rintro v1 h1 s1 hv1;obtain⟨va1,vl1,vc1,rfl,hv1⟩:=hv1.sl;(repeat (first |(refine wo rfl (fun k hk=>?_);simp(disch:=omega) only[go_sem,Nat.reduceBEq,reduceAdd];apply hk;clear hk k) |refine wkt rfl ?_));(try refine wk0 ?_)
    (try (simp(disch:=omega) only[go_sem,Nat.reduceBEq,reduceAdd]));apply hK;clear hK;(try clear K);(try dsimp only[ag,qs])
    refine ai ?_;simp(disch:=omega) only[go_sem,Nat.reduceBEq,reduceAdd]
    exact Qr.of hA.to hv1 hn (by decide) (by simp) rfl
theorem fQ {h0 h:PH} [Le h0 h] {neg:Bool} {v w:Value} {n d:Nat} (hv:N16 h0 v n) (hw:N16 h0 w d) (bn:bl n≤2^38) (bd:bl d≤2^38):
    Spec mach 75 #[.bool neg,v,w] h (fun v h'=>Qr h' v (sgn neg n d)) NP:=by
  by_cases hd1:d=1
  · subst hd1;exact Ai hv hw bn
  obtain⟨va,vc,xs,rfl,hva,hxs,hxm,hx16⟩:=hv.out
  obtain⟨wa,wc,ys,rfl,hwa,hys,hym,hy16⟩:=hw.out
  have lv:=hv.len0
  have lw:=hw.len0
  have sx:xs.length≤2^38:=by have:=cr n;rw[hxs] at this;omega
  have sy:=hwa.small
  refine Spec.enter (args:=[_,_,_]) (n:=56) Tryz.func75 rfl (by kernel_rfl) rfl (by simp) [.cell 6 28] rfl (fun C _=>?_)
  by_cases hz:n=0∨d=0
  · have e0:sgn neg n d=0:=by
      rcases hz with rfl |rfl
      · exact ov _ _
      · exact sgn_den0 _ _
    rw[e0]
    by_cases hn:n=0
    · repeat (first |(refine wo rfl (fun k hk=>?_);simp(disch:=omega) only[go_sem,Nat.reduceBEq,reduceAdd];apply hk;clear hk k) |refine wkt rfl ?_ |refine wk0 ?_ |refine rg rfl rfl (fun K hK=>?_) |((first |refine ae ?_ |refine ac ?_);simp(disch:=decide) only[qs,qb,if_true,if_false,reduceIte]) |refine ah rfl (fun K hK=>?_) |refine ct rfl ?_ |((try simp(disch:=omega) only[go_sem,Nat.reduceBEq,reduceAdd]);(first |apply hK |(clear hK;apply hK) |(clear hK;clear hK;apply hK));clear hK;(try clear K);(try dsimp only[ag,qs,qb])))
      refine cN rfl rfl rfl rfl (by exact bQ (n:=1) (by decide)) ?_;rintro v1 h1 s1 hv1;obtain⟨va1,vl1,vc1,rfl,hv1⟩:=hv1.sl;(repeat (first |(refine wo rfl (fun k hk=>?_);simp(disch:=omega) only[go_sem,Nat.reduceBEq,reduceAdd];apply hk;clear hk k) |refine wkt rfl ?_));(try refine wk0 ?_)
      (try (simp(disch:=omega) only[go_sem,Nat.reduceBEq,reduceAdd]));apply hK;clear hK;(try clear K);(try dsimp only[ag,qs])
      refine ai ?_;simp(disch:=omega) only[go_sem,Nat.reduceBEq,reduceAdd]
      exact Qr.zero hv1 (by decide)
    · have hd:d=0:=hz.resolve_left hn
      repeat (first |(refine wo rfl (fun k hk=>?_);simp(disch:=omega) only[go_sem,Nat.reduceBEq,reduceAdd];apply hk;clear hk k) |refine wkt rfl ?_ |refine wk0 ?_ |refine rg rfl rfl (fun K hK=>?_) |((first |refine ae ?_ |refine ac ?_);simp(disch:=decide) only[qs,qb,if_true,if_false,reduceIte]) |refine ah rfl (fun K hK=>?_) |refine ct rfl ?_ |((try simp(disch:=omega) only[go_sem,Nat.reduceBEq,reduceAdd]);(first |apply hK |(clear hK;apply hK) |(clear hK;clear hK;apply hK));clear hK;(try clear K);(try dsimp only[ag,qs,qb])))
      refine cN rfl rfl rfl rfl (by exact bQ (n:=1) (by decide)) ?_;rintro v1 h1 s1 hv1;obtain⟨va1,vl1,vc1,rfl,hv1⟩:=hv1.sl;(repeat (first |(refine wo rfl (fun k hk=>?_);simp(disch:=omega) only[go_sem,Nat.reduceBEq,reduceAdd];apply hk;clear hk k) |refine wkt rfl ?_));(try refine wk0 ?_)
      (try (simp(disch:=omega) only[go_sem,Nat.reduceBEq,reduceAdd]));apply hK;clear hK;(try clear K);(try dsimp only[ag,qs])
      refine ai ?_;simp(disch:=omega) only[go_sem,Nat.reduceBEq,reduceAdd]
      exact Qr.zero hv1 (by decide)
  have hn:n≠0:=fun e=>hz (.inl e)
  have hd:d≠0:=fun e=>hz (.inr e)
  have hnot:¬(ys.length=1∧ys.getD 0 0=1):=by
    rintro⟨e1,e2⟩
    obtain⟨_,h2⟩:=xr B16 (n:=d) (by rw[hys];exact e1)
    rw[hys,e2] at h2
    exact hd1 h2.symm
  obtain⟨hg1,hg2,hg3,hg4⟩:=HO hn hd
  have hg0:0 < Nat.gcd n d:=Nat.gcd_pos_of_pos_left _ (by omega)
  have b3:bl (Nat.gcd n d)≤2^38:=Nat.le_trans (aR (Nat.gcd_le_left d (by omega))) bn
  have hsg:=BK (neg:=neg) hd hg2 hg3
  by_cases hl:ys.length=1
  · obtain⟨ad,rfl,hat⟩:=hwa.rd0 h (by omega)
    have hne1:¬ys.getD 0 0=1:=fun e=>hnot ⟨hl,e⟩
    repeat (first |(refine wo rfl (fun k hk=>?_);simp(disch:=omega) only[go_sem,Nat.reduceBEq,reduceAdd,hat];apply hk;clear hk k) |refine wkt rfl ?_ |refine wk0 ?_ |refine rg rfl rfl (fun K hK=>?_) |((first |refine ae ?_ |refine ac ?_);simp(disch:=decide) only[qs,qb,if_true,if_false,reduceIte]) |refine ah rfl (fun K hK=>?_) |refine ct rfl ?_ |((try simp(disch:=omega) only[go_sem,Nat.reduceBEq,reduceAdd]);(first |apply hK |(clear hK;apply hK) |(clear hK;clear hK;apply hK));clear hK;(try clear K);(try dsimp only[ag,qs,qb])))
    refine cN rfl rfl rfl rfl (by exact vr hv hw bn bd) ?_;rintro v1 h1 s1 hv1;obtain⟨va1,vl1,vc1,rfl,hv1⟩:=hv1.sl;(repeat (first |(refine wo rfl (fun k hk=>?_);simp(disch:=omega) only[go_sem,Nat.reduceBEq,reduceAdd];apply hk;clear hk k) |refine wkt rfl ?_));(try refine wk0 ?_)
    (try (simp(disch:=omega) only[go_sem,Nat.reduceBEq,reduceAdd]));apply hK;clear hK;(try clear K);(try dsimp only[ag,qs])
    refine rg rfl rfl (fun K hK=>?_);(repeat (first |(refine wo rfl (fun k hk=>?_);simp(disch:=omega) only[go_sem,Nat.reduceBEq,reduceAdd];apply hk;clear hk k) |refine wkt rfl ?_));(try refine wk0 ?_)
    refine cN rfl rfl rfl rfl (by exact dJ (hv.to (h':=h1)) hv1 (by omega) (by omega) (by omega)) ?_;rintro v2 h2 s2 ⟨q1,r1,rfl,hq1,hr1⟩;obtain⟨qa,ql,qc,rfl,hq1⟩:=hq1.sl;(repeat (first |(refine wo rfl (fun k hk=>?_);simp(disch:=omega) only[go_sem,Nat.reduceBEq,reduceAdd];apply hk;clear hk k) |refine wkt rfl ?_));(try refine wk0 ?_)
    (try (simp(disch:=omega) only[go_sem,Nat.reduceBEq,reduceAdd]));apply hK;clear hK;(try clear K);(try dsimp only[ag,qs])
    refine rg rfl rfl (fun K hK=>?_);(repeat (first |(refine wo rfl (fun k hk=>?_);simp(disch:=omega) only[go_sem,Nat.reduceBEq,reduceAdd];apply hk;clear hk k) |refine wkt rfl ?_));(try refine wk0 ?_)
    refine cN rfl rfl rfl rfl (by exact dJ (hw.to (h':=h1)) hv1 (by omega) (by omega) (by omega)) ?_;rintro v3 h3 s3 ⟨q2,r2,rfl,hq2,hr2⟩;obtain⟨qa2,ql2,qc2,rfl,hq2⟩:=hq2.sl
    repeat (first |(refine wo rfl (fun k hk=>?_);simp(disch:=omega) only[go_sem,Nat.reduceBEq,reduceAdd];apply hk;clear hk k) |refine wkt rfl ?_ |refine wk0 ?_ |refine rg rfl rfl (fun K hK=>?_) |((first |refine ae ?_ |refine ac ?_);simp(disch:=decide) only[qs,qb,if_true,if_false,reduceIte]) |refine ah rfl (fun K hK=>?_) |refine ct rfl ?_ |((try simp(disch:=omega) only[go_sem,Nat.reduceBEq,reduceAdd]);(first |apply hK |(clear hK;apply hK) |(clear hK;clear hK;apply hK));clear hK;(try clear K);(try dsimp only[ag,qs,qb])))
    refine ai ?_;simp(disch:=omega) only[go_sem,Nat.reduceBEq,reduceAdd]
    exact Qr.of hq1.to hq2.to hg1 hg2 hg4 hsg
  · repeat (first |(refine wo rfl (fun k hk=>?_);simp(disch:=omega) only[go_sem,Nat.reduceBEq,reduceAdd];apply hk;clear hk k) |refine wkt rfl ?_ |refine wk0 ?_ |refine rg rfl rfl (fun K hK=>?_) |((first |refine ae ?_ |refine ac ?_);simp(disch:=decide) only[qs,qb,if_true,if_false,reduceIte]) |refine ah rfl (fun K hK=>?_) |refine ct rfl ?_ |((try simp(disch:=omega) only[go_sem,Nat.reduceBEq,reduceAdd]);(first |apply hK |(clear hK;apply hK) |(clear hK;clear hK;apply hK));clear hK;(try clear K);(try dsimp only[ag,qs,qb])))
    refine cN rfl rfl rfl rfl (by exact vr hv hw bn bd) ?_;rintro v1 h1 s1 hv1;obtain⟨va1,vl1,vc1,rfl,hv1⟩:=hv1.sl;(repeat (first |(refine wo rfl (fun k hk=>?_);simp(disch:=omega) only[go_sem,Nat.reduceBEq,reduceAdd];apply hk;clear hk k) |refine wkt rfl ?_));(try refine wk0 ?_)
    (try (simp(disch:=omega) only[go_sem,Nat.reduceBEq,reduceAdd]));apply hK;clear hK;(try clear K);(try dsimp only[ag,qs])
    refine rg rfl rfl (fun K hK=>?_);(repeat (first |(refine wo rfl (fun k hk=>?_);simp(disch:=omega) only[go_sem,Nat.reduceBEq,reduceAdd];apply hk;clear hk k) |refine wkt rfl ?_));(try refine wk0 ?_)
    refine cN rfl rfl rfl rfl (by exact dJ (hv.to (h':=h1)) hv1 (by omega) (by omega) (by omega)) ?_;rintro v2 h2 s2 ⟨q1,r1,rfl,hq1,hr1⟩;obtain⟨qa,ql,qc,rfl,hq1⟩:=hq1.sl;(repeat (first |(refine wo rfl (fun k hk=>?_);simp(disch:=omega) only[go_sem,Nat.reduceBEq,reduceAdd];apply hk;clear hk k) |refine wkt rfl ?_));(try refine wk0 ?_)
    (try (simp(disch:=omega) only[go_sem,Nat.reduceBEq,reduceAdd]));apply hK;clear hK;(try clear K);(try dsimp only[ag,qs])
    refine rg rfl rfl (fun K hK=>?_);(repeat (first |(refine wo rfl (fun k hk=>?_);simp(disch:=omega) only[go_sem,Nat.reduceBEq,reduceAdd];apply hk;clear hk k) |refine wkt rfl ?_));(try refine wk0 ?_)
    refine cN rfl rfl rfl rfl (by exact dJ (hw.to (h':=h1)) hv1 (by omega) (by omega) (by omega)) ?_;rintro v3 h3 s3 ⟨q2,r2,rfl,hq2,hr2⟩;obtain⟨qa2,ql2,qc2,rfl,hq2⟩:=hq2.sl
    repeat (first |(refine wo rfl (fun k hk=>?_);simp(disch:=omega) only[go_sem,Nat.reduceBEq,reduceAdd];apply hk;clear hk k) |refine wkt rfl ?_ |refine wk0 ?_ |refine rg rfl rfl (fun K hK=>?_) |((first |refine ae ?_ |refine ac ?_);simp(disch:=decide) only[qs,qb,if_true,if_false,reduceIte]) |refine ah rfl (fun K hK=>?_) |refine ct rfl ?_ |((try simp(disch:=omega) only[go_sem,Nat.reduceBEq,reduceAdd]);(first |apply hK |(clear hK;apply hK) |(clear hK;clear hK;apply hK));clear hK;(try clear K);(try dsimp only[ag,qs,qb])))
    refine ai ?_;simp(disch:=omega) only[go_sem,Nat.reduceBEq,reduceAdd]
    exact Qr.of hq1.to hq2.to hg1 hg2 hg4 hsg
theorem dU {h0 h:PH} [Le h0 h] {v:Value} {x:Rat} (hx:Qr h0 v x):Spec mach 195 #[v] h (fun v h'=>N16 h' v x.den) NP:=by
  obtain⟨na,nl,nc,da,dl,dc,e,rfl,hn,hd,he⟩:=hx.sl
  have ld:=hd.len0
  refine Spec.go [] Tryz.func195 rfl rfl (by kernel_rfl) fun C _=>?_
  try simp(maxSteps:=999999) (disch:=omega) only[go_sem,Nat.reduceBEq,reduceAdd]
  by_cases h0:e=0
  · try simp(maxSteps:=999999) (disch:=omega) only[go_sem,Nat.reduceBEq,reduceAdd]
    refine caN (by exact bQ (n:=1) (by decide)) ?_;rintro v1 h1 s1 hv1
    try simp(maxSteps:=999999) (disch:=omega) only[go_sem,Nat.reduceBEq,reduceAdd]
    rw[←he,h0];exact hv1
  · try simp(maxSteps:=999999) (disch:=omega) only[go_sem,Nat.reduceBEq,reduceAdd]
    rw[←he,my h0];exact hd.to
theorem sC {h0 h:PH} [Le h0 h] {v:Value} {x:Rat} (hx:Qr h0 v x):Spec mach 142 #[v] h (fun v _=>v=.bool (decide (x.den=1))) NP:=by
  obtain⟨na,nl,nc,da,dl,dc,e,rfl,hn,hd,he⟩:=hx.sl
  obtain⟨da',c',ys,hde,hya,hys,hym,hy16⟩:=hd.out
  cases hde
  have ld:=hd.len0
  have sy:=hya.small
  rw[←he]
  refine Spec.enter (args:=[_]) (n:=20) Tryz.func142 rfl (by kernel_rfl) rfl (by simp) [.tmp 2] rfl (fun C _=>?_)
  by_cases h0:e=0
  · repeat (first |(refine wo rfl (fun k hk=>?_);simp(disch:=omega) only[go_sem,Nat.reduceBEq,reduceAdd];apply hk;clear hk k) |refine wkt rfl ?_ |refine wk0 ?_ |refine rg rfl rfl (fun K hK=>?_) |((first |refine ae ?_ |refine ac ?_);simp(disch:=decide) only[qs,qb,if_true,if_false,reduceIte]) |refine ah rfl (fun K hK=>?_) |refine ct rfl ?_ |((try simp(disch:=omega) only[go_sem,Nat.reduceBEq,reduceAdd]);(first |apply hK |(clear hK;apply hK) |(clear hK;clear hK;apply hK));clear hK;(try clear K);(try dsimp only[ag,qs,qb])))
    refine ai ?_;simp(disch:=omega) only[go_sem,Nat.reduceBEq,reduceAdd]
    simp[h0,dz]
  · rw[my h0]
    by_cases hl:ys.length=1
    · obtain⟨ad,rfl,hat⟩:=hya.rd0 h (by omega)
      obtain⟨_,h2⟩:=xr B16 (n:=e) (by rw[hys];exact hl)
      rw[hys] at h2
      rw[h2] at hat
      by_cases h1:e=1
      · repeat (first |(refine wo rfl (fun k hk=>?_);simp(disch:=omega) only[go_sem,Nat.reduceBEq,reduceAdd,hat];apply hk;clear hk k) |refine wkt rfl ?_ |refine wk0 ?_ |refine rg rfl rfl (fun K hK=>?_) |((first |refine ae ?_ |refine ac ?_);simp(disch:=decide) only[qs,qb,if_true,if_false,reduceIte]) |refine ah rfl (fun K hK=>?_) |refine ct rfl ?_ |((try simp(disch:=omega) only[go_sem,Nat.reduceBEq,reduceAdd]);(first |apply hK |(clear hK;apply hK) |(clear hK;clear hK;apply hK));clear hK;(try clear K);(try dsimp only[ag,qs,qb])))
        refine ai ?_;simp(disch:=omega) only[go_sem,Nat.reduceBEq,reduceAdd]
        all_goals simp[h1]
      · repeat (first |(refine wo rfl (fun k hk=>?_);simp(disch:=omega) only[go_sem,Nat.reduceBEq,reduceAdd,hat];apply hk;clear hk k) |refine wkt rfl ?_ |refine wk0 ?_ |refine rg rfl rfl (fun K hK=>?_) |((first |refine ae ?_ |refine ac ?_);simp(disch:=decide) only[qs,qb,if_true,if_false,reduceIte]) |refine ah rfl (fun K hK=>?_) |refine ct rfl ?_ |((try simp(disch:=omega) only[go_sem,Nat.reduceBEq,reduceAdd]);(first |apply hK |(clear hK;apply hK) |(clear hK;clear hK;apply hK));clear hK;(try clear K);(try dsimp only[ag,qs,qb])))
        refine ai ?_;simp(disch:=omega) only[go_sem,Nat.reduceBEq,reduceAdd]
        all_goals simp[h1]
    · have h1:e≠1:=by rintro rfl;rw[W_one B16] at hys;rw[←hys] at hl;exact hl rfl
      repeat (first |(refine wo rfl (fun k hk=>?_);simp(disch:=omega) only[go_sem,Nat.reduceBEq,reduceAdd];apply hk;clear hk k) |refine wkt rfl ?_ |refine wk0 ?_ |refine rg rfl rfl (fun K hK=>?_) |((first |refine ae ?_ |refine ac ?_);simp(disch:=decide) only[qs,qb,if_true,if_false,reduceIte]) |refine ah rfl (fun K hK=>?_) |refine ct rfl ?_ |((try simp(disch:=omega) only[go_sem,Nat.reduceBEq,reduceAdd]);(first |apply hK |(clear hK;apply hK) |(clear hK;clear hK;apply hK));clear hK;(try clear K);(try dsimp only[ag,qs,qb])))
      refine ai ?_;simp(disch:=omega) only[go_sem,Nat.reduceBEq,reduceAdd]
      all_goals simp[h1]
theorem aF {h:PH} {n:Int} (h1: -9223372036854775808≤n) (h2:n≤9223372036854775807):Spec mach 59 #[.int .i64 n] h (fun v h'=>Qr h' v (n:Rat)) NP:=by
  by_cases hn:n < 0
  · obtain⟨m,rfl⟩:∃m:Nat,n= -((m+1:Nat):Int):=⟨n.natAbs - 1,by omega⟩
    have e1:IntKind.i64.wrap (-((m+1:Nat):Int)+1)= -(m:Int):=by rw[wi64 (by omega) (by omega)];omega
    have e2:IntKind.i64.wrap (0 - -(m:Int))=(m:Int):=by rw[wi64 (by omega) (by omega)];omega
    refine Spec.go [] Tryz.func59 rfl rfl (by kernel_rfl) fun C _=>?_
    try simp(maxSteps:=999999) (disch:=omega) only[go_sem,Nat.reduceBEq,reduceAdd,e1,e2]
    refine caN (by exact bQ (n:=m+1) (by omega)) ?_;rintro v1 h3 s3 hv1;obtain⟨va1,vl1,vc1,rfl,hv1⟩:=hv1.sl
    try simp(maxSteps:=999999) (disch:=omega) only[go_sem,Nat.reduceBEq,reduceAdd]
    refine caN (by exact bQ (n:=1) (by decide)) ?_;rintro v2 h4 s4 hv2;obtain⟨va2,vl2,vc2,rfl,hv2⟩:=hv2.sl
    try simp(maxSteps:=999999) (disch:=omega) only[go_sem,Nat.reduceBEq,reduceAdd]
    refine caN (by exact Ai (neg:=true) (hv1.to (h':=h4)) hv2 (Nat.le_trans (bl_le.2 (show m+1 < 2^64 by omega)) (by decide))) ?_;rintro _ h5 _ hv5;obtain⟨_,_,_,_,_,_,_,rfl,hv5⟩:=hv5.sa
    try simp(maxSteps:=999999) (disch:=omega) only[go_sem,Nat.reduceBEq,reduceAdd]
    have:sgn true (m+1) 1=((-((m+1:Nat):Int):Int):Rat):=by rw[tQ];simp
    rw[this] at hv5;exact hv5
  · obtain⟨m,rfl⟩:∃m:Nat,n=(m:Int):=⟨n.natAbs,by omega⟩
    refine Spec.go [] Tryz.func59 rfl rfl (by kernel_rfl) fun C _=>?_
    try simp(maxSteps:=999999) (disch:=omega) only[go_sem,Nat.reduceBEq,reduceAdd]
    refine caN (by exact bQ (n:=m) (by omega)) ?_;rintro v1 h3 s3 hv1;obtain⟨va1,vl1,vc1,rfl,hv1⟩:=hv1.sl
    try simp(maxSteps:=999999) (disch:=omega) only[go_sem,Nat.reduceBEq,reduceAdd]
    refine caN (by exact bQ (n:=1) (by decide)) ?_;rintro v2 h4 s4 hv2;obtain⟨va2,vl2,vc2,rfl,hv2⟩:=hv2.sl
    try simp(maxSteps:=999999) (disch:=omega) only[go_sem,Nat.reduceBEq,reduceAdd]
    refine caN (by exact Ai (neg:=false) (hv1.to (h':=h4)) hv2 (Nat.le_trans (bl_le.2 (show m < 2^64 by omega)) (by decide))) ?_;rintro _ h5 _ hv5;obtain⟨_,_,_,_,_,_,_,rfl,hv5⟩:=hv5.sa
    try simp(maxSteps:=999999) (disch:=omega) only[go_sem,Nat.reduceBEq,reduceAdd]
    have:sgn false m 1=(((m:Nat):Int):Rat):=by rw[tQ];simp
    rw[this] at hv5;exact hv5
def jR:List Nat→List Nat
  |[]=>[]
  |x :: xs=>x % 65536 :: x / 65536 :: jR xs
theorem yM:∀xs:List Nat,val 65536 (jR xs)=val 4294967296 xs
  |[]=>rfl
  | x :: xs=>by
    simp only[jR,val,yM xs]
    omega
theorem uH:∀{xs:List Nat},(∀x∈xs,x < 4294967296)→∀d∈jR xs,d < 65536
  |[],_,d,hd=>by cases hd
  | x :: xs,h,d,hd=>by
    have hx:=h x (List.mem_cons_self ..)
    simp only[jR,List.mem_cons] at hd
    rcases hd with rfl |rfl |hd
    · omega
    · omega
    · exact uH (fun y hy=>h y (List.mem_cons_of_mem _ hy)) d hd
theorem rW:∀xs:List Nat,(jR xs).length=2*xs.length
  |[]=>rfl
  |x :: xs=>by simp only[jR,List.length_cons,rW xs];omega
theorem vF:∀(xs:List Nat) (x:Nat),jR (xs ++[x])=jR xs ++[x % 65536,x / 65536]
  |[],x=>rfl
  |y :: xs,x=>by simp only[List.cons_append,jR,vF xs x]
theorem jC {xs:List Nat} {k:Nat} (h:k < xs.length):xs.take (k+1)=xs.take k ++[xs.getD k 0]:=by
  rw[List.take_succ_eq_append_getElem h];simp[h]
theorem uw_two (ds:List Nat) (c d:Nat) (jk:List Value):uw ds ++(uw [c,d] ++jk)=uw (ds ++[c,d]) ++jk:=by simp[uw]
@[go_sem] theorem uw_mk2 (c d:Nat): [Value.int .u32 (c:Nat),Value.int .u32 (d:Nat)]=uw [c,d]:=rfl
@[go_sem] theorem spl2 (c d:Nat):spl (spl [Value.int .u32 0,Value.int .u32 0] 0 (uw [c])) 1 (uw [d])=uw [c,d]:=rfl
@[go_sem] theorem take2 (c d:Nat):(uw [c,d]).take 2=uw [c,d]:=rfl
theorem Gf {h0 h:PH} [Le h0 h] {a:Option Addr} {c:Nat} {xs:List Nat} (ha:Arr h0 a c xs) (hs:xs.length≤2^40):
    Spec mach 68 #[.slice a xs.length c] h (fun v h'=>N16 h' v (val 4294967296 xs)) NP:=by
  refine Spec.enter (args:=[_]) (n:=22) Tryz.func68 rfl (by kernel_rfl) rfl (by simp) [.tmp 2] rfl (fun C _=>?_)
  repeat (first |(refine wo rfl (fun k hk=>?_);simp(disch:=omega) only[go_sem,Nat.reduceBEq,reduceAdd];apply hk;clear hk k) |refine wkt rfl ?_ |refine wk0 ?_ |refine rg rfl rfl (fun K hK=>?_) |((first |refine ae ?_ |refine ac ?_);simp(disch:=decide) only[qs,qb,if_true,if_false,reduceIte]) |refine ah rfl (fun K hK=>?_) |refine ct rfl ?_ |((try simp(disch:=omega) only[go_sem,Nat.reduceBEq,reduceAdd]);(first |apply hK |(clear hK;apply hK) |(clear hK;clear hK;apply hK));clear hK;(try clear K);(try dsimp only[ag,qs,qb])))
  refine eO (fun x:Nat ⊕ (Nat×List Value)=>match x with
      |.inl _=>⟨[(3,.v (.slice none 0 0)),(6,.v (.slice a xs.length c)),(7,.v (.int .i64 xs.length)),(8,.v (.int .i64 0))],[]⟩
      |.inr (k,jk)=>⟨[(3,.s 0 0 (2*k) (2*k+jk.length)),(6,.v (.slice a xs.length c)),(7,.v (.int .i64 xs.length)),(8,.v (.int .i64 k))],[uw (jR (xs.take k)) ++jk]⟩)
    (fun x h'=>Le h0 h'∧match x with
      |.inl _=>True
      |.inr (k,_)=>k≤xs.length)
    (fun x=>match x with
      |.inl _=>xs.length+1
      |.inr (k,_)=>xs.length - k) (.inl 0) [] ?_ ⟨inferInstance,trivial⟩ ?_
  · simp(disch:=omega) only[go_sem,Nat.reduceBEq,reduceAdd]
  · rintro(r |⟨i,jk⟩) h1 ⟨hle,hi⟩
    · dsimp only at hi ⊢
      by_cases hx0:xs.length=0
      · repeat (first |(refine wo rfl (fun k hk=>?_);simp(disch:=omega) only[go_sem,Nat.reduceBEq,reduceAdd];apply hk;clear hk k) |refine wkt rfl ?_ |refine wk0 ?_ |refine rg rfl rfl (fun K hK=>?_) |((first |refine ae ?_ |refine ac ?_);simp(disch:=decide) only[qs,qb,if_true,if_false,reduceIte]) |refine ah rfl (fun K hK=>?_) |refine ct rfl ?_ |((try simp(disch:=omega) only[go_sem,Nat.reduceBEq,reduceAdd]);(first |apply hK |(clear hK;apply hK) |(clear hK;clear hK;apply hK));clear hK;(try clear K);(try dsimp only[ag,qs,qb])))
        have hA:Arr h1 none 0 []:=Arr.nil h1
        refine cN rfl rfl rfl rfl (by exact nY (L:=0) hA (by simp) rfl) ?_;rintro v2 h2 s2 hv2;(repeat (first |(refine wo rfl (fun k hk=>?_);simp(disch:=omega) only[go_sem,Nat.reduceBEq,reduceAdd];apply hk;clear hk k) |refine wkt rfl ?_));(try refine wk0 ?_)
        (try (simp(disch:=omega) only[go_sem,Nat.reduceBEq,reduceAdd]));apply hK;clear hK;(try clear K);(try dsimp only[ag,qs])
        refine ai ?_;simp(disch:=omega) only[go_sem,Nat.reduceBEq,reduceAdd]
        rw[List.eq_nil_of_length_eq_zero hx0]
        exact hv2
      · obtain⟨ad,rfl,hat⟩:=ha.rd0 h1 (by omega)
        have hx:=aM (by decide) ha.lt 0
        repeat (first |(refine wo rfl (fun k hk=>?_);simp(disch:=omega) only[go_sem,Nat.reduceBEq,reduceAdd,hat];apply hk;clear hk k) |refine wkt rfl ?_ |refine wk0 ?_ |refine rg rfl rfl (fun K hK=>?_) |((first |refine ae ?_ |refine ac ?_);simp(disch:=decide) only[qs,qb,if_true,if_false,reduceIte]) |refine ah rfl (fun K hK=>?_) |refine ct rfl ?_ |((try simp(disch:=omega) only[go_sem,Nat.reduceBEq,reduceAdd]);(first |apply hK |(clear hK;apply hK) |(clear hK;clear hK;apply hK));clear hK;(try clear K);(try dsimp only[ag,qs,qb])))
        refine wo rfl (fun k hk=>?_);simp(disch:=omega) only[go_sem,Nat.reduceBEq,reduceAdd]
        intro _ junk
        apply hk;clear hk k
        (repeat (first |(refine wo rfl (fun k hk=>?_);simp(disch:=omega) only[go_sem,Nat.reduceBEq,reduceAdd];apply hk;clear hk k) |refine wkt rfl ?_));(try refine wk0 ?_)
        repeat (first |(refine wo rfl (fun k hk=>?_);simp(disch:=omega) only[go_sem,Nat.reduceBEq,reduceAdd];apply hk;clear hk k) |refine wkt rfl ?_ |refine wk0 ?_ |refine rg rfl rfl (fun K hK=>?_) |((first |refine ae ?_ |refine ac ?_);simp(disch:=decide) only[qs,qb,if_true,if_false,reduceIte]) |refine ah rfl (fun K hK=>?_) |refine ct rfl ?_ |((try simp(disch:=omega) only[go_sem,Nat.reduceBEq,reduceAdd]);(first |apply hK |(clear hK;apply hK) |(clear hK;clear hK;apply hK));clear hK;(try clear K);(try dsimp only[ag,qs,qb])))
        refine⟨.inr (1,junk),[1],?_,⟨hle,by dsimp only;omega⟩,by dsimp only;omega⟩
        have e1:xs.take 1=[xs.getD 0 0]:=by rw[jC (k:=0) (by omega)];rfl
        simp(disch:=omega) only[go_sem,Nat.reduceBEq,reduceAdd,e1,jR]
        rfl
    · dsimp only at hi ⊢
      by_cases hil:i < xs.length
      · obtain⟨ad,rfl,hat⟩:=ha.rd h1 (i:=i) (by omega)
        have hx:=aM (by decide) ha.lt i
        have hlen:=rW (xs.take i)
        rw[List.length_take,Nat.min_eq_left (by omega)] at hlen
        repeat (first |(refine wo rfl (fun k hk=>?_);simp(disch:=omega) only[go_sem,Nat.reduceBEq,reduceAdd,hat];apply hk;clear hk k) |refine wkt rfl ?_ |refine wk0 ?_ |refine rg rfl rfl (fun K hK=>?_) |((first |refine ae ?_ |refine ac ?_);simp(disch:=decide) only[qs,qb,if_true,if_false,reduceIte]) |refine ah rfl (fun K hK=>?_) |refine ct rfl ?_ |((try simp(disch:=omega) only[go_sem,Nat.reduceBEq,reduceAdd]);(first |apply hK |(clear hK;apply hK) |(clear hK;clear hK;apply hK));clear hK;(try clear K);(try dsimp only[ag,qs,qb])))
        refine wo rfl (fun k hk=>?_);simp(disch:=omega) only[go_sem,Nat.reduceBEq,reduceAdd]
        intro junk
        apply hk;clear hk k
        (repeat (first |(refine wo rfl (fun k hk=>?_);simp(disch:=omega) only[go_sem,Nat.reduceBEq,reduceAdd];apply hk;clear hk k) |refine wkt rfl ?_));(try refine wk0 ?_)
        repeat (first |(refine wo rfl (fun k hk=>?_);simp(disch:=omega) only[go_sem,Nat.reduceBEq,reduceAdd];apply hk;clear hk k) |refine wkt rfl ?_ |refine wk0 ?_ |refine rg rfl rfl (fun K hK=>?_) |((first |refine ae ?_ |refine ac ?_);simp(disch:=decide) only[qs,qb,if_true,if_false,reduceIte]) |refine ah rfl (fun K hK=>?_) |refine ct rfl ?_ |((try simp(disch:=omega) only[go_sem,Nat.reduceBEq,reduceAdd]);(first |apply hK |(clear hK;apply hK) |(clear hK;clear hK;apply hK));clear hK;(try clear K);(try dsimp only[ag,qs,qb])))
        refine⟨.inr (i+1,junk),[2],?_,⟨hle,by dsimp only;omega⟩,by dsimp only;omega⟩
        have e1:=jC hil
        simp(disch:=omega) only[go_sem,Nat.reduceBEq,reduceAdd,e1,vF,uw_two]
        rfl
      · obtain rfl:i=xs.length:=by omega
        have hlen:=rW xs
        rw[List.take_of_length_le (Nat.le_refl _)]
        repeat (first |(refine rg rfl rfl (fun K hK=>?_);(repeat (first |(refine wo rfl (fun k hk=>?_);simp(disch:=omega) only[go_sem,Nat.reduceBEq,reduceAdd];apply hk;clear hk k) |refine wkt rfl ?_));(try refine wk0 ?_);apply hK;clear hK K;(try dsimp only[ag,qs,qb])) |((first |refine ae ?_ |refine ac ?_);simp(disch:=decide) only[qs,qb,if_true,if_false,reduceIte]) |refine ah rfl (fun K hK=>?_) |refine ct rfl ?_ |((first |refine hK _ _ ?_ |(clear hK;refine hK _ _ ?_) |(clear hK;clear hK;refine hK _ _ ?_));clear hK;(try clear K)))
        refine fk [.p 0,.o 0,.o 1,.o 2] rfl rfl (fun K hK=>?_);(repeat (first |(refine wo rfl (fun k hk=>?_);simp(disch:=omega) only[go_sem,Nat.reduceBEq,reduceAdd];apply hk;clear hk k) |refine wkt rfl ?_));(try refine wk0 ?_)
        refine wkp ?_;simp(disch:=omega) only[go_sem,Nat.reduceBEq,reduceAdd];intro b h2 hs2 hb;(repeat (first |(refine wo rfl (fun k hk=>?_);simp(disch:=omega) only[go_sem,Nat.reduceBEq,reduceAdd];apply hk;clear hk k) |refine wkt rfl ?_));(try refine wk0 ?_)
        have hA:Arr h2 (some ⟨b,0,none⟩) (2*xs.length+jk.length) (jR xs):=.of_app hb (uH ha.lt) (by omega) (by omega)
        refine cN rfl rfl rfl rfl (by exact nY hA (uH ha.lt) hlen) ?_;rintro v2 h3 s2 hv2;(repeat (first |(refine wo rfl (fun k hk=>?_);simp(disch:=omega) only[go_sem,Nat.reduceBEq,reduceAdd];apply hk;clear hk k) |refine wkt rfl ?_));(try refine wk0 ?_)
        (try (simp(disch:=omega) only[go_sem,Nat.reduceBEq,reduceAdd]));apply hK;clear hK;(try clear K);(try dsimp only[ag,qs])
        refine ai ?_;simp(disch:=omega) only[go_sem,Nat.reduceBEq,reduceAdd]
        rwa[yM] at hv2
theorem ED (k:Nat):65536^(2*k)=4294967296^k:=by rw[Nat.pow_mul]
theorem Jy {n k:Nat}:(W 65536 n).length≤2*k↔(W 4294967296 n).length≤k:=by
  constructor
  · intro h
    refine cV B32 ?_
    rw[←ED]
    exact Nat.lt_of_lt_of_le (cW B16 n) (Nat.pow_le_pow_right (by decide) h)
  · intro h
    refine cV B16 ?_
    rw[ED]
    exact Nat.lt_of_lt_of_le (cW B32 n) (Nat.pow_le_pow_right (by decide) h)
theorem C6 (n k:Nat):(W 65536 n).getD (2*k) 0+(W 65536 n).getD (2*k+1) 0*65536=(W 4294967296 n).getD k 0:=by
  rw[rO B16,rO B16,rO B32,Nat.pow_succ,ED,←Nat.div_div_eq_div_mul]
  omega
theorem N32.of_pub {h:PH} {b:Nat} {ds:List Nat} {junk:List Value} {n L c:Nat} (hb:uw ds ++junk≠[]→h b=some (uw ds ++junk).toArray) (hW:W 4294967296 n=ds) (hs:ds.length≤2^46) (hL:ds.length=L) (hc:ds.length≤c):N32 h (.slice (some ⟨b,0,none⟩) L c) n:=by
  refine⟨_,c,by rw[hW,hL],?_⟩
  rw[hW]
  have hlt:∀x∈ds,x < 4294967296:=by rw[←hW];exact W_lt B32 n
  refine .of_block hb (fun i x hi=>?_) hlt hs hc
  have hil:i < ds.length:=(List.getElem?_eq_some_iff.1 hi).1
  rw[List.getElem?_append_left (by simp[uw];exact hil)]
  simp[uw,hi]
theorem oj {h0 h:PH} [Le h0 h] {v:Value} {n:Nat} (hv:N16 h0 v n) (bn:bl n≤2^40):Spec mach 141 #[v] h (fun v h'=>N32 h' v n) NP:=by
  obtain⟨a,c,xs,rfl,ha,hxs,hm,hx16⟩:=hv.out
  obtain⟨zs,hzs⟩:∃zs,W 4294967296 n=zs:=⟨_,rfl⟩
  have hs:xs.length≤2^40:=by have:=cr n;rw[hxs] at this;omega
  have hzl:zs.length≤2^40:=by have:=dj n;rw[hzs] at this;omega
  have hlen:∀k,xs.length≤2*k↔zs.length≤k:=fun k=>by rw[←hxs,←hzs];exact Jy
  have hdig:∀k,xs.getD (2*k) 0+xs.getD (2*k+1) 0*65536=zs.getD k 0:=fun k=>by rw[←hxs,←hzs];exact C6 n k
  refine Spec.enter (args:=[_]) (n:=34) Tryz.func141 rfl (by kernel_rfl) rfl (by simp) [.tmp 2] rfl (fun C _=>?_)
  repeat (first |(refine wo rfl (fun k hk=>?_);simp(disch:=omega) only[go_sem,Nat.reduceBEq,reduceAdd];apply hk;clear hk k) |refine wkt rfl ?_ |refine wk0 ?_ |refine rg rfl rfl (fun K hK=>?_) |((first |refine ae ?_ |refine ac ?_);simp(disch:=decide) only[qs,qb,if_true,if_false,reduceIte]) |refine ah rfl (fun K hK=>?_) |refine ct rfl ?_ |((try simp(disch:=omega) only[go_sem,Nat.reduceBEq,reduceAdd]);(first |apply hK |(clear hK;apply hK) |(clear hK;clear hK;apply hK));clear hK;(try clear K);(try dsimp only[ag,qs,qb])))
  refine eO (fun x:Nat ⊕ (Nat×List Value)=>match x with
      |.inl _=>⟨[(0,.v (.slice a xs.length c)),(3,.v (.slice none 0 0)),(4,.v (.int .i64 0))],[]⟩
      |.inr (k,jk)=>⟨[(0,.v (.slice a xs.length c)),(3,.s 0 0 k (k+jk.length)),(4,.v (.int .i64 (2*k:Nat)))],[uw (zs.take k) ++jk]⟩)
    (fun x h'=>Le h0 h'∧match x with
      |.inl _=>True
      |.inr (k,_)=>k≤zs.length)
    (fun x=>match x with
      |.inl _=>zs.length+1
      |.inr (k,_)=>zs.length - k) (.inl 0) [] ?_ ⟨inferInstance,trivial⟩ ?_
  · simp(disch:=omega) only[go_sem,Nat.reduceBEq,reduceAdd]
  · rintro(r |⟨i,jk⟩) h1 ⟨hle,hi⟩
    · dsimp only at hi ⊢
      have hl0:=hlen 0
      have hd0:=hdig 0
      simp only[Nat.mul_zero,Nat.zero_add] at hl0 hd0
      by_cases hx0:xs.length=0
      · repeat (first |(refine wo rfl (fun k hk=>?_);simp(disch:=omega) only[go_sem,Nat.reduceBEq,reduceAdd];apply hk;clear hk k) |refine wkt rfl ?_ |refine wk0 ?_ |refine rg rfl rfl (fun K hK=>?_) |((first |refine ae ?_ |refine ac ?_);simp(disch:=decide) only[qs,qb,if_true,if_false,reduceIte]) |refine ah rfl (fun K hK=>?_) |refine ct rfl ?_ |((try simp(disch:=omega) only[go_sem,Nat.reduceBEq,reduceAdd]);(first |apply hK |(clear hK;apply hK) |(clear hK;clear hK;apply hK));clear hK;(try clear K);(try dsimp only[ag,qs,qb])))
        refine ai ?_;simp(disch:=omega) only[go_sem,Nat.reduceBEq,reduceAdd]
        have:n=0:=by rw[←hm,List.eq_nil_of_length_eq_zero hx0];rfl
        rw[this];exact N32.zero _
      · obtain⟨ad,rfl,hat⟩:=ha.rd0 h1 (by omega)
        have hx:=aM (by decide) hx16 0
        have e1:zs.take 1=[zs.getD 0 0]:=by rw[jC (k:=0) (by omega)];rfl
        by_cases hx1:1 < xs.length
        · obtain⟨ad',h',hat'⟩:=ha.rd h1 (i:=1) (by omega)
          obtain rfl:ad=ad':=by simpa using h'
          have hy:=aM (by decide) hx16 1
          have hat1:h1.at (ad.add ((0:Int)+1).toNat)=some (.int .u32 (xs.getD 1 0:Nat)):=hat'
          repeat (first |(refine wo rfl (fun k hk=>?_);simp(disch:=omega) only[go_sem,Nat.reduceBEq,reduceAdd,hat,hat1,hd0];apply hk;clear hk k) |refine wkt rfl ?_ |refine wk0 ?_ |refine rg rfl rfl (fun K hK=>?_) |((first |refine ae ?_ |refine ac ?_);simp(disch:=decide) only[qs,qb,if_true,if_false,reduceIte]) |refine ah rfl (fun K hK=>?_) |refine ct rfl ?_ |((try simp(disch:=omega) only[go_sem,Nat.reduceBEq,reduceAdd]);(first |apply hK |(clear hK;apply hK) |(clear hK;clear hK;apply hK));clear hK;(try clear K);(try dsimp only[ag,qs,qb])))
          refine wo rfl (fun k hk=>?_);simp(disch:=omega) only[go_sem,Nat.reduceBEq,reduceAdd]
          intro _ junk
          apply hk;clear hk k
          (repeat (first |(refine wo rfl (fun k hk=>?_);simp(disch:=omega) only[go_sem,Nat.reduceBEq,reduceAdd];apply hk;clear hk k) |refine wkt rfl ?_));(try refine wk0 ?_)
          repeat (first |(refine wo rfl (fun k hk=>?_);simp(disch:=omega) only[go_sem,Nat.reduceBEq,reduceAdd];apply hk;clear hk k) |refine wkt rfl ?_ |refine wk0 ?_ |refine rg rfl rfl (fun K hK=>?_) |((first |refine ae ?_ |refine ac ?_);simp(disch:=decide) only[qs,qb,if_true,if_false,reduceIte]) |refine ah rfl (fun K hK=>?_) |refine ct rfl ?_ |((try simp(disch:=omega) only[go_sem,Nat.reduceBEq,reduceAdd]);(first |apply hK |(clear hK;apply hK) |(clear hK;clear hK;apply hK));clear hK;(try clear K);(try dsimp only[ag,qs,qb])))
          refine⟨.inr (1,junk),[1],?_,⟨hle,by dsimp only;omega⟩,by dsimp only;omega⟩
          simp(disch:=omega) only[go_sem,Nat.reduceBEq,reduceAdd,e1]
          rfl
        · have hy:xs.getD 1 0=0:=getD_none (by omega)
          rw[hy,Nat.zero_mul,Nat.add_zero] at hd0
          repeat (first |(refine wo rfl (fun k hk=>?_);simp(disch:=omega) only[go_sem,Nat.reduceBEq,reduceAdd,hat,hd0];apply hk;clear hk k) |refine wkt rfl ?_ |refine wk0 ?_ |refine rg rfl rfl (fun K hK=>?_) |((first |refine ae ?_ |refine ac ?_);simp(disch:=decide) only[qs,qb,if_true,if_false,reduceIte]) |refine ah rfl (fun K hK=>?_) |refine ct rfl ?_ |((try simp(disch:=omega) only[go_sem,Nat.reduceBEq,reduceAdd]);(first |apply hK |(clear hK;apply hK) |(clear hK;clear hK;apply hK));clear hK;(try clear K);(try dsimp only[ag,qs,qb])))
          refine wo rfl (fun k hk=>?_);simp(disch:=omega) only[go_sem,Nat.reduceBEq,reduceAdd]
          intro _ junk
          apply hk;clear hk k
          (repeat (first |(refine wo rfl (fun k hk=>?_);simp(disch:=omega) only[go_sem,Nat.reduceBEq,reduceAdd];apply hk;clear hk k) |refine wkt rfl ?_));(try refine wk0 ?_)
          repeat (first |(refine wo rfl (fun k hk=>?_);simp(disch:=omega) only[go_sem,Nat.reduceBEq,reduceAdd];apply hk;clear hk k) |refine wkt rfl ?_ |refine wk0 ?_ |refine rg rfl rfl (fun K hK=>?_) |((first |refine ae ?_ |refine ac ?_);simp(disch:=decide) only[qs,qb,if_true,if_false,reduceIte]) |refine ah rfl (fun K hK=>?_) |refine ct rfl ?_ |((try simp(disch:=omega) only[go_sem,Nat.reduceBEq,reduceAdd]);(first |apply hK |(clear hK;apply hK) |(clear hK;clear hK;apply hK));clear hK;(try clear K);(try dsimp only[ag,qs,qb])))
          refine⟨.inr (1,junk),[1],?_,⟨hle,by dsimp only;omega⟩,by dsimp only;omega⟩
          simp(disch:=omega) only[go_sem,Nat.reduceBEq,reduceAdd,e1]
          rfl
    · dsimp only at hi ⊢
      have hli:=hlen i
      have hdi:=hdig i
      by_cases hil:i < zs.length
      · obtain⟨ad,rfl,hat⟩:=ha.rd h1 (i:=2*i) (by omega)
        have hx:=aM (by decide) hx16 (2*i)
        have e1:=jC hil
        have ez:(zs.take i).length=i:=by rw[List.length_take,Nat.min_eq_left (by omega)]
        by_cases hx1:2*i+1 < xs.length
        · obtain⟨ad',h',hat'⟩:=ha.rd h1 (i:=2*i+1) (by omega)
          obtain rfl:ad=ad':=by simpa using h'
          have hy:=aM (by decide) hx16 (2*i+1)
          simp(disch:=omega) only[go_sem,Nat.reduceBEq,reduceAdd] at hat'
          repeat (first |(refine wo rfl (fun k hk=>?_);simp(disch:=omega) only[go_sem,Nat.reduceBEq,reduceAdd,hat,hat',hdi];apply hk;clear hk k) |refine wkt rfl ?_ |refine wk0 ?_ |refine rg rfl rfl (fun K hK=>?_) |((first |refine ae ?_ |refine ac ?_);simp(disch:=decide) only[qs,qb,if_true,if_false,reduceIte]) |refine ah rfl (fun K hK=>?_) |refine ct rfl ?_ |((try simp(disch:=omega) only[go_sem,Nat.reduceBEq,reduceAdd]);(first |apply hK |(clear hK;apply hK) |(clear hK;clear hK;apply hK));clear hK;(try clear K);(try dsimp only[ag,qs,qb])))
          refine wo rfl (fun k hk=>?_);simp(disch:=omega) only[go_sem,Nat.reduceBEq,reduceAdd]
          intro junk
          apply hk;clear hk k
          (repeat (first |(refine wo rfl (fun k hk=>?_);simp(disch:=omega) only[go_sem,Nat.reduceBEq,reduceAdd];apply hk;clear hk k) |refine wkt rfl ?_));(try refine wk0 ?_)
          repeat (first |(refine wo rfl (fun k hk=>?_);simp(disch:=omega) only[go_sem,Nat.reduceBEq,reduceAdd];apply hk;clear hk k) |refine wkt rfl ?_ |refine wk0 ?_ |refine rg rfl rfl (fun K hK=>?_) |((first |refine ae ?_ |refine ac ?_);simp(disch:=decide) only[qs,qb,if_true,if_false,reduceIte]) |refine ah rfl (fun K hK=>?_) |refine ct rfl ?_ |((try simp(disch:=omega) only[go_sem,Nat.reduceBEq,reduceAdd]);(first |apply hK |(clear hK;apply hK) |(clear hK;clear hK;apply hK));clear hK;(try clear K);(try dsimp only[ag,qs,qb])))
          refine⟨.inr (i+1,junk),[2],?_,⟨hle,by dsimp only;omega⟩,by dsimp only;omega⟩
          simp(disch:=omega) only[go_sem,Nat.reduceBEq,reduceAdd,e1,fB,Nat.mul_add]
        · have hy:xs.getD (2*i+1) 0=0:=getD_none (by omega)
          rw[hy,Nat.zero_mul,Nat.add_zero] at hdi
          repeat (first |(refine wo rfl (fun k hk=>?_);simp(disch:=omega) only[go_sem,Nat.reduceBEq,reduceAdd,hat,hdi];apply hk;clear hk k) |refine wkt rfl ?_ |refine wk0 ?_ |refine rg rfl rfl (fun K hK=>?_) |((first |refine ae ?_ |refine ac ?_);simp(disch:=decide) only[qs,qb,if_true,if_false,reduceIte]) |refine ah rfl (fun K hK=>?_) |refine ct rfl ?_ |((try simp(disch:=omega) only[go_sem,Nat.reduceBEq,reduceAdd]);(first |apply hK |(clear hK;apply hK) |(clear hK;clear hK;apply hK));clear hK;(try clear K);(try dsimp only[ag,qs,qb])))
          refine wo rfl (fun k hk=>?_);simp(disch:=omega) only[go_sem,Nat.reduceBEq,reduceAdd]
          intro junk
          apply hk;clear hk k
          (repeat (first |(refine wo rfl (fun k hk=>?_);simp(disch:=omega) only[go_sem,Nat.reduceBEq,reduceAdd];apply hk;clear hk k) |refine wkt rfl ?_));(try refine wk0 ?_)
          repeat (first |(refine wo rfl (fun k hk=>?_);simp(disch:=omega) only[go_sem,Nat.reduceBEq,reduceAdd];apply hk;clear hk k) |refine wkt rfl ?_ |refine wk0 ?_ |refine rg rfl rfl (fun K hK=>?_) |((first |refine ae ?_ |refine ac ?_);simp(disch:=decide) only[qs,qb,if_true,if_false,reduceIte]) |refine ah rfl (fun K hK=>?_) |refine ct rfl ?_ |((try simp(disch:=omega) only[go_sem,Nat.reduceBEq,reduceAdd]);(first |apply hK |(clear hK;apply hK) |(clear hK;clear hK;apply hK));clear hK;(try clear K);(try dsimp only[ag,qs,qb])))
          refine⟨.inr (i+1,junk),[2],?_,⟨hle,by dsimp only;omega⟩,by dsimp only;omega⟩
          simp(disch:=omega) only[go_sem,Nat.reduceBEq,reduceAdd,e1,fB,Nat.mul_add]
      · obtain rfl:i=zs.length:=by omega
        rw[List.take_of_length_le (Nat.le_refl _)]
        repeat (first |(refine rg rfl rfl (fun K hK=>?_);(repeat (first |(refine wo rfl (fun k hk=>?_);simp(disch:=omega) only[go_sem,Nat.reduceBEq,reduceAdd];apply hk;clear hk k) |refine wkt rfl ?_));(try refine wk0 ?_);apply hK;clear hK K;(try dsimp only[ag,qs,qb])) |((first |refine ae ?_ |refine ac ?_);simp(disch:=decide) only[qs,qb,if_true,if_false,reduceIte]) |refine ah rfl (fun K hK=>?_) |refine ct rfl ?_ |((first |refine hK _ _ ?_ |(clear hK;refine hK _ _ ?_) |(clear hK;clear hK;refine hK _ _ ?_));clear hK;(try clear K)))
        refine mp 0 ?_
        simp(disch:=omega) only[go_sem,Nat.reduceBEq,reduceAdd]
        intro b h2 hs2 hb
        refine ai ?_;simp(disch:=omega) only[go_sem,Nat.reduceBEq,reduceAdd]
        exact N32.of_pub hb hzs (by omega) rfl (by omega)
theorem bl_dz (d:Nat):bl (dz d)≤bl d+1:=by
  unfold dz;split
  · subst d;decide
  · omega
theorem jD {h0 h:PH} [Le h0 h] {a:Option Addr} {c n L:Nat} {xs:List Nat} (ha:Arr h0 a c xs) (hl:xs.length=L) (hs:xs.length≤2^40) (hn:val 4294967296 xs=n):
    Spec mach 68 #[.slice a L c] h (fun v h'=>N16 h' v n) NP:=by subst hl hn;exact Gf ha hs
theorem mo {xs:List Nat} (hlt:∀x∈xs,x < 4294967296):bl (val 4294967296 xs)≤32*xs.length:=by
  rw[bl_le,B_pow];exact iU (by decide) xs hlt
theorem bM {h0 h:PH} [Le h0 h] {v:Value} {neg:Bool} {n d:Nat} (hv:Rw h0 v neg n d):
    Spec mach 23 #[v] h (fun v h'=>Qr h' v (qof neg n d)) NP:=by
  obtain⟨a,c,xs,a',c',ys,rfl,ha,ha',hn,hd,hsx,hsy⟩:=hv
  have bn:bl n≤2^37:=by have:=mo ha.lt;rw[hn] at this;omega
  have bd:bl d≤2^37:=by have:=mo ha'.lt;rw[hd] at this;omega
  have bz:=bl_dz d
  refine Spec.enter (args:=[_]) (n:=18) Tryz.func23 rfl (by kernel_rfl) rfl (by simp) [.cell 2 28] rfl (fun C _=>?_)
  repeat (first |(refine wo rfl (fun k hk=>?_);simp(disch:=omega) only[go_sem,Nat.reduceBEq,reduceAdd];apply hk;clear hk k) |refine wkt rfl ?_ |refine wk0 ?_ |refine rg rfl rfl (fun K hK=>?_) |refine rd [.o 0,.o 1,.o 2,.o 3,.o 5,.o 4,.o 6,.o 7] rfl (by decide+kernel) rfl (fun K hK=>?_) |((first |refine ae ?_ |refine ac ?_);simp(disch:=decide) only[qs,qb,if_true,if_false,reduceIte]) |refine ah rfl (fun K hK=>?_) |refine ct rfl ?_ |((try simp(disch:=omega) only[go_sem,Nat.reduceBEq,reduceAdd]);(first |apply hK |(clear hK;apply hK) |(clear hK;clear hK;apply hK));clear hK;(try clear K);(try dsimp only[ag,qs,qb])))
  refine cN rfl rfl rfl rfl (by exact jD ha' rfl (by omega) hd) ?_;rintro v1 h1 _ hv1;obtain⟨v1,v1_l,v1_c,rfl,hv1⟩:=hv1.sl;(repeat (first |(refine wo rfl (fun k hk=>?_);simp(disch:=omega) only[go_sem,Nat.reduceBEq,reduceAdd];apply hk;clear hk k) |refine wkt rfl ?_));(try refine wk0 ?_)
  (try (simp(disch:=omega) only[go_sem,Nat.reduceBEq,reduceAdd]));apply hK;clear hK;(try clear K);(try dsimp only[ag,qs])
  have l1:=hv1.len0
  refine oJ (fun K hK=>?_)
  have rest:∀(va:Option Addr) (vl vc:Nat) (h':PH) (S:AS),Le h0 h'→N16 h' (.slice va vl vc) (dz d)→S.le ⟨[(1,.p 0 0),(2,.p 1 0),(3,.v (.slice va vl vc))],[[.bool neg,.slice a xs.length c,.slice a' ys.length c'],[.bool false,.slice none 0 0,.slice none 0 0]]⟩→K S h':=by
    intro va vl vc h' S _ hz hS
    refine hK _ _ (fq _ hS ?_);clear hK K
    (first |refine rg rfl rfl (fun K hK=>?_) |refine rd [.o 0,.o 1,.o 2,.o 3,.o 5,.o 4,.o 6,.o 7] rfl (by decide+kernel) rfl (fun K hK=>?_));(repeat (first |(refine wo rfl (fun k hk=>?_);simp(disch:=omega) only[go_sem,Nat.reduceBEq,reduceAdd];apply hk;clear hk k) |refine wkt rfl ?_));(try refine wk0 ?_)
    refine cN rfl rfl rfl rfl (by exact jD ha rfl (by omega) hn) ?_;rintro v2 h2 _ hv2;obtain⟨v2,v2_l,v2_c,rfl,hv2⟩:=hv2.sl;(repeat (first |(refine wo rfl (fun k hk=>?_);simp(disch:=omega) only[go_sem,Nat.reduceBEq,reduceAdd];apply hk;clear hk k) |refine wkt rfl ?_));(try refine wk0 ?_)
    refine cN rfl rfl rfl rfl (by exact fQ (neg:=neg) hv2 (hz.to (h':=h2)) (by omega) (by omega)) ?_;rintro v3 h3 _ hv3;obtain⟨v3_0,v3_1,v3_2,v3_3,v3_4,v3_5,v3_6,rfl,hv3⟩:=hv3.sa;(repeat (first |(refine wo rfl (fun k hk=>?_);simp(disch:=omega) only[go_sem,Nat.reduceBEq,reduceAdd];apply hk;clear hk k) |refine wkt rfl ?_));(try refine wk0 ?_)
    (try (simp(disch:=omega) only[go_sem,Nat.reduceBEq,reduceAdd]));apply hK;clear hK;(try clear K);(try dsimp only[ag,qs])
    refine ai ?_;simp(disch:=omega) only[go_sem,Nat.reduceBEq,reduceAdd]
    exact hv3
  by_cases hd0:d=0
  · refine uf rfl (fun K hK=>?_);(repeat (first |(refine wo rfl (fun k hk=>?_);simp(disch:=omega) only[go_sem,Nat.reduceBEq,reduceAdd];apply hk;clear hk k) |refine wkt rfl ?_));(try refine wk0 ?_);(first |refine hK _ _ ?_ |(clear hK;refine hK _ _ ?_) |(clear hK;clear hK;refine hK _ _ ?_));clear hK;(try clear K)
    refine mE rfl ?_
    (first |refine rg rfl rfl (fun K hK=>?_) |refine rd [.o 0,.o 1,.o 2,.o 3,.o 5,.o 4,.o 6,.o 7] rfl (by decide+kernel) rfl (fun K hK=>?_));(repeat (first |(refine wo rfl (fun k hk=>?_);simp(disch:=omega) only[go_sem,Nat.reduceBEq,reduceAdd];apply hk;clear hk k) |refine wkt rfl ?_));(try refine wk0 ?_)
    refine cN rfl rfl rfl rfl (by exact bQ (n:=1) (by decide)) ?_;rintro w1 h2 _ hw1;obtain⟨w1,w1_l,w1_c,rfl,hw1⟩:=hw1.sl;(repeat (first |(refine wo rfl (fun k hk=>?_);simp(disch:=omega) only[go_sem,Nat.reduceBEq,reduceAdd];apply hk;clear hk k) |refine wkt rfl ?_));(try refine wk0 ?_)
    (try (simp(disch:=omega) only[go_sem,Nat.reduceBEq,reduceAdd]));apply hK;clear hK;(try clear K);(try dsimp only[ag,qs])
    refine rest _ _ _ _ _ inferInstance (by rw[hd0];exact hw1) ?_
    simp(disch:=omega) only[go_sem,Nat.reduceBEq,reduceAdd]
  · refine uf rfl (fun K hK=>?_);(repeat (first |(refine wo rfl (fun k hk=>?_);simp(disch:=omega) only[go_sem,Nat.reduceBEq,reduceAdd];apply hk;clear hk k) |refine wkt rfl ?_));(try refine wk0 ?_);(first |refine hK _ _ ?_ |(clear hK;refine hK _ _ ?_) |(clear hK;clear hK;refine hK _ _ ?_));clear hK;(try clear K)
    refine je rfl ?_
    refine ac ?_;simp only[qs,qb,if_true,if_false,reduceIte]
    refine rest _ _ _ _ _ inferInstance (by rw[my hd0];exact hv1) ?_
    simp(disch:=omega) only[go_sem,Nat.reduceBEq,reduceAdd]
theorem cA {h0 h:PH} [Le h0 h] {v:Value} {x:Rat} (hx:Qr h0 v x) (bx:sz x≤2^36):Spec mach 58 #[v] h (fun v h'=>Cn h' v x) NP:=by
  obtain⟨na,nl,nc,da,dl,dc,e,rfl,hn,hd,he⟩:=hx.sl
  have b1:=bG x;have b2:=bB x
  have b3:bl e≤sz x:=by
    rcases Nat.eq_zero_or_pos e with h |h
    · subst h;have:bl 0=0:=by decide
      omega
    · rw[my (by omega)] at he;rw[he];exact b2
  have ln:=hn.len0
  obtain⟨neg,en⟩:∃b,decide (x.num < 0)=b:=⟨_,rfl⟩
  rw[en] at hx ⊢
  have hnn:neg=true→0 < nl:=by
    intro e1
    rw[e1,decide_eq_true_eq] at en
    rcases Nat.eq_zero_or_pos nl with h |h
    · have:=ln.1 h;omega
    · exact h
  refine Spec.enter (args:=[_]) (n:=24) Tryz.func58 rfl (by kernel_rfl) rfl (by simp) [.cell 2 24] rfl (fun C _=>?_)
  repeat (first |(refine rg rfl rfl (fun K hK=>?_);(repeat (first |(refine wo rfl (fun k hk=>?_);simp(disch:=omega) only[go_sem,Nat.reduceBEq,reduceAdd];apply hk;clear hk k) |refine wkt rfl ?_));(try refine wk0 ?_);apply hK;clear hK K;(try dsimp only[ag,qs,qb])) |((first |refine ae ?_ |refine ac ?_);simp(disch:=decide) only[qs,qb,if_true,if_false,reduceIte]) |refine ah rfl (fun K hK=>?_) |refine ct rfl ?_ |((first |refine hK _ _ ?_ |(clear hK;refine hK _ _ ?_) |(clear hK;clear hK;refine hK _ _ ?_));clear hK;(try clear K)))
  (first |refine AWP_t (.seg [.o 0,.o 1,.o 2,.o 3,.o 4,.o 5,.o 6,.o 7,.o 8,.o 9] (.alt 10 (.seg [.o 11] (.alt 12 (.alt 13 .done .no) .no)) (.alt 12 (.alt 10 (.seg [.o 11] (.alt 13 .done .no)) .no) .no))) (by decide+kernel) rfl (fun K hK=>?_) |refine mR (.seg [.o 0,.o 1,.o 2,.o 3,.o 4,.o 5,.o 6,.o 7,.o 8,.o 9] (.alt 10 (.seg [.o 11] (.alt 12 (.alt 13 .done .no) .no)) (.alt 12 (.alt 10 (.seg [.o 11] (.alt 13 .done .no)) .no) .no))) (by decide+kernel) rfl (fun K hK=>?_))
  have rest:∀(va:Option Addr) (vl vc:Nat) (h':PH) (S:AS),Le h0 h'→N32 h' (.slice va vl vc) x.num.natAbs→S.le ⟨[(1,.p 0 0),(2,.p 1 0),(3,.p 2 0)],[[.bool neg,.slice na nl nc,.slice da dl dc],[.bool false,.slice none 0 0,.slice none 0 0],[.bool neg,.slice va vl vc,.slice none 0 0]]⟩→K S h':=by
    intro va vl vc h' S _ hz hS
    refine hK _ _ (fq _ hS ?_);clear hK K
    refine oJ (fun K hK=>?_)
    refine rg rfl rfl (fun K hK=>?_);(repeat (first |(refine wo rfl (fun k hk=>?_);simp(disch:=omega) only[go_sem,Nat.reduceBEq,reduceAdd];apply hk;clear hk k) |refine wkt rfl ?_ |with_reducible refine wk0 ?_ |with_reducible refine ao ?_ |with_reducible refine aj ?_ wt_no |with_reducible refine ak ?_))
    refine cN rfl rfl rfl rfl (by exact sC hx) ?_;rintro v3 h3 s3 rfl;(repeat (first |(refine wo rfl (fun k hk=>?_);simp(disch:=omega) only[go_sem,Nat.reduceBEq,reduceAdd];apply hk;clear hk k) |refine wkt rfl ?_ |with_reducible refine wk0 ?_ |with_reducible refine ao ?_ |with_reducible refine aj ?_ wt_no |with_reducible refine ak ?_))
    by_cases h1:x.den=1
    · ((try (simp(disch:=omega) only[go_sem,Nat.reduceBEq,reduceAdd]));apply hK;clear hK;(try clear K);(try dsimp only[ag,qs]));(repeat (first |(refine rg rfl rfl (fun K hK=>?_);(repeat (first |(refine wo rfl (fun k hk=>?_);simp(disch:=omega) only[go_sem,Nat.reduceBEq,reduceAdd];apply hk;clear hk k) |refine wkt rfl ?_));(try refine wk0 ?_);apply hK;clear hK K;(try dsimp only[ag,qs,qb])) |((first |refine ae ?_ |refine ac ?_);simp(disch:=decide) only[qs,qb,if_true,if_false,reduceIte]) |refine ah rfl (fun K hK=>?_) |refine ct rfl ?_ |((first |refine hK _ _ ?_ |(clear hK;refine hK _ _ ?_) |(clear hK;clear hK;refine hK _ _ ?_));clear hK;(try clear K))))
      refine ai ?_;simp(disch:=omega) only[go_sem,Nat.reduceBEq,reduceAdd]
      exact⟨_,_,by rw[en],hz.to,by rw[if_pos h1];exact N32.zero _⟩
    · have e1:e=x.den:=by
        rw[←he] at h1 ⊢
        unfold dz at h1 ⊢
        split at h1
        · exact(h1 rfl).elim
        · rename_i h2;rw[if_neg h2]
      rw[e1] at hd b3
      ((try (simp(disch:=omega) only[go_sem,Nat.reduceBEq,reduceAdd]));apply hK;clear hK;(try clear K);(try dsimp only[ag,qs]));(repeat (first |(refine rg rfl rfl (fun K hK=>?_);(repeat (first |(refine wo rfl (fun k hk=>?_);simp(disch:=omega) only[go_sem,Nat.reduceBEq,reduceAdd];apply hk;clear hk k) |refine wkt rfl ?_));(try refine wk0 ?_);apply hK;clear hK K;(try dsimp only[ag,qs,qb])) |((first |refine ae ?_ |refine ac ?_);simp(disch:=decide) only[qs,qb,if_true,if_false,reduceIte]) |refine ah rfl (fun K hK=>?_) |refine ct rfl ?_ |((first |refine hK _ _ ?_ |(clear hK;refine hK _ _ ?_) |(clear hK;clear hK;refine hK _ _ ?_));clear hK;(try clear K))));(refine rg rfl rfl (fun K hK=>?_);(repeat (first |(refine wo rfl (fun k hk=>?_);simp(disch:=omega) only[go_sem,Nat.reduceBEq,reduceAdd];apply hk;clear hk k) |refine wkt rfl ?_ |with_reducible refine wk0 ?_ |with_reducible refine ao ?_ |with_reducible refine aj ?_ wt_no |with_reducible refine ak ?_)))
      refine cN rfl rfl rfl rfl (by exact oj hd (by omega)) ?_;rintro v4 h4 _ hv4;obtain⟨v4,v4_l,v4_c,rfl,hv4⟩:=hv4.sl;(repeat (first |(refine wo rfl (fun k hk=>?_);simp(disch:=omega) only[go_sem,Nat.reduceBEq,reduceAdd];apply hk;clear hk k) |refine wkt rfl ?_ |with_reducible refine wk0 ?_ |with_reducible refine ao ?_ |with_reducible refine aj ?_ wt_no |with_reducible refine ak ?_))
      ((try (simp(disch:=omega) only[go_sem,Nat.reduceBEq,reduceAdd]));apply hK;clear hK;(try clear K);(try dsimp only[ag,qs]));(repeat (first |(refine rg rfl rfl (fun K hK=>?_);(repeat (first |(refine wo rfl (fun k hk=>?_);simp(disch:=omega) only[go_sem,Nat.reduceBEq,reduceAdd];apply hk;clear hk k) |refine wkt rfl ?_));(try refine wk0 ?_);apply hK;clear hK K;(try dsimp only[ag,qs,qb])) |((first |refine ae ?_ |refine ac ?_);simp(disch:=decide) only[qs,qb,if_true,if_false,reduceIte]) |refine ah rfl (fun K hK=>?_) |refine ct rfl ?_ |((first |refine hK _ _ ?_ |(clear hK;refine hK _ _ ?_) |(clear hK;clear hK;refine hK _ _ ?_));clear hK;(try clear K))))
      refine ai ?_;simp(disch:=omega) only[go_sem,Nat.reduceBEq,reduceAdd]
      exact⟨_,_,by rw[en],hz.to,by rw[if_neg h1];exact hv4⟩
  cases neg with
  | true=>
    have hnn':=hnn rfl
    (repeat (first |(refine wo rfl (fun k hk=>?_);simp(disch:=omega) only[go_sem,Nat.reduceBEq,reduceAdd];apply hk;clear hk k) |refine wkt rfl ?_ |with_reducible refine wk0 ?_ |with_reducible refine ao ?_ |with_reducible refine aj ?_ wt_no |with_reducible refine ak ?_))
    refine aj ?_ (aj ?_ wt_no)
    · refine cN rfl rfl rfl rfl (by exact oj hn (by omega)) ?_;rintro v2 h2 _ hv2;obtain⟨v2,v2_l,v2_c,rfl,hv2⟩:=hv2.sl;(repeat (first |(refine wo rfl (fun k hk=>?_);simp(disch:=omega) only[go_sem,Nat.reduceBEq,reduceAdd];apply hk;clear hk k) |refine wkt rfl ?_ |with_reducible refine wk0 ?_ |with_reducible refine ao ?_ |with_reducible refine aj ?_ wt_no |with_reducible refine ak ?_))
      refine rest _ _ _ _ _ inferInstance hv2 ?_
      simp(disch:=omega) only[go_sem,Nat.reduceBEq,reduceAdd]
    · (repeat (first |(refine wo rfl (fun k hk=>?_);simp(disch:=omega) only[go_sem,Nat.reduceBEq,reduceAdd];apply hk;clear hk k) |refine wkt rfl ?_ |with_reducible refine wk0 ?_ |with_reducible refine ao ?_ |with_reducible refine aj ?_ wt_no |with_reducible refine ak ?_))
      refine cN rfl rfl rfl rfl (by exact oj hn (by omega)) ?_;rintro v2 h2 _ hv2;obtain⟨v2,v2_l,v2_c,rfl,hv2⟩:=hv2.sl;(repeat (first |(refine wo rfl (fun k hk=>?_);simp(disch:=omega) only[go_sem,Nat.reduceBEq,reduceAdd];apply hk;clear hk k) |refine wkt rfl ?_ |with_reducible refine wk0 ?_ |with_reducible refine ao ?_ |with_reducible refine aj ?_ wt_no |with_reducible refine ak ?_))
      refine rest _ _ _ _ _ inferInstance hv2 ?_
      simp(disch:=omega) only[go_sem,Nat.reduceBEq,reduceAdd]
  | false=>
    (repeat (first |(refine wo rfl (fun k hk=>?_);simp(disch:=omega) only[go_sem,Nat.reduceBEq,reduceAdd];apply hk;clear hk k) |refine wkt rfl ?_ |with_reducible refine wk0 ?_ |with_reducible refine ao ?_ |with_reducible refine aj ?_ wt_no |with_reducible refine ak ?_))
    refine aj ?_ (aj ?_ wt_no)
    · refine cN rfl rfl rfl rfl (by exact oj hn (by omega)) ?_;rintro v2 h2 _ hv2;obtain⟨v2,v2_l,v2_c,rfl,hv2⟩:=hv2.sl;(repeat (first |(refine wo rfl (fun k hk=>?_);simp(disch:=omega) only[go_sem,Nat.reduceBEq,reduceAdd];apply hk;clear hk k) |refine wkt rfl ?_ |with_reducible refine wk0 ?_ |with_reducible refine ao ?_ |with_reducible refine aj ?_ wt_no |with_reducible refine ak ?_))
      refine rest _ _ _ _ _ inferInstance hv2 ?_
      simp(disch:=omega) only[go_sem,Nat.reduceBEq,reduceAdd]
    · (repeat (first |(refine wo rfl (fun k hk=>?_);simp(disch:=omega) only[go_sem,Nat.reduceBEq,reduceAdd];apply hk;clear hk k) |refine wkt rfl ?_ |with_reducible refine wk0 ?_ |with_reducible refine ao ?_ |with_reducible refine aj ?_ wt_no |with_reducible refine ak ?_))
      refine cN rfl rfl rfl rfl (by exact oj hn (by omega)) ?_;rintro v2 h2 _ hv2;obtain⟨v2,v2_l,v2_c,rfl,hv2⟩:=hv2.sl;(repeat (first |(refine wo rfl (fun k hk=>?_);simp(disch:=omega) only[go_sem,Nat.reduceBEq,reduceAdd];apply hk;clear hk k) |refine wkt rfl ?_ |with_reducible refine wk0 ?_ |with_reducible refine ao ?_ |with_reducible refine aj ?_ wt_no |with_reducible refine ak ?_))
      refine rest _ _ _ _ _ inferInstance hv2 ?_
      simp(disch:=omega) only[go_sem,Nat.reduceBEq,reduceAdd]
theorem EN {n k:Nat}:(W 65536 n).length≤k↔bl n≤16*k:=by
  rw[bl_le,vO]
  refine⟨fun h=>?_,fun h=>cV (by decide) h⟩
  exact Nat.lt_of_lt_of_le (cW (by decide) n) (Nat.pow_le_pow_right (by decide) h)
theorem N16.len {h:PH} {a:Option Addr} {l c n k:Nat} (r:N16 h (.slice a l c) n):l≤k↔bl n≤16*k:=by
  obtain⟨a',c',h1,_⟩:=r
  cases h1
  exact EN
theorem bl_e {e d:Nat} (he:dz e=d):(bl e≤2048↔bl d≤2048)∧bl e≤bl d:=by
  unfold dz at he
  split at he
  · subst he;rename_i h;subst h;decide
  · subst he;exact⟨Iff.rfl,Nat.le_refl _⟩
theorem dh {h0 h:PH} [Le h0 h] {v:Value} {x:Rat} (hx:Qr h0 v x):Spec mach 69 #[v] h (fun v _=>v=.bool (decide (2048 < sz x))) NP:=by
  obtain⟨na,nl,nc,da,dl,dc,e,rfl,hn,hd,he⟩:=hx.sl
  have l1:=hn.len (k:=128)
  have l2:=hd.len (k:=128)
  have he':=bl_e he
  have hsz:sz x=max (bl x.num.natAbs) (bl x.den):=rfl
  refine Spec.go [] Tryz.func69 rfl rfl (by kernel_rfl) fun C _=>?_
  try simp(maxSteps:=999999) (disch:=omega) only[go_sem,Nat.reduceBEq,reduceAdd]
  by_cases h1:nl≤128
  · by_cases h2:dl≤128
    · have e1:¬2048 < sz x:=by omega
      try simp(maxSteps:=999999) (disch:=omega) only[go_sem,Nat.reduceBEq,reduceAdd]
      all_goals simp[e1]
    · have e1:2048 < sz x:=by omega
      try simp(maxSteps:=999999) (disch:=omega) only[go_sem,Nat.reduceBEq,reduceAdd]
      all_goals simp[e1]
  · have e1:2048 < sz x:=by omega
    try simp(maxSteps:=999999) (disch:=omega) only[go_sem,Nat.reduceBEq,reduceAdd]
    all_goals simp[e1]
theorem jJ {h0 h:PH} [Le h0 h] {v:Value} {neg:Bool} {n d:Nat} (hv:Rw h0 v neg n d):Spec mach 21 #[v] h (fun r _=>r=.bool (decide (lg neg n d))) NP:=by
  have hv0:=hv
  obtain⟨a,c,xs,a',c',ys,rfl,ha,ha',hn,hd,hsx,hsy⟩:=hv
  refine Spec.go [] Tryz.func21 rfl rfl (by kernel_rfl) fun C _=>?_
  try simp(maxSteps:=999999) (disch:=omega) only[go_sem,Nat.reduceBEq,reduceAdd]
  by_cases hb1:bl n≤8192
  · by_cases hb2:bl d≤8192
    · try simp(maxSteps:=999999) (disch:=omega) only[go_sem,Nat.reduceBEq,reduceAdd]
      refine caN (by exact jD ha rfl (by omega) hn) ?_;rintro v1 h1 s1 hv1;obtain⟨va1,vl1,vc1,rfl,hv1⟩:=hv1.sl;have e1:vl1≤512:=(hv1.len (k:=512)).2 (by omega)
      try simp(maxSteps:=999999) (disch:=omega) only[go_sem,Nat.reduceBEq,reduceAdd]
      refine caN (by exact jD ha' rfl (by omega) hd) ?_;rintro v2 h2 s2 hv2;obtain⟨va2,vl2,vc2,rfl,hv2⟩:=hv2.sl;have e2:vl2≤512:=(hv2.len (k:=512)).2 (by omega)
      try simp(maxSteps:=999999) (disch:=omega) only[go_sem,Nat.reduceBEq,reduceAdd]
      refine caN (by exact bM hv0) ?_;rintro _ h3 _ hv3;obtain⟨_,_,_,_,_,_,_,rfl,hv3⟩:=hv3.sa
      try simp(maxSteps:=999999) (disch:=omega) only[go_sem,Nat.reduceBEq,reduceAdd]
      refine caN (by exact dh hv3) ?_;rintro v4 h4 s4 rfl
      try simp(maxSteps:=999999) (disch:=omega) only[go_sem,Nat.reduceBEq,reduceAdd]
      have:lg neg n d↔2048 < sz (qof neg n d):=by unfold lg;omega
      simp[this]
    · have e3:lg neg n d:=by unfold lg;omega
      try simp(maxSteps:=999999) (disch:=omega) only[go_sem,Nat.reduceBEq,reduceAdd]
      refine caN (by exact jD ha rfl (by omega) hn) ?_;rintro v1 h1 s1 hv1;obtain⟨va1,vl1,vc1,rfl,hv1⟩:=hv1.sl;have e1:vl1≤512:=(hv1.len (k:=512)).2 (by omega)
      try simp(maxSteps:=999999) (disch:=omega) only[go_sem,Nat.reduceBEq,reduceAdd]
      refine caN (by exact jD ha' rfl (by omega) hd) ?_;rintro v2 h2 s2 hv2;obtain⟨va2,vl2,vc2,rfl,hv2⟩:=hv2.sl;have e2:¬vl2≤512:=fun e=>absurd ((hv2.len (k:=512)).1 e) (by omega)
      try simp(maxSteps:=999999) (disch:=omega) only[go_sem,Nat.reduceBEq,reduceAdd]
      all_goals simp[e3]
  · have e3:lg neg n d:=by unfold lg;omega
    try simp(maxSteps:=999999) (disch:=omega) only[go_sem,Nat.reduceBEq,reduceAdd]
    refine caN (by exact jD ha rfl (by omega) hn) ?_;rintro v1 h1 s1 hv1;obtain⟨va1,vl1,vc1,rfl,hv1⟩:=hv1.sl;have e1:¬vl1≤512:=fun e=>absurd ((hv1.len (k:=512)).1 e) (by omega)
    try simp(maxSteps:=999999) (disch:=omega) only[go_sem,Nat.reduceBEq,reduceAdd]
    all_goals simp[e3]
theorem bS {h0 h:PH} [Le h0 h] {v:Value} {x:Rat} (hx:Qr h0 v x):Spec mach 107 #[v] h (fun v _=>v=.int .i64 (sgn3 x)) NP:=by
  obtain⟨na,nl,nc,da,dl,dc,e,rfl,hn,hd,he⟩:=hx.sl
  have ln:=hn.len0
  refine Spec.go [] Tryz.func107 rfl rfl (by kernel_rfl) fun C _=>?_
  try simp(maxSteps:=999999) (disch:=omega) only[go_sem,Nat.reduceBEq,reduceAdd]
  by_cases h0:x.num=0
  · have e1:x=0:=Rat.num_eq_zero.1 h0
    try simp(maxSteps:=999999) (disch:=omega) only[go_sem,Nat.reduceBEq,reduceAdd]
    subst e1;simp[sgn3]
  · by_cases h1:x.num < 0
    · have e1:decide (x.num < 0)=true:=decide_eq_true h1
      try simp(maxSteps:=999999) (disch:=omega) only[go_sem,Nat.reduceBEq,reduceAdd,e1]
      rw[sgn3,if_pos (num_neg.1 h1)]
    · have e1:decide (x.num < 0)=false:=decide_eq_false h1
      have e2:0 < x.num:=by omega
      try simp(maxSteps:=999999) (disch:=omega) only[go_sem,Nat.reduceBEq,reduceAdd,e1]
      rw[sgn3,if_neg (fun h=>h1 (num_neg.2 h)),if_pos (num_pos.1 e2)]
theorem bK {h0 h:PH} [Le h0 h] {v:Value} {x:Rat} (hx:Qr h0 v x):Spec mach 137 #[v] h (fun v h'=>Qr h' v (-x)) NP:=by
  obtain⟨na,nl,nc,da,dl,dc,e,rfl,hn,hd,he⟩:=hx.sl
  have ln:=hn.len0
  have hn2:N16 h0 (.slice na nl nc) (-x).num.natAbs:=by simpa using hn
  refine Spec.go [] Tryz.func137 rfl rfl (by kernel_rfl) fun C _=>?_
  try simp(maxSteps:=999999) (disch:=omega) only[go_sem,Nat.reduceBEq,reduceAdd]
  by_cases h1:x.num < 0
  · have e1:decide (x.num < 0)=true:=decide_eq_true h1
    have e2:decide ((-x).num < 0)=false:=by rw[Rat.neg_num,decide_eq_false_iff_not];omega
    try simp(maxSteps:=999999) (disch:=omega) only[go_sem,Nat.reduceBEq,reduceAdd,e1]
    exact⟨_,_,e,by rw[e2],hn2.to,hd.to,he⟩
  · have e1:decide (x.num < 0)=false:=decide_eq_false h1
    by_cases h0:x.num=0
    · have e2:decide ((-x).num < 0)=false:=by rw[Rat.neg_num,decide_eq_false_iff_not];omega
      try simp(maxSteps:=999999) (disch:=omega) only[go_sem,Nat.reduceBEq,reduceAdd,e1]
      exact⟨_,_,e,by rw[e2],hn2.to,hd.to,he⟩
    · have e2:decide ((-x).num < 0)=true:=by rw[Rat.neg_num,decide_eq_true_eq];omega
      have e3:0 < nl:=by omega
      try simp(maxSteps:=999999) (disch:=omega) only[go_sem,Nat.reduceBEq,reduceAdd,e1]
      exact⟨_,_,e,by rw[e2],hn2.to,hd.to,he⟩
theorem aW {h0 h:PH} [Le h0 h] {v w:Value} {x y:Rat} (hx:Qr h0 v x) (hy:Qr h0 w y) (bx:sz x≤2^35) (by_:sz y≤2^35):
    Spec mach 193 #[v,w] h (fun v h'=>Qr h' v (x+y)) NP:=by
  have hx0:=hx
  have hy0:=hy
  obtain⟨na,nl,nc,da,dl,dc,e,rfl,hn,hd,he⟩:=hx.sl
  obtain⟨na',nl',nc',da',dl',dc',e',rfl,hn',hd',he'⟩:=hy.sl
  have b1:=bG x;have b2:=bB x;have b3:=bG y;have b4:=bB y
  have b5:=aG x.num.natAbs y.den
  have b6:=aG y.num.natAbs x.den
  have b7:=aG x.den y.den
  have b8:=cY (x.num.natAbs*y.den) (y.num.natAbs*x.den)
  have b9:=aR (Nat.sub_le (x.num.natAbs*y.den) (y.num.natAbs*x.den))
  have b10:=aR (Nat.sub_le (y.num.natAbs*x.den) (x.num.natAbs*y.den))
  obtain⟨n1,en1⟩:∃b,decide (x.num < 0)=b:=⟨_,rfl⟩
  obtain⟨n2,en2⟩:∃b,decide (y.num < 0)=b:=⟨_,rfl⟩
  rw[en1] at hx0 ⊢
  rw[en2] at hy0 ⊢
  refine Spec.go [(1,.o [0,1,2,5,6,7,3,4,8,9,10,11]),(2,.o [0,2,1,3,4,5]),(4,.o [0,1,2,3,5,4,6,7]),(6,.o [0,1,2,3,5,4,6,7]),(7,.o [0,1,2,3,5,4,6,7])] Tryz.func193 rfl rfl (by kernel_rfl) fun C _=>?_
  try simp(maxSteps:=999999) (disch:=omega) only[go_sem,Nat.reduceBEq,reduceAdd]
  refine caN (by exact dU hy0) ?_;rintro _ g1 _ hd1;obtain⟨_,_,_,rfl,hd1⟩:=hd1.sl
  try simp(maxSteps:=999999) (disch:=omega) only[go_sem,Nat.reduceBEq,reduceAdd]
  refine caN (by exact aV (hn.to (h':=g1)) hd1 (by omega) (by omega)) ?_;rintro _ h1 _ hv1;obtain⟨v1,_,_,rfl,hv1⟩:=hv1.sl
  try simp(maxSteps:=999999) (disch:=omega) only[go_sem,Nat.reduceBEq,reduceAdd]
  refine caN (by exact dU hx0) ?_;rintro _ g2 _ hd2;obtain⟨_,_,_,rfl,hd2⟩:=hd2.sl
  try simp(maxSteps:=999999) (disch:=omega) only[go_sem,Nat.reduceBEq,reduceAdd]
  refine caN (by exact aV (hn'.to (h':=g2)) hd2 (by omega) (by omega)) ?_;rintro _ h2 _ hv2;obtain⟨v2,_,_,rfl,hv2⟩:=hv2.sl
  try simp(maxSteps:=999999) (disch:=omega) only[go_sem,Nat.reduceBEq,reduceAdd]
  refine caN (by exact dU hx0) ?_;rintro _ g3 _ hd3;obtain⟨_,_,_,rfl,hd3⟩:=hd3.sl
  try simp(maxSteps:=999999) (disch:=omega) only[go_sem,Nat.reduceBEq,reduceAdd]
  refine caN (by exact dU hy0) ?_;rintro _ g4 _ hd4;obtain⟨_,_,_,rfl,hd4⟩:=hd4.sl
  try simp(maxSteps:=999999) (disch:=omega) only[go_sem,Nat.reduceBEq,reduceAdd]
  refine caN (by exact aV (hd3.to (h':=g4)) hd4 (by omega) (by omega)) ?_;rintro _ h3 _ hv3;obtain⟨v3,_,_,rfl,hv3⟩:=hv3.sl
  try simp(maxSteps:=999999) (disch:=omega) only[go_sem,Nat.reduceBEq,reduceAdd]
  by_cases hee:n1=n2
  · subst hee
    try simp(maxSteps:=999999) (disch:=omega) only[go_sem,Nat.reduceBEq,reduceAdd]
    refine caN (by exact nr (hv1.to (h':=h2)) hv2 (by omega) (by omega)) ?_;rintro _ h4 _ hv4;obtain⟨v4,_,_,rfl,hv4⟩:=hv4.sl
    try simp(maxSteps:=999999) (disch:=omega) only[go_sem,Nat.reduceBEq,reduceAdd]
    refine caN (by exact fQ (hv4.to (h':=h4)) hv3.to (by omega) (by omega)) ?_;rintro _ h5 _ hv5;obtain⟨_,_,_,_,_,_,_,rfl,hv5⟩:=hv5.sa
    try simp(maxSteps:=999999) (disch:=omega) only[go_sem,Nat.reduceBEq,reduceAdd]
    rw[DV en1 en2] at hv5
    exact hv5
  · have hb:(n1 == n2)=false:=by cases n1<;>cases n2<;>simp_all
    have hb':n2=!n1:=by cases n1<;>cases n2<;>simp_all
    try simp(maxSteps:=999999) (disch:=omega) only[go_sem,Nat.reduceBEq,reduceAdd,hb]
    refine caN (by exact eI (hv1.to (h':=h2)) hv2) ?_;rintro v4 h4 s4 rfl
    try simp(maxSteps:=999999) (disch:=omega) only[go_sem,Nat.reduceBEq,reduceAdd]
    by_cases hle:y.num.natAbs*x.den≤x.num.natAbs*y.den
    · have hc:0≤cmp3 (x.num.natAbs*y.den) (y.num.natAbs*x.den):=by simp only[cmp3,if_neg (Nat.not_lt.2 hle)];split<;>decide
      try simp(maxSteps:=999999) (disch:=omega) only[go_sem,Nat.reduceBEq,reduceAdd]
      refine caN (by exact lj (hv1.to (h':=h2)) hv2 hle (by omega)) ?_;rintro _ h5 _ hv5;obtain⟨v5,_,_,rfl,hv5⟩:=hv5.sl
      try simp(maxSteps:=999999) (disch:=omega) only[go_sem,Nat.reduceBEq,reduceAdd]
      refine caN (by exact fQ (hv5.to (h':=h5)) hv3.to (by omega) (by omega)) ?_;rintro _ h6 _ hv6;obtain⟨_,_,_,_,_,_,_,rfl,hv6⟩:=hv6.sa
      try simp(maxSteps:=999999) (disch:=omega) only[go_sem,Nat.reduceBEq,reduceAdd]
      rw[tP en1 (by rw[en2,hb']) hle] at hv6
      exact hv6
    · have hc:¬0≤cmp3 (x.num.natAbs*y.den) (y.num.natAbs*x.den):=by simp only[cmp3,if_pos (Nat.not_le.1 hle)];decide
      try simp(maxSteps:=999999) (disch:=omega) only[go_sem,Nat.reduceBEq,reduceAdd]
      refine caN (by exact lj (hv2.to (h':=h2)) (hv1.to (h':=h2)) (Nat.le_of_lt (Nat.not_le.1 hle)) (by omega)) ?_;rintro _ h5 _ hv5;obtain⟨v5,_,_,rfl,hv5⟩:=hv5.sl
      try simp(maxSteps:=999999) (disch:=omega) only[go_sem,Nat.reduceBEq,reduceAdd]
      refine caN (by exact fQ (hv5.to (h':=h5)) hv3.to (by omega) (by omega)) ?_;rintro _ h6 _ hv6;obtain⟨_,_,_,_,_,_,_,rfl,hv6⟩:=hv6.sa
      try simp(maxSteps:=999999) (disch:=omega) only[go_sem,Nat.reduceBEq,reduceAdd]
      rw[Nat.mul_comm x.den,tP en2 (by rw[en1,hb',Bool.not_not]) (Nat.le_of_lt (Nat.not_le.1 hle)),Rat.add_comm] at hv6
      exact hv6
theorem cR {h0 h:PH} [Le h0 h] {v w:Value} {x y:Rat} (hx:Qr h0 v x) (hy:Qr h0 w y) (bx:sz x≤2^35) (by_:sz y≤2^35):
    Spec mach 108 #[v,w] h (fun v h'=>Qr h' v (x - y)) NP:=by
  obtain⟨_,_,_,_,_,_,_,rfl,hx⟩:=hx.sa
  obtain⟨_,_,_,_,_,_,_,rfl,hy⟩:=hy.sa
  refine Spec.go [] Tryz.func108 rfl rfl (by kernel_rfl) fun C _=>?_
  try simp(maxSteps:=999999) (disch:=omega) only[go_sem,Nat.reduceBEq,reduceAdd]
  refine caN (by exact bK hy) ?_;rintro _ h1 _ hv1;obtain⟨_,_,_,_,_,_,_,rfl,hv1⟩:=hv1.sa
  try simp(maxSteps:=999999) (disch:=omega) only[go_sem,Nat.reduceBEq,reduceAdd]
  refine caN (by exact aW (hx.to (h':=h1)) hv1 bx (by rw[cz];exact by_)) ?_;rintro _ h2 _ hv2;obtain⟨_,_,_,_,_,_,_,rfl,hv2⟩:=hv2.sa
  try simp(maxSteps:=999999) (disch:=omega) only[go_sem,Nat.reduceBEq,reduceAdd]
  rw[Rat.sub_eq_add_neg];exact hv2
theorem BS (x y:Rat):sz (x - y)≤sz x+sz y+1:=by
  rw[Rat.sub_eq_add_neg]
  have:=dA x (-y)
  rw[cz] at this;exact this
theorem DR (x y:Rat):sgn3 (x - y)=cmpQ x y:=by
  unfold sgn3 cmpQ;grind
theorem av {h0 h:PH} [Le h0 h] {v w:Value} {x y:Rat} (hx:Qr h0 v x) (hy:Qr h0 w y) (bx:sz x≤2^34) (by_:sz y≤2^34):
    Spec mach 35 #[v,w] h (fun v _=>v=.int .i64 (cmpQ x y)) NP:=by
  obtain⟨_,_,_,_,_,_,_,rfl,hx⟩:=hx.sa
  obtain⟨_,_,_,_,_,_,_,rfl,hy⟩:=hy.sa
  refine Spec.go [] Tryz.func35 rfl rfl (by kernel_rfl) fun C _=>?_
  try simp(maxSteps:=999999) (disch:=omega) only[go_sem,Nat.reduceBEq,reduceAdd]
  refine caN (by exact cR hx hy (by omega) (by omega)) ?_;rintro _ h1 _ hv1;obtain⟨_,_,_,_,_,_,_,rfl,hv1⟩:=hv1.sa
  try simp(maxSteps:=999999) (disch:=omega) only[go_sem,Nat.reduceBEq,reduceAdd]
  refine caN (by exact bS hv1) ?_;rintro v2 h2 s2 rfl
  try simp(maxSteps:=999999) (disch:=omega) only[go_sem,Nat.reduceBEq,reduceAdd]
  rw[DR]
theorem yG (x:Rat) (k:Nat):(if decide (x.num < 0)=true then -((x.num.natAbs*k:Nat):Int) else ((x.num.natAbs*k:Nat):Int))=x.num*k:=by
  generalize x.num=a
  by_cases h:a < 0
  · obtain⟨m,rfl⟩:∃m:Nat,a= -(m:Int):=⟨a.natAbs,by omega⟩
    rw[decide_eq_true h,if_pos rfl];simp[Int.neg_mul]
  · obtain⟨m,rfl⟩:∃m:Nat,a=(m:Int):=⟨a.natAbs,by omega⟩
    rw[decide_eq_false h,if_neg (by simp)];simp
theorem JV (x:Rat) (p:Nat):sgn (decide (x.num < 0)) (x.num.natAbs*2^p) x.den=x*2^p:=by
  rw[scaled]
  unfold sgn
  rw[yG]
  congr 1
theorem D7 (p:Nat):(0:Rat) < 2^p:=Rat.pow_pos (by decide)
theorem DX (x:Rat) (p:Nat):sgn (decide (x.num < 0)) x.num.natAbs (x.den*2^p)=x / 2^p:=by
  have h2:(2^p:Nat)≠0:=Nat.ne_of_gt (Nat.pow_pos (by decide))
  have e:sgn (decide (x.num < 0)) x.num.natAbs (x.den*2^p)*2^p=x:=by
    unfold sgn
    have h1:=yG x 1
    simp only[Nat.mul_one] at h1
    rw[h1,show(2:Rat)^p=mkRat (2^p:Nat) 1 from by rw[Rat.mkRat_eq_div,Rat.div_def];simp[tp],Rat.mkRat_mul_mkRat]
    have:mkRat (x.num*((1:Nat):Int)*((2^p:Nat):Int)) (x.den*2^p*1)=mkRat x.num x.den:=by
      rw[Nat.mul_one]
      simp only[Int.natCast_one,Int.mul_one]
      exact Rat.mkRat_mul_right h2
    rw[this,Rat.mkRat_self]
  have hp:=D7 p
  have h3:=Rat.mul_div_cancel (a:=sgn (decide (x.num < 0)) x.num.natAbs (x.den*2^p)) (Rat.ne_of_gt hp)
  rw[e] at h3
  exact h3.symm
theorem sz_two (p:Nat):sz ((2:Rat)^p)≤p+1:=by
  unfold sz
  have h1:((2:Rat)^p).num.natAbs=2^p:=by simp[Int.natAbs_pow]
  have h2:((2:Rat)^p).den=1:=by simp
  rw[h1,h2]
  have:=bC p
  have h3:bl 1=1:=by decide
  omega
theorem yH (x:Rat) (p:Nat):sz (x*2^p)≤sz x+p+1:=by
  have:=bV x (2^p);have:=sz_two p;omega
theorem su (x:Rat) (p:Nat):sz (x / 2^p)≤sz x+p+1:=by
  rw[Rat.div_def]
  have:=bV x (2^p)⁻¹;have:=iQ ((2:Rat)^p);have:=sz_two p;omega
theorem sz_pos (x:Rat):1≤sz x:=by
  have h1:bl 1≤bl x.den:=aR (Nat.pos_of_ne_zero x.den_nz)
  have h2:bl 1=1:=by decide
  have:=bB x;omega
theorem FW (n:Int):sz (n:Rat)≤max (bl n.natAbs) 1:=by
  unfold sz
  rw[Rat.num_intCast,Rat.den_intCast,show bl 1=1 from by decide]
  exact Nat.le_refl _
theorem oz (x:Rat):sz (x.floor:Rat)≤sz x:=by
  have h1:=FW x.floor
  have h2:x.floor.natAbs≤x.num.natAbs:=by rw[Rat.floor_def];exact Int.natAbs_ediv_le_natAbs _ _
  have h3:=aR h2
  have:=bG x;have:=sz_pos x;omega
theorem ll {h0 h:PH} [Le h0 h] {v:Value} {x:Rat} {p:Nat} (hx:Qr h0 v x) (bx:sz x≤2^34) (hp:p≤2^34):
    Spec mach 209 #[v,.int .i64 p] h (fun v h'=>Qr h' v (x*2^p)) NP:=by
  have hx0:=hx
  obtain⟨na,nl,nc,da,dl,dc,e,rfl,hn,hd,he⟩:=hx.sl
  have b1:=bG x;have b2:=bB x;have b3:=cu x.num.natAbs p
  have hs:=JV x p
  obtain⟨n1,en1⟩:∃b,decide (x.num < 0)=b:=⟨_,rfl⟩
  rw[en1] at hx0 hs ⊢
  refine Spec.go [(2,.o [0,1,2,3,4,6,7,5,8,9,10]),(3,.o [0,1,2,3,4,6,5,7,8,9])] Tryz.func209 rfl rfl (by kernel_rfl) fun C _=>?_
  try simp(maxSteps:=999999) (disch:=omega) only[go_sem,Nat.reduceBEq,reduceAdd]
  refine caN (by exact gf (n:=p) hn (by omega)) ?_;rintro _ h1 _ hv1;obtain⟨_,_,_,rfl,hv1⟩:=hv1.sl
  try simp(maxSteps:=999999) (disch:=omega) only[go_sem,Nat.reduceBEq,reduceAdd]
  refine caN (by exact dU hx0) ?_;rintro _ h2 _ hv2;obtain⟨_,_,_,rfl,hv2⟩:=hv2.sl
  try simp(maxSteps:=999999) (disch:=omega) only[go_sem,Nat.reduceBEq,reduceAdd]
  refine caN (by exact fQ (neg:=n1) (hv1.to (h':=h2)) hv2 (by omega) (by omega)) ?_;rintro _ h3 _ hv3;obtain⟨_,_,_,_,_,_,_,rfl,hv3⟩:=hv3.sa
  try simp(maxSteps:=999999) (disch:=omega) only[go_sem,Nat.reduceBEq,reduceAdd]
  rw[hs] at hv3;exact hv3
theorem gI {h0 h:PH} [Le h0 h] {v:Value} {x:Rat} {p:Nat} {i:Int} (hx:Qr h0 v x) (hi:i= -(p:Int)) (bx:sz x≤2^34) (hp:p≤2^34):
    Spec mach 209 #[v,.int .i64 i] h (fun v h'=>Qr h' v (x / 2^p)) NP:=by
  by_cases h0':p=0
  · subst h0'
    have:i=((0:Nat):Int):=by omega
    subst this
    have e:x / 2^0=x*2^0:=by simp[Rat.div_def,tp]
    rw[e];exact ll hx bx (by decide)
  subst hi
  have hx0:=hx
  obtain⟨na,nl,nc,da,dl,dc,e,rfl,hn,hd,he⟩:=hx.sl
  have b1:=bG x;have b2:=bB x;have b3:=cu x.den p
  have hs:=DX x p
  obtain⟨n1,en1⟩:∃b,decide (x.num < 0)=b:=⟨_,rfl⟩
  rw[en1] at hx0 hs ⊢
  have e1:IntKind.i64.wrap (0 - -(p:Int))=(p:Int):=by rw[wi64 (by omega) (by omega)];omega
  refine Spec.go [(2,.o [0,1,2,3,4,6,7,5,8,9,10]),(3,.o [0,1,2,3,4,6,5,7,8,9])] Tryz.func209 rfl rfl (by kernel_rfl) fun C _=>?_
  try simp(maxSteps:=999999) (disch:=omega) only[go_sem,Nat.reduceBEq,reduceAdd,e1]
  refine caN (by exact dU hx0) ?_;rintro v2 h2 s2 hv2;obtain⟨va2,vl2,vc2,rfl,hv2⟩:=hv2.sl
  try simp(maxSteps:=999999) (disch:=omega) only[go_sem,Nat.reduceBEq,reduceAdd,e1]
  refine caN (by exact gf (n:=p) hv2 (by omega)) ?_;rintro _ h1 _ hv1;obtain⟨_,_,_,rfl,hv1⟩:=hv1.sl
  try simp(maxSteps:=999999) (disch:=omega) only[go_sem,Nat.reduceBEq,reduceAdd]
  refine caN (by exact fQ (neg:=n1) (hn.to (h':=h1)) hv1 (by omega) (by omega)) ?_;rintro _ h3 _ hv3;obtain⟨_,_,_,_,_,_,_,rfl,hv3⟩:=hv3.sa
  try simp(maxSteps:=999999) (disch:=omega) only[go_sem,Nat.reduceBEq,reduceAdd]
  rw[hs] at hv3;exact hv3
theorem Jd (x:Rat):sgn (decide (x.num < 0)) (x.num.natAbs / x.den+(if decide (x.num < 0)=true∧x.num.natAbs % x.den≠0 then 1 else 0)) 1=(x.floor:Rat):=by
  rw[tQ,Rat.floor_def]
  have hd:=x.den_nz
  congr 1
  generalize x.num=a at*
  generalize x.den=d at*
  by_cases h:a < 0
  · obtain⟨m,rfl⟩:∃m:Nat,a= -(m:Int):=⟨a.natAbs,by omega⟩
    rw[decide_eq_true h,yj m hd]
    simp only[Int.natAbs_neg,Int.natAbs_natCast,if_true]
    by_cases hr:m % d=0<;>simp[hr]
  · obtain⟨m,rfl⟩:∃m:Nat,a=(m:Int):=⟨a.natAbs,by omega⟩
    rw[decide_eq_false h]
    simp
theorem ko {h0 h:PH} [Le h0 h] {v:Value} {x:Rat} (hx:Qr h0 v x) (bx:sz x≤2^35):
    Spec mach 219 #[v] h (fun v h'=>Qr h' v (x.floor:Rat)) NP:=by
  have hx0:=hx
  obtain⟨na,nl,nc,da,dl,dc,e,rfl,hn,hd,he⟩:=hx.sl
  have b1:=bG x;have b2:=bB x
  have b3:=aZ x.num.natAbs x.den
  have b4:=cY (x.num.natAbs / x.den) 1
  have b5:=fI
  have hs:=Jd x
  obtain⟨neg,en⟩:∃b,decide (x.num < 0)=b:=⟨_,rfl⟩
  rw[en] at hx0 hs ⊢
  refine Spec.enter (args:=[_]) (n:=28) Tryz.func219 rfl (by kernel_rfl) rfl (by simp) [.cell 2 28] rfl (fun C _=>?_)
  repeat (first |(refine wo rfl (fun k hk=>?_);simp(disch:=omega) only[go_sem,Nat.reduceBEq,reduceAdd];apply hk;clear hk k) |refine wkt rfl ?_ |refine wk0 ?_ |refine rg rfl rfl (fun K hK=>?_) |refine rd [.o 0,.o 1,.o 2,.o 3,.o 4,.o 5,.o 6,.o 7,.o 8,.o 9] rfl (by decide+kernel) rfl (fun K hK=>?_) |refine rd [.o 0,.o 1,.o 2,.o 3,.o 4,.o 5] rfl (by decide+kernel) rfl (fun K hK=>?_) |((first |refine ae ?_ |refine ac ?_);simp(disch:=decide) only[qs,qb,if_true,if_false,reduceIte]) |refine ah rfl (fun K hK=>?_) |refine ct rfl ?_ |((try simp(disch:=omega) only[go_sem,Nat.reduceBEq,reduceAdd]);(first |apply hK |(clear hK;apply hK) |(clear hK;clear hK;apply hK));clear hK;(try clear K);(try dsimp only[ag,qs,qb])))
  refine cN rfl rfl rfl rfl (by exact dU hx0) ?_;rintro d1 g1 _ hd1;obtain⟨d1,d1_l,d1_c,rfl,hd1⟩:=hd1.sl;(repeat (first |(refine wo rfl (fun k hk=>?_);simp(disch:=omega) only[go_sem,Nat.reduceBEq,reduceAdd];apply hk;clear hk k) |refine wkt rfl ?_));(try refine wk0 ?_)
  refine cN rfl rfl rfl rfl (by exact dJ (hn.to (h':=g1)) hd1 x.den_nz (by omega) (by omega)) ?_;rintro v2 h2 s2 ⟨q,r,rfl,hq,hr⟩;(repeat (first |(refine wo rfl (fun k hk=>?_);simp(disch:=omega) only[go_sem,Nat.reduceBEq,reduceAdd];apply hk;clear hk k) |refine wkt rfl ?_));(try refine wk0 ?_)
  obtain⟨qa,ql,qc,rfl,hq⟩:=hq.sl
  obtain⟨ra,rl,rc,rfl,hr⟩:=hr.sl
  have lr:=hr.len0
  (try (simp(disch:=omega) only[go_sem,Nat.reduceBEq,reduceAdd]));apply hK;clear hK;(try clear K);(try dsimp only[ag,qs])
  refine oJ (fun K hK=>?_)
  have rest:∀(v:Value) (q':Nat) (S:AS) (h:PH),Le h0 h→N16 h v q'→bl q'≤2^37→sgn neg q' 1=(x.floor:Rat)→S.le ⟨[(1,.p 0 0),(2,.p 1 0),(3,.v v)],[[.bool neg,.slice na nl nc,.slice da dl dc],[.bool false,.slice none 0 0,.slice none 0 0]]⟩→K S h:=by
    intro v q' S h _ hv bq hs hS
    refine hK _ _ (fq _ hS ?_);clear hK K
    obtain⟨va,vl,vc,rfl,hv⟩:=hv.sl
    (first |refine rg rfl rfl (fun K hK=>?_) |refine rd [.o 0,.o 1,.o 2,.o 3,.o 4,.o 5,.o 6,.o 7,.o 8,.o 9] rfl (by decide+kernel) rfl (fun K hK=>?_) |refine rd [.o 0,.o 1,.o 2,.o 3,.o 4,.o 5] rfl (by decide+kernel) rfl (fun K hK=>?_));(repeat (first |(refine wo rfl (fun k hk=>?_);simp(disch:=omega) only[go_sem,Nat.reduceBEq,reduceAdd];apply hk;clear hk k) |refine wkt rfl ?_));(try refine wk0 ?_)
    refine cN rfl rfl rfl rfl (by exact bQ (n:=1) (by decide)) ?_;rintro w1 h3 _ hw1;obtain⟨w1,w1_l,w1_c,rfl,hw1⟩:=hw1.sl;(repeat (first |(refine wo rfl (fun k hk=>?_);simp(disch:=omega) only[go_sem,Nat.reduceBEq,reduceAdd];apply hk;clear hk k) |refine wkt rfl ?_));(try refine wk0 ?_)
    refine cN rfl rfl rfl rfl (by exact fQ (neg:=neg) (hv.to (h':=h3)) hw1 (by omega) (by decide)) ?_;rintro w3 h5 _ hw3;obtain⟨w3_0,w3_1,w3_2,w3_3,w3_4,w3_5,w3_6,rfl,hw3⟩:=hw3.sa;(repeat (first |(refine wo rfl (fun k hk=>?_);simp(disch:=omega) only[go_sem,Nat.reduceBEq,reduceAdd];apply hk;clear hk k) |refine wkt rfl ?_));(try refine wk0 ?_)
    (try (simp(disch:=omega) only[go_sem,Nat.reduceBEq,reduceAdd]));apply hK;clear hK;(try clear K);(try dsimp only[ag,qs])
    refine ai ?_;simp(disch:=omega) only[go_sem,Nat.reduceBEq,reduceAdd]
    rw[hs] at hw3
    exact hw3
  cases neg with
  | false=>
    rw[if_neg (by simp),Nat.add_zero] at hs
    refine uf rfl (fun K hK=>?_);(repeat (first |(refine wo rfl (fun k hk=>?_);simp(disch:=omega) only[go_sem,Nat.reduceBEq,reduceAdd];apply hk;clear hk k) |refine wkt rfl ?_));(try refine wk0 ?_);(first |refine hK _ _ ?_ |(clear hK;refine hK _ _ ?_) |(clear hK;clear hK;refine hK _ _ ?_));clear hK;(try clear K)
    refine je rfl ?_
    refine ac ?_;simp only[qs,qb,if_true,if_false,reduceIte]
    refine rest _ _ _ _ inferInstance hq (by omega) hs ?_
    simp(disch:=omega) only[go_sem,Nat.reduceBEq,reduceAdd]
  | true=>
    by_cases hr0:x.num.natAbs % x.den=0
    · rw[if_neg (by simp[hr0]),Nat.add_zero] at hs
      refine uf rfl (fun K hK=>?_);(repeat (first |(refine wo rfl (fun k hk=>?_);simp(disch:=omega) only[go_sem,Nat.reduceBEq,reduceAdd];apply hk;clear hk k) |refine wkt rfl ?_));(try refine wk0 ?_);(first |refine hK _ _ ?_ |(clear hK;refine hK _ _ ?_) |(clear hK;clear hK;refine hK _ _ ?_));clear hK;(try clear K)
      refine je rfl ?_
      refine ac ?_;simp only[qs,qb,if_true,if_false,reduceIte]
      refine rest _ _ _ _ inferInstance hq (by omega) hs ?_
      simp(disch:=omega) only[go_sem,Nat.reduceBEq,reduceAdd]
    · rw[if_pos ⟨rfl,hr0⟩] at hs
      have e3:0 < rl:=by omega
      refine uf rfl (fun K hK=>?_);(repeat (first |(refine wo rfl (fun k hk=>?_);simp(disch:=omega) only[go_sem,Nat.reduceBEq,reduceAdd];apply hk;clear hk k) |refine wkt rfl ?_));(try refine wk0 ?_);(first |refine hK _ _ ?_ |(clear hK;refine hK _ _ ?_) |(clear hK;clear hK;refine hK _ _ ?_));clear hK;(try clear K)
      refine mE rfl ?_
      (first |refine rg rfl rfl (fun K hK=>?_) |refine rd [.o 0,.o 1,.o 2,.o 3,.o 4,.o 5,.o 6,.o 7,.o 8,.o 9] rfl (by decide+kernel) rfl (fun K hK=>?_) |refine rd [.o 0,.o 1,.o 2,.o 3,.o 4,.o 5] rfl (by decide+kernel) rfl (fun K hK=>?_));(repeat (first |(refine wo rfl (fun k hk=>?_);simp(disch:=omega) only[go_sem,Nat.reduceBEq,reduceAdd];apply hk;clear hk k) |refine wkt rfl ?_));(try refine wk0 ?_)
      refine cN rfl rfl rfl rfl (by exact bQ (n:=1) (by decide)) ?_;rintro w1 h4 _ hw1;obtain⟨w1,w1_l,w1_c,rfl,hw1⟩:=hw1.sl;(repeat (first |(refine wo rfl (fun k hk=>?_);simp(disch:=omega) only[go_sem,Nat.reduceBEq,reduceAdd];apply hk;clear hk k) |refine wkt rfl ?_));(try refine wk0 ?_)
      refine cN rfl rfl rfl rfl (by exact nr (hq.to (h':=h4)) hw1 (by omega) (by decide)) ?_;rintro w2 h5 _ hw2;obtain⟨w2,w2_l,w2_c,rfl,hw2⟩:=hw2.sl;(repeat (first |(refine wo rfl (fun k hk=>?_);simp(disch:=omega) only[go_sem,Nat.reduceBEq,reduceAdd];apply hk;clear hk k) |refine wkt rfl ?_));(try refine wk0 ?_)
      (try (simp(disch:=omega) only[go_sem,Nat.reduceBEq,reduceAdd]));apply hK;clear hK;(try clear K);(try dsimp only[ag,qs])
      refine rest _ _ _ _ inferInstance hw2 (by omega) hs ?_
      simp(disch:=omega) only[go_sem,Nat.reduceBEq,reduceAdd]
end Go.Q
