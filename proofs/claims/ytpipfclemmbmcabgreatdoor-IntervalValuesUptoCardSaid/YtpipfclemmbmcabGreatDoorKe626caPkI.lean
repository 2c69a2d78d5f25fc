/-
  Contracts of the reference's natural numbers, and what stands on it. Conditions: each theorem's own.
-/
import Derived.Test.YtpipfclemmbmcabGreatDoorK3aad23PkF
import Derived.Test.YtpipfclemmbmcabGreatDoorKe53bf2PkH
import Derived.Test.YtpipfclemmbmcabGreatDoorK1890eePkC
set_option linter.unusedVariables false
set_option linter.unusedSimpArgs false
open Nat renaming reduceBEq→ξ,reduceAdd→ζ,le_trans→χ,mul_le_mul_right→ψ,le_refl→η,mul_comm→ρ,pos_of_ne_zero→τ,mul_le_mul_left→ω,mul_assoc→σ,mul_le_mul→qAk,mul_add→qAm,pow_succ→qAn,pow_pos→qAo,pow_add→qAs,pow_le_pow_right→qAv,mul_one→qAz,mul_left_comm→qBg,zero_le→qBh,mod_lt→qBl,one_mul→qBm
open List renaming length_append→qAp,take_of_length_le→qAr
open Rat renaming le_trans→qAq,div_def→qAx,le_refl→qBk
namespace Go.Q
open Go.Proofs
set_option maxRecDepth 100000
theorem HE {x r cy:Nat} (hc:cy < 2^r):x*2^r ||| cy=x*2^r+cy:=by
 rw[Nat.or_comm,ρ,FD hc,Nat.add_comm]
theorem yE {V P cy X Q R p x s:Nat} (hi:V+P*cy=Q*(R*X)) (hs:s=x*R+cy) (hP:P=Q*p):V+P*(s % 65536)+P*65536*(s / 65536)=Q*(R*(X+p*x)):=by
 have h1:=dm P 65536 s
 have h2:P*s=Q*(R*(p*x))+P*cy:=by rw[hs,qAm,hP];simp only[σ,ρ,qBg]
 rw[qAm R,qAm Q]
 omega
theorem vO (k:Nat):2^(16*k)=65536^k:=by
 rw[Nat.pow_mul,show(2:Nat)^16=65536 from by decide]
theorem app_of {h0 h:PH} [Le h0 h] {S:AS} {b c:Nat} {a:Option Addr} {xs:List Nat} {k:AS→PH→AV→Prop} {x:AV} (ha:Arr h0 a c xs) (hk:appB S h b xs.length (uw xs) k x):appP S h b a xs.length k x:=
 ⟨uw xs,uw_length xs,fun hne=>ha.cells h hne,uw_one xs,hk⟩
theorem rep1 (y:Nat):(List.replicate 1 0).set 0 y=[y]:=rfl
theorem gf {h0 h:PH} [Le h0 h] {v:Value} {m n:Nat} (hv:N16 h0 v m) (bm:bl m+n≤2^40):Spec mach 202 #[v,.int .i64 n] h (fun v h'=>N16 h' v (m*2^n)) NP:=by
 obtain⟨a,c,xs,rfl,ha,hxs,hm,hx16⟩:=hv.out
 have hs:xs.length+n≤2^40:=by have:=cr m;rw[hxs] at this;omega
 refine Spec.go [(2,.t (.s [0,1,2] (.p 1 (.s [3] .d)))),(12,.t (.s [0,1,2,3] (.p 2 (.s [4,5] .d))))] Tryz.func202 rfl rfl (by kernel_rfl) fun C _=>?_
 try simp(maxSteps:=999999) (disch:=omega) only[go_sem,ξ,ζ]
 by_cases hz:xs.length=0∨n=0
 ·have e0:m*2^n=m:=by
   rcases hz with hz |hz
   ·rw[←hm,List.eq_nil_of_length_eq_zero hz];simp[val]
   ·rw[hz,Nat.pow_zero,qAz]
  rw[e0]
  rcases(show xs.length=0∨¬xs.length=0∧n=0 by omega) with hz1 |⟨hz1,rfl⟩<;>
  ·try simp(maxSteps:=999999) (disch:=omega) only[go_sem,ξ,ζ]
   refine app_of ha ?_
   try simp(maxSteps:=999999) (disch:=omega) only[go_sem,ξ,ζ]
   intro junk
   try simp(maxSteps:=999999) (disch:=omega) only[go_sem,ξ,ζ]
   intro b h1 hs1 hb
   try simp(maxSteps:=999999) (disch:=omega) only[go_sem,ξ,ζ]
   exact N16.of_pub (ds:=xs) (junk:=junk) hb hxs (by omega) rfl (by omega)
 ·have hx0:¬xs.length=0:=fun e=>hz (.inl e)
  have hn0:¬n=0:=fun e=>hz (.inr e)
  have hp:2^(n % 16)≤32768:=qAv (show 0 < 2 by omega) (show n % 16≤15 by omega)
  have hp0:0 < 2^(n % 16):=qAo (by omega)
  have hrep:uw (List.replicate (n / 16+xs.length+1) 0)=uw (List.replicate (n / 16) 0) ++uw (List.replicate (xs.length+1) 0):=by
   rw[←rj,List.replicate_append_replicate,Nat.add_assoc]
  try simp(maxSteps:=999999) (disch:=omega) only[go_sem,ξ,ζ]
  refine lpSl [(2,.t (.s [0,1,2] (.p 1 (.s [3] .d))))] (fun x:Nat×List Nat×List Value×Nat=>⟨[(1,.v (.int .i64 n)),(5,.s 0 0 x.2.1.length (x.2.1.length+x.2.2.1.length)),(6,.v (.int .u32 x.2.2.2)),(29,.v (.slice a xs.length c)),(30,.v (.int .i64 xs.length)),(31,.v (.int .i64 x.1))],[uw x.2.1 ++x.2.2.1]⟩) (fun x h'=>Le h0 h'∧x.1≤xs.length∧x.2.1.length=n / 16+x.1∧(∀d∈x.2.1,d < 65536)∧x.2.2.2 < 2^(n % 16)∧val 65536 x.2.1+65536^x.2.1.length*x.2.2.2=65536^(n / 16)*(2^(n % 16)*val 65536 (xs.take x.1))) (fun x=>xs.length - x.1) (0,List.replicate (n / 16) 0,uw (List.replicate (xs.length+1) 0),0) [0] ?_ ⟨inferInstance,by simp,by simp,gG (by decide),hp0,by simp[val,mO]⟩ (by kernel_rfl) ?_
  ·try simp(maxSteps:=999999) (disch:=omega) only[go_sem,ξ,ζ,hrep,←Nat.add_assoc]
  ·rintro⟨i,ds,jk,cy⟩ h1 ⟨hle,hk,hdl,hlt,hcy,hi⟩
   dsimp only at hk hdl hlt hcy hi ⊢
   by_cases hkl:i < xs.length
   ·obtain⟨ad,rfl,hat⟩:=ha.rd h1 (i:=i) (by omega)
    have hx:=aM (by decide) hx16 i
    have hb:xs.getD i 0*2^(n % 16)≤65535*32768:=qAk (by omega) hp
    have hor:=HE (x:=xs.getD i 0) hcy
    try simp(maxSteps:=999999) (disch:=omega) only[go_sem,ξ,ζ]
    refine aE hat ?_
    try simp(maxSteps:=999999) (disch:=omega) only[go_sem,ξ,ζ,hor,rep1,uw_one]
    intro junk
    try simp(maxSteps:=999999) (disch:=omega) only[go_sem,ξ,ζ]
    dsimp only[lpS];refine⟨(i+1,ds ++[(xs.getD i 0*2^(n % 16)+cy) % 65536],junk,(xs.getD i 0*2^(n % 16)+cy) / 65536),[2],?_,⟨hle,by dsimp only;omega,by simp;omega,gS hlt (qBl _ (by decide)),?_,?_⟩,by simp;omega⟩
    ·try simp(maxSteps:=999999) (disch:=omega) only[go_sem,ξ,ζ,fB]
    ·dsimp only
     apply Nat.div_lt_of_lt_mul
     have:=ψ (2^(n % 16)) (show xs.getD i 0+1≤65536 by omega)
     rw[Nat.add_mul] at this
     omega
    ·simp only[qAp,List.length_singleton]
     rw[fj,aq _ xs,qAn]
     refine yE hi rfl ?_
     rw[hdl,qAs]
   ·have hkl':i=xs.length:=by omega
    subst hkl'
    rw[qAr (η _),hm] at hi
    have hval:val 65536 (ds ++[cy])=m*2^n:=by
     rw[fj,hi,←vO,←σ,←qAs,Nat.div_add_mod,ρ]
    have hlt':=gS hlt (show cy < 65536 by omega)
    try simp(maxSteps:=999999) (disch:=omega) only[go_sem,ξ,ζ,rep1,uw_one]
    intro junk
    try simp(maxSteps:=999999) (disch:=omega) only[go_sem,ξ,ζ]
    intro b h2 hs2 hb
    try simp(maxSteps:=999999) (disch:=omega) only[go_sem,ξ,ζ]
    simp only[fB] at hb
    have hA:Arr h2 (some ⟨b,0,none⟩) (ds.length+1+junk.length) (ds ++[cy]):=.of_app hb hlt' (by simp;omega) (by simp)
    refine caN (by exact nY hA hlt' (by simp)) ?_;rintro _ h3 _ hv3;obtain⟨_,_,_,rfl,hv3⟩:=hv3.sl
    try simp(maxSteps:=999999) (disch:=omega) only[go_sem,ξ,ζ]
    rwa[hval] at hv3
theorem addr_add (a:Addr) (j k:Nat):(a.add j).add k=a.add (j+k):=by
 unfold Addr.add
 by_cases h1:j=0<;>by_cases h2:k=0<;>simp[h1,h2,Nat.add_assoc]
theorem Arr.drop {h:PH} {ad:Addr} {c:Nat} {xs:List Nat} (r:Arr h (some ad) c xs) (k:Nat) (hk:k≤xs.length):Arr h (some (ad.add k)) (c - k) (xs.drop k):=
 ⟨by have:=r.cap;simp;omega,by have:=r.small;simp;omega,fun x hx=>r.lt x (List.mem_of_mem_drop hx),fun i x hx=>⟨_,rfl,by
  rw[List.getElem?_drop] at hx
  obtain⟨ad',h1,h2⟩:=r.at_ _ _ hx
  cases h1
  rw[←h2,addr_add]⟩⟩
set_option maxHeartbeats 4000000
attribute [go_sem] Int.neg_zero
@[go_sem] theorem uw_getj {rs:List Nat} {jk:List Value} {k:Nat} (hk:k < rs.length):(uw rs ++jk)[k]?=some (.int .u32 (rs.getD k 0:Nat)):=by
 rw[List.getElem?_append_left (by simpa[uw] using hk),yL hk]
@[go_sem] theorem ldb_uwj {rs:List Nat} {jk:List Value} {k:Nat} (hk:k < rs.length):ldb none (uw rs ++jk) k=some (.int .u32 (rs.getD k 0:Nat)):=by
 simp only[ldb]
 rw[List.getElem?_append_left (by simpa[uw] using hk),yL hk]
@[go_sem] theorem spl_uwj {rs:List Nat} {jk:List Value} {k d:Nat} (hk:k < rs.length):spl (uw rs ++jk) k (uw [d])=uw (rs.set k d) ++jk:=by
 rw[←F9]
 simp only[spl,uw,List.map_cons,List.map_nil]
 rw[List.set_append_left _ _ (by simpa using hk)]

def Qr (h:PH) (v:Value) (x:Rat):Prop:=∃sn sd e,v=.agg #[.bool (decide (x.num < 0)),sn,sd]∧N16 h sn x.num.natAbs∧N16 h sd e∧dz e=x.den
theorem Qr.to {h h':PH} {v:Value} {x:Rat} (r:Qr h v x) [Le h h']:Qr h' v x:=let ⟨a,b,e,h1,h2,h3,h4⟩:=r;⟨a,b,e,h1,h2.to,h3.to,h4⟩
theorem Qr.sl {h:PH} {v:Value} {x:Rat} (r:Qr h v x):∃na nl nc da dl dc e,v=.agg #[.bool (decide (x.num < 0)),.slice na nl nc,.slice da dl dc]∧N16 h (.slice na nl nc) x.num.natAbs∧N16 h (.slice da dl dc) e∧dz e=x.den:=by
 obtain⟨sn,sd,e,rfl,h2,h3,h4⟩:=r
 obtain⟨na,nl,nc,rfl,h2⟩:=h2.sl
 obtain⟨da,dl,dc,rfl,h3⟩:=h3.sl
 exact⟨_,_,_,_,_,_,e,rfl,h2,h3,h4⟩
theorem Qr.sa {h:PH} {v:Value} {x:Rat} (r:Qr h v x):∃b na nl nc da dl dc,v=.agg #[.bool b,.slice na nl nc,.slice da dl dc]∧Qr h (.agg #[.bool b,.slice na nl nc,.slice da dl dc]) x:=by
 obtain⟨_,_,_,_,_,_,_,rfl,_⟩:=r.sl
 exact⟨_,_,_,_,_,_,_,rfl,r⟩
theorem my {d:Nat} (h:d≠0):dz d=d:=by unfold dz;rw[if_neg h]
theorem Qr.of {h:PH} {neg:Bool} {n d:Nat} {sn sd:Value} {x:Rat} (hn:N16 h sn n) (hd:N16 h sd d) (h0:n≠0) (hd0:d≠0) (hc:Nat.gcd n d=1) (hx:x=sgn neg n d):Qr h (.agg #[.bool neg,sn,sd]) x:=by
 obtain⟨h1,h2⟩:=rf (neg:=neg) hd0 hc
 rw[←hx] at h1 h2
 refine⟨sn,sd,d,?_,?_,hd,by rw[h2,my hd0]⟩
 ·have:decide (x.num < 0)=neg:=by rw[h1];cases neg<;>simp<;>omega
  rw[this]
 ·have:x.num.natAbs=n:=by rw[h1];cases neg<;>simp
  rw[this];exact hn
theorem Qr.zero {h:PH} {sd:Value} {e:Nat} (hd:N16 h sd e) (he:dz e=1):Qr h (.agg #[.bool false,.slice none 0 0,sd]) 0:=⟨.slice none 0 0,sd,e,by simp,by simpa using N16.zero h,hd,by simpa using he⟩
theorem Qr.none (h:PH):Qr h (.agg #[.bool false,.slice none 0 0,.slice none 0 0]) 0:=Qr.zero (N16.zero h) (by simp[dz])
theorem N16.len0 {h:PH} {a:Option Addr} {l c n:Nat} (r:N16 h (.slice a l c) n):l=0↔n=0:=by
 obtain⟨a',c',h1,_⟩:=r
 cases h1
 exact nP B16
theorem Ai {h0 h:PH} [Le h0 h] {neg:Bool} {v w:Value} {n:Nat} (hv:N16 h0 v n) (hw:N16 h0 w 1) (bn:bl n≤2^38):
  Spec mach 85 #[.bool neg,v,w] h (fun v h'=>Qr h' v (sgn neg n 1)) NP:=by
 obtain⟨va,vc,xs,rfl,hva,hxs,hxm,hx16⟩:=hv.out
 obtain⟨wa,wc,ys,rfl,hwa,hys,hym,hy16⟩:=hw.out
 have lv:=hv.len0
 have sx:xs.length≤2^38:=by have:=cr n;rw[hxs] at this;omega
 have hl:ys.length=1:=by rw[←hys,W_one B16];rfl
 obtain⟨ad,rfl,hat⟩:=hwa.rd0 h (by omega)
 have e1:ys.getD 0 0=1:=by rw[←hys,W_one B16];rfl
 rw[e1,nc1] at hat
 refine Spec.enter (args:=[_,_,_]) (n:=56) Tryz.func85 rfl (by kernel_rfl) rfl (by simp) [.cell 6 58] rfl (fun C _=>?_)
 by_cases hn:n=0
 ·rw[hn,ov]
  repeat (first |(refine wo rfl (fun k hk=>?_);simp(disch:=omega) only[go_sem,ξ,ζ];apply hk;clear hk k) |refine wkt rfl ?_ |refine wk0 ?_ |refine rg rfl rfl (fun K hK=>?_) |((first |refine ae ?_ |refine ac ?_);simp(disch:=decide) only[qs,qb,if_true,if_false,reduceIte]) |refine ah rfl (fun K hK=>?_) |refine ct rfl ?_ |((try simp(disch:=omega) only[go_sem,ξ,ζ]);(first |apply hK |(clear hK;apply hK) |(clear hK;clear hK;apply hK));clear hK;(try clear K);(try dsimp only[ag,qs,qb])))
  refine cN rfl rfl rfl rfl (by exact bQ (n:=1) (by decide)) ?_;rintro v1 h1 s1 hv1;obtain⟨va1,vl1,vc1,rfl,hv1⟩:=hv1.sl;(repeat (first |(refine wo rfl (fun k hk=>?_);simp(disch:=omega) only[go_sem,ξ,ζ];apply hk;clear hk k) |refine wkt rfl ?_));(try refine wk0 ?_)
  (try (simp(disch:=omega) only[go_sem,ξ,ζ]));apply hK;clear hK;(try clear K);(try dsimp only[ag,qs])
  refine ai ?_;simp(disch:=omega) only[go_sem,ξ,ζ]
  exact Qr.zero hv1 (by decide)
 ·repeat (first |(refine rg rfl rfl (fun K hK=>?_);(repeat (first |(refine wo rfl (fun k hk=>?_);simp(disch:=omega) only[go_sem,ξ,ζ,hat];apply hk;clear hk k) |refine wkt rfl ?_));(try refine wk0 ?_);apply hK;clear hK K;(try dsimp only[ag,qs,qb])) |((first |refine ae ?_ |refine ac ?_);simp(disch:=decide) only[qs,qb,if_true,if_false,reduceIte]) |refine ah rfl (fun K hK=>?_) |refine ct rfl ?_ |((first |refine hK _ _ ?_ |(clear hK;refine hK _ _ ?_) |(clear hK;clear hK;refine hK _ _ ?_));clear hK;(try clear K)))
  refine fk [.o 0,.o 1,.o 2,.o 3,.p 2,.o 4,.o 5,.o 6] rfl rfl (fun K hK=>?_);(repeat (first |(refine wo rfl (fun k hk=>?_);simp(disch:=omega) only[go_sem,ξ,ζ];apply hk;clear hk k) |refine wkt rfl ?_));(try refine wk0 ?_)
  refine wo rfl (fun k hk=>?_);simp(disch:=omega) only[go_sem,ξ,ζ]
  refine⟨uw xs,by simp[uw],fun hne=>?_,uV xs,fun junk=>?_⟩
  ·obtain⟨ad',h3,h4⟩:=hva.cells h hne
   exact⟨ad',h3,h4⟩
  apply hk;clear hk k
  refine wkp ?_;simp(disch:=omega) only[go_sem,ξ,ζ];intro b h2 hs2 hb;(repeat (first |(refine wo rfl (fun k hk=>?_);simp(disch:=omega) only[go_sem,ξ,ζ];apply hk;clear hk k) |refine wkt rfl ?_));(try refine wk0 ?_)
  have hA:N16 h2 (.slice (some ⟨b,0,none⟩) xs.length (xs.length+junk.length)) n:=N16.of_pub hb hxs (by omega) rfl (by omega)
  refine cN rfl rfl rfl rfl (by exact bQ (n:=1) (by decide)) ?_;rintro v1 h1 s1 hv1;obtain⟨va1,vl1,vc1,rfl,hv1⟩:=hv1.sl;(repeat (first |(refine wo rfl (fun k hk=>?_);simp(disch:=omega) only[go_sem,ξ,ζ];apply hk;clear hk k) |refine wkt rfl ?_));(try refine wk0 ?_)
  (try (simp(disch:=omega) only[go_sem,ξ,ζ]));apply hK;clear hK;(try clear K);(try dsimp only[ag,qs])
  refine ai ?_;simp(disch:=omega) only[go_sem,ξ,ζ]
  exact Qr.of hA.to hv1 hn (by decide) (by simp) rfl
theorem sC {h0 h:PH} [Le h0 h] {v:Value} {x:Rat} (hx:Qr h0 v x):Spec mach 84 #[v] h (fun v _=>v=.bool (decide (x.den=1))) NP:=by
 obtain⟨na,nl,nc,da,dl,dc,e,rfl,hn,hd,he⟩:=hx.sl
 obtain⟨da',c',ys,hde,hya,hys,hym,hy16⟩:=hd.out
 cases hde
 have ld:=hd.len0
 have sy:=hya.small
 rw[←he]
 refine Spec.enter (args:=[_]) (n:=20) Tryz.func84 rfl (by kernel_rfl) rfl (by simp) [.tmp 2] rfl (fun C _=>?_)
 by_cases h0:e=0
 ·repeat (first |(refine wo rfl (fun k hk=>?_);simp(disch:=omega) only[go_sem,ξ,ζ];apply hk;clear hk k) |refine wkt rfl ?_ |refine wk0 ?_ |refine rg rfl rfl (fun K hK=>?_) |((first |refine ae ?_ |refine ac ?_);simp(disch:=decide) only[qs,qb,if_true,if_false,reduceIte]) |refine ah rfl (fun K hK=>?_) |refine ct rfl ?_ |((try simp(disch:=omega) only[go_sem,ξ,ζ]);(first |apply hK |(clear hK;apply hK) |(clear hK;clear hK;apply hK));clear hK;(try clear K);(try dsimp only[ag,qs,qb])))
  refine ai ?_;simp(disch:=omega) only[go_sem,ξ,ζ]
  simp[h0,dz]
 ·rw[my h0]
  by_cases hl:ys.length=1
  ·obtain⟨ad,rfl,hat⟩:=hya.rd0 h (by omega)
   obtain⟨_,h2⟩:=xr B16 (n:=e) (by rw[hys];exact hl)
   rw[hys] at h2
   rw[h2] at hat
   by_cases h1:e=1
   ·repeat (first |(refine wo rfl (fun k hk=>?_);simp(disch:=omega) only[go_sem,ξ,ζ,hat];apply hk;clear hk k) |refine wkt rfl ?_ |refine wk0 ?_ |refine rg rfl rfl (fun K hK=>?_) |((first |refine ae ?_ |refine ac ?_);simp(disch:=decide) only[qs,qb,if_true,if_false,reduceIte]) |refine ah rfl (fun K hK=>?_) |refine ct rfl ?_ |((try simp(disch:=omega) only[go_sem,ξ,ζ]);(first |apply hK |(clear hK;apply hK) |(clear hK;clear hK;apply hK));clear hK;(try clear K);(try dsimp only[ag,qs,qb])))
    refine ai ?_;simp(disch:=omega) only[go_sem,ξ,ζ]
    all_goals simp[h1]
   ·repeat (first |(refine wo rfl (fun k hk=>?_);simp(disch:=omega) only[go_sem,ξ,ζ,hat];apply hk;clear hk k) |refine wkt rfl ?_ |refine wk0 ?_ |refine rg rfl rfl (fun K hK=>?_) |((first |refine ae ?_ |refine ac ?_);simp(disch:=decide) only[qs,qb,if_true,if_false,reduceIte]) |refine ah rfl (fun K hK=>?_) |refine ct rfl ?_ |((try simp(disch:=omega) only[go_sem,ξ,ζ]);(first |apply hK |(clear hK;apply hK) |(clear hK;clear hK;apply hK));clear hK;(try clear K);(try dsimp only[ag,qs,qb])))
    refine ai ?_;simp(disch:=omega) only[go_sem,ξ,ζ]
    all_goals simp[h1]
  ·have h1:e≠1:=by rintro rfl;rw[W_one B16] at hys;rw[←hys] at hl;exact hl rfl
   repeat (first |(refine wo rfl (fun k hk=>?_);simp(disch:=omega) only[go_sem,ξ,ζ];apply hk;clear hk k) |refine wkt rfl ?_ |refine wk0 ?_ |refine rg rfl rfl (fun K hK=>?_) |((first |refine ae ?_ |refine ac ?_);simp(disch:=decide) only[qs,qb,if_true,if_false,reduceIte]) |refine ah rfl (fun K hK=>?_) |refine ct rfl ?_ |((try simp(disch:=omega) only[go_sem,ξ,ζ]);(first |apply hK |(clear hK;apply hK) |(clear hK;clear hK;apply hK));clear hK;(try clear K);(try dsimp only[ag,qs,qb])))
   refine ai ?_;simp(disch:=omega) only[go_sem,ξ,ζ]
   all_goals simp[h1]
theorem aF {h:PH} {n:Int} (h1: -9223372036854775808≤n) (h2:n≤9223372036854775807):Spec mach 28 #[.int .i64 n] h (fun v h'=>Qr h' v (n:Rat)) NP:=by
 by_cases hn:n < 0
 ·obtain⟨m,rfl⟩:∃m:Nat,n= -((m+1:Nat):Int):=⟨n.natAbs - 1,by omega⟩
  have e1:IntKind.i64.wrap (-((m+1:Nat):Int)+1)= -(m:Int):=by rw[wi64 (by omega) (by omega)];omega
  have e2:IntKind.i64.wrap (0 - -(m:Int))=(m:Int):=by rw[wi64 (by omega) (by omega)];omega
  refine Spec.go [] Tryz.func28 rfl rfl (by kernel_rfl) fun C _=>?_
  try simp(maxSteps:=999999) (disch:=omega) only[go_sem,ξ,ζ,e1,e2]
  refine caN (by exact bQ (n:=m+1) (by omega)) ?_;rintro v1 h3 s3 hv1;obtain⟨va1,vl1,vc1,rfl,hv1⟩:=hv1.sl
  try simp(maxSteps:=999999) (disch:=omega) only[go_sem,ξ,ζ]
  refine caN (by exact bQ (n:=1) (by decide)) ?_;rintro v2 h4 s4 hv2;obtain⟨va2,vl2,vc2,rfl,hv2⟩:=hv2.sl
  try simp(maxSteps:=999999) (disch:=omega) only[go_sem,ξ,ζ]
  refine caN (by exact Ai (neg:=true) (hv1.to (h':=h4)) hv2 (χ (bl_le.2 (show m+1 < 2^64 by omega)) (by decide))) ?_;rintro _ h5 _ hv5;obtain⟨_,_,_,_,_,_,_,rfl,hv5⟩:=hv5.sa
  try simp(maxSteps:=999999) (disch:=omega) only[go_sem,ξ,ζ]
  have:sgn true (m+1) 1=((-((m+1:Nat):Int):Int):Rat):=by rw[tQ];simp
  rw[this] at hv5;exact hv5
 ·obtain⟨m,rfl⟩:∃m:Nat,n=(m:Int):=⟨n.natAbs,by omega⟩
  refine Spec.go [] Tryz.func28 rfl rfl (by kernel_rfl) fun C _=>?_
  try simp(maxSteps:=999999) (disch:=omega) only[go_sem,ξ,ζ]
  refine caN (by exact bQ (n:=m) (by omega)) ?_;rintro v1 h3 s3 hv1;obtain⟨va1,vl1,vc1,rfl,hv1⟩:=hv1.sl
  try simp(maxSteps:=999999) (disch:=omega) only[go_sem,ξ,ζ]
  refine caN (by exact bQ (n:=1) (by decide)) ?_;rintro v2 h4 s4 hv2;obtain⟨va2,vl2,vc2,rfl,hv2⟩:=hv2.sl
  try simp(maxSteps:=999999) (disch:=omega) only[go_sem,ξ,ζ]
  refine caN (by exact Ai (neg:=false) (hv1.to (h':=h4)) hv2 (χ (bl_le.2 (show m < 2^64 by omega)) (by decide))) ?_;rintro _ h5 _ hv5;obtain⟨_,_,_,_,_,_,_,rfl,hv5⟩:=hv5.sa
  try simp(maxSteps:=999999) (disch:=omega) only[go_sem,ξ,ζ]
  have:sgn false m 1=(((m:Nat):Int):Rat):=by rw[tQ];simp
  rw[this] at hv5;exact hv5
theorem jC {xs:List Nat} {k:Nat} (h:k < xs.length):xs.take (k+1)=xs.take k ++[xs.getD k 0]:=by
 rw[List.take_succ_eq_append_getElem h];simp[h]
@[go_sem] theorem uw_mk2 (c d:Nat): [Value.int .u32 (c:Nat),Value.int .u32 (d:Nat)]=uw [c,d]:=rfl
@[go_sem] theorem spl2 (c d:Nat):spl (spl [Value.int .u32 0,Value.int .u32 0] 0 (uw [c])) 1 (uw [d])=uw [c,d]:=rfl
@[go_sem] theorem take2 (c d:Nat):(uw [c,d]).take 2=uw [c,d]:=rfl
theorem ED (k:Nat):65536^(2*k)=4294967296^k:=by rw[Nat.pow_mul]
theorem Jy {n k:Nat}:(W 65536 n).length≤2*k↔(W 4294967296 n).length≤k:=by
 constructor
 ·intro h
  refine cV B32 ?_
  rw[←ED]
  exact Nat.lt_of_lt_of_le (cW B16 n) (qAv (by decide) h)
 ·intro h
  refine cV B16 ?_
  rw[ED]
  exact Nat.lt_of_lt_of_le (cW B32 n) (qAv (by decide) h)
theorem C6 (n k:Nat):(W 65536 n).getD (2*k) 0+(W 65536 n).getD (2*k+1) 0*65536=(W 4294967296 n).getD k 0:=by
 rw[rO B16,rO B16,rO B32,qAn,ED,←Nat.div_div_eq_div_mul]
 omega
theorem N32.of_pub {h:PH} {b:Nat} {ds:List Nat} {junk:List Value} {n L c:Nat} (hb:uw ds ++junk≠[]→h b=some (uw ds ++junk).toArray) (hW:W 4294967296 n=ds) (hs:ds.length≤2^46) (hL:ds.length=L) (hc:ds.length≤c):N32 h (.slice (some ⟨b,0,none⟩) L c) n:=by
 refine⟨_,c,by rw[hW,hL],?_⟩
 rw[hW]
 have hlt:∀x∈ds,x < 4294967296:=by rw[←hW];exact W_lt B32 n
 refine .of_block hb (fun i x hi=>?_) hlt hs hc
 have hil:i < ds.length:=(List.getElem?_eq_some_iff.1 hi).1
 rw[List.getElem?_append_left (by simp[uw];exact hil)]
 simp[uw,hi]
theorem oj {h0 h:PH} [Le h0 h] {v:Value} {n:Nat} (hv:N16 h0 v n) (bn:bl n≤2^40):Spec mach 83 #[v] h (fun v h'=>N32 h' v n) NP:=by
 obtain⟨a,c,xs,rfl,ha,hxs,hm,hx16⟩:=hv.out
 obtain⟨zs,hzs⟩:∃zs,W 4294967296 n=zs:=⟨_,rfl⟩
 have hs:xs.length≤2^40:=by have:=cr n;rw[hxs] at this;omega
 have hzl:zs.length≤2^40:=by have:=dj n;rw[hzs] at this;omega
 have hlen:∀k,xs.length≤2*k↔zs.length≤k:=fun k=>by rw[←hxs,←hzs];exact Jy
 have hdig:∀k,xs.getD (2*k) 0+xs.getD (2*k+1) 0*65536=zs.getD k 0:=fun k=>by rw[←hxs,←hzs];exact C6 n k
 refine Spec.enter (args:=[_]) (n:=34) Tryz.func83 rfl (by kernel_rfl) rfl (by simp) [.tmp 2] rfl (fun C _=>?_)
 repeat (first |(refine wo rfl (fun k hk=>?_);simp(disch:=omega) only[go_sem,ξ,ζ];apply hk;clear hk k) |refine wkt rfl ?_ |refine wk0 ?_ |refine rg rfl rfl (fun K hK=>?_) |((first |refine ae ?_ |refine ac ?_);simp(disch:=decide) only[qs,qb,if_true,if_false,reduceIte]) |refine ah rfl (fun K hK=>?_) |refine ct rfl ?_ |((try simp(disch:=omega) only[go_sem,ξ,ζ]);(first |apply hK |(clear hK;apply hK) |(clear hK;clear hK;apply hK));clear hK;(try clear K);(try dsimp only[ag,qs,qb])))
 refine eO (fun x:Nat ⊕ (Nat×List Value)=>match x with
   |.inl _=>⟨[(0,.v (.slice a xs.length c)),(3,.v (.slice none 0 0)),(4,.v (.int .i64 0))],[]⟩
   |.inr (k,jk)=>⟨[(0,.v (.slice a xs.length c)),(3,.s 0 0 k (k+jk.length)),(4,.v (.int .i64 (2*k:Nat)))],[uw (zs.take k) ++jk]⟩)
  (fun x h'=>Le h0 h'∧match x with
   |.inl _=>True
   |.inr (k,_)=>k≤zs.length)
  (fun x=>match x with
   |.inl _=>zs.length+1
   |.inr (k,_)=>zs.length - k) (.inl 0) [] ?_ ⟨inferInstance,trivial⟩ ?_
 ·simp(disch:=omega) only[go_sem,ξ,ζ]
 ·rintro(r |⟨i,jk⟩) h1 ⟨hle,hi⟩
  ·dsimp only at hi ⊢
   have hl0:=hlen 0
   have hd0:=hdig 0
   simp only[Nat.mul_zero,Nat.zero_add] at hl0 hd0
   by_cases hx0:xs.length=0
   ·repeat (first |(refine wo rfl (fun k hk=>?_);simp(disch:=omega) only[go_sem,ξ,ζ];apply hk;clear hk k) |refine wkt rfl ?_ |refine wk0 ?_ |refine rg rfl rfl (fun K hK=>?_) |((first |refine ae ?_ |refine ac ?_);simp(disch:=decide) only[qs,qb,if_true,if_false,reduceIte]) |refine ah rfl (fun K hK=>?_) |refine ct rfl ?_ |((try simp(disch:=omega) only[go_sem,ξ,ζ]);(first |apply hK |(clear hK;apply hK) |(clear hK;clear hK;apply hK));clear hK;(try clear K);(try dsimp only[ag,qs,qb])))
    refine ai ?_;simp(disch:=omega) only[go_sem,ξ,ζ]
    have:n=0:=by rw[←hm,List.eq_nil_of_length_eq_zero hx0];rfl
    rw[this];exact N32.zero _
   ·obtain⟨ad,rfl,hat⟩:=ha.rd0 h1 (by omega)
    have hx:=aM (by decide) hx16 0
    have e1:zs.take 1=[zs.getD 0 0]:=by rw[jC (k:=0) (by omega)];rfl
    by_cases hx1:1 < xs.length
    ·obtain⟨ad',h',hat'⟩:=ha.rd h1 (i:=1) (by omega)
     obtain rfl:ad=ad':=by simpa using h'
     have hy:=aM (by decide) hx16 1
     have hat1:h1.at (ad.add ((0:Int)+1).toNat)=some (.int .u32 (xs.getD 1 0:Nat)):=hat'
     repeat (first |(refine wo rfl (fun k hk=>?_);simp(disch:=omega) only[go_sem,ξ,ζ,hat,hat1,hd0];apply hk;clear hk k) |refine wkt rfl ?_ |refine wk0 ?_ |refine rg rfl rfl (fun K hK=>?_) |((first |refine ae ?_ |refine ac ?_);simp(disch:=decide) only[qs,qb,if_true,if_false,reduceIte]) |refine ah rfl (fun K hK=>?_) |refine ct rfl ?_ |((try simp(disch:=omega) only[go_sem,ξ,ζ]);(first |apply hK |(clear hK;apply hK) |(clear hK;clear hK;apply hK));clear hK;(try clear K);(try dsimp only[ag,qs,qb])))
     refine wo rfl (fun k hk=>?_);simp(disch:=omega) only[go_sem,ξ,ζ]
     intro _ junk
     apply hk;clear hk k
     (repeat (first |(refine wo rfl (fun k hk=>?_);simp(disch:=omega) only[go_sem,ξ,ζ];apply hk;clear hk k) |refine wkt rfl ?_));(try refine wk0 ?_)
     repeat (first |(refine wo rfl (fun k hk=>?_);simp(disch:=omega) only[go_sem,ξ,ζ];apply hk;clear hk k) |refine wkt rfl ?_ |refine wk0 ?_ |refine rg rfl rfl (fun K hK=>?_) |((first |refine ae ?_ |refine ac ?_);simp(disch:=decide) only[qs,qb,if_true,if_false,reduceIte]) |refine ah rfl (fun K hK=>?_) |refine ct rfl ?_ |((try simp(disch:=omega) only[go_sem,ξ,ζ]);(first |apply hK |(clear hK;apply hK) |(clear hK;clear hK;apply hK));clear hK;(try clear K);(try dsimp only[ag,qs,qb])))
     refine⟨.inr (1,junk),[1],?_,⟨hle,by dsimp only;omega⟩,by dsimp only;omega⟩
     simp(disch:=omega) only[go_sem,ξ,ζ,e1]
     rfl
    ·have hy:xs.getD 1 0=0:=getD_none (by omega)
     rw[hy,Nat.zero_mul,Nat.add_zero] at hd0
     repeat (first |(refine wo rfl (fun k hk=>?_);simp(disch:=omega) only[go_sem,ξ,ζ,hat,hd0];apply hk;clear hk k) |refine wkt rfl ?_ |refine wk0 ?_ |refine rg rfl rfl (fun K hK=>?_) |((first |refine ae ?_ |refine ac ?_);simp(disch:=decide) only[qs,qb,if_true,if_false,reduceIte]) |refine ah rfl (fun K hK=>?_) |refine ct rfl ?_ |((try simp(disch:=omega) only[go_sem,ξ,ζ]);(first |apply hK |(clear hK;apply hK) |(clear hK;clear hK;apply hK));clear hK;(try clear K);(try dsimp only[ag,qs,qb])))
     refine wo rfl (fun k hk=>?_);simp(disch:=omega) only[go_sem,ξ,ζ]
     intro _ junk
     apply hk;clear hk k
     (repeat (first |(refine wo rfl (fun k hk=>?_);simp(disch:=omega) only[go_sem,ξ,ζ];apply hk;clear hk k) |refine wkt rfl ?_));(try refine wk0 ?_)
     repeat (first |(refine wo rfl (fun k hk=>?_);simp(disch:=omega) only[go_sem,ξ,ζ];apply hk;clear hk k) |refine wkt rfl ?_ |refine wk0 ?_ |refine rg rfl rfl (fun K hK=>?_) |((first |refine ae ?_ |refine ac ?_);simp(disch:=decide) only[qs,qb,if_true,if_false,reduceIte]) |refine ah rfl (fun K hK=>?_) |refine ct rfl ?_ |((try simp(disch:=omega) only[go_sem,ξ,ζ]);(first |apply hK |(clear hK;apply hK) |(clear hK;clear hK;apply hK));clear hK;(try clear K);(try dsimp only[ag,qs,qb])))
     refine⟨.inr (1,junk),[1],?_,⟨hle,by dsimp only;omega⟩,by dsimp only;omega⟩
     simp(disch:=omega) only[go_sem,ξ,ζ,e1]
     rfl
  ·dsimp only at hi ⊢
   have hli:=hlen i
   have hdi:=hdig i
   by_cases hil:i < zs.length
   ·obtain⟨ad,rfl,hat⟩:=ha.rd h1 (i:=2*i) (by omega)
    have hx:=aM (by decide) hx16 (2*i)
    have e1:=jC hil
    have ez:(zs.take i).length=i:=by rw[List.length_take,Nat.min_eq_left (by omega)]
    by_cases hx1:2*i+1 < xs.length
    ·obtain⟨ad',h',hat'⟩:=ha.rd h1 (i:=2*i+1) (by omega)
     obtain rfl:ad=ad':=by simpa using h'
     have hy:=aM (by decide) hx16 (2*i+1)
     simp(disch:=omega) only[go_sem,ξ,ζ] at hat'
     repeat (first |(refine wo rfl (fun k hk=>?_);simp(disch:=omega) only[go_sem,ξ,ζ,hat,hat',hdi];apply hk;clear hk k) |refine wkt rfl ?_ |refine wk0 ?_ |refine rg rfl rfl (fun K hK=>?_) |((first |refine ae ?_ |refine ac ?_);simp(disch:=decide) only[qs,qb,if_true,if_false,reduceIte]) |refine ah rfl (fun K hK=>?_) |refine ct rfl ?_ |((try simp(disch:=omega) only[go_sem,ξ,ζ]);(first |apply hK |(clear hK;apply hK) |(clear hK;clear hK;apply hK));clear hK;(try clear K);(try dsimp only[ag,qs,qb])))
     refine wo rfl (fun k hk=>?_);simp(disch:=omega) only[go_sem,ξ,ζ]
     intro junk
     apply hk;clear hk k
     (repeat (first |(refine wo rfl (fun k hk=>?_);simp(disch:=omega) only[go_sem,ξ,ζ];apply hk;clear hk k) |refine wkt rfl ?_));(try refine wk0 ?_)
     repeat (first |(refine wo rfl (fun k hk=>?_);simp(disch:=omega) only[go_sem,ξ,ζ];apply hk;clear hk k) |refine wkt rfl ?_ |refine wk0 ?_ |refine rg rfl rfl (fun K hK=>?_) |((first |refine ae ?_ |refine ac ?_);simp(disch:=decide) only[qs,qb,if_true,if_false,reduceIte]) |refine ah rfl (fun K hK=>?_) |refine ct rfl ?_ |((try simp(disch:=omega) only[go_sem,ξ,ζ]);(first |apply hK |(clear hK;apply hK) |(clear hK;clear hK;apply hK));clear hK;(try clear K);(try dsimp only[ag,qs,qb])))
     refine⟨.inr (i+1,junk),[2],?_,⟨hle,by dsimp only;omega⟩,by dsimp only;omega⟩
     simp(disch:=omega) only[go_sem,ξ,ζ,e1,fB,qAm]
    ·have hy:xs.getD (2*i+1) 0=0:=getD_none (by omega)
     rw[hy,Nat.zero_mul,Nat.add_zero] at hdi
     repeat (first |(refine wo rfl (fun k hk=>?_);simp(disch:=omega) only[go_sem,ξ,ζ,hat,hdi];apply hk;clear hk k) |refine wkt rfl ?_ |refine wk0 ?_ |refine rg rfl rfl (fun K hK=>?_) |((first |refine ae ?_ |refine ac ?_);simp(disch:=decide) only[qs,qb,if_true,if_false,reduceIte]) |refine ah rfl (fun K hK=>?_) |refine ct rfl ?_ |((try simp(disch:=omega) only[go_sem,ξ,ζ]);(first |apply hK |(clear hK;apply hK) |(clear hK;clear hK;apply hK));clear hK;(try clear K);(try dsimp only[ag,qs,qb])))
     refine wo rfl (fun k hk=>?_);simp(disch:=omega) only[go_sem,ξ,ζ]
     intro junk
     apply hk;clear hk k
     (repeat (first |(refine wo rfl (fun k hk=>?_);simp(disch:=omega) only[go_sem,ξ,ζ];apply hk;clear hk k) |refine wkt rfl ?_));(try refine wk0 ?_)
     repeat (first |(refine wo rfl (fun k hk=>?_);simp(disch:=omega) only[go_sem,ξ,ζ];apply hk;clear hk k) |refine wkt rfl ?_ |refine wk0 ?_ |refine rg rfl rfl (fun K hK=>?_) |((first |refine ae ?_ |refine ac ?_);simp(disch:=decide) only[qs,qb,if_true,if_false,reduceIte]) |refine ah rfl (fun K hK=>?_) |refine ct rfl ?_ |((try simp(disch:=omega) only[go_sem,ξ,ζ]);(first |apply hK |(clear hK;apply hK) |(clear hK;clear hK;apply hK));clear hK;(try clear K);(try dsimp only[ag,qs,qb])))
     refine⟨.inr (i+1,junk),[2],?_,⟨hle,by dsimp only;omega⟩,by dsimp only;omega⟩
     simp(disch:=omega) only[go_sem,ξ,ζ,e1,fB,qAm]
   ·obtain rfl:i=zs.length:=by omega
    rw[qAr (η _)]
    repeat (first |(refine rg rfl rfl (fun K hK=>?_);(repeat (first |(refine wo rfl (fun k hk=>?_);simp(disch:=omega) only[go_sem,ξ,ζ];apply hk;clear hk k) |refine wkt rfl ?_));(try refine wk0 ?_);apply hK;clear hK K;(try dsimp only[ag,qs,qb])) |((first |refine ae ?_ |refine ac ?_);simp(disch:=decide) only[qs,qb,if_true,if_false,reduceIte]) |refine ah rfl (fun K hK=>?_) |refine ct rfl ?_ |((first |refine hK _ _ ?_ |(clear hK;refine hK _ _ ?_) |(clear hK;clear hK;refine hK _ _ ?_));clear hK;(try clear K)))
    refine mp 0 ?_
    simp(disch:=omega) only[go_sem,ξ,ζ]
    intro b h2 hs2 hb
    refine ai ?_;simp(disch:=omega) only[go_sem,ξ,ζ]
    exact N32.of_pub hb hzs (by omega) rfl (by omega)
theorem cA {h0 h:PH} [Le h0 h] {v:Value} {x:Rat} (hx:Qr h0 v x) (bx:sz x≤2^36):Spec mach 27 #[v] h (fun v h'=>Cn h' v x) NP:=by
 obtain⟨na,nl,nc,da,dl,dc,e,rfl,hn,hd,he⟩:=hx.sl
 have b1:=bG x;have b2:=bB x
 have b3:bl e≤sz x:=by
  rcases Nat.eq_zero_or_pos e with h |h
  ·subst h;have:bl 0=0:=by decide
   omega
  ·rw[my (by omega)] at he;rw[he];exact b2
 have ln:=hn.len0
 obtain⟨neg,en⟩:∃b,decide (x.num < 0)=b:=⟨_,rfl⟩
 rw[en] at hx ⊢
 have hnn:neg=true→0 < nl:=by
  intro e1
  rw[e1,decide_eq_true_eq] at en
  rcases Nat.eq_zero_or_pos nl with h |h
  ·have:=ln.1 h;omega
  ·exact h
 refine Spec.enter (args:=[_]) (n:=24) Tryz.func27 rfl (by kernel_rfl) rfl (by simp) [.cell 2 24] rfl (fun C _=>?_)
 repeat (first |(refine rg rfl rfl (fun K hK=>?_);(repeat (first |(refine wo rfl (fun k hk=>?_);simp(disch:=omega) only[go_sem,ξ,ζ];apply hk;clear hk k) |refine wkt rfl ?_));(try refine wk0 ?_);apply hK;clear hK K;(try dsimp only[ag,qs,qb])) |((first |refine ae ?_ |refine ac ?_);simp(disch:=decide) only[qs,qb,if_true,if_false,reduceIte]) |refine ah rfl (fun K hK=>?_) |refine ct rfl ?_ |((first |refine hK _ _ ?_ |(clear hK;refine hK _ _ ?_) |(clear hK;clear hK;refine hK _ _ ?_));clear hK;(try clear K)))
 (first |refine AWP_t (.seg [.o 0,.o 1,.o 2,.o 3,.o 4,.o 5,.o 6,.o 7,.o 8,.o 9] (.alt 10 (.seg [.o 11] (.alt 12 (.alt 13 .done .no) .no)) (.alt 12 (.alt 10 (.seg [.o 11] (.alt 13 .done .no)) .no) .no))) (by decide+kernel) rfl (fun K hK=>?_) |refine mR (.seg [.o 0,.o 1,.o 2,.o 3,.o 4,.o 5,.o 6,.o 7,.o 8,.o 9] (.alt 10 (.seg [.o 11] (.alt 12 (.alt 13 .done .no) .no)) (.alt 12 (.alt 10 (.seg [.o 11] (.alt 13 .done .no)) .no) .no))) (by decide+kernel) rfl (fun K hK=>?_))
 have rest:∀(va:Option Addr) (vl vc:Nat) (h':PH) (S:AS),Le h0 h'→N32 h' (.slice va vl vc) x.num.natAbs→S.le ⟨[(1,.p 0 0),(2,.p 1 0),(3,.p 2 0)],[[.bool neg,.slice na nl nc,.slice da dl dc],[.bool false,.slice none 0 0,.slice none 0 0],[.bool neg,.slice va vl vc,.slice none 0 0]]⟩→K S h':=by
  intro va vl vc h' S _ hz hS
  refine hK _ _ (fq _ hS ?_);clear hK K
  refine oJ (fun K hK=>?_)
  refine rg rfl rfl (fun K hK=>?_);(repeat (first |(refine wo rfl (fun k hk=>?_);simp(disch:=omega) only[go_sem,ξ,ζ];apply hk;clear hk k) |refine wkt rfl ?_ |with_reducible refine wk0 ?_ |with_reducible refine ao ?_ |with_reducible refine aj ?_ wt_no |with_reducible refine ak ?_))
  refine cN rfl rfl rfl rfl (by exact sC hx) ?_;rintro v3 h3 s3 rfl;(repeat (first |(refine wo rfl (fun k hk=>?_);simp(disch:=omega) only[go_sem,ξ,ζ];apply hk;clear hk k) |refine wkt rfl ?_ |with_reducible refine wk0 ?_ |with_reducible refine ao ?_ |with_reducible refine aj ?_ wt_no |with_reducible refine ak ?_))
  by_cases h1:x.den=1
  ·((try (simp(disch:=omega) only[go_sem,ξ,ζ]));apply hK;clear hK;(try clear K);(try dsimp only[ag,qs]));(repeat (first |(refine rg rfl rfl (fun K hK=>?_);(repeat (first |(refine wo rfl (fun k hk=>?_);simp(disch:=omega) only[go_sem,ξ,ζ];apply hk;clear hk k) |refine wkt rfl ?_));(try refine wk0 ?_);apply hK;clear hK K;(try dsimp only[ag,qs,qb])) |((first |refine ae ?_ |refine ac ?_);simp(disch:=decide) only[qs,qb,if_true,if_false,reduceIte]) |refine ah rfl (fun K hK=>?_) |refine ct rfl ?_ |((first |refine hK _ _ ?_ |(clear hK;refine hK _ _ ?_) |(clear hK;clear hK;refine hK _ _ ?_));clear hK;(try clear K))))
   refine ai ?_;simp(disch:=omega) only[go_sem,ξ,ζ]
   exact⟨_,_,by rw[en],hz.to,by rw[if_pos h1];exact N32.zero _⟩
  ·have e1:e=x.den:=by
    rw[←he] at h1 ⊢
    unfold dz at h1 ⊢
    split at h1
    ·exact(h1 rfl).elim
    ·rename_i h2;rw[if_neg h2]
   rw[e1] at hd b3
   ((try (simp(disch:=omega) only[go_sem,ξ,ζ]));apply hK;clear hK;(try clear K);(try dsimp only[ag,qs]));(repeat (first |(refine rg rfl rfl (fun K hK=>?_);(repeat (first |(refine wo rfl (fun k hk=>?_);simp(disch:=omega) only[go_sem,ξ,ζ];apply hk;clear hk k) |refine wkt rfl ?_));(try refine wk0 ?_);apply hK;clear hK K;(try dsimp only[ag,qs,qb])) |((first |refine ae ?_ |refine ac ?_);simp(disch:=decide) only[qs,qb,if_true,if_false,reduceIte]) |refine ah rfl (fun K hK=>?_) |refine ct rfl ?_ |((first |refine hK _ _ ?_ |(clear hK;refine hK _ _ ?_) |(clear hK;clear hK;refine hK _ _ ?_));clear hK;(try clear K))));(refine rg rfl rfl (fun K hK=>?_);(repeat (first |(refine wo rfl (fun k hk=>?_);simp(disch:=omega) only[go_sem,ξ,ζ];apply hk;clear hk k) |refine wkt rfl ?_ |with_reducible refine wk0 ?_ |with_reducible refine ao ?_ |with_reducible refine aj ?_ wt_no |with_reducible refine ak ?_)))
   refine cN rfl rfl rfl rfl (by exact oj hd (by omega)) ?_;rintro v4 h4 _ hv4;obtain⟨v4,v4_l,v4_c,rfl,hv4⟩:=hv4.sl;(repeat (first |(refine wo rfl (fun k hk=>?_);simp(disch:=omega) only[go_sem,ξ,ζ];apply hk;clear hk k) |refine wkt rfl ?_ |with_reducible refine wk0 ?_ |with_reducible refine ao ?_ |with_reducible refine aj ?_ wt_no |with_reducible refine ak ?_))
   ((try (simp(disch:=omega) only[go_sem,ξ,ζ]));apply hK;clear hK;(try clear K);(try dsimp only[ag,qs]));(repeat (first |(refine rg rfl rfl (fun K hK=>?_);(repeat (first |(refine wo rfl (fun k hk=>?_);simp(disch:=omega) only[go_sem,ξ,ζ];apply hk;clear hk k) |refine wkt rfl ?_));(try refine wk0 ?_);apply hK;clear hK K;(try dsimp only[ag,qs,qb])) |((first |refine ae ?_ |refine ac ?_);simp(disch:=decide) only[qs,qb,if_true,if_false,reduceIte]) |refine ah rfl (fun K hK=>?_) |refine ct rfl ?_ |((first |refine hK _ _ ?_ |(clear hK;refine hK _ _ ?_) |(clear hK;clear hK;refine hK _ _ ?_));clear hK;(try clear K))))
   refine ai ?_;simp(disch:=omega) only[go_sem,ξ,ζ]
   exact⟨_,_,by rw[en],hz.to,by rw[if_neg h1];exact hv4⟩
 cases neg with
 | true=>
  have hnn':=hnn rfl
  (repeat (first |(refine wo rfl (fun k hk=>?_);simp(disch:=omega) only[go_sem,ξ,ζ];apply hk;clear hk k) |refine wkt rfl ?_ |with_reducible refine wk0 ?_ |with_reducible refine ao ?_ |with_reducible refine aj ?_ wt_no |with_reducible refine ak ?_))
  refine aj ?_ (aj ?_ wt_no)
  ·refine cN rfl rfl rfl rfl (by exact oj hn (by omega)) ?_;rintro v2 h2 _ hv2;obtain⟨v2,v2_l,v2_c,rfl,hv2⟩:=hv2.sl;(repeat (first |(refine wo rfl (fun k hk=>?_);simp(disch:=omega) only[go_sem,ξ,ζ];apply hk;clear hk k) |refine wkt rfl ?_ |with_reducible refine wk0 ?_ |with_reducible refine ao ?_ |with_reducible refine aj ?_ wt_no |with_reducible refine ak ?_))
   refine rest _ _ _ _ _ inferInstance hv2 ?_
   simp(disch:=omega) only[go_sem,ξ,ζ]
  ·(repeat (first |(refine wo rfl (fun k hk=>?_);simp(disch:=omega) only[go_sem,ξ,ζ];apply hk;clear hk k) |refine wkt rfl ?_ |with_reducible refine wk0 ?_ |with_reducible refine ao ?_ |with_reducible refine aj ?_ wt_no |with_reducible refine ak ?_))
   refine cN rfl rfl rfl rfl (by exact oj hn (by omega)) ?_;rintro v2 h2 _ hv2;obtain⟨v2,v2_l,v2_c,rfl,hv2⟩:=hv2.sl;(repeat (first |(refine wo rfl (fun k hk=>?_);simp(disch:=omega) only[go_sem,ξ,ζ];apply hk;clear hk k) |refine wkt rfl ?_ |with_reducible refine wk0 ?_ |with_reducible refine ao ?_ |with_reducible refine aj ?_ wt_no |with_reducible refine ak ?_))
   refine rest _ _ _ _ _ inferInstance hv2 ?_
   simp(disch:=omega) only[go_sem,ξ,ζ]
 | false=>
  (repeat (first |(refine wo rfl (fun k hk=>?_);simp(disch:=omega) only[go_sem,ξ,ζ];apply hk;clear hk k) |refine wkt rfl ?_ |with_reducible refine wk0 ?_ |with_reducible refine ao ?_ |with_reducible refine aj ?_ wt_no |with_reducible refine ak ?_))
  refine aj ?_ (aj ?_ wt_no)
  ·refine cN rfl rfl rfl rfl (by exact oj hn (by omega)) ?_;rintro v2 h2 _ hv2;obtain⟨v2,v2_l,v2_c,rfl,hv2⟩:=hv2.sl;(repeat (first |(refine wo rfl (fun k hk=>?_);simp(disch:=omega) only[go_sem,ξ,ζ];apply hk;clear hk k) |refine wkt rfl ?_ |with_reducible refine wk0 ?_ |with_reducible refine ao ?_ |with_reducible refine aj ?_ wt_no |with_reducible refine ak ?_))
   refine rest _ _ _ _ _ inferInstance hv2 ?_
   simp(disch:=omega) only[go_sem,ξ,ζ]
  ·(repeat (first |(refine wo rfl (fun k hk=>?_);simp(disch:=omega) only[go_sem,ξ,ζ];apply hk;clear hk k) |refine wkt rfl ?_ |with_reducible refine wk0 ?_ |with_reducible refine ao ?_ |with_reducible refine aj ?_ wt_no |with_reducible refine ak ?_))
   refine cN rfl rfl rfl rfl (by exact oj hn (by omega)) ?_;rintro v2 h2 _ hv2;obtain⟨v2,v2_l,v2_c,rfl,hv2⟩:=hv2.sl;(repeat (first |(refine wo rfl (fun k hk=>?_);simp(disch:=omega) only[go_sem,ξ,ζ];apply hk;clear hk k) |refine wkt rfl ?_ |with_reducible refine wk0 ?_ |with_reducible refine ao ?_ |with_reducible refine aj ?_ wt_no |with_reducible refine ak ?_))
   refine rest _ _ _ _ _ inferInstance hv2 ?_
   simp(disch:=omega) only[go_sem,ξ,ζ]
theorem EN {n k:Nat}:(W 65536 n).length≤k↔bl n≤16*k:=by
 rw[bl_le,vO]
 refine⟨fun h=>?_,fun h=>cV (by decide) h⟩
 exact Nat.lt_of_lt_of_le (cW (by decide) n) (qAv (by decide) h)
theorem N16.len {h:PH} {a:Option Addr} {l c n k:Nat} (r:N16 h (.slice a l c) n):l≤k↔bl n≤16*k:=by
 obtain⟨a',c',h1,_⟩:=r
 cases h1
 exact EN
theorem sz_two (p:Nat):sz ((2:Rat)^p)≤p+1:=by
 unfold sz
 have h1:((2:Rat)^p).num.natAbs=2^p:=by simp[Int.natAbs_pow]
 have h2:((2:Rat)^p).den=1:=by simp
 rw[h1,h2]
 have:=bC p
 have h3:bl 1=1:=by decide
 omega
theorem yH (x:Rat) (p:Nat):sz (x*2^p)≤sz x+p+1:=by
 have:=bV x (2^p);have:=sz_two p;omega
theorem su (x:Rat) (p:Nat):sz (x / 2^p)≤sz x+p+1:=by
 rw[qAx]
 have:=bV x (2^p)⁻¹;have:=iQ ((2:Rat)^p);have:=sz_two p;omega
theorem sz_pos (x:Rat):1≤sz x:=by
 have h1:bl 1≤bl x.den:=aR (τ x.den_nz)
 have h2:bl 1=1:=by decide
 have:=bB x;omega
theorem FW (n:Int):sz (n:Rat)≤max (bl n.natAbs) 1:=by
 unfold sz
 rw[Rat.num_intCast,Rat.den_intCast,show bl 1=1 from by decide]
 exact η _
theorem oz (x:Rat):sz (x.floor:Rat)≤sz x:=by
 have h1:=FW x.floor
 have h2:x.floor.natAbs≤x.num.natAbs:=by rw[Rat.floor_def];exact Int.natAbs_ediv_le_natAbs _ _
 have h3:=aR h2
 have:=bG x;have:=sz_pos x;omega

theorem emod_two (s:Int):((s % 18446744073709551616).toNat % 2:Nat)=(s % 2).toNat:=by omega
theorem vQ {k:Nat}:andI .i64 (k:Int) 1=((k % 2:Nat):Int):=by
 unfold andI
 rw[BitVec.toNat_and]
 have e1:(BitVec.ofInt IntKind.i64.bits (k:Int)).toNat=((k:Int) % 18446744073709551616).toNat:=by rw[BitVec.toNat_ofInt];rfl
 have e2:(BitVec.ofInt IntKind.i64.bits 1).toNat=2^1 - 1:=by decide
 rw[e1,e2,Nat.and_two_pow_sub_one_eq_mod,show(2:Nat)^1=2 from rfl,emod_two,IntKind.wrap_i64]
 omega
theorem BL {k:Nat}:(k:Int).fdiv (2^min (Int.toNat 1) 64)=((k / 2:Nat):Int):=by
 rw[show(2:Int)^min (Int.toNat 1) 64=2 from rfl,Int.fdiv_eq_ediv_of_nonneg _ (by decide)];omega
theorem npow_odd {a o k p:Nat} (hm:k % 2=1) (h:o*a^k=p):o*a*(a*a)^(k / 2)=p:=by
 obtain⟨j,rfl⟩:∃j,k=2*j+1:=⟨k / 2,by omega⟩
 rw[show(2*j+1) / 2=j by omega,←h,qAn,Nat.pow_mul,Nat.pow_two,σ,ρ ((a*a)^j) a]
theorem JE {a o k p:Nat} (hm:k % 2=0) (h:o*a^k=p):o*(a*a)^(k / 2)=p:=by
 obtain⟨j,rfl⟩:∃j,k=2*j:=⟨k / 2,by omega⟩
 rw[show(2*j) / 2=j by omega,←h,Nat.pow_mul,Nat.pow_two]
theorem JD {a o k B:Nat} (h:bl o+bl a*k≤B) (hk:k≠0):bl a+bl o≤B∧bl (o*a)+bl (a*a)*(k / 2)≤B+(bl a - bl a*(k % 2))∧bl o+bl (a*a)*(k / 2)≤B:=by
 have h1:=aG o a
 have h2:=aG a a
 have h3:bl (a*a)*(k / 2)≤(bl a+bl a)*(k / 2):=ψ _ h2
 have h4:bl a*k=bl a*(2*(k / 2))+bl a*(k % 2):=by rw[←qAm];congr 1;omega
 have h5:(bl a+bl a)*(k / 2)=bl a*(2*(k / 2)):=by rw[←Nat.two_mul,ρ 2,σ]
 have h6:bl a≤bl a*k:=Nat.le_mul_of_pos_right _ (by omega)
 rcases(show k % 2=0∨k % 2=1 by omega) with e |e<;>rw[e] at h4 ⊢<;>omega
theorem jL {h0 h:PH} [Le h0 h] {v:Value} {m n:Nat} (hv:N32 h0 v m) (hn:n≤2^20) (bm:bl m*n≤2^36):Spec mach 246 #[v,.int .i64 n] h (fun v h'=>N32 h' v (m^n)) NP:=by
  refine Spec.enter (args:=[_,_]) (n:=23) Tryz.func246 rfl (by kernel_rfl) rfl (by simp) [.tmp 4] rfl (fun C _=>?_)
  repeat (first |(refine wo rfl (fun k hk=>?_);simp(disch:=omega) only[go_sem,ξ,ζ];apply hk;clear hk k) |refine wkt rfl ?_ |refine wk0 ?_ |refine rg rfl rfl (fun K hK=>?_) |((first |refine ae ?_ |refine ac ?_);simp(disch:=decide) only[qs,qb,if_true,if_false,reduceIte]) |refine ah rfl (fun K hK=>?_) |refine ct rfl ?_ |((try simp(disch:=omega) only[go_sem,ξ,ζ]);(first |apply hK |(clear hK;apply hK) |(clear hK;clear hK;apply hK));clear hK;(try clear K);(try dsimp only[ag,qs,qb])))
  refine cN rfl rfl rfl rfl (by exact aw (n:=1) (by decide)) ?_;rintro o1 h1 s1 ho1
  repeat (first |(refine wo rfl (fun k hk=>?_);simp(disch:=omega) only[go_sem,ξ,ζ];apply hk;clear hk k) |refine wkt rfl ?_ |refine wk0 ?_ |refine rg rfl rfl (fun K hK=>?_) |((first |refine ae ?_ |refine ac ?_);simp(disch:=decide) only[qs,qb,if_true,if_false,reduceIte]) |refine ah rfl (fun K hK=>?_) |refine ct rfl ?_ |((try simp(disch:=omega) only[go_sem,ξ,ζ]);(first |apply hK |(clear hK;apply hK) |(clear hK;clear hK;apply hK));clear hK;(try clear K);(try dsimp only[ag,qs,qb])))
  refine cg (fun x:Value×Value×Nat×Nat×Nat=>⟨[(0,.v x.1),(1,.v (.int .i64 (x.2.2.2.2:Nat))),(5,.v x.2.1)],[]⟩)
    (fun x h'=>N32 h' x.1 x.2.2.1∧N32 h' x.2.1 x.2.2.2.1∧x.2.2.2.2≤2^20∧bl x.2.2.2.1+bl x.2.2.1*x.2.2.2.2≤1+bl m*n∧x.2.2.2.1*x.2.2.1^x.2.2.2.2=m^n)
    (fun x=>x.2.2.2.2) (v,o1,m,1,n) ?_ ⟨hv.to,ho1,hn,by rw[fI];exact η _,by rw[qBm]⟩ ?_
  · simp(disch:=omega) only[go_sem,ξ,ζ]
  · rintro⟨va,vo,a,o,k⟩ h2 ⟨ha,ho,hk,hb,he⟩
    dsimp only at ha ho hk hb he ⊢
    by_cases hk0:k=0
    · repeat (first |(refine wo rfl (fun k hk=>?_);simp(disch:=omega) only[go_sem,ξ,ζ];apply hk;clear hk k) |refine wkt rfl ?_ |refine wk0 ?_ |refine rg rfl rfl (fun K hK=>?_) |((first |refine ae ?_ |refine ac ?_);simp(disch:=decide) only[qs,qb,if_true,if_false,reduceIte]) |refine ah rfl (fun K hK=>?_) |refine ct rfl ?_ |((try simp(disch:=omega) only[go_sem,ξ,ζ]);(first |apply hK |(clear hK;apply hK) |(clear hK;clear hK;apply hK));clear hK;(try clear K);(try dsimp only[ag,qs,qb])))
      refine ai ?_;simp(disch:=omega) only[go_sem,ξ,ζ]
      rw[hk0,Nat.pow_zero,qAz] at he
      rwa[←he]
    · obtain⟨b1,b2,b3⟩:=JD hb hk0
      have hk2:k / 2≤2^20:=by omega
      have hlt:k / 2 < k:=by omega
      by_cases hm:k % 2=1
      · by_cases hk1:k=1
        · subst hk1
          repeat (first |(refine wo rfl (fun k hk=>?_);simp(disch:=omega) only[go_sem,ξ,ζ,vQ,hm];apply hk;clear hk k) |refine wkt rfl ?_ |refine wk0 ?_ |refine rg rfl rfl (fun K hK=>?_) |((first |refine ae ?_ |refine ac ?_);simp(disch:=decide) only[qs,qb,if_true,if_false,reduceIte]) |refine ah rfl (fun K hK=>?_) |refine ct rfl ?_ |((try simp(disch:=omega) only[go_sem,ξ,ζ]);(first |apply hK |(clear hK;apply hK) |(clear hK;clear hK;apply hK));clear hK;(try clear K);(try dsimp only[ag,qs,qb])))
          refine cN rfl rfl rfl rfl (by exact aI ho ha (by omega) (by omega)) ?_;rintro v3 h3 s3 q3
          repeat (first |(refine wo rfl (fun k hk=>?_);simp(disch:=omega) only[go_sem,ξ,ζ,vQ,BL];apply hk;clear hk k) |refine wkt rfl ?_ |refine wk0 ?_ |refine rg rfl rfl (fun K hK=>?_) |((first |refine ae ?_ |refine ac ?_);simp(disch:=decide) only[qs,qb,if_true,if_false,reduceIte]) |refine ah rfl (fun K hK=>?_) |refine ct rfl ?_ |((try simp(disch:=omega) only[go_sem,ξ,ζ]);(first |apply hK |(clear hK;apply hK) |(clear hK;clear hK;apply hK));clear hK;(try clear K);(try dsimp only[ag,qs,qb])))
          refine⟨(va,v3,a,o*a,0),?_,⟨ha.to,q3,by omega,?_,?_⟩,(show 0 < 1 by decide)⟩
          · simp(disch:=omega) only[go_sem,ξ,ζ]
            rfl
          · show bl (o*a)+bl a*0≤1+bl m*n
            rw[Nat.mul_zero]
            have:=aG o a
            omega
          · show o*a*a^0=m^n
            rw[Nat.pow_zero,qAz];rw[Nat.pow_one] at he;exact he
        · have h1k:1 < k:=by omega
          repeat (first |(refine wo rfl (fun k hk=>?_);simp(disch:=omega) only[go_sem,ξ,ζ,vQ,hm];apply hk;clear hk k) |refine wkt rfl ?_ |refine wk0 ?_ |refine rg rfl rfl (fun K hK=>?_) |((first |refine ae ?_ |refine ac ?_);simp(disch:=decide) only[qs,qb,if_true,if_false,reduceIte]) |refine ah rfl (fun K hK=>?_) |refine ct rfl ?_ |((try simp(disch:=omega) only[go_sem,ξ,ζ]);(first |apply hK |(clear hK;apply hK) |(clear hK;clear hK;apply hK));clear hK;(try clear K);(try dsimp only[ag,qs,qb])))
          refine cN rfl rfl rfl rfl (by exact aI ho ha (by omega) (by omega)) ?_;rintro v3 h3 s3 q3
          repeat (first |(refine wo rfl (fun k hk=>?_);simp(disch:=omega) only[go_sem,ξ,ζ];apply hk;clear hk k) |refine wkt rfl ?_ |refine wk0 ?_ |refine rg rfl rfl (fun K hK=>?_) |((first |refine ae ?_ |refine ac ?_);simp(disch:=decide) only[qs,qb,if_true,if_false,reduceIte]) |refine ah rfl (fun K hK=>?_) |refine ct rfl ?_ |((try simp(disch:=omega) only[go_sem,ξ,ζ]);(first |apply hK |(clear hK;apply hK) |(clear hK;clear hK;apply hK));clear hK;(try clear K);(try dsimp only[ag,qs,qb])))
          refine cN rfl rfl rfl rfl (by exact aI (ha.to (h':=h3)) (ha.to (h':=h3)) (by omega) (by omega)) ?_;rintro v4 h4 s4 q4
          repeat (first |(refine wo rfl (fun k hk=>?_);simp(disch:=omega) only[go_sem,ξ,ζ,BL];apply hk;clear hk k) |refine wkt rfl ?_ |refine wk0 ?_ |refine rg rfl rfl (fun K hK=>?_) |((first |refine ae ?_ |refine ac ?_);simp(disch:=decide) only[qs,qb,if_true,if_false,reduceIte]) |refine ah rfl (fun K hK=>?_) |refine ct rfl ?_ |((try simp(disch:=omega) only[go_sem,ξ,ζ]);(first |apply hK |(clear hK;apply hK) |(clear hK;clear hK;apply hK));clear hK;(try clear K);(try dsimp only[ag,qs,qb])))
          refine⟨(v4,v3,a*a,o*a,k / 2),?_,⟨q4,q3.to,hk2,?_,npow_odd hm he⟩,hlt⟩
          · simp(disch:=omega) only[go_sem,ξ,ζ]
          · show bl (o*a)+bl (a*a)*(k / 2)≤1+bl m*n
            rw[hm,qAz] at b2;omega
      · have hm:k % 2=0:=by omega
        have h1k:1 < k:=by omega
        repeat (first |(refine wo rfl (fun k hk=>?_);simp(disch:=omega) only[go_sem,ξ,ζ,vQ,hm];apply hk;clear hk k) |refine wkt rfl ?_ |refine wk0 ?_ |refine rg rfl rfl (fun K hK=>?_) |((first |refine ae ?_ |refine ac ?_);simp(disch:=decide) only[qs,qb,if_true,if_false,reduceIte]) |refine ah rfl (fun K hK=>?_) |refine ct rfl ?_ |((try simp(disch:=omega) only[go_sem,ξ,ζ]);(first |apply hK |(clear hK;apply hK) |(clear hK;clear hK;apply hK));clear hK;(try clear K);(try dsimp only[ag,qs,qb])))
        refine cN rfl rfl rfl rfl (by exact aI ha ha (by omega) (by omega)) ?_;rintro v4 h4 s4 q4
        repeat (first |(refine wo rfl (fun k hk=>?_);simp(disch:=omega) only[go_sem,ξ,ζ,BL];apply hk;clear hk k) |refine wkt rfl ?_ |refine wk0 ?_ |refine rg rfl rfl (fun K hK=>?_) |((first |refine ae ?_ |refine ac ?_);simp(disch:=decide) only[qs,qb,if_true,if_false,reduceIte]) |refine ah rfl (fun K hK=>?_) |refine ct rfl ?_ |((try simp(disch:=omega) only[go_sem,ξ,ζ]);(first |apply hK |(clear hK;apply hK) |(clear hK;clear hK;apply hK));clear hK;(try clear K);(try dsimp only[ag,qs,qb])))
        refine⟨(v4,vo,a*a,o,k / 2),?_,⟨q4,ho.to,hk2,b3,JE hm he⟩,hlt⟩
        simp(disch:=omega) only[go_sem,ξ,ζ]
theorem gO {a b:Rat} (n:Nat) (h0:0≤a) (h:a≤b):a^n≤b^n:=by
 induction n with
 |zero=>rw[Rat.pow_zero,Rat.pow_zero];exact qBk
 | succ n ih=>
  rw[Rat.pow_succ,Rat.pow_succ]
  have h1:=mll h (Rat.pow_nonneg (n:=n) h0)
  have h2:=mlr ih (show 0≤b by grind)
  exact qAq h1 h2
theorem uz (m n:Nat):bl (m^n)≤n*bl m+1:=by
 induction n with
 |zero=>rw[Nat.pow_zero,fI];omega
 | succ n ih=>
  rw[qAn]
  have:=aG (m^n) m
  have e:(n+1)*bl m=n*bl m+bl m:=Nat.succ_mul _ _
  omega
def irtTo (n a:Nat):Nat→Nat
 |0=>0
 |k+1=>if (k+1)^n≤a then k+1 else irtTo n a k
def irt (n a:Nat):Nat:=irtTo n a a
theorem irtTo_le (n a k:Nat) (hn:n≠0):irtTo n a k^n≤a:=by
 induction k with
 |zero=>show 0^n≤a;rw[Nat.zero_pow (τ hn)];exact qBh _
 | succ k ih=>
  show(if _ then _ else _)^n≤a
  split
  ·assumption
  ·exact ih
theorem irtTo_lt (n a k:Nat) {j:Nat} (h:j^n≤a) (hj:j≤k):j≤irtTo n a k:=by
 induction k with
 |zero=>omega
 | succ k ih=>
  show j≤if _ then _ else _
  split
  ·exact hj
  ·rename_i h1
   have:j≠k+1:=fun e=>h1 (e▸h)
   exact ih (by omega)
theorem jS {n a:Nat} (hn:n≠0):irt n a^n≤a:=irtTo_le n a a hn
theorem jx {n a j:Nat} (hn:n≠0) (h:j^n≤a):j≤irt n a:=by
 refine irtTo_lt n a a h (χ ?_ h)
 cases j with
 |zero=>exact qBh _
 |succ j=>exact Nat.le_self_pow hn _
theorem irt_eq {n a x:Nat} (hn:n≠0) (h1:x^n≤a) (h2:irt n a≤x):x=irt n a:=Nat.le_antisymm (jx hn h1) h2
theorem tz {n:Nat} (hn:n≠0):irt n 0=0:=by
 have:=jS (n:=n) (a:=0) hn
 have h1:irt n 0≤irt n 0^n:=Nat.le_self_pow hn _
 omega
theorem xZ {n a k:Nat} (hn:n≠0) (h:a < 2^(n*k)):irt n a < 2^k:=by
 refine Decidable.byContradiction fun c=>?_
 have h1:2^k≤irt n a:=by omega
 have h2:=Nat.pow_le_pow_left h1 n
 rw[←Nat.pow_mul,ρ k n] at h2
 have:=jS (n:=n) (a:=a) hn
 omega
theorem bern (r x m:Nat):(m+1)*(r*x^m)≤r^(m+1)+m*x^(m+1):=by
 induction m with
 |zero=>simp
 | succ m ih=>
  have h1:=ψ r ih
  have h2:2*(r*x)≤r*r+x*x:=by
   rcases Nat.le_total r x with h |h
   ·obtain⟨d,rfl⟩:=Nat.exists_eq_add_of_le h
    have:0≤d*d:=qBh _
    grind
   ·obtain⟨d,rfl⟩:=Nat.exists_eq_add_of_le h
    have:0≤d*d:=qBh _
    grind
  have h3:=ω ((m+1)*x^m) h2
  have e1:r^(m+1+1)=r^(m+1)*r:=qAn ..
  have e2:x^(m+1)=x^m*x:=qAn ..
  have e3:x^(m+1+1)=x^m*x*x:=by rw[qAn,e2]
  rw[e1,e3,e2]
  rw[e2] at h1
  generalize x^m=y at*
  generalize r^(m+1)=z at*
  grind
def nwt (n a x:Nat):Nat:=((n - 1)*x+a / x^(n - 1)) / n
theorem FA {n a x:Nat} (hn:n≠0) (hx:0 < x):irt n a≤nwt n a x:=by
 have hr:=jS (n:=n) (a:=a) hn
 generalize irt n a=r at*
 obtain⟨m,rfl⟩:∃m,n=m+1:=⟨n - 1,by omega⟩
 unfold nwt
 rw[Nat.add_sub_cancel,Nat.le_div_iff_mul_le (by omega)]
 have hb:=bern r x m
 have hp:0 < x^m:=qAo hx
 by_cases hc:r*(m+1)≤m*x
 ·exact χ hc (Nat.le_add_right _ _)
 ·obtain⟨t,ht⟩:∃t,r*(m+1)=m*x+t:=⟨r*(m+1) - m*x,by omega⟩
  have h1:t≤a / x^m:=by
   rw[Nat.le_div_iff_mul_le hp]
   have e1:(m+1)*(r*x^m)=m*x*x^m+t*x^m:=by
    rw[←Nat.add_mul,←ht,←σ,ρ (m+1) r]
   have e2:m*x^(m+1)=m*x*x^m:=by rw[qAn,ρ (x^m) x,σ]
   omega
  omega
theorem Dy {n a x:Nat} (hn:n≠0) (hx:0 < x) (h:x≤nwt n a x):x^n≤a:=by
 obtain⟨m,rfl⟩:∃m,n=m+1:=⟨n - 1,by omega⟩
 unfold nwt at h
 rw[Nat.add_sub_cancel,Nat.le_div_iff_mul_le (by omega)] at h
 have hp:0 < x^m:=qAo hx
 have e1:x*(m+1)=m*x+x:=by rw[qAm,qAz,ρ]
 have h1:x≤a / x^m:=by omega
 rw[Nat.le_div_iff_mul_le hp] at h1
 rw[qAn,ρ]
 exact h1
theorem irt_pos {n a:Nat} (hn:n≠0) (ha:0 < a):0 < irt n a:=jx hn (by rw[Nat.one_pow];exact ha)
theorem HB {n a x:Nat} (hn:n≠0) (ha:0 < a) (hx:0 < x):0 < nwt n a x:=Nat.lt_of_lt_of_le (irt_pos hn ha) (FA hn hx)
def rt0 (n a:Nat):Nat:=2^((bl a+n - 1) / n+1)
theorem DM {n a k:Nat} (hn:n≠0) (hk:(bl a+n - 1) / n≤k):irt n a≤2^k:=by
 have h1:bl a≤n*((bl a+n - 1) / n):=by
  have:=Nat.div_add_mod (bl a+n - 1) n
  have:=qBl (bl a+n - 1) (τ hn)
  omega
 have h2:a < 2^bl a:=bl_le.1 (η _)
 have h3:(2:Nat)^bl a≤2^(n*k):=qAv (by decide) (χ h1 (ω _ hk))
 exact Nat.le_of_lt (xZ hn (Nat.lt_of_lt_of_le h2 h3))
theorem cmp3_ge {m n:Nat}:0≤cmp3 m n↔n≤m:=by unfold cmp3;(repeat' split)<;>omega
theorem cmp3_eq0 {m n:Nat}:cmp3 m n=0↔m=n:=by unfold cmp3;(repeat' split)<;>omega
theorem vW {b n:Nat} (hn:2≤n) (hb:b≤2^20):(b+n - 1) / n≤2^20:=by
 rw[Nat.div_le_iff_le_mul_add_pred (by omega)]
 have:=qAk hn (η (2^20))
 omega
theorem N32.len0 {h:PH} {a:Option Addr} {l c n:Nat} (r:N32 h (.slice a l c) n):l=0↔n=0:=by
 obtain⟨_,_,_,e,_,h2,_⟩:=r.out
 cases e
 have:=nP B32 (n:=n)
 rw[h2] at this
 exact this
@[go_sem] theorem wrap_div {x y:Nat} (h:x < 4611686018427387904):IntKind.i64.wrap ((x / y:Nat):Int)=((x / y:Nat):Int):=by
 have:=Nat.div_le_self x y
 generalize x / y=z at*
 exact wi64 (by omega) (by omega)
@[go_sem] theorem wrap_div1 {x y c:Nat} (h:x+c < 4611686018427387904):IntKind.i64.wrap ((x / y+c:Nat):Int)=((x / y+c:Nat):Int):=by
 have:=Nat.div_le_self x y
 generalize x / y=z at*
 exact wi64 (by omega) (by omega)
theorem gj {h0 h:PH} [Le h0 h] {v:Value} {a n:Nat} (hv:N32 h0 v a) (hn:2≤n) (hn8:n≤8) (ba:bl a≤2^20):Spec mach 223 #[v,.int .i64 n] h (fun v h'=>∃r,v=.tuple #[r,.bool (decide (irt n a^n=a))]∧N32 h' r (irt n a)) NP:=by
 obtain⟨va,vl,vc,rfl,hv⟩:=hv.sl
 have hv0:=hv.len0
 have hn0:n≠0:=by omega
 by_cases ha0:a=0
 ·have hl:vl=0:=hv0.2 ha0
  subst ha0 hl
  refine Spec.enter (args:=[_,_]) (n:=59) Tryz.func223 rfl (by kernel_rfl) rfl (by simp) [.tmp 4,.tmp 5] rfl (fun C _=>?_)
  repeat (first |(refine wo rfl (fun k hk=>?_);simp(disch:=omega) only[go_sem,ξ,ζ];apply hk;clear hk k) |refine wkt rfl ?_ |refine wk0 ?_ |refine rg rfl rfl (fun K hK=>?_) |((first |refine ae ?_ |refine ac ?_);simp(disch:=decide) only[qs,qb,if_true,if_false,reduceIte]) |refine ah rfl (fun K hK=>?_) |refine ct rfl ?_ |((try simp(disch:=omega) only[go_sem,ξ,ζ]);(first |apply hK |(clear hK;apply hK) |(clear hK;clear hK;apply hK));clear hK;(try clear K);(try dsimp only[ag,qs,qb])))
  refine ai ?_;simp(disch:=omega) only[go_sem,ξ,ζ]
  rw[tz hn0,Nat.zero_pow (by omega)]
  exact⟨_,rfl,N32.zero _⟩
 ·have hl:¬vl=0:=fun k=>ha0 (hv0.1 k)
  refine Spec.enter (args:=[_,_]) (n:=59) Tryz.func223 rfl (by kernel_rfl) rfl (by simp) [.tmp 4,.tmp 5] rfl (fun C _=>?_)
  repeat (first |(refine rg rfl rfl (fun K hK=>?_);(repeat (first |(refine wo rfl (fun k hk=>?_);simp(disch:=omega) only[go_sem,ξ,ζ];apply hk;clear hk k) |refine wkt rfl ?_));(try refine wk0 ?_);apply hK;clear hK K;(try dsimp only[ag,qs,qb])) |((first |refine ae ?_ |refine ac ?_);simp(disch:=decide) only[qs,qb,if_true,if_false,reduceIte]) |refine ah rfl (fun K hK=>?_) |refine ct rfl ?_ |((first |refine hK _ _ ?_ |(clear hK;refine hK _ _ ?_) |(clear hK;clear hK;refine hK _ _ ?_));clear hK;(try clear K)))
  have bx:∀x,x≤rt0 n a→bl x≤2^20+2:=fun x hx=>by
   have h1:=aR hx
   have h2:=bC ((bl a+n - 1) / n+1)
   have h3:=vW hn ba
   unfold rt0 at h1
   omega
  have hs:(bl a+n - 1) / n+1≤2^20+1:=by have:=vW hn ba;omega
  refine rg rfl rfl (fun K hK=>?_);(repeat (first |(refine wo rfl (fun k hk=>?_);simp(disch:=omega) only[go_sem,ξ,ζ];apply hk;clear hk k) |refine wkt rfl ?_));(try refine wk0 ?_)
  refine cN rfl rfl rfl rfl (by exact aw (n:=1) (by decide)) ?_;rintro o1 h1 _ q1;obtain⟨o1,o1_l,o1_c,rfl,q1⟩:=q1.sl;(repeat (first |(refine wo rfl (fun k hk=>?_);simp(disch:=omega) only[go_sem,ξ,ζ];apply hk;clear hk k) |refine wkt rfl ?_));(try refine wk0 ?_)
  refine cN rfl rfl rfl rfl (by exact mG hv) ?_;rintro o2 h2 s2 rfl;(repeat (first |(refine wo rfl (fun k hk=>?_);simp(disch:=omega) only[go_sem,ξ,ζ];apply hk;clear hk k) |refine wkt rfl ?_));(try refine wk0 ?_)
  refine cN rfl rfl rfl rfl (by exact aL (n:=(bl a+n - 1) / n+1) (q1.to (h':=h2)) (by rw[fI];omega)) ?_;rintro o3 h3 _ q3;obtain⟨o3,o3_l,o3_c,rfl,q3⟩:=q3.sl
  repeat (first |(refine wo rfl (fun k hk=>?_);simp(disch:=omega) only[go_sem,ξ,ζ];apply hk;clear hk k) |refine wkt rfl ?_ |refine wk0 ?_ |((first |refine rg rfl rfl (fun K hK=>?_));(repeat (first |(refine wo rfl (fun k hk=>?_);simp(disch:=omega) only[go_sem,ξ,ζ];apply hk;clear hk k) |refine wkt rfl ?_ |refine wk0 ?_));(first |apply hK |(clear hK;apply hK) |(clear hK;clear hK;apply hK));clear hK;(try clear K);(try dsimp only[ag,qs,qb])) |((first |refine ae ?_ |refine ac ?_);simp(disch:=decide) only[qs,qb,if_true,if_false,reduceIte]) |refine ah rfl (fun K hK=>?_) |refine ct rfl ?_ |((try simp(disch:=omega) only[go_sem,ξ,ζ]);(first |apply hK |(clear hK;apply hK) |(clear hK;clear hK;apply hK));clear hK;(try clear K);(try dsimp only[ag,qs,qb])))
  rw[qBm] at q3
  refine cg (fun x:Value×Nat=>⟨[(0,.v (.slice va vl vc)),(1,.v (.int .i64 n)),(6,.v x.1)],[]⟩)
   (fun x h'=>Le h0 h'∧N32 h' x.1 x.2∧0 < x.2∧irt n a≤x.2∧x.2≤rt0 n a) (fun x=>x.2) (.slice o3 o3_l o3_c,rt0 n a) ?_ ⟨inferInstance,q3,qAo (by decide),DM hn0 (Nat.le_succ _),η _⟩ ?_
  ·simp(disch:=omega) only[go_sem,ξ,ζ]
  ·rintro⟨xv,x⟩ h4 ⟨le4,hx,hx0,hxi,hxr⟩
   dsimp only at hx hx0 hxi hxr ⊢
   have bxx:=bx x hxr
   obtain⟨xa,xl,xc,rfl,hx⟩:=hx.sl
   have m1:bl x*(n - 1)≤(2^20+2)*8:=qAk bxx (by omega)
   have m2:bl x*n≤(2^20+2)*8:=qAk bxx hn8
   have p1:=uz x (n - 1)
   have p2:=uz x n
   rw[ρ] at p1 p2
   have hp:0 < x^(n - 1):=qAo hx0
   have hy1:=FA (n:=n) (a:=a) hn0 hx0
   have hy2:=Dy (n:=n) (a:=a) hn0 hx0
   have hy3:=HB (n:=n) (a:=a) hn0 (by omega) hx0
   have b3:=aR (Nat.div_le_self a (x^(n - 1)))
   have b4:=aG x (n - 1)
   have b5:bl (n - 1)≤8:=χ (aR (show n - 1≤8 by omega)) (by decide)
   have b6:=cY (x*(n - 1)) (a / x^(n - 1))
   repeat (first |(refine wo rfl (fun k hk=>?_);simp(disch:=omega) only[go_sem,ξ,ζ];apply hk;clear hk k) |refine wkt rfl ?_ |refine wk0 ?_ |refine rg rfl rfl (fun K hK=>?_) |((first |refine ae ?_ |refine ac ?_);simp(disch:=decide) only[qs,qb,if_true,if_false,reduceIte]) |refine ah rfl (fun K hK=>?_) |refine ct rfl ?_ |((try simp(disch:=omega) only[go_sem,ξ,ζ]);(first |apply hK |(clear hK;apply hK) |(clear hK;clear hK;apply hK));clear hK;(try clear K);(try dsimp only[ag,qs,qb])))
   refine cN rfl rfl rfl rfl (by exact jL (n:=n - 1) hx (by omega) (by omega)) ?_;rintro u1 g1 _ t1;obtain⟨u1,u1_l,u1_c,rfl,t1⟩:=t1.sl;(repeat (first |(refine wo rfl (fun k hk=>?_);simp(disch:=omega) only[go_sem,ξ,ζ];apply hk;clear hk k) |refine wkt rfl ?_));(try refine wk0 ?_)
   refine cN rfl rfl rfl rfl (by exact gU (hv.to (h':=g1)) t1 (by omega) (by omega) (by omega)) ?_;rintro w2 g2 s2 ⟨q,r,rfl,hq,hr⟩;(repeat (first |(refine wo rfl (fun k hk=>?_);simp(disch:=omega) only[go_sem,ξ,ζ];apply hk;clear hk k) |refine wkt rfl ?_));(try refine wk0 ?_)
   (repeat (first |(refine wo rfl (fun k hk=>?_);simp(disch:=omega) only[go_sem,ξ,ζ];apply hk;clear hk k) |refine wkt rfl ?_));(try refine wk0 ?_)
   repeat (first |(refine wo rfl (fun k hk=>?_);simp(disch:=omega) only[go_sem,ξ,ζ];apply hk;clear hk k) |refine wkt rfl ?_ |refine wk0 ?_ |((first |refine rg rfl rfl (fun K hK=>?_));(repeat (first |(refine wo rfl (fun k hk=>?_);simp(disch:=omega) only[go_sem,ξ,ζ];apply hk;clear hk k) |refine wkt rfl ?_ |refine wk0 ?_));(first |apply hK |(clear hK;apply hK) |(clear hK;clear hK;apply hK));clear hK;(try clear K);(try dsimp only[ag,qs,qb])) |((first |refine ae ?_ |refine ac ?_);simp(disch:=decide) only[qs,qb,if_true,if_false,reduceIte]) |refine ah rfl (fun K hK=>?_) |refine ct rfl ?_ |((try simp(disch:=omega) only[go_sem,ξ,ζ]);(first |apply hK |(clear hK;apply hK) |(clear hK;clear hK;apply hK));clear hK;(try clear K);(try dsimp only[ag,qs,qb])))
   have en:x*(n - 1)+a / x^(n - 1)=(n - 1)*x+a / x^(n - 1):=by rw[ρ]
   refine rg rfl rfl (fun K hK=>?_);(repeat (first |(refine wo rfl (fun k hk=>?_);simp(disch:=omega) only[go_sem,ξ,ζ];apply hk;clear hk k) |refine wkt rfl ?_));(try refine wk0 ?_)
   refine cN rfl rfl rfl rfl (by exact aw (n:=n - 1) (by omega)) ?_;rintro u3 g3 _ t3;obtain⟨u3,u3_l,u3_c,rfl,t3⟩:=t3.sl;(repeat (first |(refine wo rfl (fun k hk=>?_);simp(disch:=omega) only[go_sem,ξ,ζ];apply hk;clear hk k) |refine wkt rfl ?_));(try refine wk0 ?_)
   refine cN rfl rfl rfl rfl (by exact aI (hx.to (h':=g3)) t3 (by omega) (by omega)) ?_;rintro u4 g4 _ t4;obtain⟨u4,u4_l,u4_c,rfl,t4⟩:=t4.sl;(repeat (first |(refine wo rfl (fun k hk=>?_);simp(disch:=omega) only[go_sem,ξ,ζ];apply hk;clear hk k) |refine wkt rfl ?_));(try refine wk0 ?_)
   refine cN rfl rfl rfl rfl (by exact bR t4 (hq.to (h':=g4)) (by omega) (by omega)) ?_;rintro u5 g5 _ t5;obtain⟨u5,u5_l,u5_c,rfl,t5⟩:=t5.sl;(repeat (first |(refine wo rfl (fun k hk=>?_);simp(disch:=omega) only[go_sem,ξ,ζ];apply hk;clear hk k) |refine wkt rfl ?_));(try refine wk0 ?_)
   refine cN rfl rfl rfl rfl (by exact nN (d:=n) t5 (by omega) (by omega) (by omega)) ?_;rintro w6 g6 s6 ⟨y,rfl,hy⟩;(repeat (first |(refine wo rfl (fun k hk=>?_);simp(disch:=omega) only[go_sem,ξ,ζ];apply hk;clear hk k) |refine wkt rfl ?_));(try refine wk0 ?_)
   (repeat (first |(refine wo rfl (fun k hk=>?_);simp(disch:=omega) only[go_sem,ξ,ζ];apply hk;clear hk k) |refine wkt rfl ?_));(try refine wk0 ?_)
   (try (simp(disch:=omega) only[go_sem,ξ,ζ]));apply hK;clear hK;(try clear K);(try dsimp only[ag,qs])
   rw[en] at hy
   have hy:N32 g6 y (nwt n a x):=hy
   clear en
   generalize nwt n a x=z at*
   obtain⟨ya,yl,yc,rfl,hy⟩:=hy.sl
   repeat (first |(refine rg rfl rfl (fun K hK=>?_);(repeat (first |(refine wo rfl (fun k hk=>?_);simp(disch:=omega) only[go_sem,ξ,ζ];apply hk;clear hk k) |refine wkt rfl ?_));(try refine wk0 ?_);apply hK;clear hK K;(try dsimp only[ag,qs,qb])) |((first |refine ae ?_ |refine ac ?_);simp(disch:=decide) only[qs,qb,if_true,if_false,reduceIte]) |refine ah rfl (fun K hK=>?_) |refine ct rfl ?_ |((first |refine hK _ _ ?_ |(clear hK;refine hK _ _ ?_) |(clear hK;clear hK;refine hK _ _ ?_));clear hK;(try clear K)))
   by_cases hc:x≤z
   ·have e1:0≤cmp3 z x:=cmp3_ge.2 hc
    have exi:x=irt n a:=irt_eq hn0 (hy2 hc) hxi
    refine rg rfl rfl (fun K hK=>?_);(repeat (first |(refine wo rfl (fun k hk=>?_);simp(disch:=omega) only[go_sem,ξ,ζ];apply hk;clear hk k) |refine wkt rfl ?_));(try refine wk0 ?_)
    refine cN rfl rfl rfl rfl (by exact fO hy (hx.to (h':=g6))) ?_;rintro w7 g7 s7 rfl
    repeat (first |(refine wo rfl (fun k hk=>?_);simp(disch:=omega) only[go_sem,ξ,ζ];apply hk;clear hk k) |refine wkt rfl ?_ |refine wk0 ?_ |((first |refine rg rfl rfl (fun K hK=>?_));(repeat (first |(refine wo rfl (fun k hk=>?_);simp(disch:=omega) only[go_sem,ξ,ζ];apply hk;clear hk k) |refine wkt rfl ?_ |refine wk0 ?_));(first |apply hK |(clear hK;apply hK) |(clear hK;clear hK;apply hK));clear hK;(try clear K);(try dsimp only[ag,qs,qb])) |((first |refine ae ?_ |refine ac ?_);simp(disch:=decide) only[qs,qb,if_true,if_false,reduceIte]) |refine ah rfl (fun K hK=>?_) |refine ct rfl ?_ |((try simp(disch:=omega) only[go_sem,ξ,ζ]);(first |apply hK |(clear hK;apply hK) |(clear hK;clear hK;apply hK));clear hK;(try clear K);(try dsimp only[ag,qs,qb])))
    by_cases hq0:x^n=a
    ·have e2:cmp3 (x^n) a=0:=cmp3_eq0.2 hq0
     refine rg rfl rfl (fun K hK=>?_);(repeat (first |(refine wo rfl (fun k hk=>?_);simp(disch:=omega) only[go_sem,ξ,ζ];apply hk;clear hk k) |refine wkt rfl ?_));(try refine wk0 ?_)
     refine cN rfl rfl rfl rfl (by exact jL (n:=n) (hx.to (h':=g7)) (by omega) (by omega)) ?_;rintro u8 g8 _ t8;obtain⟨u8,u8_l,u8_c,rfl,t8⟩:=t8.sl;(repeat (first |(refine wo rfl (fun k hk=>?_);simp(disch:=omega) only[go_sem,ξ,ζ];apply hk;clear hk k) |refine wkt rfl ?_));(try refine wk0 ?_)
     refine cN rfl rfl rfl rfl (by exact fO t8 (hv.to (h':=g8))) ?_;rintro w9 g9 s9 rfl
     repeat (first |(refine wo rfl (fun k hk=>?_);simp(disch:=omega) only[go_sem,ξ,ζ];apply hk;clear hk k) |refine wkt rfl ?_ |refine wk0 ?_ |refine rg rfl rfl (fun K hK=>?_) |((first |refine ae ?_ |refine ac ?_);simp(disch:=decide) only[qs,qb,if_true,if_false,reduceIte]) |refine ah rfl (fun K hK=>?_) |refine ct rfl ?_ |((try simp(disch:=omega) only[go_sem,ξ,ζ]);(first |apply hK |(clear hK;apply hK) |(clear hK;clear hK;apply hK));clear hK;(try clear K);(try dsimp only[ag,qs,qb])))
     refine ai ?_;simp(disch:=omega) only[go_sem,ξ,ζ]
     rw[←exi,decide_eq_true hq0]
     exact⟨_,rfl,hx.to⟩
    ·have e2:¬cmp3 (x^n) a=0:=fun k=>hq0 (cmp3_eq0.1 k)
     refine rg rfl rfl (fun K hK=>?_);(repeat (first |(refine wo rfl (fun k hk=>?_);simp(disch:=omega) only[go_sem,ξ,ζ];apply hk;clear hk k) |refine wkt rfl ?_));(try refine wk0 ?_)
     refine cN rfl rfl rfl rfl (by exact jL (n:=n) (hx.to (h':=g7)) (by omega) (by omega)) ?_;rintro u8 g8 _ t8;obtain⟨u8,u8_l,u8_c,rfl,t8⟩:=t8.sl;(repeat (first |(refine wo rfl (fun k hk=>?_);simp(disch:=omega) only[go_sem,ξ,ζ];apply hk;clear hk k) |refine wkt rfl ?_));(try refine wk0 ?_)
     refine cN rfl rfl rfl rfl (by exact fO t8 (hv.to (h':=g8))) ?_;rintro w9 g9 s9 rfl
     repeat (first |(refine wo rfl (fun k hk=>?_);simp(disch:=omega) only[go_sem,ξ,ζ];apply hk;clear hk k) |refine wkt rfl ?_ |refine wk0 ?_ |refine rg rfl rfl (fun K hK=>?_) |((first |refine ae ?_ |refine ac ?_);simp(disch:=decide) only[qs,qb,if_true,if_false,reduceIte]) |refine ah rfl (fun K hK=>?_) |refine ct rfl ?_ |((try simp(disch:=omega) only[go_sem,ξ,ζ]);(first |apply hK |(clear hK;apply hK) |(clear hK;clear hK;apply hK));clear hK;(try clear K);(try dsimp only[ag,qs,qb])))
     refine ai ?_;simp(disch:=omega) only[go_sem,ξ,ζ]
     rw[←exi,decide_eq_false hq0]
     exact⟨_,rfl,hx.to⟩
   ·have e1:¬0≤cmp3 z x:=fun k=>hc (cmp3_ge.1 k)
    refine rg rfl rfl (fun K hK=>?_);(repeat (first |(refine wo rfl (fun k hk=>?_);simp(disch:=omega) only[go_sem,ξ,ζ];apply hk;clear hk k) |refine wkt rfl ?_));(try refine wk0 ?_)
    refine cN rfl rfl rfl rfl (by exact fO hy (hx.to (h':=g6))) ?_;rintro w7 g7 s7 rfl
    repeat (first |(refine wo rfl (fun k hk=>?_);simp(disch:=omega) only[go_sem,ξ,ζ];apply hk;clear hk k) |refine wkt rfl ?_ |refine wk0 ?_ |refine rg rfl rfl (fun K hK=>?_) |((first |refine ae ?_ |refine ac ?_);simp(disch:=decide) only[qs,qb,if_true,if_false,reduceIte]) |refine ah rfl (fun K hK=>?_) |refine ct rfl ?_ |((try simp(disch:=omega) only[go_sem,ξ,ζ]);(first |apply hK |(clear hK;apply hK) |(clear hK;clear hK;apply hK));clear hK;(try clear K);(try dsimp only[ag,qs,qb])))
    refine⟨(_,z),?_,⟨inferInstance,hy.to,hy3,hy1,by omega⟩,by omega⟩
    simp(disch:=omega) only[go_sem,ξ,ζ]


def fail (e:Int):List PanicEntry→PH→Prop:=fun ch _=>ch=[{v:=.iface 159 (.agg #[.int .i64 e]),recovered:=false}]
def NR:Value→PH→Prop:=fun _ _=>False
theorem must_ok {h:PH}:Spec mach 50 #[.int .i64 0] h (fun _ _=>True) NP:=by
 refine Spec.enter (args:=[_]) (n:=7) Tryz.func50 rfl (by kernel_rfl) rfl (by simp) [] rfl (fun C _=>?_)
 repeat (first |(refine rg rfl rfl (fun K hK=>?_);(repeat (first |(refine wo rfl (fun k hk=>?_);simp(disch:=omega) only[go_sem,ξ,ζ];apply hk;clear hk k) |refine wkt rfl ?_));(try refine wk0 ?_);apply hK;clear hK K;(try dsimp only[ag,qs,qb])) |((first |refine ae ?_ |refine ac ?_);simp(disch:=decide) only[qs,qb,if_true,if_false,reduceIte]) |refine ah rfl (fun K hK=>?_) |refine ct rfl ?_ |((first |refine hK _ _ ?_ |(clear hK;refine hK _ _ ?_) |(clear hK;clear hK;refine hK _ _ ?_));clear hK;(try clear K)))
 refine ac ?_
 simp(disch:=omega) only[go_sem,ξ,ζ]
theorem jm {h:PH} {e:Int} (he:e≠0):Spec mach 50 #[.int .i64 e] h NR (fail e):=by
 refine Spec.enter (args:=[_]) (n:=7) Tryz.func50 rfl (by kernel_rfl) rfl (by simp) [] rfl (fun C _=>?_)
 repeat (first |(refine wo rfl (fun k hk=>?_);simp(disch:=omega) only[go_sem,ξ,ζ];apply hk;clear hk k) |refine wkt rfl ?_ |refine wk0 ?_ |refine rg rfl rfl (fun K hK=>?_) |((first |refine ae ?_ |refine ac ?_);simp(disch:=decide) only[qs,qb,if_true,if_false,reduceIte]) |refine ah rfl (fun K hK=>?_) |refine ct rfl ?_ |((try simp(disch:=omega) only[go_sem,ξ,ζ]);(first |apply hK |(clear hK;apply hK) |(clear hK;clear hK;apply hK));clear hK;(try clear K);(try dsimp only[ag,qs,qb])))
 refine wo rfl (fun k hk=>?_);simp(disch:=omega) only[go_sem,ξ,ζ]
 refine⟨by kernel_rfl,?_⟩
 apply hk;clear hk k
 refine wo rfl (fun k hk=>?_);simp(disch:=omega) only[go_sem,ξ,ζ]
 all_goals exact rfl
theorem aU {h:PH} {n a b:Int} (h1:a≤n) (h2:n≤b):Spec mach 16 #[.int .i64 n,.int .i64 a,.int .i64 b] h (fun _ _=>True) NP:=by
 refine Spec.enter (args:=[_,_,_]) (n:=15) Tryz.func16 rfl (by kernel_rfl) rfl (by simp) [] rfl (fun C _=>?_)
 repeat (first |(refine rg rfl rfl (fun K hK=>?_);(repeat (first |(refine wo rfl (fun k hk=>?_);simp(disch:=omega) only[go_sem,ξ,ζ];apply hk;clear hk k) |refine wkt rfl ?_));(try refine wk0 ?_);apply hK;clear hK K;(try dsimp only[ag,qs,qb])) |((first |refine ae ?_ |refine ac ?_);simp(disch:=decide) only[qs,qb,if_true,if_false,reduceIte]) |refine ah rfl (fun K hK=>?_) |refine ct rfl ?_ |((first |refine hK _ _ ?_ |(clear hK;refine hK _ _ ?_) |(clear hK;clear hK;refine hK _ _ ?_));clear hK;(try clear K)))
 refine ac ?_
 simp(disch:=omega) only[go_sem,ξ,ζ]
theorem iN {h:PH} {n a b:Int} (h1:n < a∨b < n):Spec mach 16 #[.int .i64 n,.int .i64 a,.int .i64 b] h NR (fail 2):=by
 refine Spec.go [] Tryz.func16 rfl rfl (by kernel_rfl) fun C _=>?_
 try simp(maxSteps:=999999) (disch:=omega) only[go_sem,ξ,ζ]
 by_cases h2:n < a
 ·try simp(maxSteps:=999999) (disch:=omega) only[go_sem,ξ,ζ]
  exact caF (by exact jm (by decide)) (fun _ _ h=>h)
 ·have h3:b < n:=h1.resolve_left h2
  try simp(maxSteps:=999999) (disch:=omega) only[go_sem,ξ,ζ]
  exact caF (by exact jm (by decide)) (fun _ _ h=>h)
theorem iM {h0 h:PH} [Le h0 h] {v:Value} {neg:Bool} {n d:Nat} (hv:Rw h0 v neg n d) (hl:¬lg neg n d):Spec mach 51 #[v] h (fun v h'=>Fr h' v (qof neg n d)) NP:=by
 obtain⟨_,_,_,_,_,_,_,rfl,hv⟩:=hv.sa
 refine Spec.go [] Tryz.func51 rfl rfl (by kernel_rfl) fun C _=>?_
 try simp(maxSteps:=999999) (disch:=omega) only[go_sem,ξ,ζ]
 refine caN (by exact sN hv hl) ?_;rintro v1 h1 s1 ⟨f,rfl,hf⟩;obtain⟨_,_,_,_,_,_,_,rfl,hf⟩:=hf.sa
 try simp(maxSteps:=999999) (disch:=omega) only[go_sem,ξ,ζ]
 exact hf.to
theorem jn {h0 h:PH} [Le h0 h] {v:Value} {neg:Bool} {n d:Nat} (hv:Rw h0 v neg n d) (hl:lg neg n d):Spec mach 51 #[v] h NR (fail 1):=by
 obtain⟨_,_,_,_,_,_,_,rfl,hv⟩:=hv.sa
 refine Spec.go [] Tryz.func51 rfl rfl (by kernel_rfl) fun C _=>?_
 try simp(maxSteps:=999999) (disch:=omega) only[go_sem,ξ,ζ]
 refine caN (by exact Gm hv hl) ?_;rintro v1 h1 s1 ⟨b,a,l,c,a',l',c',rfl⟩
 try simp(maxSteps:=999999) (disch:=omega) only[go_sem,ξ,ζ]
 exact caF (by exact jm (by decide)) (fun _ _ h=>h)
theorem fm {h0 h:PH} [Le h0 h] {v:Value} {x:Rat} (hv:Cn h0 v x):Spec mach 124 #[v,.int .i64 0] h (fun w _=>w=v) NP:=by
 obtain⟨_,_,_,_,_,_,_,rfl,hv⟩:=hv.sa
 refine Spec.go [] Tryz.func124 rfl rfl (by kernel_rfl) fun C _=>?_
 try simp(maxSteps:=999999) (disch:=omega) only[go_sem,ξ,ζ]
 refine caN (by exact must_ok) ?_;rintro v1 h1 s1 _
 try simp(maxSteps:=999999) (disch:=omega) only[go_sem,ξ,ζ]
 all_goals exact rfl
theorem jj {h:PH} {e:Int} (he:e≠0):Spec mach 124 #[zRat,.int .i64 e] h NR (fail e):=by
 unfold zRat
 refine Spec.go [] Tryz.func124 rfl rfl (by kernel_rfl) fun C _=>?_
 try simp(maxSteps:=999999) (disch:=omega) only[go_sem,ξ,ζ]
 exact caF (by exact jm he) (fun _ _ h=>h)
end Go.Q
