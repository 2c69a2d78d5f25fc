/-
  Contracts of package word, and what stands on it. Conditions: each theorem's own.
-/
import Derived.Test.YtgmcchhklbeckaaGreatDoorKf08e96PkG
import Derived.Test.YtgmcchhklbeckaaGreatDoorK0ef115PkD
set_option linter.unusedVariables false
set_option linter.unusedSimpArgs false
open Nat renaming reduceBEq→ξ,reduceAdd→ζ,le_trans→χ,mul_le_mul_right→ψ,le_refl→η,mul_comm→ρ,mul_le_mul_left→ω,mul_assoc→σ,mul_le_mul→qAk,mul_add→qAm,pow_succ→qAn,pow_pos→qAo,pow_add→qAs,pow_le_pow_right→qAv,mul_one→qAz,mul_left_comm→qBg,mod_eq_of_lt→qBi,lt_or_ge→qBj,mod_lt→qBl,one_mul→qBm
open List renaming length_append→qAp,take_of_length_le→qAr,mem_append→qAu,getD_eq_getElem?_getD→qAy
namespace Go.Q
open Go.Proofs
set_option maxRecDepth 100000
theorem FD {d r s:Nat} (hd:d < 2^r):d ||| 2^r*s=d+2^r*s:=by
 rw[Nat.or_comm,←Nat.two_pow_add_eq_or_of_lt hd,Nat.add_comm]
theorem or_shl {d r x:Nat} (hr:r≤32) (hd:d < 2^r):d ||| (x*2^r % 4294967296)=d+x*2^r % 4294967296:=by
 have:x*2^r % 4294967296=2^r*(x % 2^(32 - r)):=by
  have e:(4294967296:Nat)=2^r*2^(32 - r):=by rw[←qAs,show r+(32 - r)=32 by omega]
  rw[e,ρ x,Nat.mul_mod_mul_left]
 rw[this,FD hd]
theorem shl_step {V D R X x s P Q p:Nat} (hi:V+P*D=Q*(R*X)) (hs:s=x*R) (hP:P=Q*p):V+P*(D+s % 4294967296)+P*4294967296*(s / 4294967296)=Q*(R*(X+p*x)):=by
 have h1:=dm P 4294967296 s
 have h2:P*s=Q*(R*(p*x)):=by rw[hs,hP];simp only[σ,ρ,qBg]
 rw[qAm P,qAm R,qAm Q]
 omega
theorem Fi (k i:Nat):(List.replicate k 0).getD i 0=0:=by
 simp only[qAy,List.getElem?_replicate]
 split<;>rfl
theorem oe {rs:List Nat} {k d:Nat} (hk:k < rs.length):(rs.set k d).getD k 0=d:=by simp[hk]
theorem aL {h0 h:PH} [Le h0 h] {v:Value} {m n:Nat} (hv:N32 h0 v m) (bm:bl m+n≤2^40):Spec mach 204 #[v,.int .i64 n] h (fun v h'=>N32 h' v (m*2^n)) NP:=by
 obtain⟨a,c,xs,rfl,ha,hxs,hm⟩:=hv.out
 have hs:xs.length+n≤2^40:=by have:=dj m;rw[hxs] at this;omega
 refine Spec.enter (args:=[_,_]) (n:=58) Tryz.func204 rfl (by kernel_rfl) rfl (by simp) [.tmp 4] rfl (fun C _=>?_)
 by_cases hx0:xs.length=0
 ·repeat (first |(refine wo rfl (fun k hk=>?_);simp(disch:=omega) only[go_sem,ξ,ζ];apply hk;clear hk k) |refine wkt rfl ?_ |refine wk0 ?_ |refine rg rfl rfl (fun K hK=>?_) |((first |refine ae ?_ |refine ac ?_);simp(disch:=decide) only[qs,qb,if_true,if_false,reduceIte]) |refine ah rfl (fun K hK=>?_) |refine ct rfl ?_ |((try simp(disch:=omega) only[go_sem,ξ,ζ]);(first |apply hK |(clear hK;apply hK) |(clear hK;clear hK;apply hK));clear hK;(try clear K);(try dsimp only[ag,qs,qb])))
  refine ai ?_;simp(disch:=omega) only[go_sem,ξ,ζ]
  rw[←hm,List.eq_nil_of_length_eq_zero hx0];simp only[val,Nat.zero_mul];exact N32.zero _
 have hp:2^(n % 32)≤2147483648:=qAv (show 0 < 2 by omega) (show n % 32≤31 by omega)
 have hp0:0 < 2^(n % 32):=qAo (by omega)
 repeat (first |(refine wo rfl (fun k hk=>?_);simp(disch:=omega) only[go_sem,ξ,ζ];apply hk;clear hk k) |refine wkt rfl ?_ |refine wk0 ?_ |refine rg rfl rfl (fun K hK=>?_) |((first |refine ae ?_ |refine ac ?_);simp(disch:=decide) only[qs,qb,if_true,if_false,reduceIte]) |refine ah rfl (fun K hK=>?_) |refine ct rfl ?_ |((try simp(disch:=omega) only[go_sem,ξ,ζ]);(first |apply hK |(clear hK;apply hK) |(clear hK;clear hK;apply hK));clear hK;(try clear K);(try dsimp only[ag,qs,qb])))
 refine cg (fun x:Nat×List Nat=>⟨[(5,.v (.int .i64 (n / 32:Nat))),(6,.v (.int .u64 (n % 32:Nat))),(7,.s 0 0 (xs.length+n / 32+1) (xs.length+n / 32+1)),(25,.v (.slice a xs.length c)),(26,.v (.int .i64 xs.length)),(27,.v (.int .i64 x.1))],[uw x.2]⟩)
   (fun x h'=>Le h0 h'∧x.1≤xs.length∧x.2.length=xs.length+n / 32+1∧(∀d∈x.2,d < 4294967296)∧x.2.getD (n / 32+x.1) 0 < 2^(n % 32)∧val 4294967296 (x.2.take (n / 32+x.1+1))=4294967296^(n / 32)*(2^(n % 32)*val 4294967296 (xs.take x.1))) (fun x=>xs.length - x.1) (0,List.replicate (xs.length+n / 32+1) 0) ?_ ⟨?_,by simp,by simp,gG (by decide),?_,?_⟩ ?_
 ·simp(disch:=omega) only[go_sem,ξ,ζ]
 ·exact inferInstance
 ·rw[Fi];exact hp0
 ·simp[val,mO]
 ·rintro⟨k,rs⟩ h1 ⟨hle,hk,hr,hlt,hd,hi⟩
  dsimp only at hk hr hlt hd hi ⊢
  by_cases hkl:k < xs.length
  ·obtain⟨ad,rfl,hat⟩:=ha.rd h1 (i:=k) (by omega)
   have hx:=aM (by decide) ha.lt k
   have hb:xs.getD k 0*2^(n % 32)≤4294967295*2147483648:=qAk (by omega) hp
   have hor:=or_shl (x:=xs.getD k 0) (show n % 32≤32 by omega) hd
   have hi0:=hi
   rw[aq] at hi0
   have hd2:=aM (by decide) hlt (n / 32+k)
   repeat (first |(refine wo rfl (fun k hk=>?_);simp(disch:=omega) only[go_sem,ξ,ζ,hat];apply hk;clear hk k) |refine wkt rfl ?_ |refine wk0 ?_ |refine rg rfl rfl (fun K hK=>?_) |((first |refine ae ?_ |refine ac ?_);simp(disch:=decide) only[qs,qb,if_true,if_false,reduceIte]) |refine ah rfl (fun K hK=>?_) |refine ct rfl ?_ |((try simp(disch:=omega) only[go_sem,ξ,ζ]);(first |apply hK |(clear hK;apply hK) |(clear hK;clear hK;apply hK));clear hK;(try clear K);(try dsimp only[ag,qs,qb])))
   refine⟨(k+1,(rs.set (n / 32+k) (rs.getD (n / 32+k) 0 ||| xs.getD k 0*2^(n % 32) % 4294967296)).set (n / 32+k+1) (xs.getD k 0*2^(n % 32) / 4294967296)),?_,⟨hle,by dsimp only;omega,by simp[hr],?_,?_,?_⟩,by simp only;omega⟩
   ·simp(disch:=omega) only[go_sem,ξ,ζ]
   ·refine d9 (d9 hlt ?_) (by omega)
    exact Nat.or_lt_two_pow (n:=32) hd2 (qBl _ (by decide))
   ·dsimp only
    rw[show n / 32+(k+1)=n / 32+k+1 by omega,oe (by simp[hr];omega)]
    exact Nat.div_lt_of_lt_mul (Nat.mul_lt_mul_of_pos_right hx hp0)
   ·dsimp only
    rw[show n / 32+(k+1)+1=n / 32+k+1+1 by omega,bO (by simp[hr];omega),bO (by omega),hor,qAn,aq _ xs]
    exact shl_step hi0 rfl (qAs _ _ _)
  ·repeat (first |(refine rg rfl rfl (fun K hK=>?_);(repeat (first |(refine wo rfl (fun k hk=>?_);simp(disch:=omega) only[go_sem,ξ,ζ];apply hk;clear hk k) |refine wkt rfl ?_));(try refine wk0 ?_);apply hK;clear hK K;(try dsimp only[ag,qs,qb])) |((first |refine ae ?_ |refine ac ?_);simp(disch:=decide) only[qs,qb,if_true,if_false,reduceIte]) |refine ah rfl (fun K hK=>?_) |refine ct rfl ?_ |((first |refine hK _ _ ?_ |(clear hK;refine hK _ _ ?_) |(clear hK;clear hK;refine hK _ _ ?_));clear hK;(try clear K)))
   obtain rfl:k=xs.length:=by omega
   refine fk [.o 0,.p 0,.o 1,.o 2] rfl rfl (fun K hK=>?_);(repeat (first |(refine wo rfl (fun k hk=>?_);simp(disch:=omega) only[go_sem,ξ,ζ];apply hk;clear hk k) |refine wkt rfl ?_));(try refine wk0 ?_)
   refine wkp ?_;simp(disch:=omega) only[go_sem,ξ,ζ];intro b h2 hs2 hb;(repeat (first |(refine wo rfl (fun k hk=>?_);simp(disch:=omega) only[go_sem,ξ,ζ];apply hk;clear hk k) |refine wkt rfl ?_));(try refine wk0 ?_)
   have hA:Arr h2 (some ⟨b,0,none⟩) (xs.length+n / 32+1) rs:=.of_row (fun hne=>hb ((uw_ne _).1 hne)) hlt (by omega) (by omega)
   have hval:val 4294967296 rs=m*2^n:=by
    rw[qAr (by omega),qAr (η _),hm,←B_pow,←σ,←qAs,Nat.div_add_mod,ρ] at hi
    exact hi
   refine cN rfl rfl rfl rfl (by exact Of_L hA hr) ?_;rintro v h3 hs3 hv';(repeat (first |(refine wo rfl (fun k hk=>?_);simp(disch:=omega) only[go_sem,ξ,ζ];apply hk;clear hk k) |refine wkt rfl ?_));(try refine wk0 ?_)
   (try (simp(disch:=omega) only[go_sem,ξ,ζ]));apply hK;clear hK;(try clear K);(try dsimp only[ag,qs])
   refine ai ?_;simp(disch:=omega) only[go_sem,ξ,ζ]
   rwa[hval] at hv'
theorem or_32 {x y:Nat} (hx:x < 4294967296):x ||| y*4294967296=x+y*4294967296:=by
 have:=FD (r:=32) (s:=y) hx
 rw[ρ,show(4294967296:Nat)=2^32 from by decide];exact this
theorem JW {t r:Nat} (hr:r≤32):(t % 4294967296+t / 4294967296 % 4294967296*4294967296) / 2^r % 4294967296=t / 2^r % 4294967296:=by
 have hp:0 < 2^r:=qAo (by omega)
 have e:(4294967296:Nat)=2^r*2^(32 - r):=by rw[←qAs,show r+(32 - r)=32 by omega]
 have h1:t=2^r*(4294967296*(2^(32 - r)*(t / 4294967296 / 4294967296)))+(t % 4294967296+t / 4294967296 % 4294967296*4294967296):=by
  have:2^r*(4294967296*(2^(32 - r)*(t / 4294967296 / 4294967296)))=4294967296*4294967296*(t / 4294967296 / 4294967296):=by
   rw[qBg,←σ (2^r),←e,σ]
  omega
 conv=>rhs;rw[h1]
 rw[Nat.mul_add_div hp,Nat.mul_add_mod]
theorem gD {h0 h:PH} [Le h0 h] {v:Value} {m n:Nat} (hv:N32 h0 v m) (bm:bl m≤2^40) (hn:n≤2^40):Spec mach 195 #[v,.int .i64 n] h (fun v h'=>N32 h' v (m / 2^n)) NP:=by
 obtain⟨a,c,xs,rfl,ha,hxs,hm⟩:=hv.out
 have hs:xs.length≤2^40:=by have:=dj m;rw[hxs] at this;omega
 have hp:0 < 2^(n % 32):=qAo (by omega)
 have h2n:2^n=4294967296^(n / 32)*2^(n % 32):=by rw[←B_pow,←qAs,Nat.div_add_mod]
 have hml:m < 4294967296^xs.length:=by rw[←hxs];exact cW (by decide) m
 have hdig:∀i,xs.getD i 0=m / 4294967296^i % 4294967296:=fun i=>by rw[←hxs,rO (by decide)]
 refine Spec.enter (args:=[_,_]) (n:=64) Tryz.func195 rfl (by kernel_rfl) rfl (by simp) [.tmp 4] rfl (fun C _=>?_)
 by_cases hx0:xs.length≤n / 32
 ·repeat (first |(refine wo rfl (fun k hk=>?_);simp(disch:=omega) only[go_sem,ξ,ζ];apply hk;clear hk k) |refine wkt rfl ?_ |refine wk0 ?_ |refine rg rfl rfl (fun K hK=>?_) |((first |refine ae ?_ |refine ac ?_);simp(disch:=decide) only[qs,qb,if_true,if_false,reduceIte]) |refine ah rfl (fun K hK=>?_) |refine ct rfl ?_ |((try simp(disch:=omega) only[go_sem,ξ,ζ]);(first |apply hK |(clear hK;apply hK) |(clear hK;clear hK;apply hK));clear hK;(try clear K);(try dsimp only[ag,qs,qb])))
  refine ai ?_;simp(disch:=omega) only[go_sem,ξ,ζ]
  have:m / 2^n=0:=by
   rw[h2n]
   apply Nat.div_eq_of_lt
   have h1:=qAv (show 0 < 4294967296 by decide) hx0
   have h2:=ω (4294967296^(n / 32)) hp
   omega
  rw[this];exact N32.zero _
 repeat (first |(refine wo rfl (fun k hk=>?_);simp(disch:=omega) only[go_sem,ξ,ζ];apply hk;clear hk k) |refine wkt rfl ?_ |refine wk0 ?_ |refine rg rfl rfl (fun K hK=>?_) |((first |refine ae ?_ |refine ac ?_);simp(disch:=decide) only[qs,qb,if_true,if_false,reduceIte]) |refine ah rfl (fun K hK=>?_) |refine ct rfl ?_ |((try simp(disch:=omega) only[go_sem,ξ,ζ]);(first |apply hK |(clear hK;apply hK) |(clear hK;clear hK;apply hK));clear hK;(try clear K);(try dsimp only[ag,qs,qb])))
 refine cg (fun x:Nat×List Nat=>⟨[(0,.v (.slice a xs.length c)),(5,.v (.int .i64 (n / 32:Nat))),(6,.v (.int .u64 (n % 32:Nat))),(7,.s 0 0 (xs.length - n / 32) (xs.length - n / 32)),(25,.v (.int .i64 (xs.length - n / 32:Nat))),(26,.v (.int .i64 x.1))],[uw x.2]⟩)
   (fun x h'=>Le h0 h'∧x.1≤xs.length - n / 32∧x.2.length=xs.length - n / 32∧(∀d∈x.2,d < 4294967296)∧val 4294967296 (x.2.take x.1)=(m / 2^n) % 4294967296^x.1) (fun x=>xs.length - n / 32 - x.1) (0,List.replicate (xs.length - n / 32) 0) ?_ ⟨?_,by simp,by simp,gG (by decide),?_⟩ ?_
 ·simp(disch:=omega) only[go_sem,ξ,ζ]
 ·exact inferInstance
 ·simp[val,Nat.mod_one]
 ·rintro⟨k,rs⟩ h1 ⟨hle,hk,hr,hlt,hi⟩
  dsimp only at hk hr hlt hi ⊢
  by_cases hkl:k < xs.length - n / 32
  ·obtain⟨ad,rfl,hat⟩:=ha.rd h1 (i:=n / 32+k) (by omega)
   have hx:=aM (by decide) ha.lt (n / 32+k)
   have hd:m / 2^n / 4294967296^k=m / 4294967296^(n / 32+k) / 2^(n % 32):=by
    rw[h2n,Nat.div_div_eq_div_mul,Nat.div_div_eq_div_mul,qAs];congr 1;simp only[σ,ρ,qBg]
   have hdd:=JW (t:=m / 4294967296^(n / 32+k)) (r:=n % 32) (by omega)
   rw[←hd,Nat.div_div_eq_div_mul m,←qAn,←hdig,←hdig] at hdd
   by_cases hk1:n / 32+k+1 < xs.length
   ·obtain⟨ad',h',hat'⟩:=ha.rd h1 (i:=n / 32+k+1) (by omega)
    obtain rfl:ad=ad':=by simpa using h'
    have hx':=aM (by decide) ha.lt (n / 32+k+1)
    have hor:=or_32 (y:=xs.getD (n / 32+k+1) 0) hx
    simp(disch:=omega) only[go_sem,ξ,ζ] at hat'
    repeat (first |(refine wo rfl (fun k hk=>?_);simp(disch:=omega) only[go_sem,ξ,ζ,hat,hat',hor];apply hk;clear hk k) |refine wkt rfl ?_ |refine wk0 ?_ |refine rg rfl rfl (fun K hK=>?_) |((first |refine ae ?_ |refine ac ?_);simp(disch:=decide) only[qs,qb,if_true,if_false,reduceIte]) |refine ah rfl (fun K hK=>?_) |refine ct rfl ?_ |((try simp(disch:=omega) only[go_sem,ξ,ζ]);(first |apply hK |(clear hK;apply hK) |(clear hK;clear hK;apply hK));clear hK;(try clear K);(try dsimp only[ag,qs,qb])))
    refine⟨(k+1,rs.set k ((xs.getD (n / 32+k) 0+xs.getD (n / 32+k+1) 0*4294967296) / 2^(n % 32) % 4294967296)),?_,⟨hle,by dsimp only;omega,by simp[hr],d9 hlt (qBl _ (by decide)),?_⟩,by simp only;omega⟩
    ·simp(disch:=omega) only[go_sem,ξ,ζ]
    ·dsimp only
     rw[bO (by omega),hi,Nat.mod_pow_succ,←hdd]
   ·have hx':xs.getD (n / 32+k).succ 0=0:=getD_none (by omega)
    rw[hx',Nat.zero_mul,Nat.add_zero] at hdd
    repeat (first |(refine wo rfl (fun k hk=>?_);simp(disch:=omega) only[go_sem,ξ,ζ,hat];apply hk;clear hk k) |refine wkt rfl ?_ |refine wk0 ?_ |refine rg rfl rfl (fun K hK=>?_) |((first |refine ae ?_ |refine ac ?_);simp(disch:=decide) only[qs,qb,if_true,if_false,reduceIte]) |refine ah rfl (fun K hK=>?_) |refine ct rfl ?_ |((try simp(disch:=omega) only[go_sem,ξ,ζ]);(first |apply hK |(clear hK;apply hK) |(clear hK;clear hK;apply hK));clear hK;(try clear K);(try dsimp only[ag,qs,qb])))
    refine⟨(k+1,rs.set k (xs.getD (n / 32+k) 0 / 2^(n % 32) % 4294967296)),?_,⟨hle,by dsimp only;omega,by simp[hr],d9 hlt (qBl _ (by decide)),?_⟩,by simp only;omega⟩
    ·simp(disch:=omega) only[go_sem,ξ,ζ]
    ·dsimp only
     rw[bO (by omega),hi,Nat.mod_pow_succ,←hdd]
  ·repeat (first |(refine rg rfl rfl (fun K hK=>?_);(repeat (first |(refine wo rfl (fun k hk=>?_);simp(disch:=omega) only[go_sem,ξ,ζ];apply hk;clear hk k) |refine wkt rfl ?_));(try refine wk0 ?_);apply hK;clear hK K;(try dsimp only[ag,qs,qb])) |((first |refine ae ?_ |refine ac ?_);simp(disch:=decide) only[qs,qb,if_true,if_false,reduceIte]) |refine ah rfl (fun K hK=>?_) |refine ct rfl ?_ |((first |refine hK _ _ ?_ |(clear hK;refine hK _ _ ?_) |(clear hK;clear hK;refine hK _ _ ?_));clear hK;(try clear K)))
   obtain rfl:k=xs.length - n / 32:=by omega
   refine fk [.o 0,.p 0,.o 1,.o 2] rfl rfl (fun K hK=>?_);(repeat (first |(refine wo rfl (fun k hk=>?_);simp(disch:=omega) only[go_sem,ξ,ζ];apply hk;clear hk k) |refine wkt rfl ?_));(try refine wk0 ?_)
   refine wkp ?_;simp(disch:=omega) only[go_sem,ξ,ζ];intro b h2 hs2 hb;(repeat (first |(refine wo rfl (fun k hk=>?_);simp(disch:=omega) only[go_sem,ξ,ζ];apply hk;clear hk k) |refine wkt rfl ?_));(try refine wk0 ?_)
   have hA:Arr h2 (some ⟨b,0,none⟩) (xs.length - n / 32) rs:=.of_row (fun hne=>hb ((uw_ne _).1 hne)) hlt (by omega) (by omega)
   have hval:val 4294967296 rs=m / 2^n:=by
    rw[qAr (by omega),qBi] at hi
    ·exact hi
    ·rw[h2n,←Nat.div_div_eq_div_mul]
     refine Nat.lt_of_le_of_lt (Nat.div_le_self _ _) ?_
     rw[Nat.div_lt_iff_lt_mul (qAo (by decide)),←qAs,show xs.length - n / 32+n / 32=xs.length by omega]
     exact hml
   refine cN rfl rfl rfl rfl (by exact Of_L hA hr) ?_;rintro v h3 hs3 hv';(repeat (first |(refine wo rfl (fun k hk=>?_);simp(disch:=omega) only[go_sem,ξ,ζ];apply hk;clear hk k) |refine wkt rfl ?_));(try refine wk0 ?_)
   (try (simp(disch:=omega) only[go_sem,ξ,ζ]));apply hK;clear hK;(try clear K);(try dsimp only[ag,qs])
   refine ai ?_;simp(disch:=omega) only[go_sem,ξ,ζ]
   rwa[hval] at hv'
theorem or_23 {x y:Nat} (hx:x < 4294967296):y*4294967296 ||| x=y*4294967296+x:=by
 rw[Nat.or_comm,or_32 hx,Nat.add_comm]
theorem mJ {xs:List Nat} {j:Nat} (h:j < xs.length):xs.drop j=xs.getD j 0 :: xs.drop (j+1):=by rw[List.drop_eq_getElem_cons h];simp[h]
theorem nN {h0 h:PH} [Le h0 h] {v:Value} {m d:Nat} (hv:N32 h0 v m) (bm:bl m≤2^40) (hd0:0 < d) (hd:d < 4294967296):Spec mach 250 #[v,.int .u32 d] h (fun v h'=>∃q,v=.tuple #[q,.int .u32 (m % d:Nat)]∧N32 h' q (m / d)) NP:=by
 obtain⟨a,c,xs,rfl,ha,hxs,hm⟩:=hv.out
 have hs:xs.length≤2^40:=by have:=dj m;rw[hxs] at this;omega
 refine Spec.enter (args:=[_,_]) (n:=44) Tryz.func250 rfl (by kernel_rfl) rfl (by simp) [.tmp 4,.tmp 5] rfl (fun C _=>?_)
 repeat (first |(refine wo rfl (fun k hk=>?_);simp(disch:=omega) only[go_sem,ξ,ζ];apply hk;clear hk k) |refine wkt rfl ?_ |refine wk0 ?_ |refine rg rfl rfl (fun K hK=>?_) |((first |refine ae ?_ |refine ac ?_);simp(disch:=decide) only[qs,qb,if_true,if_false,reduceIte]) |refine ah rfl (fun K hK=>?_) |refine ct rfl ?_ |((try simp(disch:=omega) only[go_sem,ξ,ζ]);(first |apply hK |(clear hK;apply hK) |(clear hK;clear hK;apply hK));clear hK;(try clear K);(try dsimp only[ag,qs,qb])))
 refine cg (fun x:Nat×List Nat×Nat=>⟨[(0,.v (.slice a xs.length c)),(1,.v (.int .u32 d)),(6,.s 0 0 xs.length xs.length),(7,.v (.int .u64 x.2.2)),(8,.v (.int .i64 ((x.1:Int) - 1)))],[uw x.2.1]⟩)
   (fun x h'=>Le h0 h'∧x.1≤xs.length∧x.2.1.length=xs.length∧(∀d∈x.2.1,d < 4294967296)∧x.2.2 < d∧val 4294967296 (xs.drop x.1)=d*val 4294967296 (x.2.1.drop x.1)+x.2.2) (fun x=>x.1) (xs.length,List.replicate xs.length 0,0) ?_ ⟨?_,by simp,by simp,gG (by decide),hd0,?_⟩ ?_
 ·simp(disch:=omega) only[go_sem,ξ,ζ]
 ·exact inferInstance
 ·simp[val]
 ·rintro⟨k,rs,r⟩ h1 ⟨hle,hk,hr,hlt,hrd,hi⟩
  dsimp only at hk hr hlt hrd hi ⊢
  by_cases hk0:k=0
  ·subst hk0
   repeat (first |(refine rg rfl rfl (fun K hK=>?_);(repeat (first |(refine wo rfl (fun k hk=>?_);simp(disch:=omega) only[go_sem,ξ,ζ];apply hk;clear hk k) |refine wkt rfl ?_));(try refine wk0 ?_);apply hK;clear hK K;(try dsimp only[ag,qs,qb])) |((first |refine ae ?_ |refine ac ?_);simp(disch:=decide) only[qs,qb,if_true,if_false,reduceIte]) |refine ah rfl (fun K hK=>?_) |refine ct rfl ?_ |((first |refine hK _ _ ?_ |(clear hK;refine hK _ _ ?_) |(clear hK;clear hK;refine hK _ _ ?_));clear hK;(try clear K)))
   refine fk [.o 0,.p 0,.o 1,.o 2,.o 3,.o 4,.o 5] rfl rfl (fun K hK=>?_);(repeat (first |(refine wo rfl (fun k hk=>?_);simp(disch:=omega) only[go_sem,ξ,ζ];apply hk;clear hk k) |refine wkt rfl ?_));(try refine wk0 ?_)
   refine wkp ?_;simp(disch:=omega) only[go_sem,ξ,ζ];intro b h2 hs2 hb;(repeat (first |(refine wo rfl (fun k hk=>?_);simp(disch:=omega) only[go_sem,ξ,ζ];apply hk;clear hk k) |refine wkt rfl ?_));(try refine wk0 ?_)
   have hA:Arr h2 (some ⟨b,0,none⟩) xs.length rs:=.of_row (fun hne=>hb ((uw_ne _).1 hne)) hlt (by omega) (by omega)
   simp only[List.drop_zero] at hi
   rw[hm] at hi
   have e1:m / d=val 4294967296 rs:=by rw[hi,Nat.mul_add_div hd0,Nat.div_eq_of_lt hrd,Nat.add_zero]
   have e2:m % d=r:=by rw[hi,Nat.mul_add_mod,qBi hrd]
   refine cN rfl rfl rfl rfl (by exact Of_L hA hr) ?_;rintro v h3 hs3 hv';(repeat (first |(refine wo rfl (fun k hk=>?_);simp(disch:=omega) only[go_sem,ξ,ζ];apply hk;clear hk k) |refine wkt rfl ?_));(try refine wk0 ?_)
   (try (simp(disch:=omega) only[go_sem,ξ,ζ]));apply hK;clear hK;(try clear K);(try dsimp only[ag,qs])
   refine ai ?_;simp(disch:=omega) only[go_sem,ξ,ζ]
   exact⟨v,by rw[e2],by rw[e1];exact hv'⟩
  ·obtain⟨k,rfl⟩:∃j,k=j+1:=⟨k - 1,by omega⟩
   obtain⟨ad,rfl,hat⟩:=ha.rd h1 (i:=k) (by omega)
   have hx:=aM (by decide) ha.lt k
   have hor:=or_23 (y:=r) hx
   have hq:(r*4294967296+xs.getD k 0) / d < 4294967296:=by
    apply Nat.div_lt_of_lt_mul
    have:=ψ 4294967296 (show r+1≤d by omega)
    omega
   have hm':(r*4294967296+xs.getD k 0) % d < d:=qBl _ hd0
   have hs2:d*((r*4294967296+xs.getD k 0) / d)+(r*4294967296+xs.getD k 0) % d=r*4294967296+xs.getD k 0:=Nat.div_add_mod _ _
   obtain⟨q,hqe⟩:∃q,(r*4294967296+xs.getD k 0) / d=q:=⟨_,rfl⟩
   obtain⟨r',hre⟩:∃q,(r*4294967296+xs.getD k 0) % d=q:=⟨_,rfl⟩
   rw[hqe] at hq hs2
   rw[hre] at hm' hs2
   repeat (first |(refine wo rfl (fun k hk=>?_);simp(disch:=omega) only[go_sem,ξ,ζ,hat,hor,hqe,hre];apply hk;clear hk k) |refine wkt rfl ?_ |refine wk0 ?_ |refine rg rfl rfl (fun K hK=>?_) |((first |refine ae ?_ |refine ac ?_);simp(disch:=decide) only[qs,qb,if_true,if_false,reduceIte]) |refine ah rfl (fun K hK=>?_) |refine ct rfl ?_ |((try simp(disch:=omega) only[go_sem,ξ,ζ]);(first |apply hK |(clear hK;apply hK) |(clear hK;clear hK;apply hK));clear hK;(try clear K);(try dsimp only[ag,qs,qb])))
   refine⟨(k,rs.set k q,r'),?_,⟨hle,by dsimp only;omega,by simp[hr],d9 hlt hq,hm',?_⟩,by simp only;omega⟩
   ·simp(disch:=omega) only[go_sem,ξ,ζ]
   ·dsimp only
    rw[mJ (by omega),mJ (xs:=rs.set k q) (by simp[hr];omega),oe (by omega),List.drop_set_of_lt (by omega),val,val,hi]
    rw[qAm d,qBg d,qAm 4294967296]
    omega
set_option maxHeartbeats 4000000
theorem dig1 {P B lu ld u2 d1 d2 T U D g:Nat} (hlu:lu < P) (hu2:u2 < B) (hU:U=lu+P*(u2+B*T)) (hD:D=ld+P*(d2+B*d1)) (h:T < (g+1)*d1):U < (g+1)*D:=by
 have h1:P*(B*(T+1))≤P*(B*((g+1)*d1)):=ω _ (ω _ h)
 have h2:(g+1)*D=(g+1)*ld+P*((g+1)*d2)+P*(B*((g+1)*d1)):=by
  rw[hD];simp only[qAm (g+1),qAm P,qBg (g+1),Nat.add_assoc]
 have h3:P*u2+P≤P*B:=by have:=ω P (show u2+1≤B by omega);rw[qAm,qAz] at this;exact this
 rw[hU,h2]
 simp only[qAm,qAz] at h1 ⊢
 omega
theorem dig2 {P B lu ld u2 d1 d2 T U D g r:Nat} (hlu:lu < P) (hU:U=lu+P*(u2+B*T)) (hD:D=ld+P*(d2+B*d1)) (hT:g*d1+r=T) (h:r*B+u2 < g*d2):U < g*D:=by
 have h1:P*(r*B+u2+1)≤P*(g*d2):=ω _ h
 have h2:g*D=g*ld+P*(g*d2)+P*(B*(g*d1)):=by
  rw[hD];simp only[qAm g,qAm P,qBg g,Nat.add_assoc]
 rw[hU,h2,←hT]
 simp only[qAm,qAz,ρ r B] at h1 ⊢
 omega
theorem dig3 {P B lu ld u2 d1 d2 T U D g r:Nat} (hld:ld < P) (hd1:0 < d1) (hgB:g < B) (hU:U=lu+P*(u2+B*T)) (hD:D=ld+P*(d2+B*d1)) (hT:g*d1+r=T) (h:g*d2≤r*B+u2):g*D < U+D:=by
 have h1:P*(g*d2)≤P*(r*B+u2):=ω _ h
 have h2:g*D=g*ld+P*(g*d2)+P*(B*(g*d1)):=by
  rw[hD];simp only[qAm g,qAm P,qBg g,Nat.add_assoc]
 have h3:g*ld≤g*P:=ω _ (by omega)
 have h4:g*P+P≤P*B:=by have:=ω P (show g+1≤B by omega);rw[qAm,qAz,ρ P g] at this;exact this
 have h5:P*B≤P*(B*d1):=ω _ (Nat.le_mul_of_pos_right _ hd1)
 have h6:P*(d2+B*d1)=P*d2+P*(B*d1):=qAm _ _ _
 rw[hU,h2,←hT]
 simp only[qAm,ρ r B] at h1 ⊢
 omega
theorem dig0 {P B lu ld u2 u1 un d1 d2 U D:Nat} (hP:0 < P) (hld:ld < P) (hd2:d2 < B) (hU:U=lu+P*(u2+B*(un*B+u1))) (hD:D=ld+P*(d2+B*d1)) (h:U < B*D):un≤d1:=by
 rcases qBj d1 un with h' |h'
 ·exfalso
  have h1:P*(B*((d1+1)*B))≤P*(B*(un*B)):=ω _ (ω _ (ψ _ h'))
  have h2:P*(d2+1)≤P*B:=ω _ hd2
  have h3:D≤P*B+P*(B*d1):=by rw[hD];simp only[qAm,qAz] at h2 ⊢;omega
  have h4:=ω B h3
  have h5:B*(P*B+P*(B*d1))=P*(B*((d1+1)*B)):=by
   simp only[qAm,Nat.add_mul,qBm,qAz,ρ,qBg,σ]
   omega
  have h6:U≥P*(B*(un*B)):=by rw[hU];simp only[qAm];omega
  omega
 ·exact h'
theorem ms_step {P B X V Y u x lo hi' bw bw' cy gw:Nat} (h1:u+B*bw'=x+lo+bw) (h2:gw+cy=lo+B*hi') (hi:X+P*(cy+bw)=V+Y):X+P*u+P*B*(hi'+bw')=V+P*x+(Y+P*gw):=by
 have e1:=congrArg (P*·) h1
 have e2:=congrArg (P*·) h2
 simp only[qAm,←σ] at e1 e2 hi ⊢
 omega
theorem iy {ws ws':List Nat} {i x:Nat} (h:ws'.drop i=ws.drop i):(ws'.set i x).drop (i+1)=ws.drop (i+1):=by
 rw[List.drop_set_of_lt (by omega),←List.drop_drop,←List.drop_drop,h]
theorem ju {ws ws':List Nat} {i j:Nat} (h:ws'.drop i=ws.drop i) (hj:i≤j):ws'.getD j 0=ws.getD j 0:=by
 have e:∀(l:List Nat),(l.drop i).getD (j - i) 0=l.getD j 0:=fun l=>by
  simp only[qAy,List.getElem?_drop];rw[show i+(j - i)=j by omega]
 rw[←e ws',←e ws,h]
theorem getD_app (pre ws:List Nat) (i:Nat):(pre ++ws).getD (pre.length+i) 0=ws.getD i 0:=by
 simp[qAy,List.getElem?_append_right]
theorem set_app (pre ws:List Nat) (i x:Nat):(pre ++ws).set (pre.length+i) x=pre ++ws.set i x:=by
 rw[List.set_append_right _ _ (by omega)];simp
theorem Hb:∀(l:List (List Value)),leB l l
 |[]=>trivial
 |_ :: l=>⟨.inr rfl,Hb l⟩
attribute [go_sem] getD_app set_app
@[go_sem] theorem leB_rflT (l:List (List Value)):leB l l=True:=eq_true (Hb l)
attribute [go_sem] qAp
theorem E5 {h0 h:PH} [Le h0 h] {a:Option Addr} {c cap:Nat} {ys pre ws:List Nat} (ha:Arr h0 a c ys) (hn:2≤ys.length) (hn':ys.length≤2^40) (htop:2147483648≤ys.getD (ys.length - 1) 0) (hlt:∀x∈ws,x < 4294967296) (hlen:ys.length+1≤ws.length)
    (hlen':pre.length+ws.length≤2^41) (hcap:ys.length+1≤cap) (hU:val 4294967296 (ws.take (ys.length+1)) < 4294967296*val 4294967296 ys):
    SpecL mach 252 [.s 0 pre.length (ys.length+1) cap,.v (.slice a ys.length c)] (uw (pre ++ws)) h
      (fun v row' _=>v=.int .u32 (val 4294967296 (ws.take (ys.length+1)) / val 4294967296 ys:Nat)∧∃ws',row'=uw (pre ++ws')∧ws'.length=ws.length∧(∀x∈ws',x < 4294967296)∧ws'.drop (ys.length+1)=ws.drop (ys.length+1)∧val 4294967296 (ws'.take (ys.length+1))=val 4294967296 (ws.take (ys.length+1)) % val 4294967296 ys):=by
  obtain⟨N,hN⟩:∃N,ys.length=N+2:=⟨ys.length - 2,by omega⟩
  obtain⟨ad,rfl,hd1⟩:=ha.rd h (i:=ys.length - 1) (by omega)
  obtain⟨ad',h',hd2⟩:=ha.rd h (i:=ys.length - 2) (by omega)
  obtain rfl:ad=ad':=by simpa using h'
  have hb1:=aM (by decide) ha.lt (ys.length - 1)
  have hb2:=aM (by decide) ha.lt (ys.length - 2)
  have hw0:=aM (by decide) hlt ys.length
  have hw1:=aM (by decide) hlt (ys.length - 1)
  have hw2:=aM (by decide) hlt (ys.length - 2)
  have hor:=or_23 (y:=ws.getD ys.length 0) hw1
  have hpl:(pre ++ws).length=pre.length+ws.length:=qAp
  refine SpecL.enter (n:=175) Tryz.func252 rfl (by kernel_rfl) rfl (by simp) (by simp(disch:=omega) only[go_sem,ξ,ζ]) [.tmp 4] rfl (fun C rest hC=>?_)
  obtain⟨T,hT⟩:∃T,ws.getD ys.length 0*4294967296+ws.getD (ys.length - 1) 0=T:=⟨_,rfl⟩
  obtain⟨g0,hg0⟩:∃g,T / ys.getD (ys.length - 1) 0=g:=⟨_,rfl⟩
  obtain⟨r0,hr0⟩:∃r,T % ys.getD (ys.length - 1) 0=r:=⟨_,rfl⟩
  have hd1':=hd1
  have hd2':=hd2
  obtain⟨U,hUe⟩:∃U,val 4294967296 (ws.take (ys.length+1))=U:=⟨_,rfl⟩
  obtain⟨D,hDe⟩:∃D,val 4294967296 ys=D:=⟨_,rfl⟩
  obtain⟨d1,hd1e⟩:∃d,ys.getD (ys.length - 1) 0=d:=⟨_,rfl⟩
  obtain⟨d2,hd2e⟩:∃d,ys.getD (ys.length - 2) 0=d:=⟨_,rfl⟩
  obtain⟨u2,hu2e⟩:∃d,ws.getD (ys.length - 2) 0=d:=⟨_,rfl⟩
  obtain⟨P,hP⟩:∃P,4294967296^N=P:=⟨_,rfl⟩
  have hP0:0 < P:=by rw[←hP];exact qAo (by decide)
  have hlu:val 4294967296 (ws.take N) < P:=by
    have:=iU (B:=4294967296) (by decide) (ws.take N) (fun x hx=>hlt x (List.mem_of_mem_take hx))
    rwa[List.length_take,Nat.min_eq_left (by omega),hP] at this
  have hld:val 4294967296 (ys.take N) < P:=by
    have:=iU (B:=4294967296) (by decide) (ys.take N) (fun x hx=>ha.lt x (List.mem_of_mem_take hx))
    rwa[List.length_take,Nat.min_eq_left (by omega),hP] at this
  have eU:U=val 4294967296 (ws.take N)+P*(u2+4294967296*T):=by
    rw[←hUe,hN,aq,aq,aq]
    simp only[qAn,hP]
    rw[←hT,←hu2e,hN,show N+2 - 1=N+1 by omega,show N+2 - 2=N by omega]
    simp only[qAm,σ,ρ (ws.getD (N+2) 0)]
    omega
  have eD:D=val 4294967296 (ys.take N)+P*(d2+4294967296*d1):=by
    rw[←hDe,←hd1e,←hd2e,hN,show N+2 - 1=N+1 by omega,show N+2 - 2=N by omega]
    conv=>lhs;rw[←qAr (i:=N+2) (l:=ys) (by omega)]
    rw[aq,aq,qAn,hP]
    simp only[qAm,σ]
    omega
  rw[hUe,hDe] at hU
  rw[hd1e] at htop hd1 hb1 hg0 hr0
  rw[hd2e] at hd2 hb2
  rw[hu2e] at hw2
  have hun:ws.getD ys.length 0≤d1:=dig0 hP0 hld hb2 (by rw[←hT] at eU;exact eU) eD hU
  have hTb:T≤d1*4294967296+4294967295:=by rw[←hT];omega
  have hor':∀r,r*4294967296 ||| u2=r*4294967296+u2:=fun r=>or_23 hw2
  rw[hUe,hDe]
  have hdm:T=d1*g0+r0:=by rw[←hg0,←hr0];exact(Nat.div_add_mod _ _).symm
  have hr0l:r0 < d1:=by rw[←hr0];exact qBl _ (by omega)
  have hst:U < (g0+1)*D:=dig1 hlu hw2 eU eD (by rw[Nat.add_mul,qBm,ρ];omega)
  have hd0:0 < d1:=by omega
  have hg0b:g0 < 4294967298:=by rw[←hg0];exact Nat.div_lt_of_lt_mul (by omega)
  repeat (first |((first |refine rg rfl rfl (fun K hK=>?_) |refine rd [.o 0,.o 1,.o 2,.o 3,.o 4,.o 5,.o 6,.o 7,.o 8,.o 9,.o 10,.o 11,.o 12,.o 13] rfl (by decide+kernel) rfl (fun K hK=>?_) |refine rd [.o 0,.o 1,.o 2,.o 3,.o 4,.o 5,.o 6,.o 7,.o 8,.o 9,.o 10,.o 11,.o 12,.o 13,.o 14,.o 15,.o 16,.o 17] rfl (by decide+kernel) rfl (fun K hK=>?_) |refine rd [.o 0,.o 1,.o 2,.o 3,.o 4,.o 5,.o 6,.o 7,.o 8,.o 9,.o 10,.o 11,.o 12,.o 13,.o 14,.o 15,.o 16,.o 17,.o 18,.o 19,.o 20,.o 21,.o 22] rfl (by decide+kernel) rfl (fun K hK=>?_));(repeat (first |(refine wo rfl (fun k hk=>?_);simp(disch:=omega) only[go_sem,ξ,ζ,hd1,hor,hT,hg0,hr0];apply hk;clear hk k) |refine wkt rfl ?_));(try refine wk0 ?_);apply hK;clear hK K;(try dsimp only[ag,qs,qb])) |((first |refine ae ?_ |refine ac ?_);simp(disch:=decide) only[qs,qb,if_true,if_false,reduceIte]) |refine ah rfl (fun K hK=>?_) |refine ct rfl ?_ |((first |refine hK _ _ ?_ |(clear hK;refine hK _ _ ?_) |(clear hK;clear hK;refine hK _ _ ?_));clear hK;(try clear K)))
  have rest1:∀(g:Nat) (S:AS),S.le ⟨[(0,.s 0 pre.length (ys.length+1) cap),(1,.v (.slice (some ad) ys.length c)),(5,.v (.int .i64 ys.length)),(7,.v (.int .u64 g))],uw (pre ++ws) :: rest⟩→g < 4294967296→g*D < U+D→U < (g+1)*D→K S h:=by
    intro g S hS hg hgD hUg
    refine hK _ _ (Gg _ (by simp[hC]) hS ?_)
    clear hK hS
    repeat (first |(refine wo rfl (fun k hk=>?_);simp(disch:=omega) only[go_sem,ξ,ζ];apply hk;clear hk k) |refine wkt rfl ?_ |refine wk0 ?_ |refine rg rfl rfl (fun K hK=>?_) |refine rd [.o 0,.o 1,.o 2,.o 3,.o 4,.o 5,.o 6,.o 7,.o 8,.o 9,.o 10,.o 11,.o 12,.o 13] rfl (by decide+kernel) rfl (fun K hK=>?_) |refine rd [.o 0,.o 1,.o 2,.o 3,.o 4,.o 5,.o 6,.o 7,.o 8,.o 9,.o 10,.o 11,.o 12,.o 13,.o 14,.o 15,.o 16,.o 17] rfl (by decide+kernel) rfl (fun K hK=>?_) |refine rd [.o 0,.o 1,.o 2,.o 3,.o 4,.o 5,.o 6,.o 7,.o 8,.o 9,.o 10,.o 11,.o 12,.o 13,.o 14,.o 15,.o 16,.o 17,.o 18,.o 19,.o 20,.o 21,.o 22] rfl (by decide+kernel) rfl (fun K hK=>?_) |((first |refine ae ?_ |refine ac ?_);simp(disch:=decide) only[qs,qb,if_true,if_false,reduceIte]) |refine ah rfl (fun K hK=>?_) |refine ct rfl ?_ |((try simp(disch:=omega) only[go_sem,ξ,ζ]);(first |apply hK |(clear hK;apply hK) |(clear hK;clear hK;apply hK));clear hK;(try clear K);(try dsimp only[ag,qs,qb])))
    refine mF (fun x:Nat×List Nat×Nat×Nat=>⟨[(0,.s 0 pre.length (ys.length+1) cap),(1,.v (.slice (some ad) ys.length c)),(5,.v (.int .i64 ys.length)),(7,.v (.int .u64 g)),(9,.v (.int .u64 x.2.2.1)),(10,.v (.int .u64 x.2.2.2)),(86,.v (.slice (some ad) ys.length c)),(87,.v (.int .i64 ys.length)),(88,.v (.int .i64 x.1))],uw (pre ++x.2.1) :: rest⟩)
      (fun x h'=>h'=h∧x.1≤ys.length∧x.2.1.length=ws.length∧(∀d∈x.2.1,d < 4294967296)∧x.2.1.drop x.1=ws.drop x.1∧x.2.2.1≤1∧x.2.2.2 < 4294967296∧val 4294967296 (ws.take x.1)+4294967296^x.1*(x.2.2.2+x.2.2.1)=val 4294967296 (x.2.1.take x.1)+g*val 4294967296 (ys.take x.1)) (fun x=>ys.length - x.1) (0,ws,0,0) (fun _=>by simp[hC]) ?_ ⟨rfl,by simp,rfl,hlt,rfl,by simp,by simp,by simp[val]⟩ ?_
    · simp(disch:=omega) only[go_sem,ξ,ζ]
    · rintro⟨i,ws',bw,cy⟩ h1 ⟨rfl,hi,hl',hlt',hdr,hbw,hcy,hinv⟩
      dsimp only at hi hl' hlt' hdr hbw hcy hinv ⊢
      have hpl':(pre ++ws').length=pre.length+ws.length:=by rw[qAp,hl']
      by_cases hin:i < ys.length
      · obtain⟨ad',h',hat⟩:=ha.rd h1 (i:=i) (by omega)
        obtain rfl:ad=ad':=by simpa using h'
        have hw:=aM (by decide) ha.lt i
        have hgw:g*ys.getD i 0≤4294967295*4294967295:=qAk (by omega) (by omega)
        have hu:ws'.getD i 0=ws.getD i 0:=ju hdr (η _)
        have hub:=aM (by decide) hlt' i
        obtain⟨s,hs⟩:∃s,g*ys.getD i 0+cy=s:=⟨_,rfl⟩
        have hsb:s≤18446744069414584320:=by omega
        repeat (first |(refine wo rfl (fun k hk=>?_);simp(disch:=omega) only[go_sem,ξ,ζ,hat,hs];apply hk;clear hk k) |refine wkt rfl ?_ |refine wk0 ?_ |refine rg rfl rfl (fun K hK=>?_) |refine rd [.o 0,.o 1,.o 2,.o 3,.o 4,.o 5,.o 6,.o 7,.o 8,.o 9,.o 10,.o 11,.o 12,.o 13] rfl (by decide+kernel) rfl (fun K hK=>?_) |refine rd [.o 0,.o 1,.o 2,.o 3,.o 4,.o 5,.o 6,.o 7,.o 8,.o 9,.o 10,.o 11,.o 12,.o 13,.o 14,.o 15,.o 16,.o 17] rfl (by decide+kernel) rfl (fun K hK=>?_) |refine rd [.o 0,.o 1,.o 2,.o 3,.o 4,.o 5,.o 6,.o 7,.o 8,.o 9,.o 10,.o 11,.o 12,.o 13,.o 14,.o 15,.o 16,.o 17,.o 18,.o 19,.o 20,.o 21,.o 22] rfl (by decide+kernel) rfl (fun K hK=>?_) |((first |refine ae ?_ |refine ac ?_);simp(disch:=decide) only[qs,qb,if_true,if_false,reduceIte]) |refine ah rfl (fun K hK=>?_) |refine ct rfl ?_ |((try simp(disch:=omega) only[go_sem,ξ,ζ]);(first |apply hK |(clear hK;apply hK) |(clear hK;clear hK;apply hK));clear hK;(try clear K);(try dsimp only[ag,qs,qb])))
        refine⟨(i+1,ws'.set i (((ws'.getD i 0+18446744073709551616 - s % 4294967296) % 18446744073709551616+18446744073709551616 - bw) % 18446744073709551616 % 4294967296),((ws'.getD i 0+18446744073709551616 - s % 4294967296) % 18446744073709551616+18446744073709551616 - bw) % 18446744073709551616 / 9223372036854775808,s / 4294967296),?_,⟨by trivial,by dsimp only;omega,by simp[hl'],d9 hlt' (qBl _ (by decide)),iy hdr,by dsimp only;omega,by dsimp only;omega,?_⟩,by dsimp only;omega⟩
        · simp(disch:=omega) only[go_sem,ξ,ζ]
        · dsimp only
          rw[bO (by omega),aq _ ws,aq _ ys,qAn,←hu,qAm g,qBg g]
          exact ms_step (lo:=s % 4294967296) (by omega) (by rw[hs];exact(Nat.mod_add_div _ _).symm) hinv
      · obtain rfl:i=ys.length:=by omega
        have hu:ws'.getD ys.length 0=ws.getD ys.length 0:=ju hdr (η _)
        have hub:=aM (by decide) hlt' ys.length
        rw[qAr (η ys.length),hDe] at hinv
        have hUn:U=val 4294967296 (ws.take ys.length)+4294967296^ys.length*ws.getD ys.length 0:=by rw[←hUe,aq]
        by_cases hc:cy+bw≤ws'.getD ys.length 0
        · have hm:=ω (4294967296^ys.length) hc
          have hms:4294967296^ys.length*(ws'.getD ys.length 0 - (cy+bw))=4294967296^ys.length*ws'.getD ys.length 0 - 4294967296^ys.length*(cy+bw):=Nat.mul_sub _ _ _
          rw[←hu] at hUn
          have hle:g*D≤U:=by omega
          have e1:U / D=g:=Nat.div_eq_of_lt_le hle hUg
          have e2:U % D=U - g*D:=by have:=Nat.div_add_mod U D;rw[e1,ρ] at this;omega
          repeat (first |(refine wo rfl (fun k hk=>?_);simp(disch:=omega) only[go_sem,ξ,ζ];apply hk;clear hk k) |refine wkt rfl ?_ |refine wk0 ?_ |refine rg rfl rfl (fun K hK=>?_) |refine rd [.o 0,.o 1,.o 2,.o 3,.o 4,.o 5,.o 6,.o 7,.o 8,.o 9,.o 10,.o 11,.o 12,.o 13] rfl (by decide+kernel) rfl (fun K hK=>?_) |refine rd [.o 0,.o 1,.o 2,.o 3,.o 4,.o 5,.o 6,.o 7,.o 8,.o 9,.o 10,.o 11,.o 12,.o 13,.o 14,.o 15,.o 16,.o 17] rfl (by decide+kernel) rfl (fun K hK=>?_) |refine rd [.o 0,.o 1,.o 2,.o 3,.o 4,.o 5,.o 6,.o 7,.o 8,.o 9,.o 10,.o 11,.o 12,.o 13,.o 14,.o 15,.o 16,.o 17,.o 18,.o 19,.o 20,.o 21,.o 22] rfl (by decide+kernel) rfl (fun K hK=>?_) |((first |refine ae ?_ |refine ac ?_);simp(disch:=decide) only[qs,qb,if_true,if_false,reduceIte]) |refine ah rfl (fun K hK=>?_) |refine ct rfl ?_ |((try simp(disch:=omega) only[go_sem,ξ,ζ]);(first |apply hK |(clear hK;apply hK) |(clear hK;clear hK;apply hK));clear hK;(try clear K);(try dsimp only[ag,qs,qb])))
          refine ai ?_;simp(disch:=omega) only[go_sem,ξ,ζ]
          refine⟨by rw[e1],_,rfl,by simp[hl'],d9 hlt' (by omega),iy hdr,?_⟩
          rw[bO (by omega),e2,Nat.sub_sub,hms]
          omega
        · have hPn:0 < 4294967296^ys.length:=qAo (by decide)
          have hVl:val 4294967296 (ws'.take ys.length) < 4294967296^ys.length:=by
            have:=iU (B:=4294967296) (by decide) (ws'.take ys.length) (fun x hx=>hlt' x (List.mem_of_mem_take hx))
            rwa[List.length_take,Nat.min_eq_left (by omega)] at this
          have hDl:D < 4294967296^ys.length:=by rw[←hDe];exact iU (by decide) ys ha.lt
          rw[←hu] at hUn
          have hx1:cy+bw=ws'.getD ys.length 0+1:=by
            rcases qBj (ws'.getD ys.length 0+1) (cy+bw) with h' |h'
            · have:=ω (4294967296^ys.length) (show ws'.getD ys.length 0+2≤cy+bw by omega)
              rw[qAm] at this
              omega
            · omega
          rw[hx1,qAm,qAz] at hinv
          have hg1:1≤g:=by
            rcases g with _ |g
            · simp at hinv;omega
            · omega
          have hgs:(g - 1)*D=g*D - D:=by rw[Nat.sub_mul,qBm]
          have hgl:D≤g*D:=Nat.le_mul_of_pos_left _ hg1
          have e1:U / D=g - 1:=Nat.div_eq_of_lt_le (by omega) (by rw[show g - 1+1=g by omega];omega)
          have e2:U % D=U+D - g*D:=by have:=Nat.div_add_mod U D;rw[e1,ρ,hgs] at this;omega
          obtain⟨t,ht⟩:∃t,((ws'.getD ys.length 0+18446744073709551616 - cy) % 18446744073709551616+18446744073709551616 - bw) % 18446744073709551616 % 4294967296=t:=⟨_,rfl⟩
          have htv:t=4294967295:=by omega
          repeat (first |(refine wo rfl (fun k hk=>?_);simp(disch:=omega) only[go_sem,ξ,ζ,ht];apply hk;clear hk k) |refine wkt rfl ?_ |refine wk0 ?_ |refine rg rfl rfl (fun K hK=>?_) |refine rd [.o 0,.o 1,.o 2,.o 3,.o 4,.o 5,.o 6,.o 7,.o 8,.o 9,.o 10,.o 11,.o 12,.o 13] rfl (by decide+kernel) rfl (fun K hK=>?_) |refine rd [.o 0,.o 1,.o 2,.o 3,.o 4,.o 5,.o 6,.o 7,.o 8,.o 9,.o 10,.o 11,.o 12,.o 13,.o 14,.o 15,.o 16,.o 17] rfl (by decide+kernel) rfl (fun K hK=>?_) |refine rd [.o 0,.o 1,.o 2,.o 3,.o 4,.o 5,.o 6,.o 7,.o 8,.o 9,.o 10,.o 11,.o 12,.o 13,.o 14,.o 15,.o 16,.o 17,.o 18,.o 19,.o 20,.o 21,.o 22] rfl (by decide+kernel) rfl (fun K hK=>?_) |((first |refine ae ?_ |refine ac ?_);simp(disch:=decide) only[qs,qb,if_true,if_false,reduceIte]) |refine ah rfl (fun K hK=>?_) |refine ct rfl ?_ |((try simp(disch:=omega) only[go_sem,ξ,ζ]);(first |apply hK |(clear hK;apply hK) |(clear hK;clear hK;apply hK));clear hK;(try clear K);(try dsimp only[ag,qs,qb])))
          refine mF (fun x:Nat×List Nat×Nat=>⟨[(0,.s 0 pre.length (ys.length+1) cap),(1,.v (.slice (some ad) ys.length c)),(5,.v (.int .i64 ys.length)),(7,.v (.int .u64 g)),(10,.v (.int .u64 x.2.2)),(139,.v (.slice (some ad) ys.length c)),(140,.v (.int .i64 ys.length)),(141,.v (.int .i64 x.1))],uw (pre ++x.2.1) :: rest⟩)
            (fun x h'=>h'=h1∧x.1≤ys.length∧x.2.1.length=ws.length∧(∀d∈x.2.1,d < 4294967296)∧x.2.1.drop x.1=(ws'.set ys.length t).drop x.1∧x.2.2≤1∧val 4294967296 (x.2.1.take x.1)+4294967296^x.1*x.2.2=val 4294967296 ((ws'.set ys.length t).take x.1)+val 4294967296 (ys.take x.1)) (fun x=>ys.length - x.1) (0,ws'.set ys.length t,0) (fun _=>by simp[hC]) ?_ ⟨rfl,by simp,by simp[hl'],d9 hlt' (by omega),rfl,by simp,by simp[val]⟩ ?_
          · simp(disch:=omega) only[go_sem,ξ,ζ]
          · rintro⟨i,rs,c3⟩ h2 ⟨rfl,hi,hl3,hlt3,hdr3,hc3,hinv3⟩
            dsimp only at hi hl3 hlt3 hdr3 hc3 hinv3 ⊢
            have hpl3:(pre ++rs).length=pre.length+ws.length:=by rw[qAp,hl3]
            by_cases hin:i < ys.length
            · obtain⟨ad',h',hat⟩:=ha.rd h2 (i:=i) (by omega)
              obtain rfl:ad=ad':=by simpa using h'
              have hw:=aM (by decide) ha.lt i
              have hub3:=aM (by decide) hlt3 i
              have hu3:rs.getD i 0=(ws'.set ys.length t).getD i 0:=ju hdr3 (η _)
              repeat (first |(refine wo rfl (fun k hk=>?_);simp(disch:=omega) only[go_sem,ξ,ζ,hat];apply hk;clear hk k) |refine wkt rfl ?_ |refine wk0 ?_ |refine rg rfl rfl (fun K hK=>?_) |refine rd [.o 0,.o 1,.o 2,.o 3,.o 4,.o 5,.o 6,.o 7,.o 8,.o 9,.o 10,.o 11,.o 12,.o 13] rfl (by decide+kernel) rfl (fun K hK=>?_) |refine rd [.o 0,.o 1,.o 2,.o 3,.o 4,.o 5,.o 6,.o 7,.o 8,.o 9,.o 10,.o 11,.o 12,.o 13,.o 14,.o 15,.o 16,.o 17] rfl (by decide+kernel) rfl (fun K hK=>?_) |refine rd [.o 0,.o 1,.o 2,.o 3,.o 4,.o 5,.o 6,.o 7,.o 8,.o 9,.o 10,.o 11,.o 12,.o 13,.o 14,.o 15,.o 16,.o 17,.o 18,.o 19,.o 20,.o 21,.o 22] rfl (by decide+kernel) rfl (fun K hK=>?_) |((first |refine ae ?_ |refine ac ?_);simp(disch:=decide) only[qs,qb,if_true,if_false,reduceIte]) |refine ah rfl (fun K hK=>?_) |refine ct rfl ?_ |((try simp(disch:=omega) only[go_sem,ξ,ζ]);(first |apply hK |(clear hK;apply hK) |(clear hK;clear hK;apply hK));clear hK;(try clear K);(try dsimp only[ag,qs,qb])))
              refine⟨(i+1,rs.set i ((rs.getD i 0+ys.getD i 0+c3) % 4294967296),(rs.getD i 0+ys.getD i 0+c3) / 4294967296),?_,⟨by trivial,by dsimp only;omega,by simp[hl3],d9 hlt3 (qBl _ (by decide)),iy hdr3,by dsimp only;omega,?_⟩,by dsimp only;omega⟩
              · simp(disch:=omega) only[go_sem,ξ,ζ]
              · dsimp only
                rw[bO (by omega),aq _ (ws'.set ys.length t),aq _ ys,qAn,←hu3]
                exact pS (by omega) hinv3
            · obtain rfl:i=ys.length:=by omega
              have hu3:rs.getD ys.length 0=t:=by rw[ju hdr3 (η _),oe (by omega)]
              rw[qAr (η ys.length),hDe,List.take_set_of_le (η _)] at hinv3
              have hVl3:val 4294967296 (rs.take ys.length) < 4294967296^ys.length:=by
                have:=iU (B:=4294967296) (by decide) (rs.take ys.length) (fun x hx=>hlt3 x (List.mem_of_mem_take hx))
                rwa[List.length_take,Nat.min_eq_left (by omega)] at this
              have hc1:c3=1:=by
                rcases qBj c3 1 with h' |h'
                · exfalso
                  obtain rfl:c3=0:=by omega
                  omega
                · omega
              subst hc1
              subst htv
              repeat (first |(refine wo rfl (fun k hk=>?_);simp(disch:=omega) only[go_sem,ξ,ζ,hu3];apply hk;clear hk k) |refine wkt rfl ?_ |refine wk0 ?_ |refine rg rfl rfl (fun K hK=>?_) |refine rd [.o 0,.o 1,.o 2,.o 3,.o 4,.o 5,.o 6,.o 7,.o 8,.o 9,.o 10,.o 11,.o 12,.o 13] rfl (by decide+kernel) rfl (fun K hK=>?_) |refine rd [.o 0,.o 1,.o 2,.o 3,.o 4,.o 5,.o 6,.o 7,.o 8,.o 9,.o 10,.o 11,.o 12,.o 13,.o 14,.o 15,.o 16,.o 17] rfl (by decide+kernel) rfl (fun K hK=>?_) |refine rd [.o 0,.o 1,.o 2,.o 3,.o 4,.o 5,.o 6,.o 7,.o 8,.o 9,.o 10,.o 11,.o 12,.o 13,.o 14,.o 15,.o 16,.o 17,.o 18,.o 19,.o 20,.o 21,.o 22] rfl (by decide+kernel) rfl (fun K hK=>?_) |((first |refine ae ?_ |refine ac ?_);simp(disch:=decide) only[qs,qb,if_true,if_false,reduceIte]) |refine ah rfl (fun K hK=>?_) |refine ct rfl ?_ |((try simp(disch:=omega) only[go_sem,ξ,ζ]);(first |apply hK |(clear hK;apply hK) |(clear hK;clear hK;apply hK));clear hK;(try clear K);(try dsimp only[ag,qs,qb])))
              refine ai ?_;simp(disch:=omega) only[go_sem,ξ,ζ]
              refine⟨by rw[e1],_,rfl,by simp[hl3],d9 hlt3 (by decide),?_,?_⟩
              · rw[iy hdr3];exact iy hdr
              · rw[bO (by omega),e2];omega
  clear hK
  refine mF (fun x:Nat×Nat=>⟨[(0,.s 0 pre.length (ys.length+1) cap),(1,.v (.slice (some ad) ys.length c)),(5,.v (.int .i64 ys.length)),(7,.v (.int .u64 x.1)),(8,.v (.int .u64 x.2))],uw (pre ++ws) :: rest⟩)
    (fun x h'=>h'=h∧x.1*d1+x.2=T∧U < (x.1+1)*D∧x.2 < 4294967296) (fun x=>x.1) (g0,r0) (fun _=>by simp[hC]) ?_ ⟨rfl,by rw[hdm,ρ],hst,by dsimp only;omega⟩ ?_
  · simp(disch:=omega) only[go_sem,ξ,ζ]
  · rintro⟨g,r⟩ h1 ⟨rfl,hgr,hUg,hr⟩
    dsimp only at hgr hUg hr ⊢
    have hgb:g < 4294967298:=by
      rcases qBj g 4294967298 with h' |h'
      · exact h'
      · have:=ψ d1 h';omega
    have hpp:¬(g < 4294967296∧g*d2≤r*4294967296+u2)→U < g*D:=by
      intro hh
      by_cases hg:g < 4294967296
      · exact dig2 hlu eU eD hgr (by omega)
      · exact Nat.lt_of_lt_of_le hU (ψ _ (by omega))
    have brk:∀(g':Nat),g=g'+1→U < g*D→4294967296≤r+d1→g' < 4294967296∧g'*D < U+D∧U < (g'+1)*D:=by
      rintro g' rfl hlt' hbr
      have e:g'*d1+(r+d1)=T:=by rw[←hgr,Nat.add_mul,qBm];omega
      have hg':g' < 4294967296:=by
        rcases qBj g' 4294967296 with h' |h'
        · exact h'
        · have:=ψ d1 h';omega
      refine⟨hg',dig3 hld hd0 hg' eU eD e ?_,hlt'⟩
      have:g'*d2≤4294967295*4294967295:=qAk (by omega) (by omega)
      have:=ψ 4294967296 hbr
      omega
    by_cases hg:g < 4294967296
    · have hgd : g * d2 ≤ 4294967295 * 4294967295 := qAk (by omega) (by omega)
      by_cases ht:g*d2≤r*4294967296+u2
      · have hf:=dig3 hld hd0 hg eU eD hgr ht
        repeat (first |((first |refine rg rfl rfl (fun K hK=>?_) |refine rd [.o 0,.o 1,.o 2,.o 3,.o 4,.o 5,.o 6,.o 7,.o 8,.o 9,.o 10,.o 11,.o 12,.o 13] rfl (by decide+kernel) rfl (fun K hK=>?_) |refine rd [.o 0,.o 1,.o 2,.o 3,.o 4,.o 5,.o 6,.o 7,.o 8,.o 9,.o 10,.o 11,.o 12,.o 13,.o 14,.o 15,.o 16,.o 17] rfl (by decide+kernel) rfl (fun K hK=>?_) |refine rd [.o 0,.o 1,.o 2,.o 3,.o 4,.o 5,.o 6,.o 7,.o 8,.o 9,.o 10,.o 11,.o 12,.o 13,.o 14,.o 15,.o 16,.o 17,.o 18,.o 19,.o 20,.o 21,.o 22] rfl (by decide+kernel) rfl (fun K hK=>?_));(repeat (first |(refine wo rfl (fun k hk=>?_);simp(disch:=omega) only[go_sem,ξ,ζ,hd2,hor',hu2e];apply hk;clear hk k) |refine wkt rfl ?_));(try refine wk0 ?_);apply hK;clear hK K;(try dsimp only[ag,qs,qb])) |((first |refine ae ?_ |refine ac ?_);simp(disch:=decide) only[qs,qb,if_true,if_false,reduceIte]) |refine ah rfl (fun K hK=>?_) |refine ct rfl ?_ |((first |refine hK _ _ ?_ |(clear hK;refine hK _ _ ?_) |(clear hK;clear hK;refine hK _ _ ?_));clear hK;(try clear K)))
        refine rest1 g _ ?_ hg hf hUg
        simp(disch:=omega) only[go_sem,ξ,ζ]
      · have hlt':=hpp (fun hh=>ht hh.2)
        obtain ⟨g, rfl⟩ : ∃ g', g = g' + 1 := ⟨g - 1, by rcases g with _ |g;· simp at hlt'
                                                         · omega⟩
        by_cases hbr:4294967296≤r+d1
        · obtain⟨hb1',hb2',hb3'⟩:=brk g rfl hlt' hbr
          repeat (first |((first |refine rg rfl rfl (fun K hK=>?_) |refine rd [.o 0,.o 1,.o 2,.o 3,.o 4,.o 5,.o 6,.o 7,.o 8,.o 9,.o 10,.o 11,.o 12,.o 13] rfl (by decide+kernel) rfl (fun K hK=>?_) |refine rd [.o 0,.o 1,.o 2,.o 3,.o 4,.o 5,.o 6,.o 7,.o 8,.o 9,.o 10,.o 11,.o 12,.o 13,.o 14,.o 15,.o 16,.o 17] rfl (by decide+kernel) rfl (fun K hK=>?_) |refine rd [.o 0,.o 1,.o 2,.o 3,.o 4,.o 5,.o 6,.o 7,.o 8,.o 9,.o 10,.o 11,.o 12,.o 13,.o 14,.o 15,.o 16,.o 17,.o 18,.o 19,.o 20,.o 21,.o 22] rfl (by decide+kernel) rfl (fun K hK=>?_));(repeat (first |(refine wo rfl (fun k hk=>?_);simp(disch:=omega) only[go_sem,ξ,ζ,hd1,hd2,hor',hu2e];apply hk;clear hk k) |refine wkt rfl ?_));(try refine wk0 ?_);apply hK;clear hK K;(try dsimp only[ag,qs,qb])) |((first |refine ae ?_ |refine ac ?_);simp(disch:=decide) only[qs,qb,if_true,if_false,reduceIte]) |refine ah rfl (fun K hK=>?_) |refine ct rfl ?_ |((first |refine hK _ _ ?_ |(clear hK;refine hK _ _ ?_) |(clear hK;clear hK;refine hK _ _ ?_));clear hK;(try clear K)))
          refine rest1 g _ ?_ hb1' hb2' hb3'
          simp(disch:=omega) only[go_sem,ξ,ζ]
        · have e:g*d1+(r+d1)=T:=by rw[←hgr,Nat.add_mul,qBm];omega
          repeat (first |(refine wo rfl (fun k hk=>?_);simp(disch:=omega) only[go_sem,ξ,ζ,hd1,hd2,hor',hu2e];apply hk;clear hk k) |refine wkt rfl ?_ |refine wk0 ?_ |refine rg rfl rfl (fun K hK=>?_) |refine rd [.o 0,.o 1,.o 2,.o 3,.o 4,.o 5,.o 6,.o 7,.o 8,.o 9,.o 10,.o 11,.o 12,.o 13] rfl (by decide+kernel) rfl (fun K hK=>?_) |refine rd [.o 0,.o 1,.o 2,.o 3,.o 4,.o 5,.o 6,.o 7,.o 8,.o 9,.o 10,.o 11,.o 12,.o 13,.o 14,.o 15,.o 16,.o 17] rfl (by decide+kernel) rfl (fun K hK=>?_) |refine rd [.o 0,.o 1,.o 2,.o 3,.o 4,.o 5,.o 6,.o 7,.o 8,.o 9,.o 10,.o 11,.o 12,.o 13,.o 14,.o 15,.o 16,.o 17,.o 18,.o 19,.o 20,.o 21,.o 22] rfl (by decide+kernel) rfl (fun K hK=>?_) |((first |refine ae ?_ |refine ac ?_);simp(disch:=decide) only[qs,qb,if_true,if_false,reduceIte]) |refine ah rfl (fun K hK=>?_) |refine ct rfl ?_ |((try simp(disch:=omega) only[go_sem,ξ,ζ]);(first |apply hK |(clear hK;apply hK) |(clear hK;clear hK;apply hK));clear hK;(try clear K);(try dsimp only[ag,qs,qb])))
          refine⟨(g,r+d1),?_,⟨by trivial,e,hlt',by dsimp only;omega⟩,by dsimp only;omega⟩
          simp(disch:=omega) only[go_sem,ξ,ζ]
    · have hlt':=hpp (fun hh=>hg hh.1)
      obtain⟨g,rfl⟩:∃g',g=g'+1:=⟨g - 1,by omega⟩
      by_cases hbr:4294967296≤r+d1
      · obtain⟨hb1',hb2',hb3'⟩:=brk g rfl hlt' hbr
        repeat (first |((first |refine rg rfl rfl (fun K hK=>?_) |refine rd [.o 0,.o 1,.o 2,.o 3,.o 4,.o 5,.o 6,.o 7,.o 8,.o 9,.o 10,.o 11,.o 12,.o 13] rfl (by decide+kernel) rfl (fun K hK=>?_) |refine rd [.o 0,.o 1,.o 2,.o 3,.o 4,.o 5,.o 6,.o 7,.o 8,.o 9,.o 10,.o 11,.o 12,.o 13,.o 14,.o 15,.o 16,.o 17] rfl (by decide+kernel) rfl (fun K hK=>?_) |refine rd [.o 0,.o 1,.o 2,.o 3,.o 4,.o 5,.o 6,.o 7,.o 8,.o 9,.o 10,.o 11,.o 12,.o 13,.o 14,.o 15,.o 16,.o 17,.o 18,.o 19,.o 20,.o 21,.o 22] rfl (by decide+kernel) rfl (fun K hK=>?_));(repeat (first |(refine wo rfl (fun k hk=>?_);simp(disch:=omega) only[go_sem,ξ,ζ,hd1,hd2,hor',hu2e];apply hk;clear hk k) |refine wkt rfl ?_));(try refine wk0 ?_);apply hK;clear hK K;(try dsimp only[ag,qs,qb])) |((first |refine ae ?_ |refine ac ?_);simp(disch:=decide) only[qs,qb,if_true,if_false,reduceIte]) |refine ah rfl (fun K hK=>?_) |refine ct rfl ?_ |((first |refine hK _ _ ?_ |(clear hK;refine hK _ _ ?_) |(clear hK;clear hK;refine hK _ _ ?_));clear hK;(try clear K)))
        refine rest1 g _ ?_ hb1' hb2' hb3'
        simp(disch:=omega) only[go_sem,ξ,ζ]
      · have e:g*d1+(r+d1)=T:=by rw[←hgr,Nat.add_mul,qBm];omega
        repeat (first |(refine wo rfl (fun k hk=>?_);simp(disch:=omega) only[go_sem,ξ,ζ,hd1,hd2,hor',hu2e];apply hk;clear hk k) |refine wkt rfl ?_ |refine wk0 ?_ |refine rg rfl rfl (fun K hK=>?_) |refine rd [.o 0,.o 1,.o 2,.o 3,.o 4,.o 5,.o 6,.o 7,.o 8,.o 9,.o 10,.o 11,.o 12,.o 13] rfl (by decide+kernel) rfl (fun K hK=>?_) |refine rd [.o 0,.o 1,.o 2,.o 3,.o 4,.o 5,.o 6,.o 7,.o 8,.o 9,.o 10,.o 11,.o 12,.o 13,.o 14,.o 15,.o 16,.o 17] rfl (by decide+kernel) rfl (fun K hK=>?_) |refine rd [.o 0,.o 1,.o 2,.o 3,.o 4,.o 5,.o 6,.o 7,.o 8,.o 9,.o 10,.o 11,.o 12,.o 13,.o 14,.o 15,.o 16,.o 17,.o 18,.o 19,.o 20,.o 21,.o 22] rfl (by decide+kernel) rfl (fun K hK=>?_) |((first |refine ae ?_ |refine ac ?_);simp(disch:=decide) only[qs,qb,if_true,if_false,reduceIte]) |refine ah rfl (fun K hK=>?_) |refine ct rfl ?_ |((try simp(disch:=omega) only[go_sem,ξ,ζ]);(first |apply hK |(clear hK;apply hK) |(clear hK;clear hK;apply hK));clear hK;(try clear K);(try dsimp only[ag,qs,qb])))
        refine⟨(g,r+d1),?_,⟨by trivial,e,hlt',by dsimp only;omega⟩,by dsimp only;omega⟩
        simp(disch:=omega) only[go_sem,ξ,ζ]
theorem xG {n:Nat} (h:n≠0):1≤bl n∧2^(bl n - 1)≤n:=by
 have h1:¬bl n≤0:=by rw[bl_le];simp;omega
 refine⟨by omega,?_⟩
 rcases qBj n (2^(bl n - 1)) with h' |h'
 ·have:=bl_le.2 h';omega
 ·exact h'
theorem Fx {n:Nat} (hn:n≠0) {s:Nat} (hs:s=32 - bl (n / 4294967296^((W 4294967296 n).length - 1))):
  (W 4294967296 (n*2^s)).length=(W 4294967296 n).length∧2147483648≤(W 4294967296 (n*2^s)).getD ((W 4294967296 n).length - 1) 0∧s≤31:=by
 obtain⟨L,hL⟩:∃L,(W 4294967296 n).length=L+1:=⟨_,(Nat.succ_pred (by have:=jQ B32 hn;omega)).symm⟩
 obtain⟨h1,h2,h3⟩:=W_top B32 hn
 rw[hL] at h1 h2 h3 hs ⊢
 simp only[Nat.add_sub_cancel] at h1 h2 h3 hs ⊢
 have ht:n / 4294967296^L≠0:=by have:=Nat.div_pos h2 (qAo (by decide));omega
 have hb:=xG ht
 have hb2:=(bl_le (k:=32)).2 h3
 have e:bl n=bl (n / 4294967296^L)+32*L:=by
  have:=rS (n:=n) (k:=32*L) (by rw[B_pow];exact h2)
  rwa[B_pow] at this
 have hlow:=(xG hn).2
 have hup:=bl_le.1 (η (bl n))
 have hDu:n*2^s < 4294967296^(L+1):=by
  have:=Nat.mul_lt_mul_of_pos_right hup (show 0 < 2^s from qAo (by decide))
  rwa[←qAs,show bl n+s=32*(L+1) by omega,B_pow] at this
 have hDl:4294967296^L*2147483648≤n*2^s:=by
  have:=ψ (2^s) hlow
  rwa[←qAs,show bl n - 1+s=32*L+31 by omega,qAs,B_pow,show(2:Nat)^31=2147483648 from by decide] at this
 have hP:0 < 4294967296^L:=qAo (by decide)
 have hlen:(W 4294967296 (n*2^s)).length=L+1:=by
  have h4:=cV B32 hDu
  have h5:=vD B32 (n:=n*2^s) (k:=L) (χ (Nat.le_mul_of_pos_right _ (by decide)) hDl)
  omega
 refine⟨hlen,?_,by omega⟩
 rw[rO B32,qBi (by rw[Nat.div_lt_iff_lt_mul hP,ρ 4294967296,←qAn];exact hDu),Nat.le_div_iff_mul_le hP,ρ 2147483648]
 exact hDl
theorem Ec {B:Nat} {ws:List Nat} (h:0 < ws.length):val B ws=ws.getD 0 0+B*val B (ws.drop 1):=by
 cases ws with
 |nil=>simp at h
 |cons w ws=>simp[val]
theorem iZ (B:Nat) (ws:List Nat) (k:Nat) (h:k≤ws.length):val B ws=val B (ws.take k)+B^k*val B (ws.drop k):=by
 conv=>lhs;rw[←List.take_append_drop k ws]
 rw[dD,List.length_take,Nat.min_eq_left h]
theorem spl_uws (rs ds:List Nat) (off:Nat) (h:off+ds.length≤rs.length):spl (uw rs) off (uw ds)=uw (rs.take off ++ds ++rs.drop (off+ds.length)):=by
 rw[spl_eq _ _ _ (by simpa[uw] using h)]
 simp[uw,List.map_take,List.map_drop]
theorem Arr.cells {h0:PH} {a:Option Addr} {c:Nat} {xs:List Nat} (r:Arr h0 a c xs) (h:PH) [Le h0 h] (hne:xs.length≠0):∃ad,a=some ad∧∀(j:Nat) (v:Value),(uw xs)[j]?=some v→h.at (ad.add j)=some v:=by
 obtain⟨ad,h1,_⟩:=r.rd h (i:=0) (by omega)
 refine⟨ad,h1,fun j v hv=>?_⟩
 have hj:j < xs.length:=by
  rcases qBj j xs.length with h |h
  ·exact h
  ·rw[List.getElem?_eq_none (by simpa[uw] using h)] at hv;cases hv
 obtain⟨ad',h2,h3⟩:=r.rd h hj
 obtain rfl:ad=ad':=by rw[h1] at h2;exact Option.some.inj h2
 rw[yL hj] at hv
 rw[h3];exact hv
theorem C8 {V P W D B Z M:Nat} (h:V+P*W+D*(P*B*Z)=M):V+P*(W % D)+D*(P*(W / D+B*Z))=M:=by
 have e:=congrArg (P*·) (Nat.div_add_mod W D)
 rw[qAm,qBg] at e
 rw[qAm P,qAm D,←σ P B Z]
 omega
theorem xL {B:Nat} (hB:1≤B) {ws ws':List Nat} {k D:Nat} (hk:k+1≤ws.length) (hk':k+1≤ws'.length) (hlt:val B ws < B*D) (hD:D < B^k) (hd:ws'.drop (k+1)=ws.drop (k+1)) (hv:val B (ws'.take (k+1))=val B (ws.take (k+1)) % D):
  val B (ws.take (k+1))=val B ws∧val B ws'=val B ws % D:=by
 have h1:=iZ B ws (k+1) hk
 have hz:val B (ws.drop (k+1))=0:=by
  rcases Nat.eq_zero_or_pos (val B (ws.drop (k+1))) with h' |h'
  ·exact h'
  ·exfalso
   have h2:=Nat.le_mul_of_pos_right (B^(k+1)) h'
   have h3:B*D≤B^(k+1):=by rw[qAn,ρ];exact ψ _ (Nat.le_of_lt hD)
   omega
 rw[hz,Nat.mul_zero,Nat.add_zero] at h1
 refine⟨h1.symm,?_⟩
 rw[iZ B ws' (k+1) hk',hd,hz,hv,←h1,Nat.mul_zero,Nat.add_zero]
theorem gU {h0 h:PH} [Le h0 h] {v w:Value} {m n:Nat} (hv:N32 h0 v m) (hw:N32 h0 w n) (hn:n≠0) (bm:bl m≤2^39) (bn:bl n≤2^39):
  Spec mach 199 #[v,w] h (fun v h'=>∃q r,v=.tuple #[q,r]∧N32 h' q (m / n)∧N32 h' r (m % n)) NP:=by
 obtain⟨a,c,xs,hve,ha,hxs,hm⟩:=hv.out
 obtain⟨a',c',ys,hwe,ha',hys,hnn⟩:=hw.out
 subst hve hwe
 have hs:xs.length≤2^39:=by have:=dj m;rw[hxs] at this;omega
 have hs':ys.length≤2^39:=by have:=dj n;rw[hys] at this;omega
 have hl0:=jQ B32 hn
 rw[hys] at hl0
 refine Spec.enter (args:=[_,_]) (n:=85) Tryz.func199 rfl (by kernel_rfl) rfl (by simp) [.tmp 4,.tmp 5] rfl (fun C _=>?_)
 by_cases hlt:m < n
 ·have hc:cmp3 m n < 0:=by simp[cmp3,hlt]
  repeat (first |(refine wo rfl (fun k hk=>?_);simp(disch:=omega) only[go_sem,ξ,ζ];apply hk;clear hk k) |refine wkt rfl ?_ |refine wk0 ?_ |refine rg rfl rfl (fun K hK=>?_) |((first |refine ae ?_ |refine ac ?_);simp(disch:=decide) only[qs,qb,if_true,if_false,reduceIte]) |refine ah rfl (fun K hK=>?_) |refine ct rfl ?_ |((try simp(disch:=omega) only[go_sem,ξ,ζ]);(first |apply hK |(clear hK;apply hK) |(clear hK;clear hK;apply hK));clear hK;(try clear K);(try dsimp only[ag,qs,qb])))
  refine cN rfl rfl rfl rfl (by exact fO hv hw) ?_;rintro v h1 hs1 rfl
  repeat (first |(refine wo rfl (fun k hk=>?_);simp(disch:=omega) only[go_sem,ξ,ζ];apply hk;clear hk k) |refine wkt rfl ?_ |refine wk0 ?_ |refine rg rfl rfl (fun K hK=>?_) |((first |refine ae ?_ |refine ac ?_);simp(disch:=decide) only[qs,qb,if_true,if_false,reduceIte]) |refine ah rfl (fun K hK=>?_) |refine ct rfl ?_ |((try simp(disch:=omega) only[go_sem,ξ,ζ]);(first |apply hK |(clear hK;apply hK) |(clear hK;clear hK;apply hK));clear hK;(try clear K);(try dsimp only[ag,qs,qb])))
  refine ai ?_;simp(disch:=omega) only[go_sem,ξ,ζ]
  exact⟨_,_,rfl,by rw[Nat.div_eq_of_lt hlt];exact N32.zero _,by rw[qBi hlt];exact hv.to⟩
 have hc:0≤cmp3 m n:=by simp only[cmp3,if_neg hlt];split<;>decide
 by_cases hl1:ys.length=1
 ·obtain⟨hnB,hn0⟩:=xr B32 (n:=n) (by rw[hys];exact hl1)
  rw[hys] at hn0
  repeat (first |(refine wo rfl (fun k hk=>?_);simp(disch:=omega) only[go_sem,ξ,ζ];apply hk;clear hk k) |refine wkt rfl ?_ |refine wk0 ?_ |refine rg rfl rfl (fun K hK=>?_) |((first |refine ae ?_ |refine ac ?_);simp(disch:=decide) only[qs,qb,if_true,if_false,reduceIte]) |refine ah rfl (fun K hK=>?_) |refine ct rfl ?_ |((try simp(disch:=omega) only[go_sem,ξ,ζ]);(first |apply hK |(clear hK;apply hK) |(clear hK;clear hK;apply hK));clear hK;(try clear K);(try dsimp only[ag,qs,qb])))
  refine cN rfl rfl rfl rfl (by exact fO hv hw) ?_;rintro v h1 hs1 rfl;(repeat (first |(refine wo rfl (fun k hk=>?_);simp(disch:=omega) only[go_sem,ξ,ζ];apply hk;clear hk k) |refine wkt rfl ?_));(try refine wk0 ?_)
  (try (simp(disch:=omega) only[go_sem,ξ,ζ]));apply hK;clear hK;(try clear K);(try dsimp only[ag,qs])
  obtain⟨ad,rfl,hat⟩:=ha'.rd0 h1 (by omega)
  rw[hn0] at hat
  repeat (first |(refine rg rfl rfl (fun K hK=>?_);(repeat (first |(refine wo rfl (fun k hk=>?_);simp(disch:=omega) only[go_sem,ξ,ζ];apply hk;clear hk k) |refine wkt rfl ?_));(try refine wk0 ?_);apply hK;clear hK K;(try dsimp only[ag,qs,qb])) |((first |refine ae ?_ |refine ac ?_);simp(disch:=decide) only[qs,qb,if_true,if_false,reduceIte]) |refine ah rfl (fun K hK=>?_) |refine ct rfl ?_ |((first |refine hK _ _ ?_ |(clear hK;refine hK _ _ ?_) |(clear hK;clear hK;refine hK _ _ ?_));clear hK;(try clear K)))
  refine rg rfl rfl (fun K hK=>?_);(repeat (first |(refine wo rfl (fun k hk=>?_);simp(disch:=omega) only[go_sem,ξ,ζ,hat];apply hk;clear hk k) |refine wkt rfl ?_));(try refine wk0 ?_)
  refine cN rfl rfl rfl rfl (by exact nN hv (by omega) (by omega) hnB) ?_;rintro v h2 hs2 ⟨q,rfl,hq⟩;(repeat (first |(refine wo rfl (fun k hk=>?_);simp(disch:=omega) only[go_sem,ξ,ζ];apply hk;clear hk k) |refine wkt rfl ?_));(try refine wk0 ?_)
  have hmod:=qBl m (show 0 < n by omega)
  (try (simp(disch:=omega) only[go_sem,ξ,ζ]));apply hK;clear hK;(try clear K);(try dsimp only[ag,qs])
  refine rg rfl rfl (fun K hK=>?_);(repeat (first |(refine wo rfl (fun k hk=>?_);simp(disch:=omega) only[go_sem,ξ,ζ];apply hk;clear hk k) |refine wkt rfl ?_));(try refine wk0 ?_)
  refine cN rfl rfl rfl rfl (by exact aw (n:=m % n) (by omega)) ?_;rintro v h3 hs3 hr;(repeat (first |(refine wo rfl (fun k hk=>?_);simp(disch:=omega) only[go_sem,ξ,ζ];apply hk;clear hk k) |refine wkt rfl ?_));(try refine wk0 ?_)
  (try (simp(disch:=omega) only[go_sem,ξ,ζ]));apply hK;clear hK;(try clear K);(try dsimp only[ag,qs])
  refine ai ?_;simp(disch:=omega) only[go_sem,ξ,ζ]
  exact⟨_,_,rfl,hq.to,hr⟩
 have hl2:2≤ys.length:=by omega
 repeat (first |(refine wo rfl (fun k hk=>?_);simp(disch:=omega) only[go_sem,ξ,ζ];apply hk;clear hk k) |refine wkt rfl ?_ |refine wk0 ?_ |refine rg rfl rfl (fun K hK=>?_) |((first |refine ae ?_ |refine ac ?_);simp(disch:=decide) only[qs,qb,if_true,if_false,reduceIte]) |refine ah rfl (fun K hK=>?_) |refine ct rfl ?_ |((try simp(disch:=omega) only[go_sem,ξ,ζ]);(first |apply hK |(clear hK;apply hK) |(clear hK;clear hK;apply hK));clear hK;(try clear K);(try dsimp only[ag,qs,qb])))
 refine cN rfl rfl rfl rfl (by exact fO hv hw) ?_;rintro v h1 hs1 rfl
 repeat (first |(refine wo rfl (fun k hk=>?_);simp(disch:=omega) only[go_sem,ξ,ζ];apply hk;clear hk k) |refine wkt rfl ?_ |refine wk0 ?_ |((first |refine rg rfl rfl (fun K hK=>?_));(repeat (first |(refine wo rfl (fun k hk=>?_);simp(disch:=omega) only[go_sem,ξ,ζ];apply hk;clear hk k) |refine wkt rfl ?_ |refine wk0 ?_));(first |apply hK |(clear hK;apply hK) |(clear hK;clear hK;apply hK));clear hK;(try clear K);(try dsimp only[ag,qs,qb])) |((first |refine ae ?_ |refine ac ?_);simp(disch:=decide) only[qs,qb,if_true,if_false,reduceIte]) |refine ah rfl (fun K hK=>?_) |refine ct rfl ?_ |((try simp(disch:=omega) only[go_sem,ξ,ζ]);(first |apply hK |(clear hK;apply hK) |(clear hK;clear hK;apply hK));clear hK;(try clear K);(try dsimp only[ag,qs,qb])))
 obtain⟨ht1,ht2,ht3⟩:=W_top B32 hn
 obtain⟨s,hse⟩:∃s,s=32 - bl (n / 4294967296^((W 4294967296 n).length - 1)):=⟨_,rfl⟩
 obtain⟨hdl,hdt,hs31⟩:=Fx hn hse
 rw[hys] at ht1 ht2 ht3 hdl hdt hse
 obtain⟨ad',rfl,hat'⟩:=ha'.rd h1 (i:=ys.length - 1) (by omega)
 rw[ht1] at hat'
 refine rg rfl rfl (fun K hK=>?_);(repeat (first |(refine wo rfl (fun k hk=>?_);simp(disch:=omega) only[go_sem,ξ,ζ,hat'];apply hk;clear hk k) |refine wkt rfl ?_));(try refine wk0 ?_)
 refine cN rfl rfl rfl rfl (by exact rm ht3) ?_;rintro v h2 hs2 hv2;(repeat (first |(refine wo rfl (fun k hk=>?_);simp(disch:=omega) only[go_sem,ξ,ζ];apply hk;clear hk k) |refine wkt rfl ?_));(try refine wk0 ?_)
 rw[←hse] at hv2;subst hv2
 (try (simp(disch:=omega) only[go_sem,ξ,ζ]));apply hK;clear hK;(try clear K);(try dsimp only[ag,qs])
 refine rg rfl rfl (fun K hK=>?_);(repeat (first |(refine wo rfl (fun k hk=>?_);simp(disch:=omega) only[go_sem,ξ,ζ];apply hk;clear hk k) |refine wkt rfl ?_));(try refine wk0 ?_)
 refine cN rfl rfl rfl rfl (by exact aL (n:=s) hw (by omega)) ?_;rintro v h3 hs3 hd
 repeat (first |(refine wo rfl (fun k hk=>?_);simp(disch:=omega) only[go_sem,ξ,ζ];apply hk;clear hk k) |refine wkt rfl ?_ |refine wk0 ?_ |refine rg rfl rfl (fun K hK=>?_) |((first |refine ae ?_ |refine ac ?_);simp(disch:=decide) only[qs,qb,if_true,if_false,reduceIte]) |refine ah rfl (fun K hK=>?_) |refine ct rfl ?_ |((try simp(disch:=omega) only[go_sem,ξ,ζ]);(first |apply hK |(clear hK;apply hK) |(clear hK;clear hK;apply hK));clear hK;(try clear K);(try dsimp only[ag,qs,qb])))
 refine cN rfl rfl rfl rfl (by exact aL (n:=s) hv (by omega)) ?_;rintro v4 h4 hs4 hu;(repeat (first |(refine wo rfl (fun k hk=>?_);simp(disch:=omega) only[go_sem,ξ,ζ];apply hk;clear hk k) |refine wkt rfl ?_));(try refine wk0 ?_)
 obtain⟨a4,c4,us,hue,ha4,hus,hum⟩:=hu.out
 subst hue
 obtain⟨ad,cd,ds,hde,had,hds,hdm⟩:=hd.out
 subst hde
 rw[hds] at hdl hdt
 have hul:us.length≤xs.length+1:=by
  rw[←hus]
  apply cV B32
  rw[qAn]
  have h5:m < 4294967296^xs.length:=by rw[←hxs];exact cW B32 m
  have h6:2^s≤2147483648:=qAv (show 0 < 2 by omega) hs31
  exact Nat.lt_of_lt_of_le (Nat.mul_lt_mul_of_pos_right h5 (qAo (by omega))) (ω _ (by omega))
 refine wo rfl (fun k hk=>?_);simp(disch:=omega) only[go_sem,ξ,ζ]
 refine⟨uw us,by simp[uw];omega,fun hne=>ha4.cells h4 hne,uV us,?_⟩
 rw[spl_uws _ _ _ (by simp;omega)]
 simp only[List.take_zero,List.nil_append,List.drop_replicate,Nat.zero_add]
 apply hk;clear hk k
 (repeat (first |(refine wo rfl (fun k hk=>?_);simp(disch:=omega) only[go_sem,ξ,ζ];apply hk;clear hk k) |refine wkt rfl ?_));(try refine wk0 ?_)
 (try (simp(disch:=omega) only[go_sem,ξ,ζ]));apply hK;clear hK;(try clear K);(try dsimp only[ag,qs])
 have hyx:ys.length≤xs.length:=by have:=xw (show n≤m by omega);rwa[hxs,hys] at this
 repeat (first |(refine rg rfl rfl (fun K hK=>?_);(repeat (first |(refine wo rfl (fun k hk=>?_);simp(disch:=omega) only[go_sem,ξ,ζ];apply hk;clear hk k) |refine wkt rfl ?_));(try refine wk0 ?_);apply hK;clear hK K;(try dsimp only[ag,qs,qb])) |((first |refine ae ?_ |refine ac ?_);simp(disch:=decide) only[qs,qb,if_true,if_false,reduceIte]) |refine ah rfl (fun K hK=>?_) |refine ct rfl ?_ |((first |refine hK _ _ ?_ |(clear hK;refine hK _ _ ?_) |(clear hK;clear hK;refine hK _ _ ?_));clear hK;(try clear K)))
 have hD0:0 < n*2^s:=Nat.mul_pos (by omega) (qAo (by omega))
 have hval0:val 4294967296 (us ++List.replicate (xs.length+1 - us.length) 0)=m*2^s:=by rw[dD,mO,hum];simp
 have hlt0:∀x∈us ++List.replicate (xs.length+1 - us.length) 0,x < 4294967296:=by
  intro x hx
  rcases qAu.1 hx with h' |h'
  ·exact ha4.lt x h'
  ·rw[(List.mem_replicate.1 h').2];decide
 have hlen0:(us ++List.replicate (xs.length+1 - us.length) 0).length=xs.length+1:=by simp;omega
 obtain⟨R0,hR0⟩:∃R,us ++List.replicate (xs.length+1 - us.length) 0=R:=⟨_,rfl⟩
 rw[hR0] at hval0 hlt0 hlen0 ⊢
 obtain⟨L,hL⟩:∃L,xs.length - ys.length=L:=⟨_,rfl⟩
 rw[hL]
 have hdrop:val 4294967296 (R0.drop (L+1)) < n*2^s:=by
  rcases qBj (val 4294967296 (R0.drop (L+1))) (n*2^s) with h' |h'
  ·exact h'
  ·exfalso
   have e1:val 4294967296 R0=val 4294967296 (R0.take (L+1))+4294967296^(L+1)*val 4294967296 (R0.drop (L+1)):=by
    conv=>lhs;rw[←List.take_append_drop (L+1) R0]
    rw[dD,List.length_take,Nat.min_eq_left (by omega)]
   have e2:=ω (4294967296^(L+1)) h'
   have e3:4294967296^xs.length*2^s≤4294967296^(L+1)*(n*2^s):=by
    rw[←σ]
    refine ψ _ ?_
    have:=ω (4294967296^(L+1)) ht2
    rwa[←qAs,show L+1+(ys.length - 1)=xs.length by omega] at this
   have e4:m*2^s < 4294967296^xs.length*2^s:=Nat.mul_lt_mul_of_pos_right (by rw[←hxs];exact cW B32 m) (qAo (by decide))
   omega
 refine cg (fun x:Nat×List Nat×List Nat=>⟨[(8,.v (.int .i64 s)),(9,.v (.slice ad ds.length cd)),(10,.s 0 0 (xs.length+1) (xs.length+1)),(11,.s 1 0 (L+1) (L+1)),(12,.v (.int .i64 ((x.1:Int) - 1)))],[uw x.2.1,uw x.2.2]⟩)
  (fun x h'=>Le h0 h'∧Le h4 h'∧x.1≤L+1∧x.2.1.length=xs.length+1∧x.2.2.length=L+1∧(∀d∈x.2.1,d < 4294967296)∧(∀d∈x.2.2,d < 4294967296)∧val 4294967296 (x.2.1.drop x.1) < n*2^s∧val 4294967296 x.2.1+n*2^s*(4294967296^x.1*val 4294967296 (x.2.2.drop x.1))=m*2^s) (fun x=>x.1) (L+1,R0,List.replicate (L+1) 0) ?_ ⟨?_,?_,by simp,hlen0,by simp,hlt0,gG (by decide),hdrop,?_⟩ ?_
 ·simp(disch:=omega) only[go_sem,ξ,ζ]
 ·exact inferInstance
 ·exact inferInstance
 ·simp[hval0,val]
 ·as_aux_lemma=>
  rintro⟨k,rs,zs⟩ h5 ⟨hle,hle4,hk,hrl,hql,hrlt,hqlt,hrd,hinv⟩
  dsimp only at hk hrl hql hrlt hqlt hrd hinv ⊢
  by_cases hk0:k=0
  ·as_aux_lemma=>
   subst hk0
   simp only[List.drop_zero,Nat.pow_zero,qBm] at hrd hinv
   repeat (first |(refine rg rfl rfl (fun K hK=>?_);(repeat (first |(refine wo rfl (fun k hk=>?_);simp(disch:=omega) only[go_sem,ξ,ζ];apply hk;clear hk k) |refine wkt rfl ?_));(try refine wk0 ?_);apply hK;clear hK K;(try dsimp only[ag,qs,qb])) |((first |refine ae ?_ |refine ac ?_);simp(disch:=decide) only[qs,qb,if_true,if_false,reduceIte]) |refine ah rfl (fun K hK=>?_) |refine ct rfl ?_ |((first |refine hK _ _ ?_ |(clear hK;refine hK _ _ ?_) |(clear hK;clear hK;refine hK _ _ ?_));clear hK;(try clear K)))
   refine fk [.p 1,.p 0,.o 0,.o 1,.o 2,.o 3,.o 4,.o 5,.o 6,.o 7] rfl rfl (fun K hK=>?_)
   refine wkp ?_;simp(disch:=omega) only[go_sem,ξ,ζ];intro b6 h6 hs6 hb6
   refine wkp ?_;simp(disch:=omega) only[go_sem,ξ,ζ];intro b7 h7 hs7 hb7
   have hA:Arr h6 (some ⟨b6,0,none⟩) (L+1) zs:=.of_row (fun hne=>hb6 ((uw_ne _).1 hne)) hqlt (by omega) (by omega)
   have hB:Arr h7 (some ⟨b7,0,none⟩) (xs.length+1) rs:=.of_row (fun hne=>hb7 ((uw_ne _).1 hne)) hrlt (by omega) (by omega)
   have hmn:m*2^s=n*2^s*val 4294967296 zs+val 4294967296 rs:=by omega
   have hq:val 4294967296 zs=m / n:=by
    have h8:m*2^s / (n*2^s)=val 4294967296 zs:=by rw[hmn,Nat.mul_add_div hD0,Nat.div_eq_of_lt hrd,Nat.add_zero]
    rw[←h8,Nat.mul_div_mul_right _ _ (qAo (by decide))]
   have hr:val 4294967296 rs=(m % n)*2^s:=by
    have h8:m*2^s % (n*2^s)=val 4294967296 rs:=by rw[hmn,Nat.mul_add_mod,qBi hrd]
    rw[←h8,Nat.mul_mod_mul_right]
   (repeat (first |(refine wo rfl (fun k hk=>?_);simp(disch:=omega) only[go_sem,ξ,ζ];apply hk;clear hk k) |refine wkt rfl ?_));(try refine wk0 ?_)
   refine cN rfl rfl rfl rfl (by exact Of_L hA hql) ?_;rintro v8 h8 hs8 hq8;(repeat (first |(refine wo rfl (fun k hk=>?_);simp(disch:=omega) only[go_sem,ξ,ζ];apply hk;clear hk k) |refine wkt rfl ?_));(try refine wk0 ?_)
   refine cN rfl rfl rfl rfl (by exact Of_L hB hrl) ?_;rintro v9 h9 hs9 hr9;(repeat (first |(refine wo rfl (fun k hk=>?_);simp(disch:=omega) only[go_sem,ξ,ζ];apply hk;clear hk k) |refine wkt rfl ?_));(try refine wk0 ?_)
   rw[hr] at hr9
   have hbr:bl (m % n*2^s)≤2^40:=by
    have h10:bl (m % n*2^s)≤bl n+s:=by
     rw[bl_le,qAs]
     exact Nat.mul_lt_mul_of_pos_right (Nat.lt_trans (qBl _ (by omega)) (bl_le.1 (η _))) (qAo (by decide))
    omega
   refine cN rfl rfl rfl rfl (by exact gD hr9 hbr (by omega)) ?_;rintro v10 h10 hs10 hr10;(repeat (first |(refine wo rfl (fun k hk=>?_);simp(disch:=omega) only[go_sem,ξ,ζ];apply hk;clear hk k) |refine wkt rfl ?_));(try refine wk0 ?_)
   (try (simp(disch:=omega) only[go_sem,ξ,ζ]));apply hK;clear hK;(try clear K);(try dsimp only[ag,qs])
   refine ai ?_;simp(disch:=omega) only[go_sem,ξ,ζ]
   rw[hq] at hq8
   rw[Nat.mul_div_cancel _ (qAo (by decide))] at hr10
   exact⟨_,_,rfl,hq8.to,hr10⟩
  ·obtain⟨k,rfl⟩:∃j,k=j+1:=⟨k - 1,by omega⟩
   have hpre:(rs.take k).length=k:=by simp;omega
   obtain⟨pre,hpe⟩:∃p,rs.take k=p:=⟨_,rfl⟩
   obtain⟨ws,hwe⟩:∃p,rs.drop k=p:=⟨_,rfl⟩
   have hrs:rs=pre ++ws:=by rw[←hpe,←hwe,List.take_append_drop]
   rw[hpe] at hpre
   subst hrs hpre
   clear hpe hwe
   have hpl:(pre ++ws).length=pre.length+ws.length:=qAp
   rw[hpl] at hrl
   repeat (first |(refine rg rfl rfl (fun K hK=>?_);(repeat (first |(refine wo rfl (fun k hk=>?_);simp(disch:=omega) only[go_sem,ξ,ζ];apply hk;clear hk k) |refine wkt rfl ?_));(try refine wk0 ?_);apply hK;clear hK K;(try dsimp only[ag,qs,qb])) |((first |refine ae ?_ |refine ac ?_);simp(disch:=decide) only[qs,qb,if_true,if_false,reduceIte]) |refine ah rfl (fun K hK=>?_) |refine ct rfl ?_ |((first |refine hK _ _ ?_ |(clear hK;refine hK _ _ ?_) |(clear hK;clear hK;refine hK _ _ ?_));clear hK;(try clear K)))
   have hif:(if xs.length+1=pre.length then 0 else pre.length)=pre.length:=if_neg (by omega)
   have hsb:pre.length+ds.length+1 - pre.length=ds.length+1:=by omega
   refine ug rfl ?_
   (repeat (first |(refine wo rfl (fun k hk=>?_);simp(disch:=omega) only[go_sem,ξ,ζ,hif,hsb];apply hk;clear hk k) |refine wkt rfl ?_));(try refine wk0 ?_)
   refine wo rfl (fun k hk=>?_);simp(disch:=omega) only[go_sem,ξ,ζ,true_or]
   have hwlt:∀x∈ws,x < 4294967296:=fun x hx=>hrlt x (qAu.2 (.inr hx))
   have hdr1:(pre ++ws).drop (pre.length+1)=ws.drop 1:=by rw[List.drop_append];simp
   rw[hdr1] at hrd
   have hw0:=aM (by decide) hwlt 0
   have hUB:val 4294967296 ws < 4294967296*(n*2^s):=by
    rw[Ec (by omega)]
    have:=ω 4294967296 (show val 4294967296 (ws.drop 1)+1≤n*2^s by omega)
    omega
   haveI:Le h3 h5:=⟨hs4.sub.trans hle4.sub⟩
   refine zB 0 rfl ?_ rfl (E5 (ys:=ds) (h0:=h3) (a:=ad) (c:=cd) had (by omega) (by omega) (by rw[hdl];exact hdt) hwlt (by omega) (by omega) (by omega) ?_) ?_
   ·intro e
    have:=congrArg List.length e
    simp only[AS.box,List.getD_cons_zero,uw,List.length_map,qAp,List.length_nil] at this
    omega
   ·rw[hdm];exact Nat.lt_of_le_of_lt (by rw[iZ 4294967296 ws (ds.length+1) (by omega)];omega) hUB
   ·rintro v row' h6 hs6 ⟨rfl,ws',rfl,hl6,hlt6,hd6,hv6⟩
    simp(disch:=omega) only[go_sem,ξ,ζ]
    have hpl6:(pre ++ws').length=pre.length+ws.length:=by rw[qAp,hl6]
    apply hk;clear hk k
    (repeat (first |(refine wo rfl (fun k hk=>?_);simp(disch:=omega) only[go_sem,ξ,ζ];apply hk;clear hk k) |refine wkt rfl ?_));(try refine wk0 ?_)
    simp only[Q.qs,qb,if_true,if_false]
    repeat (first |(refine wo rfl (fun k hk=>?_);simp(disch:=omega) only[go_sem,ξ,ζ];apply hk;clear hk k) |refine wkt rfl ?_ |refine wk0 ?_ |((first |refine rg rfl rfl (fun K hK=>?_));(repeat (first |(refine wo rfl (fun k hk=>?_);simp(disch:=omega) only[go_sem,ξ,ζ];apply hk;clear hk k) |refine wkt rfl ?_ |refine wk0 ?_));(first |apply hK |(clear hK;apply hK) |(clear hK;clear hK;apply hK));clear hK;(try clear K);(try dsimp only[ag,qs,qb])) |((first |refine ae ?_ |refine ac ?_);simp(disch:=decide) only[qs,qb,if_true,if_false,reduceIte]) |refine ah rfl (fun K hK=>?_) |refine ct rfl ?_ |((try simp(disch:=omega) only[go_sem,ξ,ζ]);(first |apply hK |(clear hK;apply hK) |(clear hK;clear hK;apply hK));clear hK;(try clear K);(try dsimp only[ag,qs,qb])))
    have hDB:n*2^s < 4294967296^ds.length:=by rw[←hdm];exact iU (by decide) ds had.lt
    rw[hdm] at hv6
    obtain⟨hUw,hw'⟩:=xL (by decide) (show ds.length+1≤ws.length by omega) (show ds.length+1≤ws'.length by omega) hUB hDB hd6 hv6
    rw[hUw,hdm]
    refine⟨(pre.length,pre ++ws',zs.set pre.length (val 4294967296 ws / (n*2^s))),?_,⟨inferInstance,inferInstance,by dsimp only;omega,by dsimp only;omega,by simp[hql],?_,d9 hqlt (by rw[Nat.div_lt_iff_lt_mul hD0];exact hUB),?_,?_⟩,by dsimp only;omega⟩
    ·simp(disch:=omega) only[go_sem,ξ,ζ]
    ·intro x hx
     rcases qAu.1 hx with h' |h'
     ·exact hrlt x (qAu.2 (.inl h'))
     ·exact hlt6 x h'
    ·dsimp only
     rw[List.drop_left,hw'];exact qBl _ hD0
    ·dsimp only
     rw[mJ (xs:=zs.set pre.length _) (by simp[hql];omega),oe (by omega),List.drop_set_of_lt (by omega),val,dD,hw']
     rw[dD,qAn] at hinv
     exact C8 hinv
theorem aR {m n:Nat} (h:m≤n):bl m≤bl n:=bl_le.2 (Nat.lt_of_le_of_lt h (bl_le.1 (η _)))
theorem GCD_spec {h0 h:PH} [Le h0 h] {v w:Value} {m n:Nat} (hv:N32 h0 v m) (hw:N32 h0 w n) (bm:bl m≤2^39) (bn:bl n≤2^39):Spec mach 197 #[v,w] h (fun v h'=>N32 h' v (Nat.gcd m n)) NP:=by
 refine Spec.go [] Tryz.func197 rfl rfl (by kernel_rfl) fun C _=>?_
 try simp(maxSteps:=999999) (disch:=omega) only[go_sem,ξ,ζ]
 refine lp [] (fun x:Value×Value×Nat×Nat=>⟨[(0,.v x.1),(1,.v x.2.1)],[]⟩) (fun x h'=>N32 h' x.1 x.2.2.1∧N32 h' x.2.1 x.2.2.2∧bl x.2.2.1≤2^39∧bl x.2.2.2≤2^39∧Nat.gcd x.2.2.1 x.2.2.2=Nat.gcd m n) (fun x=>x.2.2.2) (v,w,m,n) ?_ ⟨hv.to,hw.to,bm,bn,rfl⟩ (by kernel_rfl) ?_
 ·try simp(maxSteps:=999999) (disch:=omega) only[go_sem,ξ,ζ]
 ·rintro⟨va,vb,m',n'⟩ h1 ⟨ha,hb,ba,bb,hg⟩
  dsimp only at ha hb ba bb hg ⊢
  obtain⟨a,c,ys,hbe,hay,hys,hyn⟩:=hb.out
  subst hbe
  have hl:=nP B32 (n:=n')
  rw[hys] at hl
  by_cases hn:n'=0
  ·try simp(maxSteps:=999999) (disch:=omega) only[go_sem,ξ,ζ]
   rw[hn,Nat.gcd_zero_right] at hg
   rwa[←hg]
  ·try simp(maxSteps:=999999) (disch:=omega) only[go_sem,ξ,ζ]
   refine caN (by exact gU ha hb hn ba bb) ?_;rintro v2 h2 hs2 ⟨q,r,rfl,hq,hr⟩
   try simp(maxSteps:=999999) (disch:=omega) only[go_sem,ξ,ζ]
   dsimp only[lpE];refine⟨(_,r,n',m' % n'),?_,⟨hb.to,hr.to,bb,χ (aR (Nat.le_of_lt (qBl _ (by omega)))) bb,?_⟩,qBl _ (by omega)⟩
   ·try simp(maxSteps:=999999) (disch:=omega) only[go_sem,ξ,ζ]
   ·dsimp only
    rw[←hg,Nat.gcd_comm m' n',Nat.gcd_rec n' m',Nat.gcd_comm]
end Go.Q
