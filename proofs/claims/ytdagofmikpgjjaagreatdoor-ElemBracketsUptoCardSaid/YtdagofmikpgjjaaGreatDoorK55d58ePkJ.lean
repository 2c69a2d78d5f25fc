/-
  Contracts of the reference's natural numbers, and what stands on it. Conditions: each theorem's own.
-/
import Derived.Test.YtdagofmikpgjjaaGreatDoorK98c21dPkF
import Derived.Test.YtdagofmikpgjjaaGreatDoorK78b478PkI
import Derived.Test.YtdagofmikpgjjaaGreatDoorK56fa9ePkH
set_option linter.unusedVariables false
set_option linter.unusedSimpArgs false
open Nat (reduceAdd)
namespace Go.Q
open Go.Proofs
set_option maxRecDepth 100000
theorem FU {h0 h:PH} [Le h0 h] {v:Value} {m d:Nat} (hv:N16 h0 v m) (bm:bl m≤2^40) (hd0:0 < d) (hd:d < 65536):Spec mach 232 #[v,.int .u32 d] h (fun v h'=>∃q,v=.tuple #[q,.int .u32 (m % d:Nat)]∧N16 h' q (m / d)) NP:=by
  obtain⟨a,c,xs,rfl,ha,hxs,hm,hx16⟩:=hv.out
  have hs:xs.length≤2^40:=by have:=cr m;rw[hxs] at this;omega
  refine Spec.enter (args:=[_,_]) (n:=39) Tryz.func232 rfl (by kernel_rfl) rfl (by simp) [.tmp 4,.tmp 5] rfl (fun C _=>?_)
  repeat (first |(refine wo rfl (fun k hk=>?_);simp(disch:=omega) only[go_sem,Nat.reduceBEq,reduceAdd];apply hk;clear hk k) |refine wkt rfl ?_ |refine wk0 ?_ |refine rg rfl rfl (fun K hK=>?_) |((first |refine ae ?_ |refine ac ?_);simp(disch:=decide) only[qs,qb,if_true,if_false,reduceIte]) |refine ah rfl (fun K hK=>?_) |refine ct rfl ?_ |((try simp(disch:=omega) only[go_sem,Nat.reduceBEq,reduceAdd]);(first |apply hK |(clear hK;apply hK) |(clear hK;clear hK;apply hK));clear hK;(try clear K);(try dsimp only[ag,qs,qb])))
  refine cg (fun x:Nat×List Nat×Nat=>⟨[(0,.v (.slice a xs.length c)),(1,.v (.int .u32 d)),(6,.s 0 0 xs.length xs.length),(7,.v (.int .u32 x.2.2)),(8,.v (.int .i64 ((x.1:Int) - 1)))],[uw x.2.1]⟩)
      (fun x h'=>Le h0 h'∧x.1≤xs.length∧x.2.1.length=xs.length∧(∀d∈x.2.1,d < 65536)∧x.2.2 < d∧val 65536 (xs.drop x.1)=d*val 65536 (x.2.1.drop x.1)+x.2.2) (fun x=>x.1) (xs.length,List.replicate xs.length 0,0) ?_ ⟨?_,by simp,by simp,gG (by decide),hd0,?_⟩ ?_
  · simp(disch:=omega) only[go_sem,Nat.reduceBEq,reduceAdd]
  · exact inferInstance
  · simp[val]
  · rintro⟨k,rs,r⟩ h1 ⟨hle,hk,hr,hlt,hrd,hi⟩
    dsimp only at hk hr hlt hrd hi ⊢
    by_cases hk0:k=0
    · subst hk0
      repeat (first |(refine rg rfl rfl (fun K hK=>?_);(repeat (first |(refine wo rfl (fun k hk=>?_);simp(disch:=omega) only[go_sem,Nat.reduceBEq,reduceAdd];apply hk;clear hk k) |refine wkt rfl ?_));(try refine wk0 ?_);apply hK;clear hK K;(try dsimp only[ag,qs,qb])) |((first |refine ae ?_ |refine ac ?_);simp(disch:=decide) only[qs,qb,if_true,if_false,reduceIte]) |refine ah rfl (fun K hK=>?_) |refine ct rfl ?_ |((first |refine hK _ _ ?_ |(clear hK;refine hK _ _ ?_) |(clear hK;clear hK;refine hK _ _ ?_));clear hK;(try clear K)))
      refine fk [.o 0,.p 0,.o 1,.o 2,.o 3,.o 4] rfl rfl (fun K hK=>?_);(repeat (first |(refine wo rfl (fun k hk=>?_);simp(disch:=omega) only[go_sem,Nat.reduceBEq,reduceAdd];apply hk;clear hk k) |refine wkt rfl ?_));(try refine wk0 ?_)
      refine wkp ?_;simp(disch:=omega) only[go_sem,Nat.reduceBEq,reduceAdd];intro b h2 hs2 hb;(repeat (first |(refine wo rfl (fun k hk=>?_);simp(disch:=omega) only[go_sem,Nat.reduceBEq,reduceAdd];apply hk;clear hk k) |refine wkt rfl ?_));(try refine wk0 ?_)
      have hA:Arr h2 (some ⟨b,0,none⟩) xs.length rs:=.of_row (fun hne=>hb ((uw_ne _).1 hne)) (fun x hx=>by have:=hlt x hx;omega) (by omega) (by omega)
      simp only[List.drop_zero] at hi
      rw[hm] at hi
      have e1:m / d=val 65536 rs:=by rw[hi,Nat.mul_add_div hd0,Nat.div_eq_of_lt hrd,Nat.add_zero]
      have e2:m % d=r:=by rw[hi,Nat.mul_add_mod,Nat.mod_eq_of_lt hrd]
      refine cN rfl rfl rfl rfl (by exact nY hA hlt hr) ?_;rintro v h3 hs3 hv';(repeat (first |(refine wo rfl (fun k hk=>?_);simp(disch:=omega) only[go_sem,Nat.reduceBEq,reduceAdd];apply hk;clear hk k) |refine wkt rfl ?_));(try refine wk0 ?_)
      (try (simp(disch:=omega) only[go_sem,Nat.reduceBEq,reduceAdd]));apply hK;clear hK;(try clear K);(try dsimp only[ag,qs])
      refine ai ?_;simp(disch:=omega) only[go_sem,Nat.reduceBEq,reduceAdd]
      exact⟨v,by rw[e2],by rw[e1];exact hv'⟩
    · obtain⟨k,rfl⟩:∃j,k=j+1:=⟨k - 1,by omega⟩
      obtain⟨ad,rfl,hat⟩:=ha.rd h1 (i:=k) (by omega)
      have hx:=aM (by decide) hx16 k
      have hq:(r*65536+xs.getD k 0) / d < 65536:=by
        apply Nat.div_lt_of_lt_mul
        have:=Nat.mul_le_mul_right 65536 (show r+1≤d by omega)
        omega
      have hm':(r*65536+xs.getD k 0) % d < d:=Nat.mod_lt _ hd0
      have hs2:d*((r*65536+xs.getD k 0) / d)+(r*65536+xs.getD k 0) % d=r*65536+xs.getD k 0:=Nat.div_add_mod _ _
      obtain⟨q,hqe⟩:∃q,(r*65536+xs.getD k 0) / d=q:=⟨_,rfl⟩
      obtain⟨r',hre⟩:∃q,(r*65536+xs.getD k 0) % d=q:=⟨_,rfl⟩
      rw[hqe] at hq hs2
      rw[hre] at hm' hs2
      repeat (first |(refine wo rfl (fun k hk=>?_);simp(disch:=omega) only[go_sem,Nat.reduceBEq,reduceAdd,hat,hqe,hre];apply hk;clear hk k) |refine wkt rfl ?_ |refine wk0 ?_ |refine rg rfl rfl (fun K hK=>?_) |((first |refine ae ?_ |refine ac ?_);simp(disch:=decide) only[qs,qb,if_true,if_false,reduceIte]) |refine ah rfl (fun K hK=>?_) |refine ct rfl ?_ |((try simp(disch:=omega) only[go_sem,Nat.reduceBEq,reduceAdd]);(first |apply hK |(clear hK;apply hK) |(clear hK;clear hK;apply hK));clear hK;(try clear K);(try dsimp only[ag,qs,qb])))
      refine⟨(k,rs.set k q,r'),?_,⟨hle,by dsimp only;omega,by simp[hr],d9 hlt hq,hm',?_⟩,by simp only;omega⟩
      · simp(disch:=omega) only[go_sem,Nat.reduceBEq,reduceAdd]
      · dsimp only
        rw[mJ (by omega),mJ (xs:=rs.set k q) (by simp[hr];omega),oe (by omega),List.drop_set_of_lt (by omega),val,val,hi]
        rw[Nat.mul_add d,Nat.mul_left_comm d,Nat.mul_add 65536]
        omega
theorem HE {x r cy:Nat} (hc:cy < 2^r):x*2^r ||| cy=x*2^r+cy:=by
  rw[Nat.or_comm,Nat.mul_comm,FD hc,Nat.add_comm]
theorem yE {V P cy X Q R p x s:Nat} (hi:V+P*cy=Q*(R*X)) (hs:s=x*R+cy) (hP:P=Q*p):V+P*(s % 65536)+P*65536*(s / 65536)=Q*(R*(X+p*x)):=by
  have h1:=dm P 65536 s
  have h2:P*s=Q*(R*(p*x))+P*cy:=by rw[hs,Nat.mul_add,hP];simp only[Nat.mul_assoc,Nat.mul_comm,Nat.mul_left_comm]
  rw[Nat.mul_add R,Nat.mul_add Q]
  omega
theorem vO (k:Nat):2^(16*k)=65536^k:=by
  rw[Nat.pow_mul,show(2:Nat)^16=65536 from by decide]
theorem gf {h0 h:PH} [Le h0 h] {v:Value} {m n:Nat} (hv:N16 h0 v m) (bm:bl m+n≤2^40):Spec mach 233 #[v,.int .i64 n] h (fun v h'=>N16 h' v (m*2^n)) NP:=by
  obtain⟨a,c,xs,rfl,ha,hxs,hm,hx16⟩:=hv.out
  have hs:xs.length+n≤2^40:=by have:=cr m;rw[hxs] at this;omega
  refine Spec.enter (args:=[_,_]) (n:=55) Tryz.func233 rfl (by kernel_rfl) rfl (by simp) [.tmp 4] rfl (fun C _=>?_)
  by_cases hz:xs.length=0∨n=0
  · have e0:m*2^n=m:=by
      rcases hz with hz |hz
      · rw[←hm,List.eq_nil_of_length_eq_zero hz];simp[val]
      · rw[hz,Nat.pow_zero,Nat.mul_one]
    rw[e0]
    by_cases hz1:xs.length=0
    · repeat (first |(refine wo rfl (fun k hk=>?_);simp(disch:=omega) only[go_sem,Nat.reduceBEq,reduceAdd];apply hk;clear hk k) |refine wkt rfl ?_ |refine wk0 ?_ |refine rg rfl rfl (fun K hK=>?_) |((first |refine ae ?_ |refine ac ?_);simp(disch:=decide) only[qs,qb,if_true,if_false,reduceIte]) |refine ah rfl (fun K hK=>?_) |refine ct rfl ?_ |((try simp(disch:=omega) only[go_sem,Nat.reduceBEq,reduceAdd]);(first |apply hK |(clear hK;apply hK) |(clear hK;clear hK;apply hK));clear hK;(try clear K);(try dsimp only[ag,qs,qb])))
      refine wo rfl (fun k hk=>?_);simp(disch:=omega) only[go_sem,Nat.reduceBEq,reduceAdd]
      refine⟨[],by simp[hz1],rfl,fun junk=>?_⟩
      apply hk;clear hk k
      (repeat (first |(refine wo rfl (fun k hk=>?_);simp(disch:=omega) only[go_sem,Nat.reduceBEq,reduceAdd];apply hk;clear hk k) |refine wkt rfl ?_));(try refine wk0 ?_)
      (try (simp(disch:=omega) only[go_sem,Nat.reduceBEq,reduceAdd]));apply hK;clear hK;(try clear K);(try dsimp only[ag,qs])
      refine mp 1 ?_
      simp(disch:=omega) only[go_sem,Nat.reduceBEq,reduceAdd]
      intro b h1 hs1 hb
      refine ai ?_;simp(disch:=omega) only[go_sem,Nat.reduceBEq,reduceAdd]
      have e:xs=[]:=List.eq_nil_of_length_eq_zero hz1
      refine N16.of_pub (ds:=[]) (junk:=junk) (by simpa[uw] using hb) (by rw[hxs,e]) (by simp) (by simp[hz1]) (by simp)
    · have hn0:n=0:=hz.resolve_left hz1
      subst hn0
      repeat (first |(refine wo rfl (fun k hk=>?_);simp(disch:=omega) only[go_sem,Nat.reduceBEq,reduceAdd];apply hk;clear hk k) |refine wkt rfl ?_ |refine wk0 ?_ |refine rg rfl rfl (fun K hK=>?_) |((first |refine ae ?_ |refine ac ?_);simp(disch:=decide) only[qs,qb,if_true,if_false,reduceIte]) |refine ah rfl (fun K hK=>?_) |refine ct rfl ?_ |((try simp(disch:=omega) only[go_sem,Nat.reduceBEq,reduceAdd]);(first |apply hK |(clear hK;apply hK) |(clear hK;clear hK;apply hK));clear hK;(try clear K);(try dsimp only[ag,qs,qb])))
      refine wo rfl (fun k hk=>?_);simp(disch:=omega) only[go_sem,Nat.reduceBEq,reduceAdd]
      refine⟨uw xs,by simp[uw],fun hne=>?_,uV xs,fun junk=>?_⟩
      · obtain⟨ad',h1,h2⟩:=ha.cells h hne
        exact⟨ad',h1,h2⟩
      apply hk;clear hk k
      (repeat (first |(refine wo rfl (fun k hk=>?_);simp(disch:=omega) only[go_sem,Nat.reduceBEq,reduceAdd];apply hk;clear hk k) |refine wkt rfl ?_));(try refine wk0 ?_)
      (try (simp(disch:=omega) only[go_sem,Nat.reduceBEq,reduceAdd]));apply hK;clear hK;(try clear K);(try dsimp only[ag,qs])
      refine mp 1 ?_
      simp(disch:=omega) only[go_sem,Nat.reduceBEq,reduceAdd]
      intro b h1 hs1 hb
      refine ai ?_;simp(disch:=omega) only[go_sem,Nat.reduceBEq,reduceAdd]
      exact N16.of_pub (ds:=xs) (junk:=junk) hb hxs (by omega) rfl (by omega)
  · have hx0:¬xs.length=0:=fun e=>hz (.inl e)
    have hn0:¬n=0:=fun e=>hz (.inr e)
    have hp:2^(n % 16)≤32768:=Nat.pow_le_pow_right (show 0 < 2 by omega) (show n % 16≤15 by omega)
    have hp0:0 < 2^(n % 16):=Nat.pow_pos (by omega)
    have hrep:uw (List.replicate (n / 16+xs.length+1) 0)=uw (List.replicate (n / 16) 0) ++uw (List.replicate (xs.length+1) 0):=by
      rw[←rj,List.replicate_append_replicate,Nat.add_assoc]
    repeat (first |(refine wo rfl (fun k hk=>?_);simp(disch:=omega) only[go_sem,Nat.reduceBEq,reduceAdd];apply hk;clear hk k) |refine wkt rfl ?_ |refine wk0 ?_ |refine rg rfl rfl (fun K hK=>?_) |((first |refine ae ?_ |refine ac ?_);simp(disch:=decide) only[qs,qb,if_true,if_false,reduceIte]) |refine ah rfl (fun K hK=>?_) |refine ct rfl ?_ |((try simp(disch:=omega) only[go_sem,Nat.reduceBEq,reduceAdd]);(first |apply hK |(clear hK;apply hK) |(clear hK;clear hK;apply hK));clear hK;(try clear K);(try dsimp only[ag,qs,qb])))
    refine eO (fun x:Nat×List Nat×List Value×Nat=>⟨[(1,.v (.int .i64 n)),(5,.s 0 0 x.2.1.length (x.2.1.length+x.2.2.1.length)),(6,.v (.int .u32 x.2.2.2)),(29,.v (.slice a xs.length c)),(30,.v (.int .i64 xs.length)),(31,.v (.int .i64 x.1))],[uw x.2.1 ++x.2.2.1]⟩)
      (fun x h'=>Le h0 h'∧x.1≤xs.length∧x.2.1.length=n / 16+x.1∧(∀d∈x.2.1,d < 65536)∧x.2.2.2 < 2^(n % 16)∧val 65536 x.2.1+65536^x.2.1.length*x.2.2.2=65536^(n / 16)*(2^(n % 16)*val 65536 (xs.take x.1))) (fun x=>xs.length - x.1) (0,List.replicate (n / 16) 0,uw (List.replicate (xs.length+1) 0),0) [0] ?_ ⟨inferInstance,by simp,by simp,gG (by decide),hp0,by simp[val,mO]⟩ ?_
    · simp(disch:=omega) only[go_sem,Nat.reduceBEq,reduceAdd,hrep,←Nat.add_assoc]
    · rintro⟨i,ds,jk,cy⟩ h1 ⟨hle,hk,hdl,hlt,hcy,hi⟩
      dsimp only at hk hdl hlt hcy hi ⊢
      by_cases hkl:i < xs.length
      · obtain⟨ad,rfl,hat⟩:=ha.rd h1 (i:=i) (by omega)
        have hx:=aM (by decide) hx16 i
        have hb:xs.getD i 0*2^(n % 16)≤65535*32768:=Nat.mul_le_mul (by omega) hp
        have hor:=HE (x:=xs.getD i 0) hcy
        repeat (first |(refine wo rfl (fun k hk=>?_);simp(disch:=omega) only[go_sem,Nat.reduceBEq,reduceAdd,hat,hor];apply hk;clear hk k) |refine wkt rfl ?_ |refine wk0 ?_ |refine rg rfl rfl (fun K hK=>?_) |((first |refine ae ?_ |refine ac ?_);simp(disch:=decide) only[qs,qb,if_true,if_false,reduceIte]) |refine ah rfl (fun K hK=>?_) |refine ct rfl ?_ |((try simp(disch:=omega) only[go_sem,Nat.reduceBEq,reduceAdd]);(first |apply hK |(clear hK;apply hK) |(clear hK;clear hK;apply hK));clear hK;(try clear K);(try dsimp only[ag,qs,qb])))
        refine wo rfl (fun k hk=>?_);simp(disch:=omega) only[go_sem,Nat.reduceBEq,reduceAdd]
        intro junk
        apply hk;clear hk k
        (repeat (first |(refine wo rfl (fun k hk=>?_);simp(disch:=omega) only[go_sem,Nat.reduceBEq,reduceAdd];apply hk;clear hk k) |refine wkt rfl ?_));(try refine wk0 ?_)
        repeat (first |(refine wo rfl (fun k hk=>?_);simp(disch:=omega) only[go_sem,Nat.reduceBEq,reduceAdd];apply hk;clear hk k) |refine wkt rfl ?_ |refine wk0 ?_ |refine rg rfl rfl (fun K hK=>?_) |((first |refine ae ?_ |refine ac ?_);simp(disch:=decide) only[qs,qb,if_true,if_false,reduceIte]) |refine ah rfl (fun K hK=>?_) |refine ct rfl ?_ |((try simp(disch:=omega) only[go_sem,Nat.reduceBEq,reduceAdd]);(first |apply hK |(clear hK;apply hK) |(clear hK;clear hK;apply hK));clear hK;(try clear K);(try dsimp only[ag,qs,qb])))
        refine⟨(i+1,ds ++[(xs.getD i 0*2^(n % 16)+cy) % 65536],junk,(xs.getD i 0*2^(n % 16)+cy) / 65536),[2],?_,⟨hle,by dsimp only;omega,by simp;omega,gS hlt (Nat.mod_lt _ (by decide)),?_,?_⟩,by simp;omega⟩
        · simp(disch:=omega) only[go_sem,Nat.reduceBEq,reduceAdd,fB]
        · dsimp only
          apply Nat.div_lt_of_lt_mul
          have:=Nat.mul_le_mul_right (2^(n % 16)) (show xs.getD i 0+1≤65536 by omega)
          rw[Nat.add_mul] at this
          omega
        · simp only[List.length_append,List.length_singleton]
          rw[fj,aq _ xs,Nat.pow_succ]
          refine yE hi rfl ?_
          rw[hdl,Nat.pow_add]
      · have hkl':i=xs.length:=by omega
        subst hkl'
        rw[List.take_of_length_le (Nat.le_refl _),hm] at hi
        have hval:val 65536 (ds ++[cy])=m*2^n:=by
          rw[fj,hi,←vO,←Nat.mul_assoc,←Nat.pow_add,Nat.div_add_mod,Nat.mul_comm]
        have hlt':=gS hlt (show cy < 65536 by omega)
        repeat (first |(refine rg rfl rfl (fun K hK=>?_);(repeat (first |(refine wo rfl (fun k hk=>?_);simp(disch:=omega) only[go_sem,Nat.reduceBEq,reduceAdd];apply hk;clear hk k) |refine wkt rfl ?_));(try refine wk0 ?_);apply hK;clear hK K;(try dsimp only[ag,qs,qb])) |((first |refine ae ?_ |refine ac ?_);simp(disch:=decide) only[qs,qb,if_true,if_false,reduceIte]) |refine ah rfl (fun K hK=>?_) |refine ct rfl ?_ |((first |refine hK _ _ ?_ |(clear hK;refine hK _ _ ?_) |(clear hK;clear hK;refine hK _ _ ?_));clear hK;(try clear K)))
        refine fk [.o 0,.o 1,.o 2,.o 3,.p 2,.o 4,.o 5] rfl rfl (fun K hK=>?_);(repeat (first |(refine wo rfl (fun k hk=>?_);simp(disch:=omega) only[go_sem,Nat.reduceBEq,reduceAdd];apply hk;clear hk k) |refine wkt rfl ?_));(try refine wk0 ?_)
        refine wo rfl (fun k hk=>?_);simp(disch:=omega) only[go_sem,Nat.reduceBEq,reduceAdd]
        intro junk
        apply hk;clear hk k
        refine wkp ?_;simp(disch:=omega) only[go_sem,Nat.reduceBEq,reduceAdd];intro b h2 hs2 hb;(repeat (first |(refine wo rfl (fun k hk=>?_);simp(disch:=omega) only[go_sem,Nat.reduceBEq,reduceAdd];apply hk;clear hk k) |refine wkt rfl ?_));(try refine wk0 ?_)
        simp only[fB] at hb
        have hA:Arr h2 (some ⟨b,0,none⟩) (ds.length+1+junk.length) (ds ++[cy]):=.of_app hb hlt' (by simp;omega) (by simp)
        refine cN rfl rfl rfl rfl (by exact nY hA hlt' (by simp)) ?_;rintro v3 h3 _ hv3;obtain⟨v3,v3_l,v3_c,rfl,hv3⟩:=hv3.sl;(repeat (first |(refine wo rfl (fun k hk=>?_);simp(disch:=omega) only[go_sem,Nat.reduceBEq,reduceAdd];apply hk;clear hk k) |refine wkt rfl ?_));(try refine wk0 ?_)
        (try (simp(disch:=omega) only[go_sem,Nat.reduceBEq,reduceAdd]));apply hK;clear hK;(try clear K);(try dsimp only[ag,qs])
        refine ai ?_;simp(disch:=omega) only[go_sem,Nat.reduceBEq,reduceAdd]
        rwa[hval] at hv3
theorem J0 {h':PH} {b L c:Nat} {xs:List Nat} {junk:List Value} (hb:h' b=some (uw xs ++junk).toArray) (hlt:∀x∈xs,x < 65536) (hs:xs.length≤2^46) (hl:xs.length=L) (hc:xs.length≤c):
    Spec mach 149 #[.slice (some ⟨b,0,none⟩) L c] h' (fun v _=>v=.slice (some ⟨b,0,none⟩) (W 65536 (val 65536 xs)).length c) NP:=by
  subst hl
  exact Aa (h0:=h') (.of_app (fun _=>hb) hlt hs hc) hlt
theorem Ez {h0 h:PH} [Le h0 h] {v:Value} {m n:Nat} (hv:N16 h0 v m) (hm0:m≠0) (bm:bl m+n≤2^40):SpecO mach 233 #[v,.int .i64 n] h (fun row len _=>∃junk,row=uw (W 65536 (m*2^n)) ++junk∧len=(W 65536 (m*2^n)).length):=by
  obtain⟨a,c,xs,rfl,ha,hxs,hm,hx16⟩:=hv.out
  have hs:xs.length+n≤2^40:=by have:=cr m;rw[hxs] at this;omega
  have hx0:¬xs.length=0:=by intro e;exact hm0 (by rw[←hm,List.eq_nil_of_length_eq_zero e];rfl)
  refine SpecO.enter (args:=[_,_]) (n:=55) Tryz.func233 rfl (by kernel_rfl) rfl (by simp) 4 rfl (fun C _=>?_)
  by_cases hz:n=0
  · subst hz
    rw[Nat.pow_zero,Nat.mul_one]
    have huw:uw xs≠[]:=(uw_ne xs).2 (fun e=>hx0 (by rw[e];rfl))
    repeat (first |(refine wo rfl (fun k hk=>?_);simp(disch:=omega) only[go_sem,Nat.reduceBEq,reduceAdd];apply hk;clear hk k) |refine wkt rfl ?_ |refine wk0 ?_ |refine rg rfl rfl (fun K hK=>?_) |((first |refine ae ?_ |refine ac ?_);simp(disch:=decide) only[qs,qb,if_true,if_false,reduceIte]) |refine ah rfl (fun K hK=>?_) |refine ct rfl ?_ |((try simp(disch:=omega) only[go_sem,Nat.reduceBEq,reduceAdd]);(first |apply hK |(clear hK;apply hK) |(clear hK;clear hK;apply hK));clear hK;(try clear K);(try dsimp only[ag,qs,qb])))
    refine wo rfl (fun k hk=>?_);simp(disch:=omega) only[go_sem,Nat.reduceBEq,reduceAdd]
    refine⟨uw xs,by simp[uw],fun hne=>?_,uV xs,fun junk=>?_⟩
    · obtain⟨ad',h1,h2⟩:=ha.cells h hne
      exact⟨ad',h1,h2⟩
    apply hk;clear hk k
    (repeat (first |(refine wo rfl (fun k hk=>?_);simp(disch:=omega) only[go_sem,Nat.reduceBEq,reduceAdd];apply hk;clear hk k) |refine wkt rfl ?_));(try refine wk0 ?_)
    (try (simp(disch:=omega) only[go_sem,Nat.reduceBEq,reduceAdd]));apply hK;clear hK;(try clear K);(try dsimp only[ag,qs])
    refine ai ?_;simp(disch:=omega) only[go_sem,Nat.reduceBEq,reduceAdd]
    exact⟨by simp[huw],junk,by rw[hxs],by rw[hxs]⟩
  · have hn0:¬n=0:=hz
    have hp:2^(n % 16)≤32768:=Nat.pow_le_pow_right (show 0 < 2 by omega) (show n % 16≤15 by omega)
    have hp0:0 < 2^(n % 16):=Nat.pow_pos (by omega)
    have hrep:uw (List.replicate (n / 16+xs.length+1) 0)=uw (List.replicate (n / 16) 0) ++uw (List.replicate (xs.length+1) 0):=by
      rw[←rj,List.replicate_append_replicate,Nat.add_assoc]
    repeat (first |(refine wo rfl (fun k hk=>?_);simp(disch:=omega) only[go_sem,Nat.reduceBEq,reduceAdd];apply hk;clear hk k) |refine wkt rfl ?_ |refine wk0 ?_ |refine rg rfl rfl (fun K hK=>?_) |((first |refine ae ?_ |refine ac ?_);simp(disch:=decide) only[qs,qb,if_true,if_false,reduceIte]) |refine ah rfl (fun K hK=>?_) |refine ct rfl ?_ |((try simp(disch:=omega) only[go_sem,Nat.reduceBEq,reduceAdd]);(first |apply hK |(clear hK;apply hK) |(clear hK;clear hK;apply hK));clear hK;(try clear K);(try dsimp only[ag,qs,qb])))
    refine eO (fun x:Nat×List Nat×List Value×Nat=>⟨[(1,.v (.int .i64 n)),(5,.s 0 0 x.2.1.length (x.2.1.length+x.2.2.1.length)),(6,.v (.int .u32 x.2.2.2)),(29,.v (.slice a xs.length c)),(30,.v (.int .i64 xs.length)),(31,.v (.int .i64 x.1))],[uw x.2.1 ++x.2.2.1]⟩)
      (fun x h'=>Le h0 h'∧x.1≤xs.length∧x.2.1.length=n / 16+x.1∧(∀d∈x.2.1,d < 65536)∧x.2.2.2 < 2^(n % 16)∧val 65536 x.2.1+65536^x.2.1.length*x.2.2.2=65536^(n / 16)*(2^(n % 16)*val 65536 (xs.take x.1))) (fun x=>xs.length - x.1) (0,List.replicate (n / 16) 0,uw (List.replicate (xs.length+1) 0),0) [0] ?_ ⟨inferInstance,by simp,by simp,gG (by decide),hp0,by simp[val,mO]⟩ ?_
    · simp(disch:=omega) only[go_sem,Nat.reduceBEq,reduceAdd,hrep,←Nat.add_assoc]
    · rintro⟨i,ds,jk,cy⟩ h1 ⟨hle,hk,hdl,hlt,hcy,hi⟩
      dsimp only at hk hdl hlt hcy hi ⊢
      by_cases hkl:i < xs.length
      · obtain⟨ad,rfl,hat⟩:=ha.rd h1 (i:=i) (by omega)
        have hx:=aM (by decide) hx16 i
        have hb:xs.getD i 0*2^(n % 16)≤65535*32768:=Nat.mul_le_mul (by omega) hp
        have hor:=HE (x:=xs.getD i 0) hcy
        repeat (first |(refine wo rfl (fun k hk=>?_);simp(disch:=omega) only[go_sem,Nat.reduceBEq,reduceAdd,hat,hor];apply hk;clear hk k) |refine wkt rfl ?_ |refine wk0 ?_ |refine rg rfl rfl (fun K hK=>?_) |((first |refine ae ?_ |refine ac ?_);simp(disch:=decide) only[qs,qb,if_true,if_false,reduceIte]) |refine ah rfl (fun K hK=>?_) |refine ct rfl ?_ |((try simp(disch:=omega) only[go_sem,Nat.reduceBEq,reduceAdd]);(first |apply hK |(clear hK;apply hK) |(clear hK;clear hK;apply hK));clear hK;(try clear K);(try dsimp only[ag,qs,qb])))
        refine wo rfl (fun k hk=>?_);simp(disch:=omega) only[go_sem,Nat.reduceBEq,reduceAdd]
        intro junk
        apply hk;clear hk k
        (repeat (first |(refine wo rfl (fun k hk=>?_);simp(disch:=omega) only[go_sem,Nat.reduceBEq,reduceAdd];apply hk;clear hk k) |refine wkt rfl ?_));(try refine wk0 ?_)
        repeat (first |(refine wo rfl (fun k hk=>?_);simp(disch:=omega) only[go_sem,Nat.reduceBEq,reduceAdd];apply hk;clear hk k) |refine wkt rfl ?_ |refine wk0 ?_ |refine rg rfl rfl (fun K hK=>?_) |((first |refine ae ?_ |refine ac ?_);simp(disch:=decide) only[qs,qb,if_true,if_false,reduceIte]) |refine ah rfl (fun K hK=>?_) |refine ct rfl ?_ |((try simp(disch:=omega) only[go_sem,Nat.reduceBEq,reduceAdd]);(first |apply hK |(clear hK;apply hK) |(clear hK;clear hK;apply hK));clear hK;(try clear K);(try dsimp only[ag,qs,qb])))
        refine⟨(i+1,ds ++[(xs.getD i 0*2^(n % 16)+cy) % 65536],junk,(xs.getD i 0*2^(n % 16)+cy) / 65536),[2],?_,⟨hle,by dsimp only;omega,by simp;omega,gS hlt (Nat.mod_lt _ (by decide)),?_,?_⟩,by simp;omega⟩
        · simp(disch:=omega) only[go_sem,Nat.reduceBEq,reduceAdd,fB]
        · dsimp only
          apply Nat.div_lt_of_lt_mul
          have:=Nat.mul_le_mul_right (2^(n % 16)) (show xs.getD i 0+1≤65536 by omega)
          rw[Nat.add_mul] at this
          omega
        · simp only[List.length_append,List.length_singleton]
          rw[fj,aq _ xs,Nat.pow_succ]
          refine yE hi rfl ?_
          rw[hdl,Nat.pow_add]
      · have hkl':i=xs.length:=by omega
        subst hkl'
        rw[List.take_of_length_le (Nat.le_refl _),hm] at hi
        have hval:val 65536 (ds ++[cy])=m*2^n:=by
          rw[fj,hi,←vO,←Nat.mul_assoc,←Nat.pow_add,Nat.div_add_mod,Nat.mul_comm]
        have hlt':=gS hlt (show cy < 65536 by omega)
        repeat (first |(refine wo rfl (fun k hk=>?_);simp(disch:=omega) only[go_sem,Nat.reduceBEq,reduceAdd];apply hk;clear hk k) |refine wkt rfl ?_ |refine wk0 ?_ |refine rg rfl rfl (fun K hK=>?_) |((first |refine ae ?_ |refine ac ?_);simp(disch:=decide) only[qs,qb,if_true,if_false,reduceIte]) |refine ah rfl (fun K hK=>?_) |refine ct rfl ?_ |((try simp(disch:=omega) only[go_sem,Nat.reduceBEq,reduceAdd]);(first |apply hK |(clear hK;apply hK) |(clear hK;clear hK;apply hK));clear hK;(try clear K);(try dsimp only[ag,qs,qb])))
        refine wo rfl (fun k hk=>?_);simp(disch:=omega) only[go_sem,Nat.reduceBEq,reduceAdd]
        intro junk
        apply hk;clear hk k
        simp only[fB]
        refine wo rfl (fun k hk=>?_);simp(disch:=omega) only[go_sem,Nat.reduceBEq,reduceAdd]
        refine IZ (R:=fun x=>x=.s 2 0 (W 65536 (m*2^n)).length (ds.length+1+junk.length)) 2 rfl ?_ rfl (fun b h' hs hb=>?_) ?_
        · intro e
          have:=congrArg List.length e
          simp[AS.box,uw] at this
        · haveI:Step h1 h':=hs
          refine(J0 (L:=ds.length+1) (c:=ds.length+1+junk.length) hb hlt' (by simp;omega) (by simp) (by simp)).mono (fun v h2 _ hv=>⟨_,rfl,rfl,?_⟩) (fun _ _ _ h=>h)
          rw[hv,hval];rfl
        rintro x rfl
        apply hk;clear hk k
        (repeat (first |(refine wo rfl (fun k hk=>?_);simp(disch:=omega) only[go_sem,Nat.reduceBEq,reduceAdd];apply hk;clear hk k) |refine wkt rfl ?_));(try refine wk0 ?_)
        (try (simp(disch:=omega) only[go_sem,Nat.reduceBEq,reduceAdd]));apply hK;clear hK;(try clear K);(try dsimp only[ag,qs])
        obtain⟨q,hq,hqW⟩:=xx B16 (ds ++[cy]) hlt'
        rw[hval] at hqW
        refine ai ?_;simp(disch:=omega) only[go_sem,Nat.reduceBEq,reduceAdd]
        refine⟨by simp[uw],uw ((ds ++[cy]).drop q) ++junk,?_⟩
        rw[hqW,←List.append_assoc,←rj,List.take_append_drop]
theorem DY {t r:Nat} (hr:r≤16):(t % 65536+t / 65536 % 65536*65536) / 2^r % 65536=t / 2^r % 65536:=by
  have hp:0 < 2^r:=Nat.pow_pos (by omega)
  have e:(65536:Nat)=2^r*2^(16 - r):=by rw[←Nat.pow_add,show r+(16 - r)=16 by omega]
  have h1:t=2^r*(65536*(2^(16 - r)*(t / 65536 / 65536)))+(t % 65536+t / 65536 % 65536*65536):=by
    have:2^r*(65536*(2^(16 - r)*(t / 65536 / 65536)))=65536*65536*(t / 65536 / 65536):=by
      rw[Nat.mul_left_comm,←Nat.mul_assoc (2^r),←e,Nat.mul_assoc]
    omega
  conv=>rhs;rw[h1]
  rw[Nat.mul_add_div hp,Nat.mul_add_mod]
theorem addr_add (a:Addr) (j k:Nat):(a.add j).add k=a.add (j+k):=by
  unfold Addr.add
  by_cases h1:j=0<;>by_cases h2:k=0<;>simp[h1,h2,Nat.add_assoc]
theorem Arr.drop {h:PH} {ad:Addr} {c:Nat} {xs:List Nat} (r:Arr h (some ad) c xs) (k:Nat) (hk:k≤xs.length):Arr h (some (ad.add k)) (c - k) (xs.drop k):=
  ⟨by have:=r.cap;simp;omega,by have:=r.small;simp;omega,fun x hx=>r.lt x (List.mem_of_mem_drop hx),fun i x hx=>⟨_,rfl,by
    rw[List.getElem?_drop] at hx
    obtain⟨ad',h1,h2⟩:=r.at_ _ _ hx
    cases h1
    rw[←h2,addr_add]⟩⟩
theorem CD {h0 h:PH} [Le h0 h] {v:Value} {m n:Nat} (hv:N16 h0 v m) (bm:bl m≤2^40) (hn:n≤2^40):Spec mach 235 #[v,.int .i64 n] h (fun v h'=>N16 h' v (m / 2^n)) NP:=by
  obtain⟨a,c,xs,rfl,ha,hxs,hm,hx16⟩:=hv.out
  have hs:xs.length≤2^40:=by have:=cr m;rw[hxs] at this;omega
  have hp:0 < 2^(n % 16):=Nat.pow_pos (by omega)
  have h2n:2^n=65536^(n / 16)*2^(n % 16):=by rw[←vO,←Nat.pow_add,Nat.div_add_mod]
  have hml:m < 65536^xs.length:=by rw[←hxs];exact cW (by decide) m
  have hdig:∀i,xs.getD i 0=m / 65536^i % 65536:=fun i=>by rw[←hxs,rO (by decide)]
  refine Spec.enter (args:=[_,_]) (n:=58) Tryz.func235 rfl (by kernel_rfl) rfl (by simp) [.tmp 4] rfl (fun C _=>?_)
  by_cases hx0:xs.length≤n / 16
  · repeat (first |(refine wo rfl (fun k hk=>?_);simp(disch:=omega) only[go_sem,Nat.reduceBEq,reduceAdd];apply hk;clear hk k) |refine wkt rfl ?_ |refine wk0 ?_ |refine rg rfl rfl (fun K hK=>?_) |((first |refine ae ?_ |refine ac ?_);simp(disch:=decide) only[qs,qb,if_true,if_false,reduceIte]) |refine ah rfl (fun K hK=>?_) |refine ct rfl ?_ |((try simp(disch:=omega) only[go_sem,Nat.reduceBEq,reduceAdd]);(first |apply hK |(clear hK;apply hK) |(clear hK;clear hK;apply hK));clear hK;(try clear K);(try dsimp only[ag,qs,qb])))
    refine ai ?_;simp(disch:=omega) only[go_sem,Nat.reduceBEq,reduceAdd]
    have:m / 2^n=0:=by
      rw[h2n]
      apply Nat.div_eq_of_lt
      have h1:=Nat.pow_le_pow_right (show 0 < 65536 by decide) hx0
      have h2:=Nat.mul_le_mul_left (65536^(n / 16)) hp
      omega
    rw[this];exact N16.zero _
  obtain⟨ad0,rfl,_⟩:=ha.get (i:=0) (by omega)
  have hcap:=ha.cap
  have hif:(if c=n / 16 then some ad0 else some (ad0.add (n / 16)))=some (ad0.add (n / 16)):=if_neg (by omega)
  have hlen:(xs.drop (n / 16)).length=xs.length - n / 16:=by simp
  have hA:=ha.drop (n / 16) (by omega)
  obtain⟨ys,hys⟩:∃ys,xs.drop (n / 16)=ys:=⟨_,rfl⟩
  rw[hys] at hlen hA
  have hdy:∀i,ys.getD i 0=m / 65536^(n / 16+i) % 65536:=fun i=>by rw[←hdig,←hys];simp[List.getD_eq_getElem?_getD,List.getElem?_drop]
  have hy16:∀x∈ys,x < 65536:=fun x hx=>hx16 x (by rw[←hys] at hx;exact List.mem_of_mem_drop hx)
  repeat (first |(refine rg rfl rfl (fun K hK=>?_);(repeat (first |(refine wo rfl (fun k hk=>?_);simp(disch:=omega) only[go_sem,Nat.reduceBEq,reduceAdd,hif];apply hk;clear hk k) |refine wkt rfl ?_));(try refine wk0 ?_);apply hK;clear hK K;(try dsimp only[ag,qs,qb])) |((first |refine ae ?_ |refine ac ?_);simp(disch:=decide) only[qs,qb,if_true,if_false,reduceIte]) |refine ah rfl (fun K hK=>?_) |refine ct rfl ?_ |((first |refine hK _ _ ?_ |(clear hK;refine hK _ _ ?_) |(clear hK;clear hK;refine hK _ _ ?_));clear hK;(try clear K)))
  rw[←hlen]
  refine eO (fun x:List Nat×List Value=>⟨[(0,.v (.slice (some (ad0.add (n / 16))) ys.length (c - n / 16))),(1,.v (.int .i64 n)),(5,.s 0 0 x.1.length (x.1.length+x.2.length)),(25,.v (.int .i64 ys.length)),(26,.v (.int .i64 x.1.length))],[uw x.1 ++x.2]⟩)
      (fun x h'=>Le h0 h'∧x.1.length≤ys.length∧(∀d∈x.1,d < 65536)∧val 65536 x.1=(m / 2^n) % 65536^x.1.length) (fun x=>ys.length - x.1.length) ([],uw (List.replicate ys.length 0)) [0] ?_ ⟨inferInstance,by simp,by simp,by simp[val,Nat.mod_one]⟩ ?_
  · simp(disch:=omega) only[go_sem,Nat.reduceBEq,reduceAdd]
  · rintro⟨ds,jk⟩ h1 ⟨hle,hk,hlt,hi⟩
    dsimp only at hk hlt hi ⊢
    by_cases hkl:ds.length < ys.length
    · obtain⟨ad,hade,hat⟩:=hA.rd h1 (i:=ds.length) (by omega)
      obtain rfl:ad0.add (n / 16)=ad:=by simpa using hade
      have hx:=aM (by decide) hy16 ds.length
      have hd:m / 2^n / 65536^ds.length=m / 65536^(n / 16+ds.length) / 2^(n % 16):=by
        rw[h2n,Nat.div_div_eq_div_mul,Nat.div_div_eq_div_mul,Nat.pow_add];congr 1;simp only[Nat.mul_assoc,Nat.mul_comm,Nat.mul_left_comm]
      have hdd:=DY (t:=m / 65536^(n / 16+ds.length)) (r:=n % 16) (by omega)
      rw[←hd,Nat.div_div_eq_div_mul m,←Nat.pow_succ,←hdy,Nat.succ_eq_add_one,Nat.add_assoc,←hdy] at hdd
      by_cases hk1:ds.length+1 < ys.length
      · obtain⟨ad',h',hat'⟩:=hA.rd h1 (i:=ds.length+1) (by omega)
        obtain rfl:ad0.add (n / 16)=ad':=by simpa using h'
        have hx':=aM (by decide) hy16 (ds.length+1)
        simp(disch:=omega) only[go_sem,Nat.reduceBEq,reduceAdd] at hat'
        repeat (first |(refine wo rfl (fun k hk=>?_);simp(disch:=omega) only[go_sem,Nat.reduceBEq,reduceAdd,hat,hat'];apply hk;clear hk k) |refine wkt rfl ?_ |refine wk0 ?_ |refine rg rfl rfl (fun K hK=>?_) |((first |refine ae ?_ |refine ac ?_);simp(disch:=decide) only[qs,qb,if_true,if_false,reduceIte]) |refine ah rfl (fun K hK=>?_) |refine ct rfl ?_ |((try simp(disch:=omega) only[go_sem,Nat.reduceBEq,reduceAdd]);(first |apply hK |(clear hK;apply hK) |(clear hK;clear hK;apply hK));clear hK;(try clear K);(try dsimp only[ag,qs,qb])))
        refine wo rfl (fun k hk=>?_);simp(disch:=omega) only[go_sem,Nat.reduceBEq,reduceAdd]
        intro junk
        apply hk;clear hk k
        (repeat (first |(refine wo rfl (fun k hk=>?_);simp(disch:=omega) only[go_sem,Nat.reduceBEq,reduceAdd];apply hk;clear hk k) |refine wkt rfl ?_));(try refine wk0 ?_)
        repeat (first |(refine wo rfl (fun k hk=>?_);simp(disch:=omega) only[go_sem,Nat.reduceBEq,reduceAdd];apply hk;clear hk k) |refine wkt rfl ?_ |refine wk0 ?_ |refine rg rfl rfl (fun K hK=>?_) |((first |refine ae ?_ |refine ac ?_);simp(disch:=decide) only[qs,qb,if_true,if_false,reduceIte]) |refine ah rfl (fun K hK=>?_) |refine ct rfl ?_ |((try simp(disch:=omega) only[go_sem,Nat.reduceBEq,reduceAdd]);(first |apply hK |(clear hK;apply hK) |(clear hK;clear hK;apply hK));clear hK;(try clear K);(try dsimp only[ag,qs,qb])))
        refine⟨(ds ++[(ys.getD ds.length 0+ys.getD (ds.length+1) 0*65536) / 2^(n % 16) % 65536],junk),[2],?_,⟨hle,by simp;omega,gS hlt (Nat.mod_lt _ (by decide)),?_⟩,by simp;omega⟩
        · simp(disch:=omega) only[go_sem,Nat.reduceBEq,reduceAdd,fB]
        · simp only[List.length_append,List.length_singleton]
          rw[fj,hi,Nat.mod_pow_succ,←hdd]
      · have hx':ys.getD (ds.length+1) 0=0:=getD_none (by omega)
        rw[hx',Nat.zero_mul,Nat.add_zero] at hdd
        repeat (first |(refine wo rfl (fun k hk=>?_);simp(disch:=omega) only[go_sem,Nat.reduceBEq,reduceAdd,hat];apply hk;clear hk k) |refine wkt rfl ?_ |refine wk0 ?_ |refine rg rfl rfl (fun K hK=>?_) |((first |refine ae ?_ |refine ac ?_);simp(disch:=decide) only[qs,qb,if_true,if_false,reduceIte]) |refine ah rfl (fun K hK=>?_) |refine ct rfl ?_ |((try simp(disch:=omega) only[go_sem,Nat.reduceBEq,reduceAdd]);(first |apply hK |(clear hK;apply hK) |(clear hK;clear hK;apply hK));clear hK;(try clear K);(try dsimp only[ag,qs,qb])))
        refine wo rfl (fun k hk=>?_);simp(disch:=omega) only[go_sem,Nat.reduceBEq,reduceAdd]
        intro junk
        apply hk;clear hk k
        (repeat (first |(refine wo rfl (fun k hk=>?_);simp(disch:=omega) only[go_sem,Nat.reduceBEq,reduceAdd];apply hk;clear hk k) |refine wkt rfl ?_));(try refine wk0 ?_)
        repeat (first |(refine wo rfl (fun k hk=>?_);simp(disch:=omega) only[go_sem,Nat.reduceBEq,reduceAdd];apply hk;clear hk k) |refine wkt rfl ?_ |refine wk0 ?_ |refine rg rfl rfl (fun K hK=>?_) |((first |refine ae ?_ |refine ac ?_);simp(disch:=decide) only[qs,qb,if_true,if_false,reduceIte]) |refine ah rfl (fun K hK=>?_) |refine ct rfl ?_ |((try simp(disch:=omega) only[go_sem,Nat.reduceBEq,reduceAdd]);(first |apply hK |(clear hK;apply hK) |(clear hK;clear hK;apply hK));clear hK;(try clear K);(try dsimp only[ag,qs,qb])))
        refine⟨(ds ++[ys.getD ds.length 0 / 2^(n % 16) % 65536],junk),[2],?_,⟨hle,by simp;omega,gS hlt (Nat.mod_lt _ (by decide)),?_⟩,by simp;omega⟩
        · simp(disch:=omega) only[go_sem,Nat.reduceBEq,reduceAdd,fB]
        · simp only[List.length_append,List.length_singleton]
          rw[fj,hi,Nat.mod_pow_succ,←hdd]
    · have hkl':ds.length=ys.length:=by omega
      have hval:val 65536 ds=m / 2^n:=by
        rw[hi,Nat.mod_eq_of_lt]
        rw[h2n,←Nat.div_div_eq_div_mul]
        refine Nat.lt_of_le_of_lt (Nat.div_le_self _ _) ?_
        rw[Nat.div_lt_iff_lt_mul (Nat.pow_pos (by decide)),←Nat.pow_add,show ds.length+n / 16=xs.length by omega]
        exact hml
      repeat (first |(refine rg rfl rfl (fun K hK=>?_);(repeat (first |(refine wo rfl (fun k hk=>?_);simp(disch:=omega) only[go_sem,Nat.reduceBEq,reduceAdd];apply hk;clear hk k) |refine wkt rfl ?_));(try refine wk0 ?_);apply hK;clear hK K;(try dsimp only[ag,qs,qb])) |((first |refine ae ?_ |refine ac ?_);simp(disch:=decide) only[qs,qb,if_true,if_false,reduceIte]) |refine ah rfl (fun K hK=>?_) |refine ct rfl ?_ |((first |refine hK _ _ ?_ |(clear hK;refine hK _ _ ?_) |(clear hK;clear hK;refine hK _ _ ?_));clear hK;(try clear K)))
      refine fk [.p 0,.o 0,.o 1,.o 2] rfl rfl (fun K hK=>?_);(repeat (first |(refine wo rfl (fun k hk=>?_);simp(disch:=omega) only[go_sem,Nat.reduceBEq,reduceAdd];apply hk;clear hk k) |refine wkt rfl ?_));(try refine wk0 ?_)
      refine wkp ?_;simp(disch:=omega) only[go_sem,Nat.reduceBEq,reduceAdd];intro b h2 hs2 hb;(repeat (first |(refine wo rfl (fun k hk=>?_);simp(disch:=omega) only[go_sem,Nat.reduceBEq,reduceAdd];apply hk;clear hk k) |refine wkt rfl ?_));(try refine wk0 ?_)
      have hA2:Arr h2 (some ⟨b,0,none⟩) (ds.length+jk.length) ds:=.of_app hb hlt (by omega) (by omega)
      refine cN rfl rfl rfl rfl (by exact nY hA2 hlt rfl) ?_;rintro v3 h3 _ hv3;obtain⟨v3,v3_l,v3_c,rfl,hv3⟩:=hv3.sl;(repeat (first |(refine wo rfl (fun k hk=>?_);simp(disch:=omega) only[go_sem,Nat.reduceBEq,reduceAdd];apply hk;clear hk k) |refine wkt rfl ?_));(try refine wk0 ?_)
      (try (simp(disch:=omega) only[go_sem,Nat.reduceBEq,reduceAdd]));apply hK;clear hK;(try clear K);(try dsimp only[ag,qs])
      refine ai ?_;simp(disch:=omega) only[go_sem,Nat.reduceBEq,reduceAdd]
      rwa[hval] at hv3
set_option maxHeartbeats 4000000
theorem Jz {h0 h:PH} [Le h0 h] {a:Option Addr} {c L:Nat} {xs:List Nat} {v:Value} {d g:Nat} (ha:Arr h0 a c xs) (hlt:∀x∈xs,x < 65536) (hl:xs.length=L) (hv:N16 h0 v d) (bd:bl d≤2^39) (hg:g < 65536):
    Spec mach 272 #[.slice a L c,v,.int .u64 g] h (fun r _=>r=.bool (decide (val 65536 xs < d*g))) NP:=by
  obtain⟨va,vl,vc,rfl,hv⟩:=hv.sl
  have bg:bl g≤16:=bl_le.2 hg
  refine Spec.enter (args:=[_,_,_]) (n:=17) Tryz.func272 rfl (by kernel_rfl) rfl (by simp) [.tmp 6] rfl (fun C _=>?_)
  repeat (first |(refine wo rfl (fun k hk=>?_);simp(disch:=omega) only[go_sem,Nat.reduceBEq,reduceAdd];apply hk;clear hk k) |refine wkt rfl ?_ |refine wk0 ?_ |refine rg rfl rfl (fun K hK=>?_) |((first |refine ae ?_ |refine ac ?_);simp(disch:=decide) only[qs,qb,if_true,if_false,reduceIte]) |refine ah rfl (fun K hK=>?_) |refine ct rfl ?_ |((try simp(disch:=omega) only[go_sem,Nat.reduceBEq,reduceAdd]);(first |apply hK |(clear hK;apply hK) |(clear hK;clear hK;apply hK));clear hK;(try clear K);(try dsimp only[ag,qs,qb])))
  refine cN rfl rfl rfl rfl (by exact bQ (n:=g) (by omega)) ?_;rintro v1 h1 _ hv1;obtain⟨v1,v1_l,v1_c,rfl,hv1⟩:=hv1.sl;(repeat (first |(refine wo rfl (fun k hk=>?_);simp(disch:=omega) only[go_sem,Nat.reduceBEq,reduceAdd];apply hk;clear hk k) |refine wkt rfl ?_));(try refine wk0 ?_)
  refine cN rfl rfl rfl rfl (by exact aV (hv.to (h':=h1)) hv1 (by omega) (by omega)) ?_;rintro v2 h2 _ hv2;obtain⟨v2,v2_l,v2_c,rfl,hv2⟩:=hv2.sl;(repeat (first |(refine wo rfl (fun k hk=>?_);simp(disch:=omega) only[go_sem,Nat.reduceBEq,reduceAdd];apply hk;clear hk k) |refine wkt rfl ?_));(try refine wk0 ?_)
  (try (simp(disch:=omega) only[go_sem,Nat.reduceBEq,reduceAdd]));apply hK;clear hK;(try clear K);(try dsimp only[ag,qs])
  refine rg rfl rfl (fun K hK=>?_);(repeat (first |(refine wo rfl (fun k hk=>?_);simp(disch:=omega) only[go_sem,Nat.reduceBEq,reduceAdd];apply hk;clear hk k) |refine wkt rfl ?_));(try refine wk0 ?_)
  refine cN rfl rfl rfl rfl (by exact nY ha hlt hl) ?_;rintro v3 h3 _ hv3;obtain⟨v3,v3_l,v3_c,rfl,hv3⟩:=hv3.sl;(repeat (first |(refine wo rfl (fun k hk=>?_);simp(disch:=omega) only[go_sem,Nat.reduceBEq,reduceAdd];apply hk;clear hk k) |refine wkt rfl ?_));(try refine wk0 ?_)
  refine cN rfl rfl rfl rfl (by exact eI hv3 (hv2.to (h':=h3))) ?_;rintro v4 h4 s4 rfl;(repeat (first |(refine wo rfl (fun k hk=>?_);simp(disch:=omega) only[go_sem,Nat.reduceBEq,reduceAdd];apply hk;clear hk k) |refine wkt rfl ?_));(try refine wk0 ?_)
  by_cases hc:val 65536 xs < d*g
  · have e:cmp3 (val 65536 xs) (d*g) < 0:=by simp[cmp3,hc]
    (try (simp(disch:=omega) only[go_sem,Nat.reduceBEq,reduceAdd]));apply hK;clear hK;(try clear K);(try dsimp only[ag,qs])
    refine ai ?_;simp(disch:=omega) only[go_sem,Nat.reduceBEq,reduceAdd]
    all_goals simp[hc]
  · have e:¬cmp3 (val 65536 xs) (d*g) < 0:=by simp only[cmp3,if_neg hc];split<;>decide
    (try (simp(disch:=omega) only[go_sem,Nat.reduceBEq,reduceAdd]));apply hK;clear hK;(try clear K);(try dsimp only[ag,qs])
    refine ai ?_;simp(disch:=omega) only[go_sem,Nat.reduceBEq,reduceAdd]
    all_goals simp[hc]
theorem Arr.of_mid {h:PH} {b:Nat} {pre ws:List Nat} {jk:List Value} {k cap:Nat} (hb:h b=some (uw (pre ++ws) ++jk).toArray) (hlt:∀x∈ws,x < 65536) (hk:k≤ws.length) (hs:k≤2^46) (hc:k≤cap):Arr h (some ⟨b,pre.length,none⟩) cap (ws.take k):=by
  refine⟨by simp;omega,by simp;omega,fun x hx=>by have:=hlt x (List.mem_of_mem_take hx);omega,fun i x hi=>⟨_,rfl,?_⟩⟩
  have hik:i < k:=by
    have:=(List.getElem?_eq_some_iff.1 hi).1
    simp at this;omega
  rw[List.getElem?_take,if_pos hik] at hi
  have hiw:i < ws.length:=(List.getElem?_eq_some_iff.1 hi).1
  have hx:(uw (pre ++ws) ++jk)[pre.length+i]?=some (.int .u32 x):=by
    rw[List.getElem?_append_left (by simp[uw];omega),rj,List.getElem?_append_right (by simp[uw])]
    simp[uw,hi]
  simp[PH.at,gF,hb,hx]
theorem dstep {P B V o X Y g x y r q:Nat} (hs:x+B*q=r+(o+g*y)) (hi:X+P*o=V+g*Y):X+P*x+P*B*q=V+P*r+g*(Y+P*y):=by
  have e:P*(x+B*q)=P*(r+(o+g*y)):=by rw[hs]
  rw[Nat.mul_add,Nat.mul_add,Nat.mul_add,←Nat.mul_assoc P B,Nat.mul_left_comm P g] at e
  rw[Nat.mul_add g]
  omega
theorem AQ (s:Int):((s % 18446744073709551616).toNat % 65536:Nat)=(s % 65536).toNat:=by omega
theorem Gr {s:Int}:andI .i64 s 65535=s % 65536:=by
  unfold andI
  rw[BitVec.toNat_and]
  have e1:(BitVec.ofInt IntKind.i64.bits s).toNat=(s % 18446744073709551616).toNat:=by rw[BitVec.toNat_ofInt];rfl
  have e2:(BitVec.ofInt IntKind.i64.bits 65535).toNat=2^16 - 1:=by decide
  rw[e1,e2,Nat.and_two_pow_sub_one_eq_mod,show(2:Nat)^16=65536 from rfl,AQ,IntKind.wrap_i64]
  omega
theorem sub_low {u o t:Nat} (hu:u < 65536):andI .i64 ((u:Int)+ -(o:Int) - (t:Int)) 65535=((u+65536*((o+t+65535 - u) / 65536) - (o+t):Nat):Int):=by
  rw[Gr];omega
theorem sub_high {u o t:Nat} (hu:u < 65536):((u:Int)+ -(o:Int) - (t:Int)).fdiv (2^min (Int.toNat 16) 64)= -(((o+t+65535 - u) / 65536:Nat):Int):=by
  rw[show(2:Int)^min (Int.toNat 16) 64=65536 from rfl,Int.fdiv_eq_ediv_of_nonneg _ (by decide)];omega
theorem sub_low0 {u o:Nat} (hu:u < 65536):andI .i64 ((u:Int)+ -(o:Int)) 65535=((u+65536*((o+65535 - u) / 65536) - o:Nat):Int):=by
  rw[Gr];omega
theorem JY {u o:Nat} (hu:u < 65536):((u:Int)+ -(o:Int)).fdiv (2^min (Int.toNat 16) 64)= -(((o+65535 - u) / 65536:Nat):Int):=by
  rw[show(2:Int)^min (Int.toNat 16) 64=65536 from rfl,Int.fdiv_eq_ediv_of_nonneg _ (by decide)];omega
attribute [go_sem] Int.neg_zero
@[go_sem] theorem uw_getj {rs:List Nat} {jk:List Value} {k:Nat} (hk:k < rs.length):(uw rs ++jk)[k]?=some (.int .u32 (rs.getD k 0:Nat)):=by
  rw[List.getElem?_append_left (by simpa[uw] using hk),yL hk]
@[go_sem] theorem ldb_uwj {rs:List Nat} {jk:List Value} {k:Nat} (hk:k < rs.length):ldb none (uw rs ++jk) k=some (.int .u32 (rs.getD k 0:Nat)):=by
  simp only[ldb]
  rw[List.getElem?_append_left (by simpa[uw] using hk),yL hk]
@[go_sem] theorem spl_uwj {rs:List Nat} {jk:List Value} {k d:Nat} (hk:k < rs.length):spl (uw rs ++jk) k (uw [d])=uw (rs.set k d) ++jk:=by
  rw[←F9]
  simp only[spl,uw,List.map_cons,List.map_nil]
  rw[List.set_append_left _ _ (by simpa using hk)]
theorem AK {h0 h:PH} [Le h0 h] {a:Option Addr} {c cap:Nat} {ys pre ws:List Nat} {jk:List Value} (ha:Arr h0 a c ys) (hy16:∀x∈ys,x < 65536) (hyW:W 65536 (val 65536 ys)=ys) (hn:1≤ys.length) (hn':bl (val 65536 ys)≤2^39) (hlt:∀x∈ws,x < 65536) (hlen:ys.length+1≤ws.length)
    (hlen':pre.length+ws.length≤2^41) (hcap:ys.length+1≤cap) (hU:val 65536 (ws.take (ys.length+1)) < 65536*val 65536 ys):
    SpecL mach 234 [.s 0 pre.length (ys.length+1) cap,.v (.slice a ys.length c)] (uw (pre ++ws) ++jk) h
      (fun v row' _=>v=.int .u32 (val 65536 (ws.take (ys.length+1)) / val 65536 ys:Nat)∧∃ws',row'=uw (pre ++ws') ++jk∧ws'.length=ws.length∧(∀x∈ws',x < 65536)∧ws'.drop (ys.length+1)=ws.drop (ys.length+1)∧val 65536 (ws'.take (ys.length+1))=val 65536 (ws.take (ys.length+1)) % val 65536 ys):=by
  obtain⟨N,hN⟩:∃N,ys.length=N+1:=⟨ys.length - 1,by omega⟩
  obtain⟨ad,rfl,hd1⟩:=ha.rd h (i:=ys.length - 1) (by omega)
  have hb1:=aM (by decide) hy16 (ys.length - 1)
  have hw0:=aM (by decide) hlt ys.length
  have hw1:=aM (by decide) hlt (ys.length - 1)
  have hpl:(pre ++ws).length=pre.length+ws.length:=List.length_append
  obtain⟨U,hUe⟩:∃U,val 65536 (ws.take (ys.length+1))=U:=⟨_,rfl⟩
  obtain⟨D,hDe⟩:∃D,val 65536 ys=D:=⟨_,rfl⟩
  obtain⟨d1,hd1e⟩:∃d,ys.getD (ys.length - 1) 0=d:=⟨_,rfl⟩
  obtain⟨T,hT⟩:∃T,ws.getD ys.length 0*65536+ws.getD (ys.length - 1) 0=T:=⟨_,rfl⟩
  obtain⟨P,hP⟩:∃P,65536^N=P:=⟨_,rfl⟩
  have hP0:0 < P:=by rw[←hP];exact Nat.pow_pos (by decide)
  have hv:N16 h0 (.slice (some ad) ys.length c) D:=⟨some ad,c,by rw[←hDe,hyW],by rw[←hDe,hyW];exact ha⟩
  have hD0:D≠0:=by
    intro e
    rw[←hDe] at e
    rw[e,ff] at hyW
    rw[←hyW] at hn
    simp at hn
  have hys:ys.length≤2^39:=by have:=cr (val 65536 ys);rw[hyW] at this;omega
  rw[hd1e] at hd1 hb1
  have hd10:d1≠0:=by
    rw[←hd1e]
    have h1:=W_top B16 (n:=val 65536 ys) (by rw[hDe];exact hD0)
    rw[hyW] at h1
    intro e
    have h2:=Nat.div_pos h1.2.1 (Nat.pow_pos (by decide))
    omega
  have hlu:val 65536 (ws.take N) < P:=by
    have:=iU (B:=65536) (by decide) (ws.take N) (fun x hx=>hlt x (List.mem_of_mem_take hx))
    rwa[List.length_take,Nat.min_eq_left (by omega),hP] at this
  have eU:U=val 65536 (ws.take N)+P*T:=by
    rw[←hUe,hN,aq,aq]
    simp only[Nat.pow_succ,hP]
    rw[←hT,hN,show N+1 - 1=N by omega]
    simp only[Nat.mul_add,Nat.mul_assoc,Nat.mul_comm (ws.getD (N+1) 0)]
    omega
  have eD:D=val 65536 (ys.take N)+P*d1:=by
    rw[←hDe,←hd1e,hN,show N+1 - 1=N by omega]
    conv=>lhs;rw[←List.take_of_length_le (i:=N+1) (l:=ys) (by omega)]
    rw[aq,hP]
  rw[hUe,hDe] at hU ⊢
  refine SpecL.enter (n:=78) Tryz.func234 rfl (by kernel_rfl) rfl (by simp) (by simp(disch:=omega) only[go_sem,Nat.reduceBEq,reduceAdd]) [.tmp 4] rfl (fun C rest hC=>?_)
  have hTb:T < 4294967296:=by rw[←hT];omega
  obtain⟨g0,hg0⟩:∃g,T / d1=g:=⟨_,rfl⟩
  have hg0b:g0≤T:=by rw[←hg0];exact Nat.div_le_self _ _
  have hst:U < (g0+1)*D:=by
    rw[←hg0]
    have h1:T < (T / d1+1)*d1:=by rw[Nat.mul_comm];exact Nat.lt_mul_div_succ T (by omega)
    have h2:P*(T+1)≤P*((T / d1+1)*d1):=Nat.mul_le_mul_left _ h1
    have h3:P*((T / d1+1)*d1)≤(T / d1+1)*D:=by rw[eD,Nat.mul_left_comm];exact Nat.mul_le_mul_left _ (by omega)
    rw[Nat.mul_add] at h2
    omega
  repeat (first |((first |refine rg rfl rfl (fun K hK=>?_) |refine rd [.o 0,.o 1,.o 2,.o 3,.o 4,.o 5,.o 6,.o 7,.o 8,.o 9,.o 10,.o 11,.o 12,.o 13] rfl (by decide+kernel) rfl (fun K hK=>?_));(repeat (first |(refine wo rfl (fun k hk=>?_);simp(disch:=omega) only[go_sem,Nat.reduceBEq,reduceAdd,hd1,hT,hg0];apply hk;clear hk k) |refine wkt rfl ?_));(try refine wk0 ?_);apply hK;clear hK K;(try dsimp only[ag,qs,qb])) |((first |refine ae ?_ |refine ac ?_);simp(disch:=decide) only[qs,qb,if_true,if_false,reduceIte]) |refine ah rfl (fun K hK=>?_) |refine ct rfl ?_ |((first |refine hK _ _ ?_ |(clear hK;refine hK _ _ ?_) |(clear hK;clear hK;refine hK _ _ ?_));clear hK;(try clear K)))
  have rest1:∀(g:Nat) (S:AS),S.le ⟨[(0,.s 0 pre.length (ys.length+1) cap),(1,.v (.slice (some ad) ys.length c)),(5,.v (.int .i64 ys.length)),(7,.v (.int .u64 g))],(uw (pre ++ws) ++jk) :: rest⟩→g < 65536→U < (g+1)*D→K S h:=by
    intro g S hS hg hUg
    refine hK _ _ (Gg _ (by simp[hC]) hS ?_)
    clear hK hS
    refine pC (fun K hK=>?_)
    refine ue ?_
    refine mF (fun g:Nat=>⟨[(0,.s 0 pre.length (ys.length+1) cap),(1,.v (.slice (some ad) ys.length c)),(5,.v (.int .i64 ys.length)),(7,.v (.int .u64 g))],(uw (pre ++ws) ++jk) :: rest⟩)
      (fun g h'=>h'=h∧g < 65536∧U < (g+1)*D) (fun g=>g) g (fun _=>by simp[hC]) ?_ ⟨rfl,hg,hUg⟩ ?_
    · simp(disch:=omega) only[go_sem,Nat.reduceBEq,reduceAdd]
    · clear hUg hg g
      rintro g h1 ⟨rfl,hg,hUg⟩
      refine oJ (fun K hK=>?_)
      (first |refine rg rfl rfl (fun K hK=>?_) |refine rd [.o 0,.o 1,.o 2,.o 3,.o 4,.o 5,.o 6,.o 7,.o 8,.o 9,.o 10,.o 11,.o 12,.o 13] rfl (by decide+kernel) rfl (fun K hK=>?_));(repeat (first |(refine wo rfl (fun k hk=>?_);simp(disch:=omega) only[go_sem,Nat.reduceBEq,reduceAdd];apply hk;clear hk k) |refine wkt rfl ?_));(try refine wk0 ?_)
      refine wo rfl (fun k hk=>?_);simp(disch:=omega) only[go_sem,Nat.reduceBEq,reduceAdd]
      refine IY (R:=fun v=>v=.bool (decide (U < D*g))) 0 rfl ?_ rfl (fun b h' hs hb=>?_) ?_
      · intro e
        have:=congrArg List.length e
        simp only[AS.box,List.getD_cons_zero,uw,List.length_map,List.length_append,List.length_nil] at this
        omega
      · haveI:Step h1 h':=hs
        have hA:=Arr.of_mid (k:=ys.length+1) (cap:=cap) hb hlt hlen (by omega) hcap
        have:=Jz (h:=h') (L:=ys.length+1) (hA.to (h':=h')) (fun x hx=>hlt x (List.mem_of_mem_take hx)) (by rw[List.length_take,Nat.min_eq_left hlen]) (hv.to (h':=h')) (by rw[←hDe];exact hn') hg
        rw[hUe] at this
        exact this
      rintro v rfl
      apply hk;clear hk k
      by_cases hless:U < D*g
      · have hg1:1≤g:=by
          rcases g with _ |g
          · simp at hless
          · omega
        (repeat (first |(refine wo rfl (fun k hk=>?_);simp(disch:=omega) only[go_sem,Nat.reduceBEq,reduceAdd];apply hk;clear hk k) |refine wkt rfl ?_));(try refine wk0 ?_)
        repeat (first |(refine wo rfl (fun k hk=>?_);simp(disch:=omega) only[go_sem,Nat.reduceBEq,reduceAdd];apply hk;clear hk k) |refine wkt rfl ?_ |refine wk0 ?_ |refine rg rfl rfl (fun K hK=>?_) |refine rd [.o 0,.o 1,.o 2,.o 3,.o 4,.o 5,.o 6,.o 7,.o 8,.o 9,.o 10,.o 11,.o 12,.o 13] rfl (by decide+kernel) rfl (fun K hK=>?_) |((first |refine ae ?_ |refine ac ?_);simp(disch:=decide) only[qs,qb,if_true,if_false,reduceIte]) |refine ah rfl (fun K hK=>?_) |refine ct rfl ?_ |((try simp(disch:=omega) only[go_sem,Nat.reduceBEq,reduceAdd]);(first |apply hK |(clear hK;apply hK) |(clear hK;clear hK;apply hK));clear hK;(try clear K);(try dsimp only[ag,qs,qb])))
        refine⟨g - 1,?_,⟨by trivial,by omega,by rw[show g - 1+1=g by omega,Nat.mul_comm];exact hless⟩,by omega⟩
        simp(disch:=omega) only[go_sem,Nat.reduceBEq,reduceAdd]
      · have hless':g*D≤U:=by rw[Nat.mul_comm];omega
        have e1:U / D=g:=Nat.div_eq_of_lt_le hless' hUg
        have e2:g*D+U % D=U:=by have:=Nat.div_add_mod U D;rw[e1,Nat.mul_comm] at this;exact this
        (repeat (first |(refine wo rfl (fun k hk=>?_);simp(disch:=omega) only[go_sem,Nat.reduceBEq,reduceAdd];apply hk;clear hk k) |refine wkt rfl ?_));(try refine wk0 ?_)
        repeat (first |(refine wo rfl (fun k hk=>?_);simp(disch:=omega) only[go_sem,Nat.reduceBEq,reduceAdd];apply hk;clear hk k) |refine wkt rfl ?_ |refine wk0 ?_ |refine rg rfl rfl (fun K hK=>?_) |refine rd [.o 0,.o 1,.o 2,.o 3,.o 4,.o 5,.o 6,.o 7,.o 8,.o 9,.o 10,.o 11,.o 12,.o 13] rfl (by decide+kernel) rfl (fun K hK=>?_) |((first |refine ae ?_ |refine ac ?_);simp(disch:=decide) only[qs,qb,if_true,if_false,reduceIte]) |refine ah rfl (fun K hK=>?_) |refine ct rfl ?_ |((try simp(disch:=omega) only[go_sem,Nat.reduceBEq,reduceAdd]);(first |apply hK |(clear hK;apply hK) |(clear hK;clear hK;apply hK));clear hK;(try clear K);(try dsimp only[ag,qs,qb])))
        refine mF (fun x:Nat×List Nat×Nat=>⟨[(0,.s 0 pre.length (ys.length+1) cap),(1,.v (.slice (some ad) ys.length c)),(5,.v (.int .i64 ys.length)),(7,.v (.int .u64 g)),(8,.v (.int .i64 (-(x.2.2:Int)))),(43,.v (.int .i64 (ys.length+1:Nat))),(44,.v (.int .i64 x.1))],(uw (pre ++x.2.1) ++jk) :: rest⟩)
          (fun x h'=>h'=h1∧x.1≤ys.length+1∧x.2.1.length=ws.length∧(∀d∈x.2.1,d < 65536)∧x.2.1.drop x.1=ws.drop x.1∧x.2.2≤65536∧val 65536 (ws.take x.1)+65536^x.1*x.2.2=val 65536 (x.2.1.take x.1)+g*val 65536 (ys.take x.1)) (fun x=>ys.length+1 - x.1) (0,ws,0) (fun _=>by simp[hC]) ?_ ⟨rfl,by simp,rfl,hlt,rfl,by simp,by simp[val]⟩ ?_
        · simp(disch:=omega) only[go_sem,Nat.reduceBEq,reduceAdd]
        · rintro⟨i,ws',o⟩ h2 ⟨rfl,hi,hl',hlt',hdr,ho,hinv⟩
          dsimp only at hi hl' hlt' hdr ho hinv ⊢
          have hpl':(pre ++ws').length=pre.length+ws.length:=by rw[List.length_append,hl']
          by_cases hin:i < ys.length+1
          · have hu:ws'.getD i 0=ws.getD i 0:=ju hdr (Nat.le_refl _)
            have hub:=aM (by decide) hlt' i
            by_cases hiy:i < ys.length
            · obtain⟨ad',h',hat⟩:=ha.rd h2 (i:=i) (by omega)
              obtain rfl:ad=ad':=by simpa using h'
              have hw:=aM (by decide) hy16 i
              have hgw:g*ys.getD i 0≤65535*65535:=Nat.mul_le_mul (by omega) (by omega)
              have f1:=sub_low (o:=o) (t:=g*ys.getD i 0) hub
              have f2:=sub_high (o:=o) (t:=g*ys.getD i 0) hub
              obtain⟨o',ho'⟩:∃q,(o+g*ys.getD i 0+65535 - ws'.getD i 0) / 65536=q:=⟨_,rfl⟩
              rw[ho'] at f1 f2
              obtain⟨d,hd⟩:∃d,ws'.getD i 0+65536*o' - (o+g*ys.getD i 0)=d:=⟨_,rfl⟩
              rw[hd] at f1
              have hde:ws'.getD i 0+65536*o'=d+(o+g*ys.getD i 0):=by omega
              have hdl:d < 65536:=by omega
              have hol:o'≤65536:=by omega
              repeat (first |(refine wo rfl (fun k hk=>?_);simp(disch:=omega) only[go_sem,Nat.reduceBEq,reduceAdd,hat,f1,f2];apply hk;clear hk k) |refine wkt rfl ?_ |refine wk0 ?_ |refine rg rfl rfl (fun K hK=>?_) |refine rd [.o 0,.o 1,.o 2,.o 3,.o 4,.o 5,.o 6,.o 7,.o 8,.o 9,.o 10,.o 11,.o 12,.o 13] rfl (by decide+kernel) rfl (fun K hK=>?_) |((first |refine ae ?_ |refine ac ?_);simp(disch:=decide) only[qs,qb,if_true,if_false,reduceIte]) |refine ah rfl (fun K hK=>?_) |refine ct rfl ?_ |((try simp(disch:=omega) only[go_sem,Nat.reduceBEq,reduceAdd]);(first |apply hK |(clear hK;apply hK) |(clear hK;clear hK;apply hK));clear hK;(try clear K);(try dsimp only[ag,qs,qb])))
              refine⟨(i+1,ws'.set i d,o'),?_,⟨by trivial,by dsimp only;omega,by simp[hl'],d9 hlt' hdl,iy hdr,hol,?_⟩,by dsimp only;omega⟩
              · simp(disch:=omega) only[go_sem,Nat.reduceBEq,reduceAdd]
              · dsimp only
                rw[bO (by omega),aq _ ws,aq _ ys,Nat.pow_succ,←hu]
                exact dstep hde hinv
            · have f1:=sub_low0 (o:=o) hub
              have f2:=JY (o:=o) hub
              obtain⟨o',ho'⟩:∃q,(o+65535 - ws'.getD i 0) / 65536=q:=⟨_,rfl⟩
              rw[ho'] at f1 f2
              obtain⟨d,hd⟩:∃d,ws'.getD i 0+65536*o' - o=d:=⟨_,rfl⟩
              rw[hd] at f1
              have hde:ws'.getD i 0+65536*o'=d+o:=by omega
              have hdl:d < 65536:=by omega
              have hol:o'≤65536:=by omega
              repeat (first |(refine wo rfl (fun k hk=>?_);simp(disch:=omega) only[go_sem,Nat.reduceBEq,reduceAdd,f1,f2];apply hk;clear hk k) |refine wkt rfl ?_ |refine wk0 ?_ |refine rg rfl rfl (fun K hK=>?_) |refine rd [.o 0,.o 1,.o 2,.o 3,.o 4,.o 5,.o 6,.o 7,.o 8,.o 9,.o 10,.o 11,.o 12,.o 13] rfl (by decide+kernel) rfl (fun K hK=>?_) |((first |refine ae ?_ |refine ac ?_);simp(disch:=decide) only[qs,qb,if_true,if_false,reduceIte]) |refine ah rfl (fun K hK=>?_) |refine ct rfl ?_ |((try simp(disch:=omega) only[go_sem,Nat.reduceBEq,reduceAdd]);(first |apply hK |(clear hK;apply hK) |(clear hK;clear hK;apply hK));clear hK;(try clear K);(try dsimp only[ag,qs,qb])))
              refine⟨(i+1,ws'.set i d,o'),?_,⟨by trivial,by dsimp only;omega,by simp[hl'],d9 hlt' hdl,iy hdr,hol,?_⟩,by dsimp only;omega⟩
              · simp(disch:=omega) only[go_sem,Nat.reduceBEq,reduceAdd]
              · dsimp only
                rw[bO (by omega),aq _ ws,aq _ ys,Nat.pow_succ,←hu,getD_none (show ys.length≤i by omega)]
                exact dstep (by rw[Nat.mul_zero];exact hde) hinv
          · obtain rfl:i=ys.length+1:=by omega
            rw[hUe,List.take_of_length_le (show ys.length≤ys.length+1 by omega),hDe] at hinv
            have hVl:val 65536 (ws'.take (ys.length+1)) < 65536^(ys.length+1):=by
              have:=iU (B:=65536) (by decide) (ws'.take (ys.length+1)) (fun x hx=>hlt' x (List.mem_of_mem_take hx))
              rwa[List.length_take,Nat.min_eq_left (by omega)] at this
            obtain⟨Z,hZ⟩:∃Z,65536^(ys.length+1)=Z:=⟨_,rfl⟩
            rw[hZ] at hinv hVl
            have ho0:o=0:=by
              rcases Nat.eq_zero_or_pos o with h' |h'
              · exact h'
              · exfalso
                have:=Nat.le_mul_of_pos_right Z h'
                omega
            rw[ho0,Nat.mul_zero] at hinv
            repeat (first |(refine wo rfl (fun k hk=>?_);simp(disch:=omega) only[go_sem,Nat.reduceBEq,reduceAdd];apply hk;clear hk k) |refine wkt rfl ?_ |refine wk0 ?_ |refine rg rfl rfl (fun K hK=>?_) |refine rd [.o 0,.o 1,.o 2,.o 3,.o 4,.o 5,.o 6,.o 7,.o 8,.o 9,.o 10,.o 11,.o 12,.o 13] rfl (by decide+kernel) rfl (fun K hK=>?_) |((first |refine ae ?_ |refine ac ?_);simp(disch:=decide) only[qs,qb,if_true,if_false,reduceIte]) |refine ah rfl (fun K hK=>?_) |refine ct rfl ?_ |((try simp(disch:=omega) only[go_sem,Nat.reduceBEq,reduceAdd]);(first |apply hK |(clear hK;apply hK) |(clear hK;clear hK;apply hK));clear hK;(try clear K);(try dsimp only[ag,qs,qb])))
            refine ai ?_;simp(disch:=omega) only[go_sem,Nat.reduceBEq,reduceAdd]
            refine⟨by rw[e1],ws',rfl,hl',hlt',hdr,by omega⟩
  refine mP rfl (fun ht=>?_) (fun ht=>?_)
  · have:=of_decide_eq_true ht
    refine ug rfl ?_;(repeat (first |(refine wo rfl (fun k hk=>?_);simp(disch:=omega) only[go_sem,Nat.reduceBEq,reduceAdd];apply hk;clear hk k) |refine wkt rfl ?_));(try refine wk0 ?_);simp only[qs,qb,if_true,if_false,reduceIte]
    refine rest1 65535 _ ?_ (by decide) hU
    simp(disch:=omega) only[go_sem,Nat.reduceBEq,reduceAdd]
    rfl
  · have:=of_decide_eq_false ht
    refine ac ?_;simp only[qs,qb,if_true,if_false,reduceIte]
    refine rest1 g0 _ ?_ (by omega) hst
    simp(disch:=omega) only[go_sem,Nat.reduceBEq,reduceAdd]
theorem norm16 {n s:Nat} (hn:n≠0) (h1:32768≤n / 65536^((W 65536 n).length - 1)*2^s) (h2:n / 65536^((W 65536 n).length - 1)*2^s < 65536):(W 65536 (n*2^s)).length=(W 65536 n).length:=by
  obtain⟨L,hL⟩:∃L,(W 65536 n).length=L+1:=⟨_,(Nat.succ_pred (by have:=jQ B16 hn;omega)).symm⟩
  obtain⟨_,t2,t3⟩:=W_top B16 hn
  rw[hL] at t2 t3 h1 h2 ⊢
  simp only[Nat.add_sub_cancel] at t2 t3 h1 h2
  have hP:0 < 65536^L:=Nat.pow_pos (by decide)
  have e:=Nat.div_add_mod n (65536^L)
  have hm:=Nat.mod_lt n hP
  have hDl:65536^L≤n*2^s:=Nat.le_trans t2 (Nat.le_mul_of_pos_right _ (Nat.pow_pos (by decide)))
  have hDu:n*2^s < 65536^(L+1):=by
    have h3:n < 65536^L*(n / 65536^L+1):=by rw[Nat.mul_add];omega
    have hp:0 < 2^s:=Nat.pow_pos (by decide)
    have hle:(n / 65536^L+1)*2^s≤65536:=by
      rw[Nat.add_mul,Nat.one_mul]
      -- 2^s divides 65536
      have hs:s≤16:=by
        rcases Nat.lt_or_ge 16 s with h |h
        · exfalso
          have h4:=Nat.pow_le_pow_right (show 0 < 2 by decide) (show 17≤s from h)
          have h5:1≤n / 65536^L:=Nat.div_pos t2 hP
          have h6:=Nat.mul_le_mul h5 h4
          omega
        · exact h
      have e2:(65536:Nat)=2^s*2^(16 - s):=by rw[←Nat.pow_add,show s+(16 - s)=16 by omega]
      have h7:n / 65536^L < 2^(16 - s):=by
        have h3:2^s*(n / 65536^L) < 2^s*2^(16 - s):=by rw[←e2,Nat.mul_comm];exact h2
        exact Nat.lt_of_mul_lt_mul_left h3
      have h8:=Nat.mul_le_mul_left (2^s) (show n / 65536^L+1≤2^(16 - s) from h7)
      rw[←e2,Nat.mul_add,Nat.mul_one,Nat.mul_comm (2^s)] at h8
      exact h8
    have h9:=Nat.mul_lt_mul_of_pos_right h3 hp
    rw[Nat.mul_assoc] at h9
    rw[Nat.pow_succ]
    exact Nat.lt_of_lt_of_le h9 (Nat.mul_le_mul_left _ hle)
  have h4:=cV B16 hDu
  have h5:=vD B16 hDl
  omega
theorem dJ {h0 h:PH} [Le h0 h] {v w:Value} {m n:Nat} (hv:N16 h0 v m) (hw:N16 h0 w n) (hn:n≠0) (bm:bl m≤2^38) (bn:bl n≤2^38):
    Spec mach 163 #[v,w] h (fun v h'=>∃q r,v=.tuple #[q,r]∧N16 h' q (m / n)∧N16 h' r (m % n)) NP:=by
  obtain⟨a,c,xs,hve,ha,hxs,hm,hx16⟩:=hv.out
  obtain⟨a',c',ys,hwe,ha',hys,hnn,hy16⟩:=hw.out
  subst hve hwe
  have hs:xs.length≤2^38:=by have:=cr m;rw[hxs] at this;omega
  have hs':ys.length≤2^38:=by have:=cr n;rw[hys] at this;omega
  have hl0:=jQ B16 hn
  rw[hys] at hl0
  refine Spec.enter (args:=[_,_]) (n:=95) Tryz.func163 rfl (by kernel_rfl) rfl (by simp) [.tmp 4,.tmp 5] rfl (fun C _=>?_)
  by_cases hlt:m < n
  · have hc:cmp3 m n < 0:=by simp[cmp3,hlt]
    repeat (first |(refine wo rfl (fun k hk=>?_);simp(disch:=omega) only[go_sem,Nat.reduceBEq,reduceAdd];apply hk;clear hk k) |refine wkt rfl ?_ |refine wk0 ?_ |refine rg rfl rfl (fun K hK=>?_) |refine rd [.o 0,.o 2,.o 3,.o 4,.o 6,.o 1,.o 5,.o 7,.o 8,.o 9] rfl (by decide+kernel) rfl (fun K hK=>?_) |((first |refine ae ?_ |refine ac ?_);simp(disch:=decide) only[qs,qb,if_true,if_false,reduceIte]) |refine ah rfl (fun K hK=>?_) |refine ct rfl ?_ |((try simp(disch:=omega) only[go_sem,Nat.reduceBEq,reduceAdd]);(first |apply hK |(clear hK;apply hK) |(clear hK;clear hK;apply hK));clear hK;(try clear K);(try dsimp only[ag,qs,qb])))
    refine cN rfl rfl rfl rfl (by exact eI hv hw) ?_;rintro v h1 hs1 rfl
    repeat (first |(refine wo rfl (fun k hk=>?_);simp(disch:=omega) only[go_sem,Nat.reduceBEq,reduceAdd];apply hk;clear hk k) |refine wkt rfl ?_ |refine wk0 ?_ |refine rg rfl rfl (fun K hK=>?_) |refine rd [.o 0,.o 2,.o 3,.o 4,.o 6,.o 1,.o 5,.o 7,.o 8,.o 9] rfl (by decide+kernel) rfl (fun K hK=>?_) |((first |refine ae ?_ |refine ac ?_);simp(disch:=decide) only[qs,qb,if_true,if_false,reduceIte]) |refine ah rfl (fun K hK=>?_) |refine ct rfl ?_ |((try simp(disch:=omega) only[go_sem,Nat.reduceBEq,reduceAdd]);(first |apply hK |(clear hK;apply hK) |(clear hK;clear hK;apply hK));clear hK;(try clear K);(try dsimp only[ag,qs,qb])))
    refine wo rfl (fun k hk=>?_);simp(disch:=omega) only[go_sem,Nat.reduceBEq,reduceAdd]
    by_cases hx0:xs.length=0
    · refine⟨[],by simp[hx0],fun hne=>(hne hx0).elim,rfl,fun junk=>?_⟩
      apply hk;clear hk k
      (repeat (first |(refine wo rfl (fun k hk=>?_);simp(disch:=omega) only[go_sem,Nat.reduceBEq,reduceAdd];apply hk;clear hk k) |refine wkt rfl ?_));(try refine wk0 ?_)
      (try (simp(disch:=omega) only[go_sem,Nat.reduceBEq,reduceAdd]));apply hK;clear hK;(try clear K);(try dsimp only[ag,qs])
      refine mp 1 ?_
      simp(disch:=omega) only[go_sem,Nat.reduceBEq,reduceAdd]
      intro b h2 hs2 hb
      refine ai ?_;simp(disch:=omega) only[go_sem,Nat.reduceBEq,reduceAdd]
      have e:xs=[]:=List.eq_nil_of_length_eq_zero hx0
      refine⟨_,_,rfl,by rw[Nat.div_eq_of_lt hlt];exact N16.zero _,?_⟩
      rw[Nat.mod_eq_of_lt hlt]
      exact N16.of_pub (ds:=[]) (junk:=junk) (by simpa[uw] using hb) (by rw[hxs,e]) (by simp) (by simp[hx0]) (by simp)
    · refine⟨uw xs,by simp[uw],fun hne=>?_,uV xs,fun junk=>?_⟩
      · obtain⟨ad',h3,h4⟩:=ha.cells h1 hne
        exact⟨ad',h3,h4⟩
      apply hk;clear hk k
      (repeat (first |(refine wo rfl (fun k hk=>?_);simp(disch:=omega) only[go_sem,Nat.reduceBEq,reduceAdd];apply hk;clear hk k) |refine wkt rfl ?_));(try refine wk0 ?_)
      (try (simp(disch:=omega) only[go_sem,Nat.reduceBEq,reduceAdd]));apply hK;clear hK;(try clear K);(try dsimp only[ag,qs])
      refine mp 1 ?_
      simp(disch:=omega) only[go_sem,Nat.reduceBEq,reduceAdd]
      intro b h2 hs2 hb
      refine ai ?_;simp(disch:=omega) only[go_sem,Nat.reduceBEq,reduceAdd]
      refine⟨_,_,rfl,by rw[Nat.div_eq_of_lt hlt];exact N16.zero _,?_⟩
      rw[Nat.mod_eq_of_lt hlt]
      exact N16.of_pub (ds:=xs) (junk:=junk) hb hxs (by omega) rfl (by omega)
  have hc:0≤cmp3 m n:=by simp only[cmp3,if_neg hlt];split<;>decide
  by_cases hl1:ys.length=1
  · obtain⟨hnB,hn0⟩:=xr B16 (n:=n) (by rw[hys];exact hl1)
    rw[hys] at hn0
    repeat (first |(refine wo rfl (fun k hk=>?_);simp(disch:=omega) only[go_sem,Nat.reduceBEq,reduceAdd];apply hk;clear hk k) |refine wkt rfl ?_ |refine wk0 ?_ |refine rg rfl rfl (fun K hK=>?_) |refine rd [.o 0,.o 2,.o 3,.o 4,.o 6,.o 1,.o 5,.o 7,.o 8,.o 9] rfl (by decide+kernel) rfl (fun K hK=>?_) |((first |refine ae ?_ |refine ac ?_);simp(disch:=decide) only[qs,qb,if_true,if_false,reduceIte]) |refine ah rfl (fun K hK=>?_) |refine ct rfl ?_ |((try simp(disch:=omega) only[go_sem,Nat.reduceBEq,reduceAdd]);(first |apply hK |(clear hK;apply hK) |(clear hK;clear hK;apply hK));clear hK;(try clear K);(try dsimp only[ag,qs,qb])))
    refine cN rfl rfl rfl rfl (by exact eI hv hw) ?_;rintro v h1 hs1 rfl;(repeat (first |(refine wo rfl (fun k hk=>?_);simp(disch:=omega) only[go_sem,Nat.reduceBEq,reduceAdd];apply hk;clear hk k) |refine wkt rfl ?_));(try refine wk0 ?_)
    (try (simp(disch:=omega) only[go_sem,Nat.reduceBEq,reduceAdd]));apply hK;clear hK;(try clear K);(try dsimp only[ag,qs])
    obtain⟨ad,rfl,hat⟩:=ha'.rd0 h1 (by omega)
    rw[hn0] at hat
    repeat (first |((first |refine rg rfl rfl (fun K hK=>?_) |refine rd [.o 0,.o 2,.o 3,.o 4,.o 6,.o 1,.o 5,.o 7,.o 8,.o 9] rfl (by decide+kernel) rfl (fun K hK=>?_));(repeat (first |(refine wo rfl (fun k hk=>?_);simp(disch:=omega) only[go_sem,Nat.reduceBEq,reduceAdd];apply hk;clear hk k) |refine wkt rfl ?_));(try refine wk0 ?_);apply hK;clear hK K;(try dsimp only[ag,qs,qb])) |((first |refine ae ?_ |refine ac ?_);simp(disch:=decide) only[qs,qb,if_true,if_false,reduceIte]) |refine ah rfl (fun K hK=>?_) |refine ct rfl ?_ |((first |refine hK _ _ ?_ |(clear hK;refine hK _ _ ?_) |(clear hK;clear hK;refine hK _ _ ?_));clear hK;(try clear K)))
    (first |refine rg rfl rfl (fun K hK=>?_) |refine rd [.o 0,.o 2,.o 3,.o 4,.o 6,.o 1,.o 5,.o 7,.o 8,.o 9] rfl (by decide+kernel) rfl (fun K hK=>?_));(repeat (first |(refine wo rfl (fun k hk=>?_);simp(disch:=omega) only[go_sem,Nat.reduceBEq,reduceAdd,hat];apply hk;clear hk k) |refine wkt rfl ?_));(try refine wk0 ?_)
    refine cN rfl rfl rfl rfl (by exact FU hv (by omega) (by omega) hnB) ?_;rintro v h2 hs2 ⟨q,rfl,hq⟩;(repeat (first |(refine wo rfl (fun k hk=>?_);simp(disch:=omega) only[go_sem,Nat.reduceBEq,reduceAdd];apply hk;clear hk k) |refine wkt rfl ?_));(try refine wk0 ?_)
    have hmod:=Nat.mod_lt m (show 0 < n by omega)
    (try (simp(disch:=omega) only[go_sem,Nat.reduceBEq,reduceAdd]));apply hK;clear hK;(try clear K);(try dsimp only[ag,qs])
    (first |refine rg rfl rfl (fun K hK=>?_) |refine rd [.o 0,.o 2,.o 3,.o 4,.o 6,.o 1,.o 5,.o 7,.o 8,.o 9] rfl (by decide+kernel) rfl (fun K hK=>?_));(repeat (first |(refine wo rfl (fun k hk=>?_);simp(disch:=omega) only[go_sem,Nat.reduceBEq,reduceAdd];apply hk;clear hk k) |refine wkt rfl ?_));(try refine wk0 ?_)
    refine cN rfl rfl rfl rfl (by exact bQ (n:=m % n) (by omega)) ?_;rintro v h3 hs3 hr;(repeat (first |(refine wo rfl (fun k hk=>?_);simp(disch:=omega) only[go_sem,Nat.reduceBEq,reduceAdd];apply hk;clear hk k) |refine wkt rfl ?_));(try refine wk0 ?_)
    (try (simp(disch:=omega) only[go_sem,Nat.reduceBEq,reduceAdd]));apply hK;clear hK;(try clear K);(try dsimp only[ag,qs])
    refine ai ?_;simp(disch:=omega) only[go_sem,Nat.reduceBEq,reduceAdd]
    exact⟨_,_,rfl,hq.to,hr⟩
  have hl2:2≤ys.length:=by omega
  have hm0:m≠0:=by omega
  repeat (first |(refine wo rfl (fun k hk=>?_);simp(disch:=omega) only[go_sem,Nat.reduceBEq,reduceAdd];apply hk;clear hk k) |refine wkt rfl ?_ |refine wk0 ?_ |refine rg rfl rfl (fun K hK=>?_) |refine rd [.o 0,.o 2,.o 3,.o 4,.o 6,.o 1,.o 5,.o 7,.o 8,.o 9] rfl (by decide+kernel) rfl (fun K hK=>?_) |((first |refine ae ?_ |refine ac ?_);simp(disch:=decide) only[qs,qb,if_true,if_false,reduceIte]) |refine ah rfl (fun K hK=>?_) |refine ct rfl ?_ |((try simp(disch:=omega) only[go_sem,Nat.reduceBEq,reduceAdd]);(first |apply hK |(clear hK;apply hK) |(clear hK;clear hK;apply hK));clear hK;(try clear K);(try dsimp only[ag,qs,qb])))
  refine cN rfl rfl rfl rfl (by exact eI hv hw) ?_;rintro v h1 hs1 rfl
  repeat (first |(refine wo rfl (fun k hk=>?_);simp(disch:=omega) only[go_sem,Nat.reduceBEq,reduceAdd];apply hk;clear hk k) |refine wkt rfl ?_ |refine wk0 ?_ |((first |refine rg rfl rfl (fun K hK=>?_) |refine rd [.o 0,.o 2,.o 3,.o 4,.o 6,.o 1,.o 5,.o 7,.o 8,.o 9] rfl (by decide+kernel) rfl (fun K hK=>?_));(repeat (first |(refine wo rfl (fun k hk=>?_);simp(disch:=omega) only[go_sem,Nat.reduceBEq,reduceAdd];apply hk;clear hk k) |refine wkt rfl ?_ |refine wk0 ?_));(first |apply hK |(clear hK;apply hK) |(clear hK;clear hK;apply hK));clear hK;(try clear K);(try dsimp only[ag,qs,qb])) |((first |refine ae ?_ |refine ac ?_);simp(disch:=decide) only[qs,qb,if_true,if_false,reduceIte]) |refine ah rfl (fun K hK=>?_) |refine ct rfl ?_ |((try simp(disch:=omega) only[go_sem,Nat.reduceBEq,reduceAdd]);(first |apply hK |(clear hK;apply hK) |(clear hK;clear hK;apply hK));clear hK;(try clear K);(try dsimp only[ag,qs,qb])))
  obtain⟨t1,t2,t3⟩:=W_top B16 hn
  rw[hys] at t1 t2 t3
  obtain⟨t,hte⟩:∃t,n / 65536^(ys.length - 1)=t:=⟨_,rfl⟩
  rw[hte] at t1 t3
  have ht0:0 < t:=by rw[←hte];exact Nat.div_pos t2 (Nat.pow_pos (by decide))
  obtain⟨ad',rfl,hat'⟩:=ha'.rd h1 (i:=ys.length - 1) (by omega)
  rw[t1] at hat'
  refine cg (fun s:Nat=>⟨[(0,.v (.slice a xs.length c)),(1,.v (.slice (some ad') ys.length c')),(8,.v (.int .i64 s))],[]⟩)
    (fun s h'=>h'=h1∧t*2^s < 65536) (fun s=>65536 - t*2^s) 0 ?_ ⟨rfl,by simpa using t3⟩ ?_
  · simp(disch:=omega) only[go_sem,Nat.reduceBEq,reduceAdd]
  rintro s h2 ⟨rfl,hts⟩
  have hs16:s < 16:=by
    rcases Nat.lt_or_ge s 16 with h' |h'
    · exact h'
    · have h4:=Nat.pow_le_pow_right (show 0 < 2 by decide) h'
      have h5:=Nat.mul_le_mul ht0 h4
      omega
  by_cases hts2:t*2^s < 32768
  · have e2:t*2^(s+1)=t*2^s*2:=by rw[Nat.pow_succ,←Nat.mul_assoc]
    have e3:0 < t*2^s:=Nat.mul_pos ht0 (Nat.pow_pos (by decide))
    repeat (first |(refine wo rfl (fun k hk=>?_);simp(disch:=omega) only[go_sem,Nat.reduceBEq,reduceAdd,hat'];apply hk;clear hk k) |refine wkt rfl ?_ |refine wk0 ?_ |refine rg rfl rfl (fun K hK=>?_) |refine rd [.o 0,.o 2,.o 3,.o 4,.o 6,.o 1,.o 5,.o 7,.o 8,.o 9] rfl (by decide+kernel) rfl (fun K hK=>?_) |((first |refine ae ?_ |refine ac ?_);simp(disch:=decide) only[qs,qb,if_true,if_false,reduceIte]) |refine ah rfl (fun K hK=>?_) |refine ct rfl ?_ |((try simp(disch:=omega) only[go_sem,Nat.reduceBEq,reduceAdd]);(first |apply hK |(clear hK;apply hK) |(clear hK;clear hK;apply hK));clear hK;(try clear K);(try dsimp only[ag,qs,qb])))
    refine⟨s+1,?_,⟨by trivial,by omega⟩,by omega⟩
    simp(disch:=omega) only[go_sem,Nat.reduceBEq,reduceAdd]
  have hnl:=norm16 (s:=s) hn (by rw[hys,hte];omega) (by rw[hys,hte];exact hts)
  rw[hys] at hnl
  repeat (first |(refine wo rfl (fun k hk=>?_);simp(disch:=omega) only[go_sem,Nat.reduceBEq,reduceAdd,hat'];apply hk;clear hk k) |refine wkt rfl ?_ |refine wk0 ?_ |refine rg rfl rfl (fun K hK=>?_) |refine rd [.o 0,.o 2,.o 3,.o 4,.o 6,.o 1,.o 5,.o 7,.o 8,.o 9] rfl (by decide+kernel) rfl (fun K hK=>?_) |((first |refine ae ?_ |refine ac ?_);simp(disch:=decide) only[qs,qb,if_true,if_false,reduceIte]) |refine ah rfl (fun K hK=>?_) |refine ct rfl ?_ |((try simp(disch:=omega) only[go_sem,Nat.reduceBEq,reduceAdd]);(first |apply hK |(clear hK;apply hK) |(clear hK;clear hK;apply hK));clear hK;(try clear K);(try dsimp only[ag,qs,qb])))
  refine cN rfl rfl rfl rfl (by exact gf (n:=s) hw (by omega)) ?_;rintro v3 h3 hs3 hd;(repeat (first |(refine wo rfl (fun k hk=>?_);simp(disch:=omega) only[go_sem,Nat.reduceBEq,reduceAdd];apply hk;clear hk k) |refine wkt rfl ?_));(try refine wk0 ?_)
  obtain⟨ad,cd,ds,hde,had,hds,hdm,hd16⟩:=hd.out
  subst hde
  (try (simp(disch:=omega) only[go_sem,Nat.reduceBEq,reduceAdd]));apply hK;clear hK;(try clear K);(try dsimp only[ag,qs])
  have hms0:m*2^s≠0:=Nat.mul_ne_zero hm0 (Nat.ne_of_gt (Nat.pow_pos (by decide)))
  have hD0:0 < n*2^s:=Nat.mul_pos (by omega) (Nat.pow_pos (by decide))
  obtain⟨us,hus⟩:∃us,W 65536 (m*2^s)=us:=⟨_,rfl⟩
  have hum:val 65536 us=m*2^s:=by rw[←hus];exact val_W B16 _
  have hu16:∀x∈us,x < 65536:=by rw[←hus];exact W_lt B16 _
  have hyx:ys.length≤xs.length:=by
    rcases Nat.lt_or_ge xs.length ys.length with h' |h'
    · have:=lm B16 (m:=m) (n:=n) (by rw[hxs,hys];exact h');omega
    · exact h'
  have hul:us.length≤xs.length+1:=by
    rw[←hus]
    apply cV B16
    rw[Nat.pow_succ]
    have h5:m < 65536^xs.length:=by rw[←hxs];exact cW B16 m
    have h6:2^s≤32768:=Nat.pow_le_pow_right (show 0 < 2 by omega) (show s≤15 by omega)
    exact Nat.lt_of_lt_of_le (Nat.mul_lt_mul_of_pos_right h5 (Nat.pow_pos (by omega))) (Nat.mul_le_mul_left _ (by omega))
  have hdl:ds.length≤us.length:=by
    rw[←hds,←hus]
    rcases Nat.lt_or_ge (W 65536 (m*2^s)).length (W 65536 (n*2^s)).length with h' |h'
    · have:=lm B16 h'
      have:=Nat.mul_le_mul_right (2^s) (show n≤m by omega)
      omega
    · exact h'
  have hdy:ds.length=ys.length:=by rw[←hds];exact hnl
  have hne:us≠[]:=by intro e;rw[e] at hum;exact hms0 hum.symm
  (first |refine rg rfl rfl (fun K hK=>?_) |refine rd [.o 0,.o 2,.o 3,.o 4,.o 6,.o 1,.o 5,.o 7,.o 8,.o 9] rfl (by decide+kernel) rfl (fun K hK=>?_));(repeat (first |(refine wo rfl (fun k hk=>?_);simp(disch:=omega) only[go_sem,Nat.reduceBEq,reduceAdd];apply hk;clear hk k) |refine wkt rfl ?_));(try refine wk0 ?_)
  refine wo rfl (fun k hk=>?_);simp(disch:=omega) only[go_sem,Nat.reduceBEq,reduceAdd]
  refine call_own (Ez (n:=s) hv hm0 (by omega)) ?_ ?_
  · rintro h' _ ⟨junk,hj,_⟩
    rw[hus] at hj
    exfalso
    have:=congrArg List.length hj
    simp only[List.length_nil,List.length_append,uw,List.length_map] at this
    exact hne (List.eq_nil_of_length_eq_zero (by omega))
  rintro row len h4 hs4 hrne ⟨junk,rfl,rfl⟩
  rw[hus]
  apply hk;clear hk k
  have uwz:(uw (List.replicate 1 0)).set 0 (Value.int .u32 0)=uw [0]:=rfl
  (repeat (first |(refine wo rfl (fun k hk=>?_);simp(disch:=omega) only[go_sem,Nat.reduceBEq,reduceAdd,uwz];apply hk;clear hk k) |refine wkt rfl ?_));(try refine wk0 ?_)
  refine wo rfl (fun k hk=>?_);simp(disch:=omega) only[go_sem,Nat.reduceBEq,reduceAdd,uwz]
  intro jk
  apply hk;clear hk k
  simp only[fB]
  (repeat (first |(refine wo rfl (fun k hk=>?_);simp(disch:=omega) only[go_sem,Nat.reduceBEq,reduceAdd];apply hk;clear hk k) |refine wkt rfl ?_));(try refine wk0 ?_)
  (try (simp(disch:=omega) only[go_sem,Nat.reduceBEq,reduceAdd]));apply hK;clear hK;(try clear K);(try dsimp only[ag,qs])
  obtain⟨R0,hR0⟩:∃R,us ++[0]=R:=⟨_,rfl⟩
  rw[hR0]
  have hRl:R0.length=us.length+1:=by rw[←hR0];simp
  have hR16:∀x∈R0,x < 65536:=by rw[←hR0];exact gS hu16 (by decide)
  have hRv:val 65536 R0=m*2^s:=by rw[←hR0,fj,hum];simp
  obtain⟨L,hL⟩:∃L,us.length+1 - ds.length=L:=⟨_,rfl⟩
  have hDtop:65536^(ds.length - 1)≤n*2^s:=by
    have:=(W_top B16 (n:=n*2^s) (by omega)).2.1
    rwa[hds] at this
  have hdrop:val 65536 (R0.drop L) < n*2^s:=by
    have e1:R0.drop L=us.drop L ++[0]:=by rw[←hR0,List.drop_append_of_le_length (by omega)]
    rw[e1,fj,Nat.mul_zero,Nat.add_zero]
    have:=iU (B:=65536) (by decide) (us.drop L) (fun x hx=>hu16 x (List.mem_of_mem_drop hx))
    rw[List.length_drop,show us.length - L=ds.length - 1 by omega] at this
    omega
  have hbD:bl (val 65536 ds)≤2^39:=by rw[hdm];have:=cu n s;omega
  repeat (first |((first |refine rg rfl rfl (fun K hK=>?_) |refine rd [.o 0,.o 2,.o 3,.o 4,.o 6,.o 1,.o 5,.o 7,.o 8,.o 9] rfl (by decide+kernel) rfl (fun K hK=>?_));(repeat (first |(refine wo rfl (fun k hk=>?_);simp(disch:=omega) only[go_sem,Nat.reduceBEq,reduceAdd];apply hk;clear hk k) |refine wkt rfl ?_));(try refine wk0 ?_);apply hK;clear hK K;(try dsimp only[ag,qs,qb])) |((first |refine ae ?_ |refine ac ?_);simp(disch:=decide) only[qs,qb,if_true,if_false,reduceIte]) |refine ah rfl (fun K hK=>?_) |refine ct rfl ?_ |((first |refine hK _ _ ?_ |(clear hK;refine hK _ _ ?_) |(clear hK;clear hK;refine hK _ _ ?_));clear hK;(try clear K)))
  rw[hL]
  refine eO (fun x:Nat×List Nat×List Nat=>⟨[(8,.v (.int .i64 s)),(9,.v (.slice ad ds.length cd)),(10,.s 0 0 (us.length+1) (us.length+1+jk.length)),(11,.v (.int .i64 ds.length)),(12,.s 1 0 L L),(13,.v (.int .i64 ((x.1:Int) - 1)))],[uw x.2.1 ++jk,uw x.2.2]⟩)
    (fun x h'=>Le h0 h'∧Le h4 h'∧x.1≤L∧x.2.1.length=us.length+1∧x.2.2.length=L∧(∀d∈x.2.1,d < 65536)∧(∀d∈x.2.2,d < 65536)∧val 65536 (x.2.1.drop x.1) < n*2^s∧val 65536 x.2.1+n*2^s*(65536^x.1*val 65536 (x.2.2.drop x.1))=m*2^s) (fun x=>x.1) (L,R0,List.replicate L 0) [2,3] ?_ ⟨?_,?_,by simp,hRl,by simp,hR16,gG (by decide),hdrop,?_⟩ ?_
  · simp(disch:=omega) only[go_sem,Nat.reduceBEq,reduceAdd]
  · exact inferInstance
  · exact inferInstance
  · simp[hRv,val]
  · rintro⟨k,rs,zs⟩ h5 ⟨hle,hle4,hk,hrl,hql,hrlt,hqlt,hrd,hinv⟩
    dsimp only at hk hrl hql hrlt hqlt hrd hinv ⊢
    have hDB:n*2^s < 65536^ds.length:=by rw[←hdm];exact iU (by decide) ds hd16
    by_cases hk0:k=0
    · subst hk0
      simp only[List.drop_zero,Nat.pow_zero,Nat.one_mul] at hrd hinv
      repeat (first |((first |refine rg rfl rfl (fun K hK=>?_) |refine rd [.o 0,.o 2,.o 3,.o 4,.o 6,.o 1,.o 5,.o 7,.o 8,.o 9] rfl (by decide+kernel) rfl (fun K hK=>?_));(repeat (first |(refine wo rfl (fun k hk=>?_);simp(disch:=omega) only[go_sem,Nat.reduceBEq,reduceAdd];apply hk;clear hk k) |refine wkt rfl ?_));(try refine wk0 ?_);apply hK;clear hK K;(try dsimp only[ag,qs,qb])) |((first |refine ae ?_ |refine ac ?_);simp(disch:=decide) only[qs,qb,if_true,if_false,reduceIte]) |refine ah rfl (fun K hK=>?_) |refine ct rfl ?_ |((first |refine hK _ _ ?_ |(clear hK;refine hK _ _ ?_) |(clear hK;clear hK;refine hK _ _ ?_));clear hK;(try clear K)))
      refine Ej [.p 1,.p 0,.o 0,.o 2,.o 3,.o 4,.o 6,.o 1,.o 5,.o 7,.o 8,.o 9] (by decide+kernel) rfl (fun K hK=>?_)
      refine wkp ?_;simp(disch:=omega) only[go_sem,Nat.reduceBEq,reduceAdd];intro b6 h6 hs6 hb6
      refine wkp ?_;simp(disch:=omega) only[go_sem,Nat.reduceBEq,reduceAdd];intro b7 h7 hs7 hb7
      have hA:Arr h6 (some ⟨b6,0,none⟩) L zs:=.of_row (fun hne=>hb6 ((uw_ne _).1 hne)) (fun x hx=>by have:=hqlt x hx;omega) (by omega) (by omega)
      have hB:Arr h7 (some ⟨b7,0,none⟩) (us.length+1+jk.length) rs:=.of_app hb7 hrlt (by omega) (by omega)
      have hmn:m*2^s=n*2^s*val 65536 zs+val 65536 rs:=by omega
      have hq:val 65536 zs=m / n:=by
        have h8:m*2^s / (n*2^s)=val 65536 zs:=by rw[hmn,Nat.mul_add_div hD0,Nat.div_eq_of_lt hrd,Nat.add_zero]
        rw[←h8,Nat.mul_div_mul_right _ _ (Nat.pow_pos (by decide))]
      have hr:val 65536 rs=(m % n)*2^s:=by
        have h8:m*2^s % (n*2^s)=val 65536 rs:=by rw[hmn,Nat.mul_add_mod,Nat.mod_eq_of_lt hrd]
        rw[←h8,Nat.mul_mod_mul_right]
      have hr2:val 65536 (rs.take ds.length)=(m % n)*2^s:=by
        have h1:=iZ 65536 rs ds.length (by omega)
        rcases Nat.eq_zero_or_pos (val 65536 (rs.drop ds.length)) with h' |h'
        · rw[h',Nat.mul_zero,Nat.add_zero] at h1;rw[←h1];exact hr
        · exfalso
          have h2:=Nat.le_mul_of_pos_right (65536^ds.length) h'
          omega
      (repeat (first |(refine wo rfl (fun k hk=>?_);simp(disch:=omega) only[go_sem,Nat.reduceBEq,reduceAdd];apply hk;clear hk k) |refine wkt rfl ?_));(try refine wk0 ?_)
      refine cN rfl rfl rfl rfl (by exact nY hA hqlt hql) ?_;rintro v8 h8 hs8 hq8;(repeat (first |(refine wo rfl (fun k hk=>?_);simp(disch:=omega) only[go_sem,Nat.reduceBEq,reduceAdd];apply hk;clear hk k) |refine wkt rfl ?_));(try refine wk0 ?_)
      refine cN rfl rfl rfl rfl (by exact nY (L:=ds.length) (hB.take ds.length) (fun x hx=>hrlt x (List.mem_of_mem_take hx)) (by simp;omega)) ?_;rintro v9 h9 hs9 hr9;(repeat (first |(refine wo rfl (fun k hk=>?_);simp(disch:=omega) only[go_sem,Nat.reduceBEq,reduceAdd];apply hk;clear hk k) |refine wkt rfl ?_));(try refine wk0 ?_)
      rw[hr2] at hr9
      have hbr:bl (m % n*2^s)≤2^40:=by
        have h10:=cu (m % n) s
        have h11:=aR (Nat.le_of_lt (Nat.mod_lt m (show 0 < n by omega)))
        omega
      refine cN rfl rfl rfl rfl (by exact CD (n:=s) hr9 hbr (by omega)) ?_;rintro v10 h10 hs10 hr10;(repeat (first |(refine wo rfl (fun k hk=>?_);simp(disch:=omega) only[go_sem,Nat.reduceBEq,reduceAdd];apply hk;clear hk k) |refine wkt rfl ?_));(try refine wk0 ?_)
      (try (simp(disch:=omega) only[go_sem,Nat.reduceBEq,reduceAdd]));apply hK;clear hK;(try clear K);(try dsimp only[ag,qs])
      refine ai ?_;simp(disch:=omega) only[go_sem,Nat.reduceBEq,reduceAdd]
      rw[hq] at hq8
      rw[Nat.mul_div_cancel _ (Nat.pow_pos (by decide))] at hr10
      exact⟨_,_,rfl,hq8.to,hr10⟩
    · obtain⟨k,rfl⟩:∃j,k=j+1:=⟨k - 1,by omega⟩
      have hpre:(rs.take k).length=k:=by simp;omega
      obtain⟨pre,hpe⟩:∃p,rs.take k=p:=⟨_,rfl⟩
      obtain⟨ws,hwe⟩:∃p,rs.drop k=p:=⟨_,rfl⟩
      have hrs:rs=pre ++ws:=by rw[←hpe,←hwe,List.take_append_drop]
      rw[hpe] at hpre
      subst hrs hpre
      clear hpe hwe
      have hpl:(pre ++ws).length=pre.length+ws.length:=List.length_append
      rw[hpl] at hrl
      have hif:(if us.length+1+jk.length=pre.length then 0 else pre.length)=pre.length:=if_neg (by omega)
      have hsb:pre.length+ds.length+1 - pre.length=ds.length+1:=by omega
      repeat (first |((first |refine rg rfl rfl (fun K hK=>?_) |refine rd [.o 0,.o 2,.o 3,.o 4,.o 6,.o 1,.o 5,.o 7,.o 8,.o 9] rfl (by decide+kernel) rfl (fun K hK=>?_));(repeat (first |(refine wo rfl (fun k hk=>?_);simp(disch:=omega) only[go_sem,Nat.reduceBEq,reduceAdd];apply hk;clear hk k) |refine wkt rfl ?_));(try refine wk0 ?_);apply hK;clear hK K;(try dsimp only[ag,qs,qb])) |((first |refine ae ?_ |refine ac ?_);simp(disch:=decide) only[qs,qb,if_true,if_false,reduceIte]) |refine ah rfl (fun K hK=>?_) |refine ct rfl ?_ |((first |refine hK _ _ ?_ |(clear hK;refine hK _ _ ?_) |(clear hK;clear hK;refine hK _ _ ?_));clear hK;(try clear K)))
      (first |refine rg rfl rfl (fun K hK=>?_) |refine rd [.o 0,.o 2,.o 3,.o 4,.o 6,.o 1,.o 5,.o 7,.o 8,.o 9] rfl (by decide+kernel) rfl (fun K hK=>?_));(repeat (first |(refine wo rfl (fun k hk=>?_);simp(disch:=omega) only[go_sem,Nat.reduceBEq,reduceAdd,hif,hsb];apply hk;clear hk k) |refine wkt rfl ?_));(try refine wk0 ?_)
      refine wo rfl (fun k hk=>?_);simp(disch:=omega) only[go_sem,Nat.reduceBEq,reduceAdd,true_or]
      have hwlt:∀x∈ws,x < 65536:=fun x hx=>hrlt x (List.mem_append.2 (.inr hx))
      have hdr1:(pre ++ws).drop (pre.length+1)=ws.drop 1:=by rw[List.drop_append];simp
      rw[hdr1] at hrd
      have hw0:=aM (by decide) hwlt 0
      have hUB:val 65536 ws < 65536*(n*2^s):=by
        rw[Ec (by omega)]
        have:=Nat.mul_le_mul_left 65536 (show val 65536 (ws.drop 1)+1≤n*2^s by omega)
        omega
      haveI:Le h3 h5:=⟨hs4.sub.trans hle4.sub⟩
      refine zB 0 rfl ?_ rfl (AK (ys:=ds) (h0:=h3) (a:=ad) (c:=cd) had hd16 (by rw[hdm];exact hds) (by omega) hbD hwlt (by omega) (by omega) (by omega) ?_) ?_
      · intro e
        have:=congrArg List.length e
        simp only[AS.box,List.getD_cons_zero,uw,List.length_map,List.length_append,List.length_nil] at this
        omega
      · rw[hdm];exact Nat.lt_of_le_of_lt (by rw[iZ 65536 ws (ds.length+1) (by omega)];omega) hUB
      · rintro v row' h6 hs6 ⟨rfl,ws',rfl,hl6,hlt6,hd6,hv6⟩
        simp(disch:=omega) only[go_sem,Nat.reduceBEq,reduceAdd]
        have hpl6:(pre ++ws').length=pre.length+ws.length:=by rw[List.length_append,hl6]
        apply hk;clear hk k
        (repeat (first |(refine wo rfl (fun k hk=>?_);simp(disch:=omega) only[go_sem,Nat.reduceBEq,reduceAdd];apply hk;clear hk k) |refine wkt rfl ?_));(try refine wk0 ?_)
        repeat (first |(refine wo rfl (fun k hk=>?_);simp(disch:=omega) only[go_sem,Nat.reduceBEq,reduceAdd];apply hk;clear hk k) |refine wkt rfl ?_ |refine wk0 ?_ |((first |refine rg rfl rfl (fun K hK=>?_) |refine rd [.o 0,.o 2,.o 3,.o 4,.o 6,.o 1,.o 5,.o 7,.o 8,.o 9] rfl (by decide+kernel) rfl (fun K hK=>?_));(repeat (first |(refine wo rfl (fun k hk=>?_);simp(disch:=omega) only[go_sem,Nat.reduceBEq,reduceAdd];apply hk;clear hk k) |refine wkt rfl ?_ |refine wk0 ?_));(first |apply hK |(clear hK;apply hK) |(clear hK;clear hK;apply hK));clear hK;(try clear K);(try dsimp only[ag,qs,qb])) |((first |refine ae ?_ |refine ac ?_);simp(disch:=decide) only[qs,qb,if_true,if_false,reduceIte]) |refine ah rfl (fun K hK=>?_) |refine ct rfl ?_ |((try simp(disch:=omega) only[go_sem,Nat.reduceBEq,reduceAdd]);(first |apply hK |(clear hK;apply hK) |(clear hK;clear hK;apply hK));clear hK;(try clear K);(try dsimp only[ag,qs,qb])))
        rw[hdm] at hv6
        obtain⟨hUw,hw'⟩:=xL (by decide) (show ds.length+1≤ws.length by omega) (show ds.length+1≤ws'.length by omega) hUB hDB hd6 hv6
        rw[hUw,hdm]
        refine⟨(pre.length,pre ++ws',zs.set pre.length (val 65536 ws / (n*2^s))),[0,1],?_,⟨inferInstance,inferInstance,by dsimp only;omega,by dsimp only;omega,by simp[hql],?_,d9 hqlt (by rw[Nat.div_lt_iff_lt_mul hD0];exact hUB),?_,?_⟩,by dsimp only;omega⟩
        · simp(disch:=omega) only[go_sem,Nat.reduceBEq,reduceAdd]
        · intro x hx
          rcases List.mem_append.1 hx with h' |h'
          · exact hrlt x (List.mem_append.2 (.inl h'))
          · exact hlt6 x h'
        · dsimp only
          rw[List.drop_left,hw'];exact Nat.mod_lt _ hD0
        · dsimp only
          rw[mJ (xs:=zs.set pre.length _) (by simp[hql];omega),oe (by omega),List.drop_set_of_lt (by omega),val,dD,hw']
          rw[dD,Nat.pow_succ] at hinv
          exact C8 hinv
theorem vr {h0 h:PH} [Le h0 h] {v w:Value} {m n:Nat} (hv:N16 h0 v m) (hw:N16 h0 w n) (bm:bl m≤2^38) (bn:bl n≤2^38):Spec mach 162 #[v,w] h (fun v h'=>N16 h' v (Nat.gcd m n)) NP:=by
  refine Spec.go [] Tryz.func162 rfl rfl (by kernel_rfl) fun C _=>?_
  try simp(maxSteps:=999999) (disch:=omega) only[go_sem,Nat.reduceBEq,reduceAdd]
  refine lp [] (fun x:Value×Value×Nat×Nat=>⟨[(0,.v x.1),(1,.v x.2.1)],[]⟩) (fun x h'=>N16 h' x.1 x.2.2.1∧N16 h' x.2.1 x.2.2.2∧bl x.2.2.1≤2^38∧bl x.2.2.2≤2^38∧Nat.gcd x.2.2.1 x.2.2.2=Nat.gcd m n) (fun x=>x.2.2.2) (v,w,m,n) ?_ ⟨hv.to,hw.to,bm,bn,rfl⟩ (by kernel_rfl) ?_
  · try simp(maxSteps:=999999) (disch:=omega) only[go_sem,Nat.reduceBEq,reduceAdd]
  · rintro⟨va,vb,m',n'⟩ h1 ⟨ha,hb,ba,bb,hg⟩
    dsimp only at ha hb ba bb hg ⊢
    obtain⟨a,c,ys,hbe,hay,hys,hyn,_⟩:=hb.out
    subst hbe
    have hl:=nP B16 (n:=n')
    rw[hys] at hl
    by_cases hn:n'=0
    · try simp(maxSteps:=999999) (disch:=omega) only[go_sem,Nat.reduceBEq,reduceAdd]
      rw[hn,Nat.gcd_zero_right] at hg
      rwa[←hg]
    · try simp(maxSteps:=999999) (disch:=omega) only[go_sem,Nat.reduceBEq,reduceAdd]
      refine caN (by exact dJ ha hb hn ba bb) ?_;rintro v2 h2 hs2 ⟨q,r,rfl,hq,hr⟩
      try simp(maxSteps:=999999) (disch:=omega) only[go_sem,Nat.reduceBEq,reduceAdd]
      dsimp only[lpE];refine⟨(_,r,n',m' % n'),?_,⟨hb.to,hr.to,bb,Nat.le_trans (aR (Nat.le_of_lt (Nat.mod_lt _ (by omega)))) bb,?_⟩,Nat.mod_lt _ (by omega)⟩
      · try simp(maxSteps:=999999) (disch:=omega) only[go_sem,Nat.reduceBEq,reduceAdd]
      · dsimp only
        rw[←hg,Nat.gcd_comm m' n',Nat.gcd_rec n' m',Nat.gcd_comm]
end Go.Q
