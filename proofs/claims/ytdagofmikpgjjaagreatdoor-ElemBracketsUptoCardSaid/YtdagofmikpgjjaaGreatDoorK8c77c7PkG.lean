/-
  Contracts of package word, and what stands on it. Conditions: each theorem's own.
-/
import Derived.Test.YtdagofmikpgjjaaGreatDoorK98c21dPkF
set_option linter.unusedVariables false
set_option linter.unusedSimpArgs false
open Nat (reduceAdd)
namespace Go.Q
open Go.Proofs
set_option maxRecDepth 100000
attribute [go_sem] yL
theorem val_set {B:Nat} {rs:List Nat} {i d:Nat} (hi:i < rs.length):val B (rs.set i d)+B^i*rs.getD i 0=val B rs+B^i*d:=by
  induction rs generalizing i with
  |nil=>simp at hi
  | cons r rs ih=>
    cases i with
    |zero=>simp only[List.set_cons_zero,val,List.getD_cons_zero,Nat.pow_zero,Nat.one_mul];omega
    | succ i=>
      have:=ih (i:=i) (by simpa using hi)
      simp only[List.set_cons_succ,val,List.getD_cons_succ,Nat.pow_succ,Nat.mul_comm (B^i) B,Nat.mul_assoc]
      have e:=congrArg (B*·) this
      simp only[Nat.mul_add] at e
      omega
theorem tV {B:Nat} {rs:List Nat} {i d n:Nat} (hi:i < n) (hn:n≤rs.length):val B ((rs.set i d).take n)+B^i*rs.getD i 0=val B (rs.take n)+B^i*d:=by
  have:=val_set (B:=B) (rs:=rs.take n) (i:=i) (d:=d) (by simp;omega)
  rw[List.take_set]
  have e:(rs.take n).getD i 0=rs.getD i 0:=by simp[List.getD_eq_getElem?_getD,List.getElem?_take,hi]
  rw[e] at this
  exact this
theorem Dv {P B V V' c d A x y r q:Nat} {X:Nat} (hs:x*y+d+c=r+B*q) (hi:V+P*c=A+X) (hV:V'+P*d=V+P*r):V'+P*B*q=A+(X+P*(x*y)):=by
  have e:=congrArg (P*·) hs
  simp only[Nat.mul_add,←Nat.mul_assoc] at e
  rw[←Nat.mul_assoc]
  omega
theorem aI {h0 h:PH} [Le h0 h] {v w:Value} {m n:Nat} (hv:N32 h0 v m) (hw:N32 h0 w n) (bm:bl m≤2^40) (bn:bl n≤2^40):Spec mach 79 #[v,w] h (fun v h'=>N32 h' v (m*n)) NP:=by
  obtain⟨a,c,xs,rfl,ha,hxs,hm⟩:=hv.out
  obtain⟨a',c',ys,rfl,ha',hys,hn⟩:=hw.out
  have hs:xs.length≤2^40:=by have:=dj m;rw[hxs] at this;omega
  have hs':ys.length≤2^40:=by have:=dj n;rw[hys] at this;omega
  refine Spec.enter (args:=[_,_]) (n:=76) Tryz.func79 rfl (by kernel_rfl) rfl (by simp) [.tmp 4] rfl (fun C _=>?_)
  have z1:xs.length=0→m*n=0:=fun h=>by rw[←hm,List.eq_nil_of_length_eq_zero h];simp[val]
  have z2:ys.length=0→m*n=0:=fun h=>by rw[←hn,List.eq_nil_of_length_eq_zero h];simp[val]
  by_cases hx0:xs.length=0
  · repeat (first |(refine wo rfl (fun k hk=>?_);simp(disch:=omega) only[go_sem,Nat.reduceBEq,reduceAdd];apply hk;clear hk k) |refine wkt rfl ?_ |refine wk0 ?_ |refine rg rfl rfl (fun K hK=>?_) |((first |refine ae ?_ |refine ac ?_);simp(disch:=decide) only[qs,qb,if_true,if_false,reduceIte]) |refine ah rfl (fun K hK=>?_) |refine ct rfl ?_ |((try simp(disch:=omega) only[go_sem,Nat.reduceBEq,reduceAdd]);(first |apply hK |(clear hK;apply hK) |(clear hK;clear hK;apply hK));clear hK;(try clear K);(try dsimp only[ag,qs,qb])))
    refine ai ?_;simp(disch:=omega) only[go_sem,Nat.reduceBEq,reduceAdd]
    rw[z1 hx0];exact N32.zero _
  by_cases hy0:ys.length=0
  · repeat (first |(refine wo rfl (fun k hk=>?_);simp(disch:=omega) only[go_sem,Nat.reduceBEq,reduceAdd];apply hk;clear hk k) |refine wkt rfl ?_ |refine wk0 ?_ |refine rg rfl rfl (fun K hK=>?_) |((first |refine ae ?_ |refine ac ?_);simp(disch:=decide) only[qs,qb,if_true,if_false,reduceIte]) |refine ah rfl (fun K hK=>?_) |refine ct rfl ?_ |((try simp(disch:=omega) only[go_sem,Nat.reduceBEq,reduceAdd]);(first |apply hK |(clear hK;apply hK) |(clear hK;clear hK;apply hK));clear hK;(try clear K);(try dsimp only[ag,qs,qb])))
    refine ai ?_;simp(disch:=omega) only[go_sem,Nat.reduceBEq,reduceAdd]
    rw[z2 hy0];exact N32.zero _
  clear z1 z2
  repeat (first |(refine wo rfl (fun k hk=>?_);simp(disch:=omega) only[go_sem,Nat.reduceBEq,reduceAdd];apply hk;clear hk k) |refine wkt rfl ?_ |refine wk0 ?_ |refine rg rfl rfl (fun K hK=>?_) |((first |refine ae ?_ |refine ac ?_);simp(disch:=decide) only[qs,qb,if_true,if_false,reduceIte]) |refine ah rfl (fun K hK=>?_) |refine ct rfl ?_ |((try simp(disch:=omega) only[go_sem,Nat.reduceBEq,reduceAdd]);(first |apply hK |(clear hK;apply hK) |(clear hK;clear hK;apply hK));clear hK;(try clear K);(try dsimp only[ag,qs,qb])))
  refine cg (fun x:Nat×List Nat=>⟨[(0,.v (.slice a xs.length c)),(1,.v (.slice a' ys.length c')),(5,.s 0 0 (xs.length+ys.length) (xs.length+ys.length)),(26,.v (.slice a xs.length c)),(27,.v (.int .i64 xs.length)),(28,.v (.int .i64 x.1))],[uw x.2]⟩)
      (fun x h'=>Le h0 h'∧x.1≤xs.length∧x.2.length=xs.length+ys.length∧(∀d∈x.2,d < 4294967296)∧val 4294967296 (x.2.take (x.1+ys.length))=val 4294967296 (xs.take x.1)*val 4294967296 ys) (fun x=>xs.length - x.1) (0,List.replicate (xs.length+ys.length) 0) ?_ ⟨inferInstance,by simp,by simp,gG (by decide),by simp[val,mO]⟩ ?_
  · simp(disch:=omega) only[go_sem,Nat.reduceBEq,reduceAdd]
  · rintro⟨k,rs⟩ h1 ⟨hle,hk,hr,hlt,hi⟩
    dsimp only at hk hr hlt hi ⊢
    by_cases hkl:k < xs.length
    · obtain⟨ad,rfl,hat⟩:=ha.rd h1 (i:=k) (by omega)
      have hx:=aM (by decide) ha.lt k
      repeat (first |(refine wo rfl (fun k hk=>?_);simp(disch:=omega) only[go_sem,Nat.reduceBEq,reduceAdd,hat];apply hk;clear hk k) |refine wkt rfl ?_ |refine wk0 ?_ |refine rg rfl rfl (fun K hK=>?_) |((first |refine ae ?_ |refine ac ?_);simp(disch:=decide) only[qs,qb,if_true,if_false,reduceIte]) |refine ah rfl (fun K hK=>?_) |refine ct rfl ?_ |((try simp(disch:=omega) only[go_sem,Nat.reduceBEq,reduceAdd]);(first |apply hK |(clear hK;apply hK) |(clear hK;clear hK;apply hK));clear hK;(try clear K);(try dsimp only[ag,qs,qb])))
      refine cg (fun x:Nat×List Nat×Nat=>⟨[(0,.v (.slice (some ad) xs.length c)),(1,.v (.slice a' ys.length c')),(5,.s 0 0 (xs.length+ys.length) (xs.length+ys.length)),(26,.v (.slice (some ad) xs.length c)),(27,.v (.int .i64 xs.length)),(28,.v (.int .i64 k)),(6,.v (.int .i64 k)),(7,.v (.int .u32 (xs.getD k 0:Nat))),(8,.v (.int .u64 x.2.2)),(33,.v (.slice a' ys.length c')),(34,.v (.int .i64 ys.length)),(35,.v (.int .i64 x.1))],[uw x.2.1]⟩)
        (fun x h'=>Le h0 h'∧x.1≤ys.length∧x.2.1.length=xs.length+ys.length∧(∀d∈x.2.1,d < 4294967296)∧x.2.2 < 4294967296∧val 4294967296 (x.2.1.take (k+ys.length))+4294967296^(k+x.1)*x.2.2=val 4294967296 (rs.take (k+ys.length))+4294967296^k*(xs.getD k 0*val 4294967296 (ys.take x.1))) (fun x=>ys.length - x.1) (0,rs,0) ?_ ⟨hle,by simp,hr,hlt,by simp,by simp[val]⟩ ?_
      · simp(disch:=omega) only[go_sem,Nat.reduceBEq,reduceAdd]
      · rintro⟨j,rs',cy⟩ h2 ⟨hle',hj,hr',hlt',hcy,hi'⟩
        dsimp only at hj hr' hlt' hcy hi' ⊢
        by_cases hjl:j < ys.length
        · obtain⟨ad',rfl,hat'⟩:=ha'.rd h2 (i:=j) (by omega)
          have hy:=aM (by decide) ha'.lt j
          have hd:=aM (by decide) hlt' (k+j)
          have hxy:xs.getD k 0*ys.getD j 0≤4294967295*4294967295:=Nat.mul_le_mul (by omega) (by omega)
          repeat (first |(refine wo rfl (fun k hk=>?_);simp(disch:=omega) only[go_sem,Nat.reduceBEq,reduceAdd,hat'];apply hk;clear hk k) |refine wkt rfl ?_ |refine wk0 ?_ |refine rg rfl rfl (fun K hK=>?_) |((first |refine ae ?_ |refine ac ?_);simp(disch:=decide) only[qs,qb,if_true,if_false,reduceIte]) |refine ah rfl (fun K hK=>?_) |refine ct rfl ?_ |((try simp(disch:=omega) only[go_sem,Nat.reduceBEq,reduceAdd]);(first |apply hK |(clear hK;apply hK) |(clear hK;clear hK;apply hK));clear hK;(try clear K);(try dsimp only[ag,qs,qb])))
          refine⟨(j+1,rs'.set (k+j) ((xs.getD k 0*ys.getD j 0+rs'.getD (k+j) 0+cy) % 4294967296),(xs.getD k 0*ys.getD j 0+rs'.getD (k+j) 0+cy) / 4294967296),?_,⟨hle',by dsimp only;omega,by simp[hr'],d9 hlt' (Nat.mod_lt _ (by decide)),by dsimp only;omega,?_⟩,by simp only;omega⟩
          · simp(disch:=omega) only[go_sem,Nat.reduceBEq,reduceAdd]
          · dsimp only
            rw[aq _ ys,←Nat.add_assoc,Nat.pow_succ,Nat.mul_add,Nat.mul_add,←Nat.mul_assoc _ (4294967296^j),Nat.mul_comm (xs.getD k 0) (4294967296^j),Nat.mul_assoc (4294967296^j),←Nat.mul_assoc _ (4294967296^j),←Nat.pow_add]
            exact Dv (Nat.mod_add_div _ _).symm hi' (tV (by omega) (by omega))
        · repeat (first |(refine rg rfl rfl (fun K hK=>?_);(repeat (first |(refine wo rfl (fun k hk=>?_);simp(disch:=omega) only[go_sem,Nat.reduceBEq,reduceAdd];apply hk;clear hk k) |refine wkt rfl ?_));(try refine wk0 ?_);apply hK;clear hK K;(try dsimp only[ag,qs,qb])) |((first |refine ae ?_ |refine ac ?_);simp(disch:=decide) only[qs,qb,if_true,if_false,reduceIte]) |refine ah rfl (fun K hK=>?_) |refine ct rfl ?_ |((first |refine hK _ _ ?_ |(clear hK;refine hK _ _ ?_) |(clear hK;clear hK;refine hK _ _ ?_));clear hK;(try clear K)))
          obtain rfl:j=ys.length:=by omega
          refine⟨(k+1,rs'.set (k+ys.length) cy),?_,⟨hle',by dsimp only;omega,by simp[hr'],d9 hlt' hcy,?_⟩,by simp only;omega⟩
          · simp(disch:=omega) only[go_sem,Nat.reduceBEq,reduceAdd]
          · dsimp only
            rw[show k+1+ys.length=k+ys.length+1 by omega,bO (by omega),hi',hi,aq _ xs,List.take_of_length_le (Nat.le_refl _),Nat.add_mul,Nat.mul_assoc]
    · repeat (first |(refine rg rfl rfl (fun K hK=>?_);(repeat (first |(refine wo rfl (fun k hk=>?_);simp(disch:=omega) only[go_sem,Nat.reduceBEq,reduceAdd];apply hk;clear hk k) |refine wkt rfl ?_));(try refine wk0 ?_);apply hK;clear hK K;(try dsimp only[ag,qs,qb])) |((first |refine ae ?_ |refine ac ?_);simp(disch:=decide) only[qs,qb,if_true,if_false,reduceIte]) |refine ah rfl (fun K hK=>?_) |refine ct rfl ?_ |((first |refine hK _ _ ?_ |(clear hK;refine hK _ _ ?_) |(clear hK;clear hK;refine hK _ _ ?_));clear hK;(try clear K)))
      obtain rfl:k=xs.length:=by omega
      refine fk [.o 0,.p 0,.o 1,.o 2] rfl rfl (fun K hK=>?_);(repeat (first |(refine wo rfl (fun k hk=>?_);simp(disch:=omega) only[go_sem,Nat.reduceBEq,reduceAdd];apply hk;clear hk k) |refine wkt rfl ?_));(try refine wk0 ?_)
      refine wkp ?_;simp(disch:=omega) only[go_sem,Nat.reduceBEq,reduceAdd];intro b h2 hs2 hb;(repeat (first |(refine wo rfl (fun k hk=>?_);simp(disch:=omega) only[go_sem,Nat.reduceBEq,reduceAdd];apply hk;clear hk k) |refine wkt rfl ?_));(try refine wk0 ?_)
      have hA:Arr h2 (some ⟨b,0,none⟩) (xs.length+ys.length) rs:=.of_row (fun hne=>hb ((uw_ne _).1 hne)) hlt (by omega) (by omega)
      have hval:val 4294967296 rs=m*n:=by
        rw[List.take_of_length_le (by omega),List.take_of_length_le (Nat.le_refl _),hm,hn] at hi
        exact hi
      refine cN rfl rfl rfl rfl (by exact Of_L hA hr) ?_;rintro v h3 hs3 hv';(repeat (first |(refine wo rfl (fun k hk=>?_);simp(disch:=omega) only[go_sem,Nat.reduceBEq,reduceAdd];apply hk;clear hk k) |refine wkt rfl ?_));(try refine wk0 ?_)
      (try (simp(disch:=omega) only[go_sem,Nat.reduceBEq,reduceAdd]));apply hK;clear hK;(try clear K);(try dsimp only[ag,qs])
      refine ai ?_;simp(disch:=omega) only[go_sem,Nat.reduceBEq,reduceAdd]
      rwa[hval] at hv'
theorem FD {d r s:Nat} (hd:d < 2^r):d ||| 2^r*s=d+2^r*s:=by
  rw[Nat.or_comm,←Nat.two_pow_add_eq_or_of_lt hd,Nat.add_comm]
theorem or_shl {d r x:Nat} (hr:r≤32) (hd:d < 2^r):d ||| (x*2^r % 4294967296)=d+x*2^r % 4294967296:=by
  have:x*2^r % 4294967296=2^r*(x % 2^(32 - r)):=by
    have e:(4294967296:Nat)=2^r*2^(32 - r):=by rw[←Nat.pow_add,show r+(32 - r)=32 by omega]
    rw[e,Nat.mul_comm x,Nat.mul_mod_mul_left]
  rw[this,FD hd]
theorem shl_step {V D R X x s P Q p:Nat} (hi:V+P*D=Q*(R*X)) (hs:s=x*R) (hP:P=Q*p):V+P*(D+s % 4294967296)+P*4294967296*(s / 4294967296)=Q*(R*(X+p*x)):=by
  have h1:=dm P 4294967296 s
  have h2:P*s=Q*(R*(p*x)):=by rw[hs,hP];simp only[Nat.mul_assoc,Nat.mul_comm,Nat.mul_left_comm]
  rw[Nat.mul_add P,Nat.mul_add R,Nat.mul_add Q]
  omega
theorem Fi (k i:Nat):(List.replicate k 0).getD i 0=0:=by
  simp only[List.getD_eq_getElem?_getD,List.getElem?_replicate]
  split<;>rfl
theorem oe {rs:List Nat} {k d:Nat} (hk:k < rs.length):(rs.set k d).getD k 0=d:=by simp[hk]
theorem aL {h0 h:PH} [Le h0 h] {v:Value} {m n:Nat} (hv:N32 h0 v m) (bm:bl m+n≤2^40):Spec mach 78 #[v,.int .i64 n] h (fun v h'=>N32 h' v (m*2^n)) NP:=by
  obtain⟨a,c,xs,rfl,ha,hxs,hm⟩:=hv.out
  have hs:xs.length+n≤2^40:=by have:=dj m;rw[hxs] at this;omega
  refine Spec.enter (args:=[_,_]) (n:=58) Tryz.func78 rfl (by kernel_rfl) rfl (by simp) [.tmp 4] rfl (fun C _=>?_)
  by_cases hx0:xs.length=0
  · repeat (first |(refine wo rfl (fun k hk=>?_);simp(disch:=omega) only[go_sem,Nat.reduceBEq,reduceAdd];apply hk;clear hk k) |refine wkt rfl ?_ |refine wk0 ?_ |refine rg rfl rfl (fun K hK=>?_) |((first |refine ae ?_ |refine ac ?_);simp(disch:=decide) only[qs,qb,if_true,if_false,reduceIte]) |refine ah rfl (fun K hK=>?_) |refine ct rfl ?_ |((try simp(disch:=omega) only[go_sem,Nat.reduceBEq,reduceAdd]);(first |apply hK |(clear hK;apply hK) |(clear hK;clear hK;apply hK));clear hK;(try clear K);(try dsimp only[ag,qs,qb])))
    refine ai ?_;simp(disch:=omega) only[go_sem,Nat.reduceBEq,reduceAdd]
    rw[←hm,List.eq_nil_of_length_eq_zero hx0];simp only[val,Nat.zero_mul];exact N32.zero _
  have hp:2^(n % 32)≤2147483648:=Nat.pow_le_pow_right (show 0 < 2 by omega) (show n % 32≤31 by omega)
  have hp0:0 < 2^(n % 32):=Nat.pow_pos (by omega)
  repeat (first |(refine wo rfl (fun k hk=>?_);simp(disch:=omega) only[go_sem,Nat.reduceBEq,reduceAdd];apply hk;clear hk k) |refine wkt rfl ?_ |refine wk0 ?_ |refine rg rfl rfl (fun K hK=>?_) |((first |refine ae ?_ |refine ac ?_);simp(disch:=decide) only[qs,qb,if_true,if_false,reduceIte]) |refine ah rfl (fun K hK=>?_) |refine ct rfl ?_ |((try simp(disch:=omega) only[go_sem,Nat.reduceBEq,reduceAdd]);(first |apply hK |(clear hK;apply hK) |(clear hK;clear hK;apply hK));clear hK;(try clear K);(try dsimp only[ag,qs,qb])))
  refine cg (fun x:Nat×List Nat=>⟨[(5,.v (.int .i64 (n / 32:Nat))),(6,.v (.int .u64 (n % 32:Nat))),(7,.s 0 0 (xs.length+n / 32+1) (xs.length+n / 32+1)),(25,.v (.slice a xs.length c)),(26,.v (.int .i64 xs.length)),(27,.v (.int .i64 x.1))],[uw x.2]⟩)
      (fun x h'=>Le h0 h'∧x.1≤xs.length∧x.2.length=xs.length+n / 32+1∧(∀d∈x.2,d < 4294967296)∧x.2.getD (n / 32+x.1) 0 < 2^(n % 32)∧val 4294967296 (x.2.take (n / 32+x.1+1))=4294967296^(n / 32)*(2^(n % 32)*val 4294967296 (xs.take x.1))) (fun x=>xs.length - x.1) (0,List.replicate (xs.length+n / 32+1) 0) ?_ ⟨?_,by simp,by simp,gG (by decide),?_,?_⟩ ?_
  · simp(disch:=omega) only[go_sem,Nat.reduceBEq,reduceAdd]
  · exact inferInstance
  · rw[Fi];exact hp0
  · simp[val,mO]
  · rintro⟨k,rs⟩ h1 ⟨hle,hk,hr,hlt,hd,hi⟩
    dsimp only at hk hr hlt hd hi ⊢
    by_cases hkl:k < xs.length
    · obtain⟨ad,rfl,hat⟩:=ha.rd h1 (i:=k) (by omega)
      have hx:=aM (by decide) ha.lt k
      have hb:xs.getD k 0*2^(n % 32)≤4294967295*2147483648:=Nat.mul_le_mul (by omega) hp
      have hor:=or_shl (x:=xs.getD k 0) (show n % 32≤32 by omega) hd
      have hi0:=hi
      rw[aq] at hi0
      have hd2:=aM (by decide) hlt (n / 32+k)
      repeat (first |(refine wo rfl (fun k hk=>?_);simp(disch:=omega) only[go_sem,Nat.reduceBEq,reduceAdd,hat];apply hk;clear hk k) |refine wkt rfl ?_ |refine wk0 ?_ |refine rg rfl rfl (fun K hK=>?_) |((first |refine ae ?_ |refine ac ?_);simp(disch:=decide) only[qs,qb,if_true,if_false,reduceIte]) |refine ah rfl (fun K hK=>?_) |refine ct rfl ?_ |((try simp(disch:=omega) only[go_sem,Nat.reduceBEq,reduceAdd]);(first |apply hK |(clear hK;apply hK) |(clear hK;clear hK;apply hK));clear hK;(try clear K);(try dsimp only[ag,qs,qb])))
      refine⟨(k+1,(rs.set (n / 32+k) (rs.getD (n / 32+k) 0 ||| xs.getD k 0*2^(n % 32) % 4294967296)).set (n / 32+k+1) (xs.getD k 0*2^(n % 32) / 4294967296)),?_,⟨hle,by dsimp only;omega,by simp[hr],?_,?_,?_⟩,by simp only;omega⟩
      · simp(disch:=omega) only[go_sem,Nat.reduceBEq,reduceAdd]
      · refine d9 (d9 hlt ?_) (by omega)
        exact Nat.or_lt_two_pow (n:=32) hd2 (Nat.mod_lt _ (by decide))
      · dsimp only
        rw[show n / 32+(k+1)=n / 32+k+1 by omega,oe (by simp[hr];omega)]
        exact Nat.div_lt_of_lt_mul (Nat.mul_lt_mul_of_pos_right hx hp0)
      · dsimp only
        rw[show n / 32+(k+1)+1=n / 32+k+1+1 by omega,bO (by simp[hr];omega),bO (by omega),hor,Nat.pow_succ,aq _ xs]
        exact shl_step hi0 rfl (Nat.pow_add _ _ _)
    · repeat (first |(refine rg rfl rfl (fun K hK=>?_);(repeat (first |(refine wo rfl (fun k hk=>?_);simp(disch:=omega) only[go_sem,Nat.reduceBEq,reduceAdd];apply hk;clear hk k) |refine wkt rfl ?_));(try refine wk0 ?_);apply hK;clear hK K;(try dsimp only[ag,qs,qb])) |((first |refine ae ?_ |refine ac ?_);simp(disch:=decide) only[qs,qb,if_true,if_false,reduceIte]) |refine ah rfl (fun K hK=>?_) |refine ct rfl ?_ |((first |refine hK _ _ ?_ |(clear hK;refine hK _ _ ?_) |(clear hK;clear hK;refine hK _ _ ?_));clear hK;(try clear K)))
      obtain rfl:k=xs.length:=by omega
      refine fk [.o 0,.p 0,.o 1,.o 2] rfl rfl (fun K hK=>?_);(repeat (first |(refine wo rfl (fun k hk=>?_);simp(disch:=omega) only[go_sem,Nat.reduceBEq,reduceAdd];apply hk;clear hk k) |refine wkt rfl ?_));(try refine wk0 ?_)
      refine wkp ?_;simp(disch:=omega) only[go_sem,Nat.reduceBEq,reduceAdd];intro b h2 hs2 hb;(repeat (first |(refine wo rfl (fun k hk=>?_);simp(disch:=omega) only[go_sem,Nat.reduceBEq,reduceAdd];apply hk;clear hk k) |refine wkt rfl ?_));(try refine wk0 ?_)
      have hA:Arr h2 (some ⟨b,0,none⟩) (xs.length+n / 32+1) rs:=.of_row (fun hne=>hb ((uw_ne _).1 hne)) hlt (by omega) (by omega)
      have hval:val 4294967296 rs=m*2^n:=by
        rw[List.take_of_length_le (by omega),List.take_of_length_le (Nat.le_refl _),hm,←B_pow,←Nat.mul_assoc,←Nat.pow_add,Nat.div_add_mod,Nat.mul_comm] at hi
        exact hi
      refine cN rfl rfl rfl rfl (by exact Of_L hA hr) ?_;rintro v h3 hs3 hv';(repeat (first |(refine wo rfl (fun k hk=>?_);simp(disch:=omega) only[go_sem,Nat.reduceBEq,reduceAdd];apply hk;clear hk k) |refine wkt rfl ?_));(try refine wk0 ?_)
      (try (simp(disch:=omega) only[go_sem,Nat.reduceBEq,reduceAdd]));apply hK;clear hK;(try clear K);(try dsimp only[ag,qs])
      refine ai ?_;simp(disch:=omega) only[go_sem,Nat.reduceBEq,reduceAdd]
      rwa[hval] at hv'
theorem or_32 {x y:Nat} (hx:x < 4294967296):x ||| y*4294967296=x+y*4294967296:=by
  have:=FD (r:=32) (s:=y) hx
  rw[Nat.mul_comm,show(4294967296:Nat)=2^32 from by decide];exact this
theorem JW {t r:Nat} (hr:r≤32):(t % 4294967296+t / 4294967296 % 4294967296*4294967296) / 2^r % 4294967296=t / 2^r % 4294967296:=by
  have hp:0 < 2^r:=Nat.pow_pos (by omega)
  have e:(4294967296:Nat)=2^r*2^(32 - r):=by rw[←Nat.pow_add,show r+(32 - r)=32 by omega]
  have h1:t=2^r*(4294967296*(2^(32 - r)*(t / 4294967296 / 4294967296)))+(t % 4294967296+t / 4294967296 % 4294967296*4294967296):=by
    have:2^r*(4294967296*(2^(32 - r)*(t / 4294967296 / 4294967296)))=4294967296*4294967296*(t / 4294967296 / 4294967296):=by
      rw[Nat.mul_left_comm,←Nat.mul_assoc (2^r),←e,Nat.mul_assoc]
    omega
  conv=>rhs;rw[h1]
  rw[Nat.mul_add_div hp,Nat.mul_add_mod]
theorem gD {h0 h:PH} [Le h0 h] {v:Value} {m n:Nat} (hv:N32 h0 v m) (bm:bl m≤2^40) (hn:n≤2^40):Spec mach 80 #[v,.int .i64 n] h (fun v h'=>N32 h' v (m / 2^n)) NP:=by
  obtain⟨a,c,xs,rfl,ha,hxs,hm⟩:=hv.out
  have hs:xs.length≤2^40:=by have:=dj m;rw[hxs] at this;omega
  have hp:0 < 2^(n % 32):=Nat.pow_pos (by omega)
  have h2n:2^n=4294967296^(n / 32)*2^(n % 32):=by rw[←B_pow,←Nat.pow_add,Nat.div_add_mod]
  have hml:m < 4294967296^xs.length:=by rw[←hxs];exact cW (by decide) m
  have hdig:∀i,xs.getD i 0=m / 4294967296^i % 4294967296:=fun i=>by rw[←hxs,rO (by decide)]
  refine Spec.enter (args:=[_,_]) (n:=64) Tryz.func80 rfl (by kernel_rfl) rfl (by simp) [.tmp 4] rfl (fun C _=>?_)
  by_cases hx0:xs.length≤n / 32
  · repeat (first |(refine wo rfl (fun k hk=>?_);simp(disch:=omega) only[go_sem,Nat.reduceBEq,reduceAdd];apply hk;clear hk k) |refine wkt rfl ?_ |refine wk0 ?_ |refine rg rfl rfl (fun K hK=>?_) |((first |refine ae ?_ |refine ac ?_);simp(disch:=decide) only[qs,qb,if_true,if_false,reduceIte]) |refine ah rfl (fun K hK=>?_) |refine ct rfl ?_ |((try simp(disch:=omega) only[go_sem,Nat.reduceBEq,reduceAdd]);(first |apply hK |(clear hK;apply hK) |(clear hK;clear hK;apply hK));clear hK;(try clear K);(try dsimp only[ag,qs,qb])))
    refine ai ?_;simp(disch:=omega) only[go_sem,Nat.reduceBEq,reduceAdd]
    have:m / 2^n=0:=by
      rw[h2n]
      apply Nat.div_eq_of_lt
      have h1:=Nat.pow_le_pow_right (show 0 < 4294967296 by decide) hx0
      have h2:=Nat.mul_le_mul_left (4294967296^(n / 32)) hp
      omega
    rw[this];exact N32.zero _
  repeat (first |(refine wo rfl (fun k hk=>?_);simp(disch:=omega) only[go_sem,Nat.reduceBEq,reduceAdd];apply hk;clear hk k) |refine wkt rfl ?_ |refine wk0 ?_ |refine rg rfl rfl (fun K hK=>?_) |((first |refine ae ?_ |refine ac ?_);simp(disch:=decide) only[qs,qb,if_true,if_false,reduceIte]) |refine ah rfl (fun K hK=>?_) |refine ct rfl ?_ |((try simp(disch:=omega) only[go_sem,Nat.reduceBEq,reduceAdd]);(first |apply hK |(clear hK;apply hK) |(clear hK;clear hK;apply hK));clear hK;(try clear K);(try dsimp only[ag,qs,qb])))
  refine cg (fun x:Nat×List Nat=>⟨[(0,.v (.slice a xs.length c)),(5,.v (.int .i64 (n / 32:Nat))),(6,.v (.int .u64 (n % 32:Nat))),(7,.s 0 0 (xs.length - n / 32) (xs.length - n / 32)),(25,.v (.int .i64 (xs.length - n / 32:Nat))),(26,.v (.int .i64 x.1))],[uw x.2]⟩)
      (fun x h'=>Le h0 h'∧x.1≤xs.length - n / 32∧x.2.length=xs.length - n / 32∧(∀d∈x.2,d < 4294967296)∧val 4294967296 (x.2.take x.1)=(m / 2^n) % 4294967296^x.1) (fun x=>xs.length - n / 32 - x.1) (0,List.replicate (xs.length - n / 32) 0) ?_ ⟨?_,by simp,by simp,gG (by decide),?_⟩ ?_
  · simp(disch:=omega) only[go_sem,Nat.reduceBEq,reduceAdd]
  · exact inferInstance
  · simp[val,Nat.mod_one]
  · rintro⟨k,rs⟩ h1 ⟨hle,hk,hr,hlt,hi⟩
    dsimp only at hk hr hlt hi ⊢
    by_cases hkl:k < xs.length - n / 32
    · obtain⟨ad,rfl,hat⟩:=ha.rd h1 (i:=n / 32+k) (by omega)
      have hx:=aM (by decide) ha.lt (n / 32+k)
      have hd:m / 2^n / 4294967296^k=m / 4294967296^(n / 32+k) / 2^(n % 32):=by
        rw[h2n,Nat.div_div_eq_div_mul,Nat.div_div_eq_div_mul,Nat.pow_add];congr 1;simp only[Nat.mul_assoc,Nat.mul_comm,Nat.mul_left_comm]
      have hdd:=JW (t:=m / 4294967296^(n / 32+k)) (r:=n % 32) (by omega)
      rw[←hd,Nat.div_div_eq_div_mul m,←Nat.pow_succ,←hdig,←hdig] at hdd
      by_cases hk1:n / 32+k+1 < xs.length
      · obtain⟨ad',h',hat'⟩:=ha.rd h1 (i:=n / 32+k+1) (by omega)
        obtain rfl:ad=ad':=by simpa using h'
        have hx':=aM (by decide) ha.lt (n / 32+k+1)
        have hor:=or_32 (y:=xs.getD (n / 32+k+1) 0) hx
        simp(disch:=omega) only[go_sem,Nat.reduceBEq,reduceAdd] at hat'
        repeat (first |(refine wo rfl (fun k hk=>?_);simp(disch:=omega) only[go_sem,Nat.reduceBEq,reduceAdd,hat,hat',hor];apply hk;clear hk k) |refine wkt rfl ?_ |refine wk0 ?_ |refine rg rfl rfl (fun K hK=>?_) |((first |refine ae ?_ |refine ac ?_);simp(disch:=decide) only[qs,qb,if_true,if_false,reduceIte]) |refine ah rfl (fun K hK=>?_) |refine ct rfl ?_ |((try simp(disch:=omega) only[go_sem,Nat.reduceBEq,reduceAdd]);(first |apply hK |(clear hK;apply hK) |(clear hK;clear hK;apply hK));clear hK;(try clear K);(try dsimp only[ag,qs,qb])))
        refine⟨(k+1,rs.set k ((xs.getD (n / 32+k) 0+xs.getD (n / 32+k+1) 0*4294967296) / 2^(n % 32) % 4294967296)),?_,⟨hle,by dsimp only;omega,by simp[hr],d9 hlt (Nat.mod_lt _ (by decide)),?_⟩,by simp only;omega⟩
        · simp(disch:=omega) only[go_sem,Nat.reduceBEq,reduceAdd]
        · dsimp only
          rw[bO (by omega),hi,Nat.mod_pow_succ,←hdd]
      · have hx':xs.getD (n / 32+k).succ 0=0:=getD_none (by omega)
        rw[hx',Nat.zero_mul,Nat.add_zero] at hdd
        repeat (first |(refine wo rfl (fun k hk=>?_);simp(disch:=omega) only[go_sem,Nat.reduceBEq,reduceAdd,hat];apply hk;clear hk k) |refine wkt rfl ?_ |refine wk0 ?_ |refine rg rfl rfl (fun K hK=>?_) |((first |refine ae ?_ |refine ac ?_);simp(disch:=decide) only[qs,qb,if_true,if_false,reduceIte]) |refine ah rfl (fun K hK=>?_) |refine ct rfl ?_ |((try simp(disch:=omega) only[go_sem,Nat.reduceBEq,reduceAdd]);(first |apply hK |(clear hK;apply hK) |(clear hK;clear hK;apply hK));clear hK;(try clear K);(try dsimp only[ag,qs,qb])))
        refine⟨(k+1,rs.set k (xs.getD (n / 32+k) 0 / 2^(n % 32) % 4294967296)),?_,⟨hle,by dsimp only;omega,by simp[hr],d9 hlt (Nat.mod_lt _ (by decide)),?_⟩,by simp only;omega⟩
        · simp(disch:=omega) only[go_sem,Nat.reduceBEq,reduceAdd]
        · dsimp only
          rw[bO (by omega),hi,Nat.mod_pow_succ,←hdd]
    · repeat (first |(refine rg rfl rfl (fun K hK=>?_);(repeat (first |(refine wo rfl (fun k hk=>?_);simp(disch:=omega) only[go_sem,Nat.reduceBEq,reduceAdd];apply hk;clear hk k) |refine wkt rfl ?_));(try refine wk0 ?_);apply hK;clear hK K;(try dsimp only[ag,qs,qb])) |((first |refine ae ?_ |refine ac ?_);simp(disch:=decide) only[qs,qb,if_true,if_false,reduceIte]) |refine ah rfl (fun K hK=>?_) |refine ct rfl ?_ |((first |refine hK _ _ ?_ |(clear hK;refine hK _ _ ?_) |(clear hK;clear hK;refine hK _ _ ?_));clear hK;(try clear K)))
      obtain rfl:k=xs.length - n / 32:=by omega
      refine fk [.o 0,.p 0,.o 1,.o 2] rfl rfl (fun K hK=>?_);(repeat (first |(refine wo rfl (fun k hk=>?_);simp(disch:=omega) only[go_sem,Nat.reduceBEq,reduceAdd];apply hk;clear hk k) |refine wkt rfl ?_));(try refine wk0 ?_)
      refine wkp ?_;simp(disch:=omega) only[go_sem,Nat.reduceBEq,reduceAdd];intro b h2 hs2 hb;(repeat (first |(refine wo rfl (fun k hk=>?_);simp(disch:=omega) only[go_sem,Nat.reduceBEq,reduceAdd];apply hk;clear hk k) |refine wkt rfl ?_));(try refine wk0 ?_)
      have hA:Arr h2 (some ⟨b,0,none⟩) (xs.length - n / 32) rs:=.of_row (fun hne=>hb ((uw_ne _).1 hne)) hlt (by omega) (by omega)
      have hval:val 4294967296 rs=m / 2^n:=by
        rw[List.take_of_length_le (by omega),Nat.mod_eq_of_lt] at hi
        · exact hi
        · rw[h2n,←Nat.div_div_eq_div_mul]
          refine Nat.lt_of_le_of_lt (Nat.div_le_self _ _) ?_
          rw[Nat.div_lt_iff_lt_mul (Nat.pow_pos (by decide)),←Nat.pow_add,show xs.length - n / 32+n / 32=xs.length by omega]
          exact hml
      refine cN rfl rfl rfl rfl (by exact Of_L hA hr) ?_;rintro v h3 hs3 hv';(repeat (first |(refine wo rfl (fun k hk=>?_);simp(disch:=omega) only[go_sem,Nat.reduceBEq,reduceAdd];apply hk;clear hk k) |refine wkt rfl ?_));(try refine wk0 ?_)
      (try (simp(disch:=omega) only[go_sem,Nat.reduceBEq,reduceAdd]));apply hK;clear hK;(try clear K);(try dsimp only[ag,qs])
      refine ai ?_;simp(disch:=omega) only[go_sem,Nat.reduceBEq,reduceAdd]
      rwa[hval] at hv'
theorem or_23 {x y:Nat} (hx:x < 4294967296):y*4294967296 ||| x=y*4294967296+x:=by
  rw[Nat.or_comm,or_32 hx,Nat.add_comm]
theorem mJ {xs:List Nat} {j:Nat} (h:j < xs.length):xs.drop j=xs.getD j 0 :: xs.drop (j+1):=by rw[List.drop_eq_getElem_cons h];simp[h]
theorem nN {h0 h:PH} [Le h0 h] {v:Value} {m d:Nat} (hv:N32 h0 v m) (bm:bl m≤2^40) (hd0:0 < d) (hd:d < 4294967296):Spec mach 81 #[v,.int .u32 d] h (fun v h'=>∃q,v=.tuple #[q,.int .u32 (m % d:Nat)]∧N32 h' q (m / d)) NP:=by
  obtain⟨a,c,xs,rfl,ha,hxs,hm⟩:=hv.out
  have hs:xs.length≤2^40:=by have:=dj m;rw[hxs] at this;omega
  refine Spec.enter (args:=[_,_]) (n:=44) Tryz.func81 rfl (by kernel_rfl) rfl (by simp) [.tmp 4,.tmp 5] rfl (fun C _=>?_)
  repeat (first |(refine wo rfl (fun k hk=>?_);simp(disch:=omega) only[go_sem,Nat.reduceBEq,reduceAdd];apply hk;clear hk k) |refine wkt rfl ?_ |refine wk0 ?_ |refine rg rfl rfl (fun K hK=>?_) |((first |refine ae ?_ |refine ac ?_);simp(disch:=decide) only[qs,qb,if_true,if_false,reduceIte]) |refine ah rfl (fun K hK=>?_) |refine ct rfl ?_ |((try simp(disch:=omega) only[go_sem,Nat.reduceBEq,reduceAdd]);(first |apply hK |(clear hK;apply hK) |(clear hK;clear hK;apply hK));clear hK;(try clear K);(try dsimp only[ag,qs,qb])))
  refine cg (fun x:Nat×List Nat×Nat=>⟨[(0,.v (.slice a xs.length c)),(1,.v (.int .u32 d)),(6,.s 0 0 xs.length xs.length),(7,.v (.int .u64 x.2.2)),(8,.v (.int .i64 ((x.1:Int) - 1)))],[uw x.2.1]⟩)
      (fun x h'=>Le h0 h'∧x.1≤xs.length∧x.2.1.length=xs.length∧(∀d∈x.2.1,d < 4294967296)∧x.2.2 < d∧val 4294967296 (xs.drop x.1)=d*val 4294967296 (x.2.1.drop x.1)+x.2.2) (fun x=>x.1) (xs.length,List.replicate xs.length 0,0) ?_ ⟨?_,by simp,by simp,gG (by decide),hd0,?_⟩ ?_
  · simp(disch:=omega) only[go_sem,Nat.reduceBEq,reduceAdd]
  · exact inferInstance
  · simp[val]
  · rintro⟨k,rs,r⟩ h1 ⟨hle,hk,hr,hlt,hrd,hi⟩
    dsimp only at hk hr hlt hrd hi ⊢
    by_cases hk0:k=0
    · subst hk0
      repeat (first |(refine rg rfl rfl (fun K hK=>?_);(repeat (first |(refine wo rfl (fun k hk=>?_);simp(disch:=omega) only[go_sem,Nat.reduceBEq,reduceAdd];apply hk;clear hk k) |refine wkt rfl ?_));(try refine wk0 ?_);apply hK;clear hK K;(try dsimp only[ag,qs,qb])) |((first |refine ae ?_ |refine ac ?_);simp(disch:=decide) only[qs,qb,if_true,if_false,reduceIte]) |refine ah rfl (fun K hK=>?_) |refine ct rfl ?_ |((first |refine hK _ _ ?_ |(clear hK;refine hK _ _ ?_) |(clear hK;clear hK;refine hK _ _ ?_));clear hK;(try clear K)))
      refine fk [.o 0,.p 0,.o 1,.o 2,.o 3,.o 4,.o 5] rfl rfl (fun K hK=>?_);(repeat (first |(refine wo rfl (fun k hk=>?_);simp(disch:=omega) only[go_sem,Nat.reduceBEq,reduceAdd];apply hk;clear hk k) |refine wkt rfl ?_));(try refine wk0 ?_)
      refine wkp ?_;simp(disch:=omega) only[go_sem,Nat.reduceBEq,reduceAdd];intro b h2 hs2 hb;(repeat (first |(refine wo rfl (fun k hk=>?_);simp(disch:=omega) only[go_sem,Nat.reduceBEq,reduceAdd];apply hk;clear hk k) |refine wkt rfl ?_));(try refine wk0 ?_)
      have hA:Arr h2 (some ⟨b,0,none⟩) xs.length rs:=.of_row (fun hne=>hb ((uw_ne _).1 hne)) hlt (by omega) (by omega)
      simp only[List.drop_zero] at hi
      rw[hm] at hi
      have e1:m / d=val 4294967296 rs:=by rw[hi,Nat.mul_add_div hd0,Nat.div_eq_of_lt hrd,Nat.add_zero]
      have e2:m % d=r:=by rw[hi,Nat.mul_add_mod,Nat.mod_eq_of_lt hrd]
      refine cN rfl rfl rfl rfl (by exact Of_L hA hr) ?_;rintro v h3 hs3 hv';(repeat (first |(refine wo rfl (fun k hk=>?_);simp(disch:=omega) only[go_sem,Nat.reduceBEq,reduceAdd];apply hk;clear hk k) |refine wkt rfl ?_));(try refine wk0 ?_)
      (try (simp(disch:=omega) only[go_sem,Nat.reduceBEq,reduceAdd]));apply hK;clear hK;(try clear K);(try dsimp only[ag,qs])
      refine ai ?_;simp(disch:=omega) only[go_sem,Nat.reduceBEq,reduceAdd]
      exact⟨v,by rw[e2],by rw[e1];exact hv'⟩
    · obtain⟨k,rfl⟩:∃j,k=j+1:=⟨k - 1,by omega⟩
      obtain⟨ad,rfl,hat⟩:=ha.rd h1 (i:=k) (by omega)
      have hx:=aM (by decide) ha.lt k
      have hor:=or_23 (y:=r) hx
      have hq:(r*4294967296+xs.getD k 0) / d < 4294967296:=by
        apply Nat.div_lt_of_lt_mul
        have:=Nat.mul_le_mul_right 4294967296 (show r+1≤d by omega)
        omega
      have hm':(r*4294967296+xs.getD k 0) % d < d:=Nat.mod_lt _ hd0
      have hs2:d*((r*4294967296+xs.getD k 0) / d)+(r*4294967296+xs.getD k 0) % d=r*4294967296+xs.getD k 0:=Nat.div_add_mod _ _
      obtain⟨q,hqe⟩:∃q,(r*4294967296+xs.getD k 0) / d=q:=⟨_,rfl⟩
      obtain⟨r',hre⟩:∃q,(r*4294967296+xs.getD k 0) % d=q:=⟨_,rfl⟩
      rw[hqe] at hq hs2
      rw[hre] at hm' hs2
      repeat (first |(refine wo rfl (fun k hk=>?_);simp(disch:=omega) only[go_sem,Nat.reduceBEq,reduceAdd,hat,hor,hqe,hre];apply hk;clear hk k) |refine wkt rfl ?_ |refine wk0 ?_ |refine rg rfl rfl (fun K hK=>?_) |((first |refine ae ?_ |refine ac ?_);simp(disch:=decide) only[qs,qb,if_true,if_false,reduceIte]) |refine ah rfl (fun K hK=>?_) |refine ct rfl ?_ |((try simp(disch:=omega) only[go_sem,Nat.reduceBEq,reduceAdd]);(first |apply hK |(clear hK;apply hK) |(clear hK;clear hK;apply hK));clear hK;(try clear K);(try dsimp only[ag,qs,qb])))
      refine⟨(k,rs.set k q,r'),?_,⟨hle,by dsimp only;omega,by simp[hr],d9 hlt hq,hm',?_⟩,by simp only;omega⟩
      · simp(disch:=omega) only[go_sem,Nat.reduceBEq,reduceAdd]
      · dsimp only
        rw[mJ (by omega),mJ (xs:=rs.set k q) (by simp[hr];omega),oe (by omega),List.drop_set_of_lt (by omega),val,val,hi]
        rw[Nat.mul_add d,Nat.mul_left_comm d,Nat.mul_add 4294967296]
        omega
set_option maxHeartbeats 4000000
theorem dig1 {P B lu ld u2 d1 d2 T U D g:Nat} (hlu:lu < P) (hu2:u2 < B) (hU:U=lu+P*(u2+B*T)) (hD:D=ld+P*(d2+B*d1)) (h:T < (g+1)*d1):U < (g+1)*D:=by
  have h1:P*(B*(T+1))≤P*(B*((g+1)*d1)):=Nat.mul_le_mul_left _ (Nat.mul_le_mul_left _ h)
  have h2:(g+1)*D=(g+1)*ld+P*((g+1)*d2)+P*(B*((g+1)*d1)):=by
    rw[hD];simp only[Nat.mul_add (g+1),Nat.mul_add P,Nat.mul_left_comm (g+1),Nat.add_assoc]
  have h3:P*u2+P≤P*B:=by have:=Nat.mul_le_mul_left P (show u2+1≤B by omega);rw[Nat.mul_add,Nat.mul_one] at this;exact this
  rw[hU,h2]
  simp only[Nat.mul_add,Nat.mul_one] at h1 ⊢
  omega
theorem dig2 {P B lu ld u2 d1 d2 T U D g r:Nat} (hlu:lu < P) (hU:U=lu+P*(u2+B*T)) (hD:D=ld+P*(d2+B*d1)) (hT:g*d1+r=T) (h:r*B+u2 < g*d2):U < g*D:=by
  have h1:P*(r*B+u2+1)≤P*(g*d2):=Nat.mul_le_mul_left _ h
  have h2:g*D=g*ld+P*(g*d2)+P*(B*(g*d1)):=by
    rw[hD];simp only[Nat.mul_add g,Nat.mul_add P,Nat.mul_left_comm g,Nat.add_assoc]
  rw[hU,h2,←hT]
  simp only[Nat.mul_add,Nat.mul_one,Nat.mul_comm r B] at h1 ⊢
  omega
theorem dig3 {P B lu ld u2 d1 d2 T U D g r:Nat} (hld:ld < P) (hd1:0 < d1) (hgB:g < B) (hU:U=lu+P*(u2+B*T)) (hD:D=ld+P*(d2+B*d1)) (hT:g*d1+r=T) (h:g*d2≤r*B+u2):g*D < U+D:=by
  have h1:P*(g*d2)≤P*(r*B+u2):=Nat.mul_le_mul_left _ h
  have h2:g*D=g*ld+P*(g*d2)+P*(B*(g*d1)):=by
    rw[hD];simp only[Nat.mul_add g,Nat.mul_add P,Nat.mul_left_comm g,Nat.add_assoc]
  have h3:g*ld≤g*P:=Nat.mul_le_mul_left _ (by omega)
  have h4:g*P+P≤P*B:=by have:=Nat.mul_le_mul_left P (show g+1≤B by omega);rw[Nat.mul_add,Nat.mul_one,Nat.mul_comm P g] at this;exact this
  have h5:P*B≤P*(B*d1):=Nat.mul_le_mul_left _ (Nat.le_mul_of_pos_right _ hd1)
  have h6:P*(d2+B*d1)=P*d2+P*(B*d1):=Nat.mul_add _ _ _
  rw[hU,h2,←hT]
  simp only[Nat.mul_add,Nat.mul_comm r B] at h1 ⊢
  omega
theorem dig0 {P B lu ld u2 u1 un d1 d2 U D:Nat} (hP:0 < P) (hld:ld < P) (hd2:d2 < B) (hU:U=lu+P*(u2+B*(un*B+u1))) (hD:D=ld+P*(d2+B*d1)) (h:U < B*D):un≤d1:=by
  rcases Nat.lt_or_ge d1 un with h' |h'
  · exfalso
    have h1:P*(B*((d1+1)*B))≤P*(B*(un*B)):=Nat.mul_le_mul_left _ (Nat.mul_le_mul_left _ (Nat.mul_le_mul_right _ h'))
    have h2:P*(d2+1)≤P*B:=Nat.mul_le_mul_left _ hd2
    have h3:D≤P*B+P*(B*d1):=by rw[hD];simp only[Nat.mul_add,Nat.mul_one] at h2 ⊢;omega
    have h4:=Nat.mul_le_mul_left B h3
    have h5:B*(P*B+P*(B*d1))=P*(B*((d1+1)*B)):=by
      simp only[Nat.mul_add,Nat.add_mul,Nat.one_mul,Nat.mul_one,Nat.mul_comm,Nat.mul_left_comm,Nat.mul_assoc]
      omega
    have h6:U≥P*(B*(un*B)):=by rw[hU];simp only[Nat.mul_add];omega
    omega
  · exact h'
theorem ms_step {P B X V Y u x lo hi' bw bw' cy gw:Nat} (h1:u+B*bw'=x+lo+bw) (h2:gw+cy=lo+B*hi') (hi:X+P*(cy+bw)=V+Y):X+P*u+P*B*(hi'+bw')=V+P*x+(Y+P*gw):=by
  have e1:=congrArg (P*·) h1
  have e2:=congrArg (P*·) h2
  simp only[Nat.mul_add,←Nat.mul_assoc] at e1 e2 hi ⊢
  omega
theorem iy {ws ws':List Nat} {i x:Nat} (h:ws'.drop i=ws.drop i):(ws'.set i x).drop (i+1)=ws.drop (i+1):=by
  rw[List.drop_set_of_lt (by omega),←List.drop_drop,←List.drop_drop,h]
theorem ju {ws ws':List Nat} {i j:Nat} (h:ws'.drop i=ws.drop i) (hj:i≤j):ws'.getD j 0=ws.getD j 0:=by
  have e:∀(l:List Nat),(l.drop i).getD (j - i) 0=l.getD j 0:=fun l=>by
    simp only[List.getD_eq_getElem?_getD,List.getElem?_drop];rw[show i+(j - i)=j by omega]
  rw[←e ws',←e ws,h]
theorem getD_app (pre ws:List Nat) (i:Nat):(pre ++ws).getD (pre.length+i) 0=ws.getD i 0:=by
  simp[List.getD_eq_getElem?_getD,List.getElem?_append_right]
theorem set_app (pre ws:List Nat) (i x:Nat):(pre ++ws).set (pre.length+i) x=pre ++ws.set i x:=by
  rw[List.set_append_right _ _ (by omega)];simp
theorem Hb:∀(l:List (List Value)),leB l l
  |[]=>trivial
  |_ :: l=>⟨.inr rfl,Hb l⟩
attribute [go_sem] getD_app set_app
@[go_sem] theorem leB_rflT (l:List (List Value)):leB l l=True:=eq_true (Hb l)
attribute [go_sem] List.length_append
theorem E5 {h0 h:PH} [Le h0 h] {a:Option Addr} {c cap:Nat} {ys pre ws:List Nat} (ha:Arr h0 a c ys) (hn:2≤ys.length) (hn':ys.length≤2^40) (htop:2147483648≤ys.getD (ys.length - 1) 0) (hlt:∀x∈ws,x < 4294967296) (hlen:ys.length+1≤ws.length)
    (hlen':pre.length+ws.length≤2^41) (hcap:ys.length+1≤cap) (hU:val 4294967296 (ws.take (ys.length+1)) < 4294967296*val 4294967296 ys):
    SpecL mach 237 [.s 0 pre.length (ys.length+1) cap,.v (.slice a ys.length c)] (uw (pre ++ws)) h
      (fun v row' _=>v=.int .u32 (val 4294967296 (ws.take (ys.length+1)) / val 4294967296 ys:Nat)∧∃ws',row'=uw (pre ++ws')∧ws'.length=ws.length∧(∀x∈ws',x < 4294967296)∧ws'.drop (ys.length+1)=ws.drop (ys.length+1)∧val 4294967296 (ws'.take (ys.length+1))=val 4294967296 (ws.take (ys.length+1)) % val 4294967296 ys):=by
  obtain⟨N,hN⟩:∃N,ys.length=N+2:=⟨ys.length - 2,by omega⟩
  obtain⟨ad,rfl,hd1⟩:=ha.rd h (i:=ys.length - 1) (by omega)
  obtain⟨ad',h',hd2⟩:=ha.rd h (i:=ys.length - 2) (by omega)
  obtain rfl:ad=ad':=by simpa using h'
  have hb1:=aM (by decide) ha.lt (ys.length - 1)
  have hb2:=aM (by decide) ha.lt (ys.length - 2)
  have hw0:=aM (by decide) hlt ys.length
  have hw1:=aM (by decide) hlt (ys.length - 1)
  have hw2:=aM (by decide) hlt (ys.length - 2)
  have hor:=or_23 (y:=ws.getD ys.length 0) hw1
  have hpl:(pre ++ws).length=pre.length+ws.length:=List.length_append
  refine SpecL.enter (n:=175) Tryz.func237 rfl (by kernel_rfl) rfl (by simp) (by simp(disch:=omega) only[go_sem,Nat.reduceBEq,reduceAdd]) [.tmp 4] rfl (fun C rest hC=>?_)
  obtain⟨T,hT⟩:∃T,ws.getD ys.length 0*4294967296+ws.getD (ys.length - 1) 0=T:=⟨_,rfl⟩
  obtain⟨g0,hg0⟩:∃g,T / ys.getD (ys.length - 1) 0=g:=⟨_,rfl⟩
  obtain⟨r0,hr0⟩:∃r,T % ys.getD (ys.length - 1) 0=r:=⟨_,rfl⟩
  have hd1':=hd1
  have hd2':=hd2
  obtain⟨U,hUe⟩:∃U,val 4294967296 (ws.take (ys.length+1))=U:=⟨_,rfl⟩
  obtain⟨D,hDe⟩:∃D,val 4294967296 ys=D:=⟨_,rfl⟩
  obtain⟨d1,hd1e⟩:∃d,ys.getD (ys.length - 1) 0=d:=⟨_,rfl⟩
  obtain⟨d2,hd2e⟩:∃d,ys.getD (ys.length - 2) 0=d:=⟨_,rfl⟩
  obtain⟨u2,hu2e⟩:∃d,ws.getD (ys.length - 2) 0=d:=⟨_,rfl⟩
  obtain⟨P,hP⟩:∃P,4294967296^N=P:=⟨_,rfl⟩
  have hP0:0 < P:=by rw[←hP];exact Nat.pow_pos (by decide)
  have hlu:val 4294967296 (ws.take N) < P:=by
    have:=iU (B:=4294967296) (by decide) (ws.take N) (fun x hx=>hlt x (List.mem_of_mem_take hx))
    rwa[List.length_take,Nat.min_eq_left (by omega),hP] at this
  have hld:val 4294967296 (ys.take N) < P:=by
    have:=iU (B:=4294967296) (by decide) (ys.take N) (fun x hx=>ha.lt x (List.mem_of_mem_take hx))
    rwa[List.length_take,Nat.min_eq_left (by omega),hP] at this
  have eU:U=val 4294967296 (ws.take N)+P*(u2+4294967296*T):=by
    rw[←hUe,hN,aq,aq,aq]
    simp only[Nat.pow_succ,hP]
    rw[←hT,←hu2e,hN,show N+2 - 1=N+1 by omega,show N+2 - 2=N by omega]
    simp only[Nat.mul_add,Nat.mul_assoc,Nat.mul_comm (ws.getD (N+2) 0)]
    omega
  have eD:D=val 4294967296 (ys.take N)+P*(d2+4294967296*d1):=by
    rw[←hDe,←hd1e,←hd2e,hN,show N+2 - 1=N+1 by omega,show N+2 - 2=N by omega]
    conv=>lhs;rw[←List.take_of_length_le (i:=N+2) (l:=ys) (by omega)]
    rw[aq,aq,Nat.pow_succ,hP]
    simp only[Nat.mul_add,Nat.mul_assoc]
    omega
  rw[hUe,hDe] at hU
  rw[hd1e] at htop hd1 hb1 hg0 hr0
  rw[hd2e] at hd2 hb2
  rw[hu2e] at hw2
  have hun:ws.getD ys.length 0≤d1:=dig0 hP0 hld hb2 (by rw[←hT] at eU;exact eU) eD hU
  have hTb:T≤d1*4294967296+4294967295:=by rw[←hT];omega
  have hor':∀r,r*4294967296 ||| u2=r*4294967296+u2:=fun r=>or_23 hw2
  rw[hUe,hDe]
  have hdm:T=d1*g0+r0:=by rw[←hg0,←hr0];exact(Nat.div_add_mod _ _).symm
  have hr0l:r0 < d1:=by rw[←hr0];exact Nat.mod_lt _ (by omega)
  have hst:U < (g0+1)*D:=dig1 hlu hw2 eU eD (by rw[Nat.add_mul,Nat.one_mul,Nat.mul_comm];omega)
  have hd0:0 < d1:=by omega
  have hg0b:g0 < 4294967298:=by rw[←hg0];exact Nat.div_lt_of_lt_mul (by omega)
  repeat (first |((first |refine rg rfl rfl (fun K hK=>?_) |refine rd [.o 0,.o 1,.o 2,.o 3,.o 4,.o 5,.o 6,.o 7,.o 8,.o 9,.o 10,.o 11,.o 12,.o 13] rfl (by decide+kernel) rfl (fun K hK=>?_) |refine rd [.o 0,.o 1,.o 2,.o 3,.o 4,.o 5,.o 6,.o 7,.o 8,.o 9,.o 10,.o 11,.o 12,.o 13,.o 14,.o 15,.o 16,.o 17] rfl (by decide+kernel) rfl (fun K hK=>?_) |refine rd [.o 0,.o 1,.o 2,.o 3,.o 4,.o 5,.o 6,.o 7,.o 8,.o 9,.o 10,.o 11,.o 12,.o 13,.o 14,.o 15,.o 16,.o 17,.o 18,.o 19,.o 20,.o 21,.o 22] rfl (by decide+kernel) rfl (fun K hK=>?_));(repeat (first |(refine wo rfl (fun k hk=>?_);simp(disch:=omega) only[go_sem,Nat.reduceBEq,reduceAdd,hd1,hor,hT,hg0,hr0];apply hk;clear hk k) |refine wkt rfl ?_));(try refine wk0 ?_);apply hK;clear hK K;(try dsimp only[ag,qs,qb])) |((first |refine ae ?_ |refine ac ?_);simp(disch:=decide) only[qs,qb,if_true,if_false,reduceIte]) |refine ah rfl (fun K hK=>?_) |refine ct rfl ?_ |((first |refine hK _ _ ?_ |(clear hK;refine hK _ _ ?_) |(clear hK;clear hK;refine hK _ _ ?_));clear hK;(try clear K)))
  have rest1:∀(g:Nat) (S:AS),S.le ⟨[(0,.s 0 pre.length (ys.length+1) cap),(1,.v (.slice (some ad) ys.length c)),(5,.v (.int .i64 ys.length)),(7,.v (.int .u64 g))],uw (pre ++ws) :: rest⟩→g < 4294967296→g*D < U+D→U < (g+1)*D→K S h:=by
    intro g S hS hg hgD hUg
    refine hK _ _ (Gg _ (by simp[hC]) hS ?_)
    clear hK hS
    repeat (first |(refine wo rfl (fun k hk=>?_);simp(disch:=omega) only[go_sem,Nat.reduceBEq,reduceAdd];apply hk;clear hk k) |refine wkt rfl ?_ |refine wk0 ?_ |refine rg rfl rfl (fun K hK=>?_) |refine rd [.o 0,.o 1,.o 2,.o 3,.o 4,.o 5,.o 6,.o 7,.o 8,.o 9,.o 10,.o 11,.o 12,.o 13] rfl (by decide+kernel) rfl (fun K hK=>?_) |refine rd [.o 0,.o 1,.o 2,.o 3,.o 4,.o 5,.o 6,.o 7,.o 8,.o 9,.o 10,.o 11,.o 12,.o 13,.o 14,.o 15,.o 16,.o 17] rfl (by decide+kernel) rfl (fun K hK=>?_) |refine rd [.o 0,.o 1,.o 2,.o 3,.o 4,.o 5,.o 6,.o 7,.o 8,.o 9,.o 10,.o 11,.o 12,.o 13,.o 14,.o 15,.o 16,.o 17,.o 18,.o 19,.o 20,.o 21,.o 22] rfl (by decide+kernel) rfl (fun K hK=>?_) |((first |refine ae ?_ |refine ac ?_);simp(disch:=decide) only[qs,qb,if_true,if_false,reduceIte]) |refine ah rfl (fun K hK=>?_) |refine ct rfl ?_ |((try simp(disch:=omega) only[go_sem,Nat.reduceBEq,reduceAdd]);(first |apply hK |(clear hK;apply hK) |(clear hK;clear hK;apply hK));clear hK;(try clear K);(try dsimp only[ag,qs,qb])))
    refine mF (fun x:Nat×List Nat×Nat×Nat=>⟨[(0,.s 0 pre.length (ys.length+1) cap),(1,.v (.slice (some ad) ys.length c)),(5,.v (.int .i64 ys.length)),(7,.v (.int .u64 g)),(9,.v (.int .u64 x.2.2.1)),(10,.v (.int .u64 x.2.2.2)),(86,.v (.slice (some ad) ys.length c)),(87,.v (.int .i64 ys.length)),(88,.v (.int .i64 x.1))],uw (pre ++x.2.1) :: rest⟩)
      (fun x h'=>h'=h∧x.1≤ys.length∧x.2.1.length=ws.length∧(∀d∈x.2.1,d < 4294967296)∧x.2.1.drop x.1=ws.drop x.1∧x.2.2.1≤1∧x.2.2.2 < 4294967296∧val 4294967296 (ws.take x.1)+4294967296^x.1*(x.2.2.2+x.2.2.1)=val 4294967296 (x.2.1.take x.1)+g*val 4294967296 (ys.take x.1)) (fun x=>ys.length - x.1) (0,ws,0,0) (fun _=>by simp[hC]) ?_ ⟨rfl,by simp,rfl,hlt,rfl,by simp,by simp,by simp[val]⟩ ?_
    · simp(disch:=omega) only[go_sem,Nat.reduceBEq,reduceAdd]
    · rintro⟨i,ws',bw,cy⟩ h1 ⟨rfl,hi,hl',hlt',hdr,hbw,hcy,hinv⟩
      dsimp only at hi hl' hlt' hdr hbw hcy hinv ⊢
      have hpl':(pre ++ws').length=pre.length+ws.length:=by rw[List.length_append,hl']
      by_cases hin:i < ys.length
      · obtain⟨ad',h',hat⟩:=ha.rd h1 (i:=i) (by omega)
        obtain rfl:ad=ad':=by simpa using h'
        have hw:=aM (by decide) ha.lt i
        have hgw:g*ys.getD i 0≤4294967295*4294967295:=Nat.mul_le_mul (by omega) (by omega)
        have hu:ws'.getD i 0=ws.getD i 0:=ju hdr (Nat.le_refl _)
        have hub:=aM (by decide) hlt' i
        obtain⟨s,hs⟩:∃s,g*ys.getD i 0+cy=s:=⟨_,rfl⟩
        have hsb:s≤18446744069414584320:=by omega
        repeat (first |(refine wo rfl (fun k hk=>?_);simp(disch:=omega) only[go_sem,Nat.reduceBEq,reduceAdd,hat,hs];apply hk;clear hk k) |refine wkt rfl ?_ |refine wk0 ?_ |refine rg rfl rfl (fun K hK=>?_) |refine rd [.o 0,.o 1,.o 2,.o 3,.o 4,.o 5,.o 6,.o 7,.o 8,.o 9,.o 10,.o 11,.o 12,.o 13] rfl (by decide+kernel) rfl (fun K hK=>?_) |refine rd [.o 0,.o 1,.o 2,.o 3,.o 4,.o 5,.o 6,.o 7,.o 8,.o 9,.o 10,.o 11,.o 12,.o 13,.o 14,.o 15,.o 16,.o 17] rfl (by decide+kernel) rfl (fun K hK=>?_) |refine rd [.o 0,.o 1,.o 2,.o 3,.o 4,.o 5,.o 6,.o 7,.o 8,.o 9,.o 10,.o 11,.o 12,.o 13,.o 14,.o 15,.o 16,.o 17,.o 18,.o 19,.o 20,.o 21,.o 22] rfl (by decide+kernel) rfl (fun K hK=>?_) |((first |refine ae ?_ |refine ac ?_);simp(disch:=decide) only[qs,qb,if_true,if_false,reduceIte]) |refine ah rfl (fun K hK=>?_) |refine ct rfl ?_ |((try simp(disch:=omega) only[go_sem,Nat.reduceBEq,reduceAdd]);(first |apply hK |(clear hK;apply hK) |(clear hK;clear hK;apply hK));clear hK;(try clear K);(try dsimp only[ag,qs,qb])))
        refine⟨(i+1,ws'.set i (((ws'.getD i 0+18446744073709551616 - s % 4294967296) % 18446744073709551616+18446744073709551616 - bw) % 18446744073709551616 % 4294967296),((ws'.getD i 0+18446744073709551616 - s % 4294967296) % 18446744073709551616+18446744073709551616 - bw) % 18446744073709551616 / 9223372036854775808,s / 4294967296),?_,⟨by trivial,by dsimp only;omega,by simp[hl'],d9 hlt' (Nat.mod_lt _ (by decide)),iy hdr,by dsimp only;omega,by dsimp only;omega,?_⟩,by dsimp only;omega⟩
        · simp(disch:=omega) only[go_sem,Nat.reduceBEq,reduceAdd]
        · dsimp only
          rw[bO (by omega),aq _ ws,aq _ ys,Nat.pow_succ,←hu,Nat.mul_add g,Nat.mul_left_comm g]
          exact ms_step (lo:=s % 4294967296) (by omega) (by rw[hs];exact(Nat.mod_add_div _ _).symm) hinv
      · obtain rfl:i=ys.length:=by omega
        have hu:ws'.getD ys.length 0=ws.getD ys.length 0:=ju hdr (Nat.le_refl _)
        have hub:=aM (by decide) hlt' ys.length
        rw[List.take_of_length_le (Nat.le_refl ys.length),hDe] at hinv
        have hUn:U=val 4294967296 (ws.take ys.length)+4294967296^ys.length*ws.getD ys.length 0:=by rw[←hUe,aq]
        by_cases hc:cy+bw≤ws'.getD ys.length 0
        · have hm:=Nat.mul_le_mul_left (4294967296^ys.length) hc
          have hms:4294967296^ys.length*(ws'.getD ys.length 0 - (cy+bw))=4294967296^ys.length*ws'.getD ys.length 0 - 4294967296^ys.length*(cy+bw):=Nat.mul_sub _ _ _
          rw[←hu] at hUn
          have hle:g*D≤U:=by omega
          have e1:U / D=g:=Nat.div_eq_of_lt_le hle hUg
          have e2:U % D=U - g*D:=by have:=Nat.div_add_mod U D;rw[e1,Nat.mul_comm] at this;omega
          repeat (first |(refine wo rfl (fun k hk=>?_);simp(disch:=omega) only[go_sem,Nat.reduceBEq,reduceAdd];apply hk;clear hk k) |refine wkt rfl ?_ |refine wk0 ?_ |refine rg rfl rfl (fun K hK=>?_) |refine rd [.o 0,.o 1,.o 2,.o 3,.o 4,.o 5,.o 6,.o 7,.o 8,.o 9,.o 10,.o 11,.o 12,.o 13] rfl (by decide+kernel) rfl (fun K hK=>?_) |refine rd [.o 0,.o 1,.o 2,.o 3,.o 4,.o 5,.o 6,.o 7,.o 8,.o 9,.o 10,.o 11,.o 12,.o 13,.o 14,.o 15,.o 16,.o 17] rfl (by decide+kernel) rfl (fun K hK=>?_) |refine rd [.o 0,.o 1,.o 2,.o 3,.o 4,.o 5,.o 6,.o 7,.o 8,.o 9,.o 10,.o 11,.o 12,.o 13,.o 14,.o 15,.o 16,.o 17,.o 18,.o 19,.o 20,.o 21,.o 22] rfl (by decide+kernel) rfl (fun K hK=>?_) |((first |refine ae ?_ |refine ac ?_);simp(disch:=decide) only[qs,qb,if_true,if_false,reduceIte]) |refine ah rfl (fun K hK=>?_) |refine ct rfl ?_ |((try simp(disch:=omega) only[go_sem,Nat.reduceBEq,reduceAdd]);(first |apply hK |(clear hK;apply hK) |(clear hK;clear hK;apply hK));clear hK;(try clear K);(try dsimp only[ag,qs,qb])))
          refine ai ?_;simp(disch:=omega) only[go_sem,Nat.reduceBEq,reduceAdd]
          refine⟨by rw[e1],_,rfl,by simp[hl'],d9 hlt' (by omega),iy hdr,?_⟩
          rw[bO (by omega),e2,Nat.sub_sub,hms]
          omega
        · have hPn:0 < 4294967296^ys.length:=Nat.pow_pos (by decide)
          have hVl:val 4294967296 (ws'.take ys.length) < 4294967296^ys.length:=by
            have:=iU (B:=4294967296) (by decide) (ws'.take ys.length) (fun x hx=>hlt' x (List.mem_of_mem_take hx))
            rwa[List.length_take,Nat.min_eq_left (by omega)] at this
          have hDl:D < 4294967296^ys.length:=by rw[←hDe];exact iU (by decide) ys ha.lt
          rw[←hu] at hUn
          have hx1:cy+bw=ws'.getD ys.length 0+1:=by
            rcases Nat.lt_or_ge (ws'.getD ys.length 0+1) (cy+bw) with h' |h'
            · have:=Nat.mul_le_mul_left (4294967296^ys.length) (show ws'.getD ys.length 0+2≤cy+bw by omega)
              rw[Nat.mul_add] at this
              omega
            · omega
          rw[hx1,Nat.mul_add,Nat.mul_one] at hinv
          have hg1:1≤g:=by
            rcases g with _ |g
            · simp at hinv;omega
            · omega
          have hgs:(g - 1)*D=g*D - D:=by rw[Nat.sub_mul,Nat.one_mul]
          have hgl:D≤g*D:=Nat.le_mul_of_pos_left _ hg1
          have e1:U / D=g - 1:=Nat.div_eq_of_lt_le (by omega) (by rw[show g - 1+1=g by omega];omega)
          have e2:U % D=U+D - g*D:=by have:=Nat.div_add_mod U D;rw[e1,Nat.mul_comm,hgs] at this;omega
          obtain⟨t,ht⟩:∃t,((ws'.getD ys.length 0+18446744073709551616 - cy) % 18446744073709551616+18446744073709551616 - bw) % 18446744073709551616 % 4294967296=t:=⟨_,rfl⟩
          have htv:t=4294967295:=by omega
          repeat (first |(refine wo rfl (fun k hk=>?_);simp(disch:=omega) only[go_sem,Nat.reduceBEq,reduceAdd,ht];apply hk;clear hk k) |refine wkt rfl ?_ |refine wk0 ?_ |refine rg rfl rfl (fun K hK=>?_) |refine rd [.o 0,.o 1,.o 2,.o 3,.o 4,.o 5,.o 6,.o 7,.o 8,.o 9,.o 10,.o 11,.o 12,.o 13] rfl (by decide+kernel) rfl (fun K hK=>?_) |refine rd [.o 0,.o 1,.o 2,.o 3,.o 4,.o 5,.o 6,.o 7,.o 8,.o 9,.o 10,.o 11,.o 12,.o 13,.o 14,.o 15,.o 16,.o 17] rfl (by decide+kernel) rfl (fun K hK=>?_) |refine rd [.o 0,.o 1,.o 2,.o 3,.o 4,.o 5,.o 6,.o 7,.o 8,.o 9,.o 10,.o 11,.o 12,.o 13,.o 14,.o 15,.o 16,.o 17,.o 18,.o 19,.o 20,.o 21,.o 22] rfl (by decide+kernel) rfl (fun K hK=>?_) |((first |refine ae ?_ |refine ac ?_);simp(disch:=decide) only[qs,qb,if_true,if_false,reduceIte]) |refine ah rfl (fun K hK=>?_) |refine ct rfl ?_ |((try simp(disch:=omega) only[go_sem,Nat.reduceBEq,reduceAdd]);(first |apply hK |(clear hK;apply hK) |(clear hK;clear hK;apply hK));clear hK;(try clear K);(try dsimp only[ag,qs,qb])))
          refine mF (fun x:Nat×List Nat×Nat=>⟨[(0,.s 0 pre.length (ys.length+1) cap),(1,.v (.slice (some ad) ys.length c)),(5,.v (.int .i64 ys.length)),(7,.v (.int .u64 g)),(10,.v (.int .u64 x.2.2)),(139,.v (.slice (some ad) ys.length c)),(140,.v (.int .i64 ys.length)),(141,.v (.int .i64 x.1))],uw (pre ++x.2.1) :: rest⟩)
            (fun x h'=>h'=h1∧x.1≤ys.length∧x.2.1.length=ws.length∧(∀d∈x.2.1,d < 4294967296)∧x.2.1.drop x.1=(ws'.set ys.length t).drop x.1∧x.2.2≤1∧val 4294967296 (x.2.1.take x.1)+4294967296^x.1*x.2.2=val 4294967296 ((ws'.set ys.length t).take x.1)+val 4294967296 (ys.take x.1)) (fun x=>ys.length - x.1) (0,ws'.set ys.length t,0) (fun _=>by simp[hC]) ?_ ⟨rfl,by simp,by simp[hl'],d9 hlt' (by omega),rfl,by simp,by simp[val]⟩ ?_
          · simp(disch:=omega) only[go_sem,Nat.reduceBEq,reduceAdd]
          · rintro⟨i,rs,c3⟩ h2 ⟨rfl,hi,hl3,hlt3,hdr3,hc3,hinv3⟩
            dsimp only at hi hl3 hlt3 hdr3 hc3 hinv3 ⊢
            have hpl3:(pre ++rs).length=pre.length+ws.length:=by rw[List.length_append,hl3]
            by_cases hin:i < ys.length
            · obtain⟨ad',h',hat⟩:=ha.rd h2 (i:=i) (by omega)
              obtain rfl:ad=ad':=by simpa using h'
              have hw:=aM (by decide) ha.lt i
              have hub3:=aM (by decide) hlt3 i
              have hu3:rs.getD i 0=(ws'.set ys.length t).getD i 0:=ju hdr3 (Nat.le_refl _)
              repeat (first |(refine wo rfl (fun k hk=>?_);simp(disch:=omega) only[go_sem,Nat.reduceBEq,reduceAdd,hat];apply hk;clear hk k) |refine wkt rfl ?_ |refine wk0 ?_ |refine rg rfl rfl (fun K hK=>?_) |refine rd [.o 0,.o 1,.o 2,.o 3,.o 4,.o 5,.o 6,.o 7,.o 8,.o 9,.o 10,.o 11,.o 12,.o 13] rfl (by decide+kernel) rfl (fun K hK=>?_) |refine rd [.o 0,.o 1,.o 2,.o 3,.o 4,.o 5,.o 6,.o 7,.o 8,.o 9,.o 10,.o 11,.o 12,.o 13,.o 14,.o 15,.o 16,.o 17] rfl (by decide+kernel) rfl (fun K hK=>?_) |refine rd [.o 0,.o 1,.o 2,.o 3,.o 4,.o 5,.o 6,.o 7,.o 8,.o 9,.o 10,.o 11,.o 12,.o 13,.o 14,.o 15,.o 16,.o 17,.o 18,.o 19,.o 20,.o 21,.o 22] rfl (by decide+kernel) rfl (fun K hK=>?_) |((first |refine ae ?_ |refine ac ?_);simp(disch:=decide) only[qs,qb,if_true,if_false,reduceIte]) |refine ah rfl (fun K hK=>?_) |refine ct rfl ?_ |((try simp(disch:=omega) only[go_sem,Nat.reduceBEq,reduceAdd]);(first |apply hK |(clear hK;apply hK) |(clear hK;clear hK;apply hK));clear hK;(try clear K);(try dsimp only[ag,qs,qb])))
              refine⟨(i+1,rs.set i ((rs.getD i 0+ys.getD i 0+c3) % 4294967296),(rs.getD i 0+ys.getD i 0+c3) / 4294967296),?_,⟨by trivial,by dsimp only;omega,by simp[hl3],d9 hlt3 (Nat.mod_lt _ (by decide)),iy hdr3,by dsimp only;omega,?_⟩,by dsimp only;omega⟩
              · simp(disch:=omega) only[go_sem,Nat.reduceBEq,reduceAdd]
              · dsimp only
                rw[bO (by omega),aq _ (ws'.set ys.length t),aq _ ys,Nat.pow_succ,←hu3]
                exact pS (by omega) hinv3
            · obtain rfl:i=ys.length:=by omega
              have hu3:rs.getD ys.length 0=t:=by rw[ju hdr3 (Nat.le_refl _),oe (by omega)]
              rw[List.take_of_length_le (Nat.le_refl ys.length),hDe,List.take_set_of_le (Nat.le_refl _)] at hinv3
              have hVl3:val 4294967296 (rs.take ys.length) < 4294967296^ys.length:=by
                have:=iU (B:=4294967296) (by decide) (rs.take ys.length) (fun x hx=>hlt3 x (List.mem_of_mem_take hx))
                rwa[List.length_take,Nat.min_eq_left (by omega)] at this
              have hc1:c3=1:=by
                rcases Nat.lt_or_ge c3 1 with h' |h'
                · exfalso
                  obtain rfl:c3=0:=by omega
                  omega
                · omega
              subst hc1
              subst htv
              repeat (first |(refine wo rfl (fun k hk=>?_);simp(disch:=omega) only[go_sem,Nat.reduceBEq,reduceAdd,hu3];apply hk;clear hk k) |refine wkt rfl ?_ |refine wk0 ?_ |refine rg rfl rfl (fun K hK=>?_) |refine rd [.o 0,.o 1,.o 2,.o 3,.o 4,.o 5,.o 6,.o 7,.o 8,.o 9,.o 10,.o 11,.o 12,.o 13] rfl (by decide+kernel) rfl (fun K hK=>?_) |refine rd [.o 0,.o 1,.o 2,.o 3,.o 4,.o 5,.o 6,.o 7,.o 8,.o 9,.o 10,.o 11,.o 12,.o 13,.o 14,.o 15,.o 16,.o 17] rfl (by decide+kernel) rfl (fun K hK=>?_) |refine rd [.o 0,.o 1,.o 2,.o 3,.o 4,.o 5,.o 6,.o 7,.o 8,.o 9,.o 10,.o 11,.o 12,.o 13,.o 14,.o 15,.o 16,.o 17,.o 18,.o 19,.o 20,.o 21,.o 22] rfl (by decide+kernel) rfl (fun K hK=>?_) |((first |refine ae ?_ |refine ac ?_);simp(disch:=decide) only[qs,qb,if_true,if_false,reduceIte]) |refine ah rfl (fun K hK=>?_) |refine ct rfl ?_ |((try simp(disch:=omega) only[go_sem,Nat.reduceBEq,reduceAdd]);(first |apply hK |(clear hK;apply hK) |(clear hK;clear hK;apply hK));clear hK;(try clear K);(try dsimp only[ag,qs,qb])))
              refine ai ?_;simp(disch:=omega) only[go_sem,Nat.reduceBEq,reduceAdd]
              refine⟨by rw[e1],_,rfl,by simp[hl3],d9 hlt3 (by decide),?_,?_⟩
              · rw[iy hdr3];exact iy hdr
              · rw[bO (by omega),e2];omega
  clear hK
  refine mF (fun x:Nat×Nat=>⟨[(0,.s 0 pre.length (ys.length+1) cap),(1,.v (.slice (some ad) ys.length c)),(5,.v (.int .i64 ys.length)),(7,.v (.int .u64 x.1)),(8,.v (.int .u64 x.2))],uw (pre ++ws) :: rest⟩)
    (fun x h'=>h'=h∧x.1*d1+x.2=T∧U < (x.1+1)*D∧x.2 < 4294967296) (fun x=>x.1) (g0,r0) (fun _=>by simp[hC]) ?_ ⟨rfl,by rw[hdm,Nat.mul_comm],hst,by dsimp only;omega⟩ ?_
  · simp(disch:=omega) only[go_sem,Nat.reduceBEq,reduceAdd]
  · rintro⟨g,r⟩ h1 ⟨rfl,hgr,hUg,hr⟩
    dsimp only at hgr hUg hr ⊢
    have hgb:g < 4294967298:=by
      rcases Nat.lt_or_ge g 4294967298 with h' |h'
      · exact h'
      · have:=Nat.mul_le_mul_right d1 h';omega
    have hpp:¬(g < 4294967296∧g*d2≤r*4294967296+u2)→U < g*D:=by
      intro hh
      by_cases hg:g < 4294967296
      · exact dig2 hlu eU eD hgr (by omega)
      · exact Nat.lt_of_lt_of_le hU (Nat.mul_le_mul_right _ (by omega))
    have brk:∀(g':Nat),g=g'+1→U < g*D→4294967296≤r+d1→g' < 4294967296∧g'*D < U+D∧U < (g'+1)*D:=by
      rintro g' rfl hlt' hbr
      have e:g'*d1+(r+d1)=T:=by rw[←hgr,Nat.add_mul,Nat.one_mul];omega
      have hg':g' < 4294967296:=by
        rcases Nat.lt_or_ge g' 4294967296 with h' |h'
        · exact h'
        · have:=Nat.mul_le_mul_right d1 h';omega
      refine⟨hg',dig3 hld hd0 hg' eU eD e ?_,hlt'⟩
      have:g'*d2≤4294967295*4294967295:=Nat.mul_le_mul (by omega) (by omega)
      have:=Nat.mul_le_mul_right 4294967296 hbr
      omega
    by_cases hg:g < 4294967296
    · have hgd:g*d2≤4294967295*4294967295:=Nat.mul_le_mul (by omega) (by omega)
      by_cases ht:g*d2≤r*4294967296+u2
      · have hf:=dig3 hld hd0 hg eU eD hgr ht
        repeat (first |((first |refine rg rfl rfl (fun K hK=>?_) |refine rd [.o 0,.o 1,.o 2,.o 3,.o 4,.o 5,.o 6,.o 7,.o 8,.o 9,.o 10,.o 11,.o 12,.o 13] rfl (by decide+kernel) rfl (fun K hK=>?_) |refine rd [.o 0,.o 1,.o 2,.o 3,.o 4,.o 5,.o 6,.o 7,.o 8,.o 9,.o 10,.o 11,.o 12,.o 13,.o 14,.o 15,.o 16,.o 17] rfl (by decide+kernel) rfl (fun K hK=>?_) |refine rd [.o 0,.o 1,.o 2,.o 3,.o 4,.o 5,.o 6,.o 7,.o 8,.o 9,.o 10,.o 11,.o 12,.o 13,.o 14,.o 15,.o 16,.o 17,.o 18,.o 19,.o 20,.o 21,.o 22] rfl (by decide+kernel) rfl (fun K hK=>?_));(repeat (first |(refine wo rfl (fun k hk=>?_);simp(disch:=omega) only[go_sem,Nat.reduceBEq,reduceAdd,hd2,hor',hu2e];apply hk;clear hk k) |refine wkt rfl ?_));(try refine wk0 ?_);apply hK;clear hK K;(try dsimp only[ag,qs,qb])) |((first |refine ae ?_ |refine ac ?_);simp(disch:=decide) only[qs,qb,if_true,if_false,reduceIte]) |refine ah rfl (fun K hK=>?_) |refine ct rfl ?_ |((first |refine hK _ _ ?_ |(clear hK;refine hK _ _ ?_) |(clear hK;clear hK;refine hK _ _ ?_));clear hK;(try clear K)))
        refine rest1 g _ ?_ hg hf hUg
        simp(disch:=omega) only[go_sem,Nat.reduceBEq,reduceAdd]
      · have hlt':=hpp (fun hh=>ht hh.2)
        obtain ⟨g, rfl⟩ : ∃ g', g = g' + 1 := ⟨g - 1, by rcases g with _ |g;· simp at hlt'
                                                         · omega⟩
        by_cases hbr:4294967296≤r+d1
        · obtain⟨hb1',hb2',hb3'⟩:=brk g rfl hlt' hbr
          repeat (first |((first |refine rg rfl rfl (fun K hK=>?_) |refine rd [.o 0,.o 1,.o 2,.o 3,.o 4,.o 5,.o 6,.o 7,.o 8,.o 9,.o 10,.o 11,.o 12,.o 13] rfl (by decide+kernel) rfl (fun K hK=>?_) |refine rd [.o 0,.o 1,.o 2,.o 3,.o 4,.o 5,.o 6,.o 7,.o 8,.o 9,.o 10,.o 11,.o 12,.o 13,.o 14,.o 15,.o 16,.o 17] rfl (by decide+kernel) rfl (fun K hK=>?_) |refine rd [.o 0,.o 1,.o 2,.o 3,.o 4,.o 5,.o 6,.o 7,.o 8,.o 9,.o 10,.o 11,.o 12,.o 13,.o 14,.o 15,.o 16,.o 17,.o 18,.o 19,.o 20,.o 21,.o 22] rfl (by decide+kernel) rfl (fun K hK=>?_));(repeat (first |(refine wo rfl (fun k hk=>?_);simp(disch:=omega) only[go_sem,Nat.reduceBEq,reduceAdd,hd1,hd2,hor',hu2e];apply hk;clear hk k) |refine wkt rfl ?_));(try refine wk0 ?_);apply hK;clear hK K;(try dsimp only[ag,qs,qb])) |((first |refine ae ?_ |refine ac ?_);simp(disch:=decide) only[qs,qb,if_true,if_false,reduceIte]) |refine ah rfl (fun K hK=>?_) |refine ct rfl ?_ |((first |refine hK _ _ ?_ |(clear hK;refine hK _ _ ?_) |(clear hK;clear hK;refine hK _ _ ?_));clear hK;(try clear K)))
          refine rest1 g _ ?_ hb1' hb2' hb3'
          simp(disch:=omega) only[go_sem,Nat.reduceBEq,reduceAdd]
        · have e:g*d1+(r+d1)=T:=by rw[←hgr,Nat.add_mul,Nat.one_mul];omega
          repeat (first |(refine wo rfl (fun k hk=>?_);simp(disch:=omega) only[go_sem,Nat.reduceBEq,reduceAdd,hd1,hd2,hor',hu2e];apply hk;clear hk k) |refine wkt rfl ?_ |refine wk0 ?_ |refine rg rfl rfl (fun K hK=>?_) |refine rd [.o 0,.o 1,.o 2,.o 3,.o 4,.o 5,.o 6,.o 7,.o 8,.o 9,.o 10,.o 11,.o 12,.o 13] rfl (by decide+kernel) rfl (fun K hK=>?_) |refine rd [.o 0,.o 1,.o 2,.o 3,.o 4,.o 5,.o 6,.o 7,.o 8,.o 9,.o 10,.o 11,.o 12,.o 13,.o 14,.o 15,.o 16,.o 17] rfl (by decide+kernel) rfl (fun K hK=>?_) |refine rd [.o 0,.o 1,.o 2,.o 3,.o 4,.o 5,.o 6,.o 7,.o 8,.o 9,.o 10,.o 11,.o 12,.o 13,.o 14,.o 15,.o 16,.o 17,.o 18,.o 19,.o 20,.o 21,.o 22] rfl (by decide+kernel) rfl (fun K hK=>?_) |((first |refine ae ?_ |refine ac ?_);simp(disch:=decide) only[qs,qb,if_true,if_false,reduceIte]) |refine ah rfl (fun K hK=>?_) |refine ct rfl ?_ |((try simp(disch:=omega) only[go_sem,Nat.reduceBEq,reduceAdd]);(first |apply hK |(clear hK;apply hK) |(clear hK;clear hK;apply hK));clear hK;(try clear K);(try dsimp only[ag,qs,qb])))
          refine⟨(g,r+d1),?_,⟨by trivial,e,hlt',by dsimp only;omega⟩,by dsimp only;omega⟩
          simp(disch:=omega) only[go_sem,Nat.reduceBEq,reduceAdd]
    · have hlt':=hpp (fun hh=>hg hh.1)
      obtain⟨g,rfl⟩:∃g',g=g'+1:=⟨g - 1,by omega⟩
      by_cases hbr:4294967296≤r+d1
      · obtain⟨hb1',hb2',hb3'⟩:=brk g rfl hlt' hbr
        repeat (first |((first |refine rg rfl rfl (fun K hK=>?_) |refine rd [.o 0,.o 1,.o 2,.o 3,.o 4,.o 5,.o 6,.o 7,.o 8,.o 9,.o 10,.o 11,.o 12,.o 13] rfl (by decide+kernel) rfl (fun K hK=>?_) |refine rd [.o 0,.o 1,.o 2,.o 3,.o 4,.o 5,.o 6,.o 7,.o 8,.o 9,.o 10,.o 11,.o 12,.o 13,.o 14,.o 15,.o 16,.o 17] rfl (by decide+kernel) rfl (fun K hK=>?_) |refine rd [.o 0,.o 1,.o 2,.o 3,.o 4,.o 5,.o 6,.o 7,.o 8,.o 9,.o 10,.o 11,.o 12,.o 13,.o 14,.o 15,.o 16,.o 17,.o 18,.o 19,.o 20,.o 21,.o 22] rfl (by decide+kernel) rfl (fun K hK=>?_));(repeat (first |(refine wo rfl (fun k hk=>?_);simp(disch:=omega) only[go_sem,Nat.reduceBEq,reduceAdd,hd1,hd2,hor',hu2e];apply hk;clear hk k) |refine wkt rfl ?_));(try refine wk0 ?_);apply hK;clear hK K;(try dsimp only[ag,qs,qb])) |((first |refine ae ?_ |refine ac ?_);simp(disch:=decide) only[qs,qb,if_true,if_false,reduceIte]) |refine ah rfl (fun K hK=>?_) |refine ct rfl ?_ |((first |refine hK _ _ ?_ |(clear hK;refine hK _ _ ?_) |(clear hK;clear hK;refine hK _ _ ?_));clear hK;(try clear K)))
        refine rest1 g _ ?_ hb1' hb2' hb3'
        simp(disch:=omega) only[go_sem,Nat.reduceBEq,reduceAdd]
      · have e:g*d1+(r+d1)=T:=by rw[←hgr,Nat.add_mul,Nat.one_mul];omega
        repeat (first |(refine wo rfl (fun k hk=>?_);simp(disch:=omega) only[go_sem,Nat.reduceBEq,reduceAdd,hd1,hd2,hor',hu2e];apply hk;clear hk k) |refine wkt rfl ?_ |refine wk0 ?_ |refine rg rfl rfl (fun K hK=>?_) |refine rd [.o 0,.o 1,.o 2,.o 3,.o 4,.o 5,.o 6,.o 7,.o 8,.o 9,.o 10,.o 11,.o 12,.o 13] rfl (by decide+kernel) rfl (fun K hK=>?_) |refine rd [.o 0,.o 1,.o 2,.o 3,.o 4,.o 5,.o 6,.o 7,.o 8,.o 9,.o 10,.o 11,.o 12,.o 13,.o 14,.o 15,.o 16,.o 17] rfl (by decide+kernel) rfl (fun K hK=>?_) |refine rd [.o 0,.o 1,.o 2,.o 3,.o 4,.o 5,.o 6,.o 7,.o 8,.o 9,.o 10,.o 11,.o 12,.o 13,.o 14,.o 15,.o 16,.o 17,.o 18,.o 19,.o 20,.o 21,.o 22] rfl (by decide+kernel) rfl (fun K hK=>?_) |((first |refine ae ?_ |refine ac ?_);simp(disch:=decide) only[qs,qb,if_true,if_false,reduceIte]) |refine ah rfl (fun K hK=>?_) |refine ct rfl ?_ |((try simp(disch:=omega) only[go_sem,Nat.reduceBEq,reduceAdd]);(first |apply hK |(clear hK;apply hK) |(clear hK;clear hK;apply hK));clear hK;(try clear K);(try dsimp only[ag,qs,qb])))
        refine⟨(g,r+d1),?_,⟨by trivial,e,hlt',by dsimp only;omega⟩,by dsimp only;omega⟩
        simp(disch:=omega) only[go_sem,Nat.reduceBEq,reduceAdd]
end Go.Q
