/-
  Contracts of the reference's natural numbers: differences, products, division by a digit. Conditions: the slices hold digits (N16), of at most 2^40 bits.
  Contracts of the reference's natural numbers: division by a digit, shifts. Conditions: the slices hold digits (N16), of at most 2^40 bits.
  Contracts of the reference's natural numbers: one digit of a quotient. Conditions: the slices hold digits (N16).
-/
import Derived.Test.YtclajmpjcojhaaaGreatDoorK4a72c8PkI
import Derived.Test.YtclajmpjcojhaaaGreatDoorK2204c2PkF
set_option linter.unusedVariables false
set_option linter.unusedSimpArgs false
namespace Go.Q
open Go.Proofs
set_option maxRecDepth 100000
theorem Arr.of_app {h:PH} {b:Nat} {ds:List Nat} {junk:List Value} {c:Nat} (hb:uw ds ++junk≠[]→h b=some (uw ds ++junk).toArray) (hlt:∀x∈ds,x < 65536) (hs:ds.length≤2^46) (hc:ds.length≤c):Arr h (some ⟨b,0,none⟩) c ds:=by
  refine .of_block hb (fun i x hi=>?_) (fun x hx=>by have:=hlt x hx;omega) hs hc
  have hil:i < ds.length:=(List.getElem?_eq_some_iff.1 hi).1
  rw[List.getElem?_append_left (by simp[uw];exact hil)]
  simp[uw,hi]
theorem NatSub_spec {h0 h:PH} [Le h0 h] {v w:Value} {m n:Nat} (hv:N16 h0 v m) (hw:N16 h0 w n) (hnm:n≤m) (bm:bl m≤2^40):Spec mach 32 #[v,w] h (fun v h'=>N16 h' v (m - n)) NP:=by
  obtain⟨a,c,xs,rfl,ha,hxs,hm,hx16⟩:=hv.out
  obtain⟨a',c',ys,rfl,ha',hys,hn,hy16⟩:=hw.out
  have hs:xs.length≤2^40:=by have:=len16_le_bl m;rw[hxs] at this;omega
  have hl:ys.length≤xs.length:=by
    rcases Nat.lt_or_ge xs.length ys.length with h' |h'
    · have:=W_len_lt B16 (m:=m) (n:=n) (by rw[hxs,hys];exact h');omega
    · exact h'
  refine Spec.enter (args:=[_,_]) (n:=47) Tryz.func32 rfl (by kernel_rfl) rfl (by simp) [.tmp 4] rfl (fun C _=>?_)
  repeat (first |(refine wo rfl (fun k hk=>?_);simp(disch:=omega) only[go_sem,Nat.reduceBEq,Nat.reduceAdd];apply hk;clear hk k) |refine wkt rfl ?_ |refine wk0 ?_ |refine rg rfl rfl (fun K hK=>?_) |((first |refine AWP_exit ?_ |refine AWP_skip ?_);simp(disch:=decide) only[qs,qb,if_true,if_false,reduceIte]) |refine AWP_sq rfl (fun K hK=>?_) |refine ct rfl ?_ |((try simp(disch:=omega) only[go_sem,Nat.reduceBEq,Nat.reduceAdd]);(first |apply hK |(clear hK;apply hK) |(clear hK;clear hK;apply hK));clear hK;(try clear K);(try dsimp only[behind,qs,qb])))
  refine AWP_loopS (fun x:List Nat×List Value×Nat=>⟨[(0,.v (.slice a xs.length c)),(1,.v (.slice a' ys.length c')),(5,.s 0 0 x.1.length (x.1.length+x.2.1.length)),(6,.v (.int .u32 x.2.2)),(14,.v (.int .i64 xs.length)),(15,.v (.int .i64 x.1.length))],[uw x.1 ++x.2.1]⟩)
      (fun x h'=>Le h0 h'∧x.1.length≤xs.length∧(∀d∈x.1,d < 65536)∧x.2.2≤1∧val 65536 (xs.take x.1.length)+65536^x.1.length*x.2.2=val 65536 x.1+val 65536 (ys.take x.1.length)) (fun x=>xs.length - x.1.length) ([],uw (List.replicate xs.length 0),0) [0] ?_ ⟨inferInstance,by simp,by simp,by simp,by simp[val]⟩ ?_
  · simp(disch:=omega) only[go_sem,Nat.reduceBEq,Nat.reduceAdd]
  · rintro⟨ds,jk,cy⟩ h1 ⟨hle,hk,hlt,hcy,hi⟩
    dsimp only at hk hlt hcy hi ⊢
    by_cases hkl:ds.length < xs.length
    · obtain⟨ad,rfl,hat⟩:=ha.rd h1 (i:=ds.length) (by omega)
      have hx:=getD_lt (by decide) hx16 ds.length
      by_cases hky:ds.length < ys.length
      · obtain⟨ad',rfl,hat'⟩:=ha'.rd h1 (i:=ds.length) (by omega)
        have hy:=getD_lt (by decide) hy16 ds.length
        by_cases hb:xs.getD ds.length 0 < cy+ys.getD ds.length 0
        · repeat (first |(refine wo rfl (fun k hk=>?_);simp(disch:=omega) only[go_sem,Nat.reduceBEq,Nat.reduceAdd,hat,hat'];apply hk;clear hk k) |refine wkt rfl ?_ |refine wk0 ?_ |refine rg rfl rfl (fun K hK=>?_) |((first |refine AWP_exit ?_ |refine AWP_skip ?_);simp(disch:=decide) only[qs,qb,if_true,if_false,reduceIte]) |refine AWP_sq rfl (fun K hK=>?_) |refine ct rfl ?_ |((try simp(disch:=omega) only[go_sem,Nat.reduceBEq,Nat.reduceAdd]);(first |apply hK |(clear hK;apply hK) |(clear hK;clear hK;apply hK));clear hK;(try clear K);(try dsimp only[behind,qs,qb])))
          refine wo rfl (fun k hk=>?_);simp(disch:=omega) only[go_sem,Nat.reduceBEq,Nat.reduceAdd]
          intro junk
          apply hk;clear hk k
          (repeat (first |(refine wo rfl (fun k hk=>?_);simp(disch:=omega) only[go_sem,Nat.reduceBEq,Nat.reduceAdd];apply hk;clear hk k) |refine wkt rfl ?_));(try refine wk0 ?_)
          repeat (first |(refine wo rfl (fun k hk=>?_);simp(disch:=omega) only[go_sem,Nat.reduceBEq,Nat.reduceAdd];apply hk;clear hk k) |refine wkt rfl ?_ |refine wk0 ?_ |refine rg rfl rfl (fun K hK=>?_) |((first |refine AWP_exit ?_ |refine AWP_skip ?_);simp(disch:=decide) only[qs,qb,if_true,if_false,reduceIte]) |refine AWP_sq rfl (fun K hK=>?_) |refine ct rfl ?_ |((try simp(disch:=omega) only[go_sem,Nat.reduceBEq,Nat.reduceAdd]);(first |apply hK |(clear hK;apply hK) |(clear hK;clear hK;apply hK));clear hK;(try clear K);(try dsimp only[behind,qs,qb])))
          refine⟨(ds ++[xs.getD ds.length 0+65536 - (cy+ys.getD ds.length 0)],junk,1),[2],?_,⟨hle,by simp;omega,lt_snoc hlt (by omega),by simp,?_⟩,by simp;omega⟩
          · simp(disch:=omega) only[go_sem,Nat.reduceBEq,Nat.reduceAdd,uw_snoc]
          · simp only[List.length_append,List.length_singleton]
            rw[val_snoc,val_take_succ' _ xs,val_take_succ' _ ys,Nat.pow_succ]
            exact sub_step (by omega) hi
        · repeat (first |(refine wo rfl (fun k hk=>?_);simp(disch:=omega) only[go_sem,Nat.reduceBEq,Nat.reduceAdd,hat,hat'];apply hk;clear hk k) |refine wkt rfl ?_ |refine wk0 ?_ |refine rg rfl rfl (fun K hK=>?_) |((first |refine AWP_exit ?_ |refine AWP_skip ?_);simp(disch:=decide) only[qs,qb,if_true,if_false,reduceIte]) |refine AWP_sq rfl (fun K hK=>?_) |refine ct rfl ?_ |((try simp(disch:=omega) only[go_sem,Nat.reduceBEq,Nat.reduceAdd]);(first |apply hK |(clear hK;apply hK) |(clear hK;clear hK;apply hK));clear hK;(try clear K);(try dsimp only[behind,qs,qb])))
          refine wo rfl (fun k hk=>?_);simp(disch:=omega) only[go_sem,Nat.reduceBEq,Nat.reduceAdd]
          intro junk
          apply hk;clear hk k
          (repeat (first |(refine wo rfl (fun k hk=>?_);simp(disch:=omega) only[go_sem,Nat.reduceBEq,Nat.reduceAdd];apply hk;clear hk k) |refine wkt rfl ?_));(try refine wk0 ?_)
          repeat (first |(refine wo rfl (fun k hk=>?_);simp(disch:=omega) only[go_sem,Nat.reduceBEq,Nat.reduceAdd];apply hk;clear hk k) |refine wkt rfl ?_ |refine wk0 ?_ |refine rg rfl rfl (fun K hK=>?_) |((first |refine AWP_exit ?_ |refine AWP_skip ?_);simp(disch:=decide) only[qs,qb,if_true,if_false,reduceIte]) |refine AWP_sq rfl (fun K hK=>?_) |refine ct rfl ?_ |((try simp(disch:=omega) only[go_sem,Nat.reduceBEq,Nat.reduceAdd]);(first |apply hK |(clear hK;apply hK) |(clear hK;clear hK;apply hK));clear hK;(try clear K);(try dsimp only[behind,qs,qb])))
          refine⟨(ds ++[xs.getD ds.length 0 - (cy+ys.getD ds.length 0)],junk,0),[2],?_,⟨hle,by simp;omega,lt_snoc hlt (by omega),by simp,?_⟩,by simp;omega⟩
          · simp(disch:=omega) only[go_sem,Nat.reduceBEq,Nat.reduceAdd,uw_snoc]
          · simp only[List.length_append,List.length_singleton]
            rw[val_snoc,val_take_succ' _ xs,val_take_succ' _ ys,Nat.pow_succ]
            exact sub_step (by omega) hi
      · have hy:ys.getD ds.length 0=0:=getD_none (by omega)
        by_cases hb:xs.getD ds.length 0 < cy
        · repeat (first |(refine wo rfl (fun k hk=>?_);simp(disch:=omega) only[go_sem,Nat.reduceBEq,Nat.reduceAdd,hat];apply hk;clear hk k) |refine wkt rfl ?_ |refine wk0 ?_ |refine rg rfl rfl (fun K hK=>?_) |((first |refine AWP_exit ?_ |refine AWP_skip ?_);simp(disch:=decide) only[qs,qb,if_true,if_false,reduceIte]) |refine AWP_sq rfl (fun K hK=>?_) |refine ct rfl ?_ |((try simp(disch:=omega) only[go_sem,Nat.reduceBEq,Nat.reduceAdd]);(first |apply hK |(clear hK;apply hK) |(clear hK;clear hK;apply hK));clear hK;(try clear K);(try dsimp only[behind,qs,qb])))
          refine wo rfl (fun k hk=>?_);simp(disch:=omega) only[go_sem,Nat.reduceBEq,Nat.reduceAdd]
          intro junk
          apply hk;clear hk k
          (repeat (first |(refine wo rfl (fun k hk=>?_);simp(disch:=omega) only[go_sem,Nat.reduceBEq,Nat.reduceAdd];apply hk;clear hk k) |refine wkt rfl ?_));(try refine wk0 ?_)
          repeat (first |(refine wo rfl (fun k hk=>?_);simp(disch:=omega) only[go_sem,Nat.reduceBEq,Nat.reduceAdd];apply hk;clear hk k) |refine wkt rfl ?_ |refine wk0 ?_ |refine rg rfl rfl (fun K hK=>?_) |((first |refine AWP_exit ?_ |refine AWP_skip ?_);simp(disch:=decide) only[qs,qb,if_true,if_false,reduceIte]) |refine AWP_sq rfl (fun K hK=>?_) |refine ct rfl ?_ |((try simp(disch:=omega) only[go_sem,Nat.reduceBEq,Nat.reduceAdd]);(first |apply hK |(clear hK;apply hK) |(clear hK;clear hK;apply hK));clear hK;(try clear K);(try dsimp only[behind,qs,qb])))
          refine⟨(ds ++[xs.getD ds.length 0+65536 - cy],junk,1),[2],?_,⟨hle,by simp;omega,lt_snoc hlt (by omega),by simp,?_⟩,by simp;omega⟩
          · simp(disch:=omega) only[go_sem,Nat.reduceBEq,Nat.reduceAdd,uw_snoc]
          · simp only[List.length_append,List.length_singleton]
            rw[val_snoc,val_take_succ' _ xs,val_take_succ' _ ys,Nat.pow_succ]
            exact sub_step (by omega) hi
        · repeat (first |(refine wo rfl (fun k hk=>?_);simp(disch:=omega) only[go_sem,Nat.reduceBEq,Nat.reduceAdd,hat];apply hk;clear hk k) |refine wkt rfl ?_ |refine wk0 ?_ |refine rg rfl rfl (fun K hK=>?_) |((first |refine AWP_exit ?_ |refine AWP_skip ?_);simp(disch:=decide) only[qs,qb,if_true,if_false,reduceIte]) |refine AWP_sq rfl (fun K hK=>?_) |refine ct rfl ?_ |((try simp(disch:=omega) only[go_sem,Nat.reduceBEq,Nat.reduceAdd]);(first |apply hK |(clear hK;apply hK) |(clear hK;clear hK;apply hK));clear hK;(try clear K);(try dsimp only[behind,qs,qb])))
          refine wo rfl (fun k hk=>?_);simp(disch:=omega) only[go_sem,Nat.reduceBEq,Nat.reduceAdd]
          intro junk
          apply hk;clear hk k
          (repeat (first |(refine wo rfl (fun k hk=>?_);simp(disch:=omega) only[go_sem,Nat.reduceBEq,Nat.reduceAdd];apply hk;clear hk k) |refine wkt rfl ?_));(try refine wk0 ?_)
          repeat (first |(refine wo rfl (fun k hk=>?_);simp(disch:=omega) only[go_sem,Nat.reduceBEq,Nat.reduceAdd];apply hk;clear hk k) |refine wkt rfl ?_ |refine wk0 ?_ |refine rg rfl rfl (fun K hK=>?_) |((first |refine AWP_exit ?_ |refine AWP_skip ?_);simp(disch:=decide) only[qs,qb,if_true,if_false,reduceIte]) |refine AWP_sq rfl (fun K hK=>?_) |refine ct rfl ?_ |((try simp(disch:=omega) only[go_sem,Nat.reduceBEq,Nat.reduceAdd]);(first |apply hK |(clear hK;apply hK) |(clear hK;clear hK;apply hK));clear hK;(try clear K);(try dsimp only[behind,qs,qb])))
          refine⟨(ds ++[xs.getD ds.length 0 - cy],junk,0),[2],?_,⟨hle,by simp;omega,lt_snoc hlt (by omega),by simp,?_⟩,by simp;omega⟩
          · simp(disch:=omega) only[go_sem,Nat.reduceBEq,Nat.reduceAdd,uw_snoc]
          · simp only[List.length_append,List.length_singleton]
            rw[val_snoc,val_take_succ' _ xs,val_take_succ' _ ys,Nat.pow_succ]
            exact sub_step (by omega) hi
    · have hkl':ds.length=xs.length:=by omega
      rw[hkl',List.take_of_length_le (Nat.le_refl _),List.take_of_length_le hl,hm,hn] at hi
      have hval:val 65536 ds=m - n:=by
        have h3:=val_lt (by decide) ds hlt
        rw[hkl'] at h3
        obtain rfl:cy=0:=by
          rcases Nat.lt_or_ge cy 1 with h |h
          · omega
          · obtain rfl:cy=1:=by omega
            omega
        omega
      repeat (first |(refine rg rfl rfl (fun K hK=>?_);(repeat (first |(refine wo rfl (fun k hk=>?_);simp(disch:=omega) only[go_sem,Nat.reduceBEq,Nat.reduceAdd];apply hk;clear hk k) |refine wkt rfl ?_));(try refine wk0 ?_);apply hK;clear hK K;(try dsimp only[behind,qs,qb])) |((first |refine AWP_exit ?_ |refine AWP_skip ?_);simp(disch:=decide) only[qs,qb,if_true,if_false,reduceIte]) |refine AWP_sq rfl (fun K hK=>?_) |refine ct rfl ?_ |((first |refine hK _ _ ?_ |(clear hK;refine hK _ _ ?_) |(clear hK;clear hK;refine hK _ _ ?_));clear hK;(try clear K)))
      refine AWP_rsp [.p 0,.o 0,.o 1,.o 2] rfl rfl (fun K hK=>?_);(repeat (first |(refine wo rfl (fun k hk=>?_);simp(disch:=omega) only[go_sem,Nat.reduceBEq,Nat.reduceAdd];apply hk;clear hk k) |refine wkt rfl ?_));(try refine wk0 ?_)
      refine wkp ?_;simp(disch:=omega) only[go_sem,Nat.reduceBEq,Nat.reduceAdd];intro b h2 hs2 hb;(repeat (first |(refine wo rfl (fun k hk=>?_);simp(disch:=omega) only[go_sem,Nat.reduceBEq,Nat.reduceAdd];apply hk;clear hk k) |refine wkt rfl ?_));(try refine wk0 ?_)
      have hA:Arr h2 (some ⟨b,0,none⟩) (ds.length+jk.length) ds:=.of_app hb hlt (by omega) (by omega)
      refine cN rfl rfl rfl rfl (by exact trim_N hA hlt rfl) ?_;rintro v3 h3 _ hv3;obtain⟨v3,v3_l,v3_c,rfl,hv3⟩:=hv3.sl;(repeat (first |(refine wo rfl (fun k hk=>?_);simp(disch:=omega) only[go_sem,Nat.reduceBEq,Nat.reduceAdd];apply hk;clear hk k) |refine wkt rfl ?_));(try refine wk0 ?_)
      (try (simp(disch:=omega) only[go_sem,Nat.reduceBEq,Nat.reduceAdd]));apply hK;clear hK;(try clear K);(try dsimp only[behind,qs])
      refine AWP_ret ?_;simp(disch:=omega) only[go_sem,Nat.reduceBEq,Nat.reduceAdd]
      rwa[hval] at hv3
theorem NatMul_spec {h0 h:PH} [Le h0 h] {v w:Value} {m n:Nat} (hv:N16 h0 v m) (hw:N16 h0 w n) (bm:bl m≤2^40) (bn:bl n≤2^40):Spec mach 28 #[v,w] h (fun v h'=>N16 h' v (m*n)) NP:=by
  obtain⟨a,c,xs,rfl,ha,hxs,hm,hx16⟩:=hv.out
  obtain⟨a',c',ys,rfl,ha',hys,hn,hy16⟩:=hw.out
  have hs:xs.length≤2^40:=by have:=len16_le_bl m;rw[hxs] at this;omega
  have hs':ys.length≤2^40:=by have:=len16_le_bl n;rw[hys] at this;omega
  refine Spec.enter (args:=[_,_]) (n:=77) Tryz.func28 rfl (by kernel_rfl) rfl (by simp) [.tmp 4] rfl (fun C _=>?_)
  have z1:xs.length=0→m*n=0:=fun h=>by rw[←hm,List.eq_nil_of_length_eq_zero h];simp[val]
  have z2:ys.length=0→m*n=0:=fun h=>by rw[←hn,List.eq_nil_of_length_eq_zero h];simp[val]
  by_cases hx0:xs.length=0
  · repeat (first |(refine wo rfl (fun k hk=>?_);simp(disch:=omega) only[go_sem,Nat.reduceBEq,Nat.reduceAdd];apply hk;clear hk k) |refine wkt rfl ?_ |refine wk0 ?_ |refine rg rfl rfl (fun K hK=>?_) |((first |refine AWP_exit ?_ |refine AWP_skip ?_);simp(disch:=decide) only[qs,qb,if_true,if_false,reduceIte]) |refine AWP_sq rfl (fun K hK=>?_) |refine ct rfl ?_ |((try simp(disch:=omega) only[go_sem,Nat.reduceBEq,Nat.reduceAdd]);(first |apply hK |(clear hK;apply hK) |(clear hK;clear hK;apply hK));clear hK;(try clear K);(try dsimp only[behind,qs,qb])))
    refine AWP_ret ?_;simp(disch:=omega) only[go_sem,Nat.reduceBEq,Nat.reduceAdd]
    rw[z1 hx0];exact N16.zero _
  by_cases hy0:ys.length=0
  · repeat (first |(refine wo rfl (fun k hk=>?_);simp(disch:=omega) only[go_sem,Nat.reduceBEq,Nat.reduceAdd];apply hk;clear hk k) |refine wkt rfl ?_ |refine wk0 ?_ |refine rg rfl rfl (fun K hK=>?_) |((first |refine AWP_exit ?_ |refine AWP_skip ?_);simp(disch:=decide) only[qs,qb,if_true,if_false,reduceIte]) |refine AWP_sq rfl (fun K hK=>?_) |refine ct rfl ?_ |((try simp(disch:=omega) only[go_sem,Nat.reduceBEq,Nat.reduceAdd]);(first |apply hK |(clear hK;apply hK) |(clear hK;clear hK;apply hK));clear hK;(try clear K);(try dsimp only[behind,qs,qb])))
    refine AWP_ret ?_;simp(disch:=omega) only[go_sem,Nat.reduceBEq,Nat.reduceAdd]
    rw[z2 hy0];exact N16.zero _
  clear z1 z2
  repeat (first |(refine wo rfl (fun k hk=>?_);simp(disch:=omega) only[go_sem,Nat.reduceBEq,Nat.reduceAdd];apply hk;clear hk k) |refine wkt rfl ?_ |refine wk0 ?_ |refine rg rfl rfl (fun K hK=>?_) |((first |refine AWP_exit ?_ |refine AWP_skip ?_);simp(disch:=decide) only[qs,qb,if_true,if_false,reduceIte]) |refine AWP_sq rfl (fun K hK=>?_) |refine ct rfl ?_ |((try simp(disch:=omega) only[go_sem,Nat.reduceBEq,Nat.reduceAdd]);(first |apply hK |(clear hK;apply hK) |(clear hK;clear hK;apply hK));clear hK;(try clear K);(try dsimp only[behind,qs,qb])))
  refine AWP_loop (fun x:Nat×List Nat=>⟨[(0,.v (.slice a xs.length c)),(1,.v (.slice a' ys.length c')),(5,.s 0 0 (xs.length+ys.length) (xs.length+ys.length)),(26,.v (.slice a xs.length c)),(27,.v (.int .i64 xs.length)),(28,.v (.int .i64 x.1))],[uw x.2]⟩)
      (fun x h'=>Le h0 h'∧x.1≤xs.length∧x.2.length=xs.length+ys.length∧(∀d∈x.2,d < 65536)∧val 65536 (x.2.take (x.1+ys.length))=val 65536 (xs.take x.1)*val 65536 ys) (fun x=>xs.length - x.1) (0,List.replicate (xs.length+ys.length) 0) ?_ ⟨inferInstance,by simp,by simp,lt_zeros (by decide),by simp[val,val_zeros]⟩ ?_
  · simp(disch:=omega) only[go_sem,Nat.reduceBEq,Nat.reduceAdd]
  · rintro⟨k,rs⟩ h1 ⟨hle,hk,hr,hlt,hi⟩
    dsimp only at hk hr hlt hi ⊢
    by_cases hkl:k < xs.length
    · obtain⟨ad,rfl,hat⟩:=ha.rd h1 (i:=k) (by omega)
      have hx:=getD_lt (by decide) hx16 k
      repeat (first |(refine wo rfl (fun k hk=>?_);simp(disch:=omega) only[go_sem,Nat.reduceBEq,Nat.reduceAdd,hat];apply hk;clear hk k) |refine wkt rfl ?_ |refine wk0 ?_ |refine rg rfl rfl (fun K hK=>?_) |((first |refine AWP_exit ?_ |refine AWP_skip ?_);simp(disch:=decide) only[qs,qb,if_true,if_false,reduceIte]) |refine AWP_sq rfl (fun K hK=>?_) |refine ct rfl ?_ |((try simp(disch:=omega) only[go_sem,Nat.reduceBEq,Nat.reduceAdd]);(first |apply hK |(clear hK;apply hK) |(clear hK;clear hK;apply hK));clear hK;(try clear K);(try dsimp only[behind,qs,qb])))
      refine AWP_loop (fun x:Nat×List Nat×Nat=>⟨[(0,.v (.slice (some ad) xs.length c)),(1,.v (.slice a' ys.length c')),(5,.s 0 0 (xs.length+ys.length) (xs.length+ys.length)),(26,.v (.slice (some ad) xs.length c)),(27,.v (.int .i64 xs.length)),(28,.v (.int .i64 k)),(6,.v (.int .i64 k)),(7,.v (.int .u32 (xs.getD k 0:Nat))),(8,.v (.int .u64 x.2.2)),(33,.v (.slice a' ys.length c')),(34,.v (.int .i64 ys.length)),(35,.v (.int .i64 x.1))],[uw x.2.1]⟩)
        (fun x h'=>Le h0 h'∧x.1≤ys.length∧x.2.1.length=xs.length+ys.length∧(∀d∈x.2.1,d < 65536)∧x.2.2 < 65536∧val 65536 (x.2.1.take (k+ys.length))+65536^(k+x.1)*x.2.2=val 65536 (rs.take (k+ys.length))+65536^k*(xs.getD k 0*val 65536 (ys.take x.1))) (fun x=>ys.length - x.1) (0,rs,0) ?_ ⟨hle,by simp,hr,hlt,by simp,by simp[val]⟩ ?_
      · simp(disch:=omega) only[go_sem,Nat.reduceBEq,Nat.reduceAdd]
      · rintro⟨j,rs',cy⟩ h2 ⟨hle',hj,hr',hlt',hcy,hi'⟩
        dsimp only at hj hr' hlt' hcy hi' ⊢
        by_cases hjl:j < ys.length
        · obtain⟨ad',rfl,hat'⟩:=ha'.rd h2 (i:=j) (by omega)
          have hy:=getD_lt (by decide) hy16 j
          have hd:=getD_lt (by decide) hlt' (k+j)
          have hxy:xs.getD k 0*ys.getD j 0≤65535*65535:=Nat.mul_le_mul (by omega) (by omega)
          repeat (first |(refine wo rfl (fun k hk=>?_);simp(disch:=omega) only[go_sem,Nat.reduceBEq,Nat.reduceAdd,hat'];apply hk;clear hk k) |refine wkt rfl ?_ |refine wk0 ?_ |refine rg rfl rfl (fun K hK=>?_) |((first |refine AWP_exit ?_ |refine AWP_skip ?_);simp(disch:=decide) only[qs,qb,if_true,if_false,reduceIte]) |refine AWP_sq rfl (fun K hK=>?_) |refine ct rfl ?_ |((try simp(disch:=omega) only[go_sem,Nat.reduceBEq,Nat.reduceAdd]);(first |apply hK |(clear hK;apply hK) |(clear hK;clear hK;apply hK));clear hK;(try clear K);(try dsimp only[behind,qs,qb])))
          refine⟨(j+1,rs'.set (k+j) ((rs'.getD (k+j) 0+xs.getD k 0*ys.getD j 0+cy) % 65536),(rs'.getD (k+j) 0+xs.getD k 0*ys.getD j 0+cy) / 65536),?_,⟨hle',by dsimp only;omega,by simp[hr'],lt_set hlt' (Nat.mod_lt _ (by decide)),by dsimp only;omega,?_⟩,by simp only;omega⟩
          · simp(disch:=omega) only[go_sem,Nat.reduceBEq,Nat.reduceAdd]
          · dsimp only
            rw[val_take_succ' _ ys,←Nat.add_assoc,Nat.pow_succ,Nat.mul_add,Nat.mul_add,←Nat.mul_assoc _ (65536^j),Nat.mul_comm (xs.getD k 0) (65536^j),Nat.mul_assoc (65536^j),←Nat.mul_assoc _ (65536^j),←Nat.pow_add]
            have e:rs'.getD (k+j) 0+xs.getD k 0*ys.getD j 0+cy=xs.getD k 0*ys.getD j 0+rs'.getD (k+j) 0+cy:=by omega
            rw[e]
            exact mul_step (Nat.mod_add_div _ _).symm hi' (val_take_set (by omega) (by omega))
        · repeat (first |(refine rg rfl rfl (fun K hK=>?_);(repeat (first |(refine wo rfl (fun k hk=>?_);simp(disch:=omega) only[go_sem,Nat.reduceBEq,Nat.reduceAdd];apply hk;clear hk k) |refine wkt rfl ?_));(try refine wk0 ?_);apply hK;clear hK K;(try dsimp only[behind,qs,qb])) |((first |refine AWP_exit ?_ |refine AWP_skip ?_);simp(disch:=decide) only[qs,qb,if_true,if_false,reduceIte]) |refine AWP_sq rfl (fun K hK=>?_) |refine ct rfl ?_ |((first |refine hK _ _ ?_ |(clear hK;refine hK _ _ ?_) |(clear hK;clear hK;refine hK _ _ ?_));clear hK;(try clear K)))
          obtain rfl:j=ys.length:=by omega
          refine⟨(k+1,rs'.set (k+ys.length) cy),?_,⟨hle',by dsimp only;omega,by simp[hr'],lt_set hlt' hcy,?_⟩,by simp only;omega⟩
          · simp(disch:=omega) only[go_sem,Nat.reduceBEq,Nat.reduceAdd]
          · dsimp only
            rw[show k+1+ys.length=k+ys.length+1 by omega,val_set_take (by omega),hi',hi,val_take_succ' _ xs,List.take_of_length_le (Nat.le_refl _),Nat.add_mul,Nat.mul_assoc]
    · repeat (first |(refine rg rfl rfl (fun K hK=>?_);(repeat (first |(refine wo rfl (fun k hk=>?_);simp(disch:=omega) only[go_sem,Nat.reduceBEq,Nat.reduceAdd];apply hk;clear hk k) |refine wkt rfl ?_));(try refine wk0 ?_);apply hK;clear hK K;(try dsimp only[behind,qs,qb])) |((first |refine AWP_exit ?_ |refine AWP_skip ?_);simp(disch:=decide) only[qs,qb,if_true,if_false,reduceIte]) |refine AWP_sq rfl (fun K hK=>?_) |refine ct rfl ?_ |((first |refine hK _ _ ?_ |(clear hK;refine hK _ _ ?_) |(clear hK;clear hK;refine hK _ _ ?_));clear hK;(try clear K)))
      obtain rfl:k=xs.length:=by omega
      refine AWP_rsp [.o 0,.p 0,.o 1,.o 2] rfl rfl (fun K hK=>?_);(repeat (first |(refine wo rfl (fun k hk=>?_);simp(disch:=omega) only[go_sem,Nat.reduceBEq,Nat.reduceAdd];apply hk;clear hk k) |refine wkt rfl ?_));(try refine wk0 ?_)
      refine wkp ?_;simp(disch:=omega) only[go_sem,Nat.reduceBEq,Nat.reduceAdd];intro b h2 hs2 hb;(repeat (first |(refine wo rfl (fun k hk=>?_);simp(disch:=omega) only[go_sem,Nat.reduceBEq,Nat.reduceAdd];apply hk;clear hk k) |refine wkt rfl ?_));(try refine wk0 ?_)
      have hA:Arr h2 (some ⟨b,0,none⟩) (xs.length+ys.length) rs:=.of_row (fun hne=>hb ((uw_ne _).1 hne)) (fun x hx=>by have:=hlt x hx;omega) (by omega) (by omega)
      have hval:val 65536 rs=m*n:=by
        rw[List.take_of_length_le (by omega),List.take_of_length_le (Nat.le_refl _),hm,hn] at hi
        exact hi
      refine cN rfl rfl rfl rfl (by exact trim_N hA hlt hr) ?_;rintro v h3 hs3 hv';(repeat (first |(refine wo rfl (fun k hk=>?_);simp(disch:=omega) only[go_sem,Nat.reduceBEq,Nat.reduceAdd];apply hk;clear hk k) |refine wkt rfl ?_));(try refine wk0 ?_)
      (try (simp(disch:=omega) only[go_sem,Nat.reduceBEq,Nat.reduceAdd]));apply hK;clear hK;(try clear K);(try dsimp only[behind,qs])
      refine AWP_ret ?_;simp(disch:=omega) only[go_sem,Nat.reduceBEq,Nat.reduceAdd]
      rwa[hval] at hv'
end Go.Q
namespace Go.Q
open Go.Proofs
set_option maxRecDepth 100000
theorem small_spec {h0 h:PH} [Le h0 h] {v:Value} {m d:Nat} (hv:N16 h0 v m) (bm:bl m≤2^40) (hd0:0 < d) (hd:d < 65536):Spec mach 51 #[v,.int .u32 d] h (fun v h'=>∃q,v=.tuple #[q,.int .u32 (m % d:Nat)]∧N16 h' q (m / d)) NP:=by
  obtain⟨a,c,xs,rfl,ha,hxs,hm,hx16⟩:=hv.out
  have hs:xs.length≤2^40:=by have:=len16_le_bl m;rw[hxs] at this;omega
  refine Spec.enter (args:=[_,_]) (n:=39) Tryz.func51 rfl (by kernel_rfl) rfl (by simp) [.tmp 4,.tmp 5] rfl (fun C _=>?_)
  repeat (first |(refine wo rfl (fun k hk=>?_);simp(disch:=omega) only[go_sem,Nat.reduceBEq,Nat.reduceAdd];apply hk;clear hk k) |refine wkt rfl ?_ |refine wk0 ?_ |refine rg rfl rfl (fun K hK=>?_) |((first |refine AWP_exit ?_ |refine AWP_skip ?_);simp(disch:=decide) only[qs,qb,if_true,if_false,reduceIte]) |refine AWP_sq rfl (fun K hK=>?_) |refine ct rfl ?_ |((try simp(disch:=omega) only[go_sem,Nat.reduceBEq,Nat.reduceAdd]);(first |apply hK |(clear hK;apply hK) |(clear hK;clear hK;apply hK));clear hK;(try clear K);(try dsimp only[behind,qs,qb])))
  refine AWP_loop (fun x:Nat×List Nat×Nat=>⟨[(0,.v (.slice a xs.length c)),(1,.v (.int .u32 d)),(6,.s 0 0 xs.length xs.length),(7,.v (.int .u32 x.2.2)),(8,.v (.int .i64 ((x.1:Int) - 1)))],[uw x.2.1]⟩)
      (fun x h'=>Le h0 h'∧x.1≤xs.length∧x.2.1.length=xs.length∧(∀d∈x.2.1,d < 65536)∧x.2.2 < d∧val 65536 (xs.drop x.1)=d*val 65536 (x.2.1.drop x.1)+x.2.2) (fun x=>x.1) (xs.length,List.replicate xs.length 0,0) ?_ ⟨?_,by simp,by simp,lt_zeros (by decide),hd0,?_⟩ ?_
  · simp(disch:=omega) only[go_sem,Nat.reduceBEq,Nat.reduceAdd]
  · exact inferInstance
  · simp[val]
  · rintro⟨k,rs,r⟩ h1 ⟨hle,hk,hr,hlt,hrd,hi⟩
    dsimp only at hk hr hlt hrd hi ⊢
    by_cases hk0:k=0
    · subst hk0
      repeat (first |(refine rg rfl rfl (fun K hK=>?_);(repeat (first |(refine wo rfl (fun k hk=>?_);simp(disch:=omega) only[go_sem,Nat.reduceBEq,Nat.reduceAdd];apply hk;clear hk k) |refine wkt rfl ?_));(try refine wk0 ?_);apply hK;clear hK K;(try dsimp only[behind,qs,qb])) |((first |refine AWP_exit ?_ |refine AWP_skip ?_);simp(disch:=decide) only[qs,qb,if_true,if_false,reduceIte]) |refine AWP_sq rfl (fun K hK=>?_) |refine ct rfl ?_ |((first |refine hK _ _ ?_ |(clear hK;refine hK _ _ ?_) |(clear hK;clear hK;refine hK _ _ ?_));clear hK;(try clear K)))
      refine AWP_rsp [.o 0,.p 0,.o 1,.o 2,.o 3,.o 4] rfl rfl (fun K hK=>?_);(repeat (first |(refine wo rfl (fun k hk=>?_);simp(disch:=omega) only[go_sem,Nat.reduceBEq,Nat.reduceAdd];apply hk;clear hk k) |refine wkt rfl ?_));(try refine wk0 ?_)
      refine wkp ?_;simp(disch:=omega) only[go_sem,Nat.reduceBEq,Nat.reduceAdd];intro b h2 hs2 hb;(repeat (first |(refine wo rfl (fun k hk=>?_);simp(disch:=omega) only[go_sem,Nat.reduceBEq,Nat.reduceAdd];apply hk;clear hk k) |refine wkt rfl ?_));(try refine wk0 ?_)
      have hA:Arr h2 (some ⟨b,0,none⟩) xs.length rs:=.of_row (fun hne=>hb ((uw_ne _).1 hne)) (fun x hx=>by have:=hlt x hx;omega) (by omega) (by omega)
      simp only[List.drop_zero] at hi
      rw[hm] at hi
      have e1:m / d=val 65536 rs:=by rw[hi,Nat.mul_add_div hd0,Nat.div_eq_of_lt hrd,Nat.add_zero]
      have e2:m % d=r:=by rw[hi,Nat.mul_add_mod,Nat.mod_eq_of_lt hrd]
      refine cN rfl rfl rfl rfl (by exact trim_N hA hlt hr) ?_;rintro v h3 hs3 hv';(repeat (first |(refine wo rfl (fun k hk=>?_);simp(disch:=omega) only[go_sem,Nat.reduceBEq,Nat.reduceAdd];apply hk;clear hk k) |refine wkt rfl ?_));(try refine wk0 ?_)
      (try (simp(disch:=omega) only[go_sem,Nat.reduceBEq,Nat.reduceAdd]));apply hK;clear hK;(try clear K);(try dsimp only[behind,qs])
      refine AWP_ret ?_;simp(disch:=omega) only[go_sem,Nat.reduceBEq,Nat.reduceAdd]
      exact⟨v,by rw[e2],by rw[e1];exact hv'⟩
    · obtain⟨k,rfl⟩:∃j,k=j+1:=⟨k - 1,by omega⟩
      obtain⟨ad,rfl,hat⟩:=ha.rd h1 (i:=k) (by omega)
      have hx:=getD_lt (by decide) hx16 k
      have hq:(r*65536+xs.getD k 0) / d < 65536:=by
        apply Nat.div_lt_of_lt_mul
        have:=Nat.mul_le_mul_right 65536 (show r+1≤d by omega)
        omega
      have hm':(r*65536+xs.getD k 0) % d < d:=Nat.mod_lt _ hd0
      have hs2:d*((r*65536+xs.getD k 0) / d)+(r*65536+xs.getD k 0) % d=r*65536+xs.getD k 0:=Nat.div_add_mod _ _
      obtain⟨q,hqe⟩:∃q,(r*65536+xs.getD k 0) / d=q:=⟨_,rfl⟩
      obtain⟨r',hre⟩:∃q,(r*65536+xs.getD k 0) % d=q:=⟨_,rfl⟩
      rw[hqe] at hq hs2
      rw[hre] at hm' hs2
      repeat (first |(refine wo rfl (fun k hk=>?_);simp(disch:=omega) only[go_sem,Nat.reduceBEq,Nat.reduceAdd,hat,hqe,hre];apply hk;clear hk k) |refine wkt rfl ?_ |refine wk0 ?_ |refine rg rfl rfl (fun K hK=>?_) |((first |refine AWP_exit ?_ |refine AWP_skip ?_);simp(disch:=decide) only[qs,qb,if_true,if_false,reduceIte]) |refine AWP_sq rfl (fun K hK=>?_) |refine ct rfl ?_ |((try simp(disch:=omega) only[go_sem,Nat.reduceBEq,Nat.reduceAdd]);(first |apply hK |(clear hK;apply hK) |(clear hK;clear hK;apply hK));clear hK;(try clear K);(try dsimp only[behind,qs,qb])))
      refine⟨(k,rs.set k q,r'),?_,⟨hle,by dsimp only;omega,by simp[hr],lt_set hlt hq,hm',?_⟩,by simp only;omega⟩
      · simp(disch:=omega) only[go_sem,Nat.reduceBEq,Nat.reduceAdd]
      · dsimp only
        rw[drop_getD (by omega),drop_getD (xs:=rs.set k q) (by simp[hr];omega),getD_set (by omega),List.drop_set_of_lt (by omega),val,val,hi]
        rw[Nat.mul_add d,Nat.mul_left_comm d,Nat.mul_add 65536]
        omega
theorem or_add' {x r cy:Nat} (hc:cy < 2^r):x*2^r ||| cy=x*2^r+cy:=by
  rw[Nat.or_comm,Nat.mul_comm,or_add hc,Nat.add_comm]
theorem shl16_step {V P cy X Q R p x s:Nat} (hi:V+P*cy=Q*(R*X)) (hs:s=x*R+cy) (hP:P=Q*p):V+P*(s % 65536)+P*65536*(s / 65536)=Q*(R*(X+p*x)):=by
  have h1:=dm P 65536 s
  have h2:P*s=Q*(R*(p*x))+P*cy:=by rw[hs,Nat.mul_add,hP];simp only[Nat.mul_assoc,Nat.mul_comm,Nat.mul_left_comm]
  rw[Nat.mul_add R,Nat.mul_add Q]
  omega
theorem B16_pow (k:Nat):2^(16*k)=65536^k:=by
  rw[Nat.pow_mul,show(2:Nat)^16=65536 from by decide]
theorem NatShl_spec {h0 h:PH} [Le h0 h] {v:Value} {m n:Nat} (hv:N16 h0 v m) (bm:bl m+n≤2^40):Spec mach 52 #[v,.int .i64 n] h (fun v h'=>N16 h' v (m*2^n)) NP:=by
  obtain⟨a,c,xs,rfl,ha,hxs,hm,hx16⟩:=hv.out
  have hs:xs.length+n≤2^40:=by have:=len16_le_bl m;rw[hxs] at this;omega
  refine Spec.enter (args:=[_,_]) (n:=55) Tryz.func52 rfl (by kernel_rfl) rfl (by simp) [.tmp 4] rfl (fun C _=>?_)
  by_cases hz:xs.length=0∨n=0
  · have e0:m*2^n=m:=by
      rcases hz with hz |hz
      · rw[←hm,List.eq_nil_of_length_eq_zero hz];simp[val]
      · rw[hz,Nat.pow_zero,Nat.mul_one]
    rw[e0]
    by_cases hz1:xs.length=0
    · repeat (first |(refine wo rfl (fun k hk=>?_);simp(disch:=omega) only[go_sem,Nat.reduceBEq,Nat.reduceAdd];apply hk;clear hk k) |refine wkt rfl ?_ |refine wk0 ?_ |refine rg rfl rfl (fun K hK=>?_) |((first |refine AWP_exit ?_ |refine AWP_skip ?_);simp(disch:=decide) only[qs,qb,if_true,if_false,reduceIte]) |refine AWP_sq rfl (fun K hK=>?_) |refine ct rfl ?_ |((try simp(disch:=omega) only[go_sem,Nat.reduceBEq,Nat.reduceAdd]);(first |apply hK |(clear hK;apply hK) |(clear hK;clear hK;apply hK));clear hK;(try clear K);(try dsimp only[behind,qs,qb])))
      refine wo rfl (fun k hk=>?_);simp(disch:=omega) only[go_sem,Nat.reduceBEq,Nat.reduceAdd]
      refine⟨[],by simp[hz1],rfl,fun junk=>?_⟩
      apply hk;clear hk k
      (repeat (first |(refine wo rfl (fun k hk=>?_);simp(disch:=omega) only[go_sem,Nat.reduceBEq,Nat.reduceAdd];apply hk;clear hk k) |refine wkt rfl ?_));(try refine wk0 ?_)
      (try (simp(disch:=omega) only[go_sem,Nat.reduceBEq,Nat.reduceAdd]));apply hK;clear hK;(try clear K);(try dsimp only[behind,qs])
      refine AWP_pub 1 ?_
      simp(disch:=omega) only[go_sem,Nat.reduceBEq,Nat.reduceAdd]
      intro b h1 hs1 hb
      refine AWP_ret ?_;simp(disch:=omega) only[go_sem,Nat.reduceBEq,Nat.reduceAdd]
      have e:xs=[]:=List.eq_nil_of_length_eq_zero hz1
      refine N16.of_pub (ds:=[]) (junk:=junk) (by simpa[uw] using hb) (by rw[hxs,e]) (by simp) (by simp[hz1]) (by simp)
    · have hn0:n=0:=hz.resolve_left hz1
      subst hn0
      repeat (first |(refine wo rfl (fun k hk=>?_);simp(disch:=omega) only[go_sem,Nat.reduceBEq,Nat.reduceAdd];apply hk;clear hk k) |refine wkt rfl ?_ |refine wk0 ?_ |refine rg rfl rfl (fun K hK=>?_) |((first |refine AWP_exit ?_ |refine AWP_skip ?_);simp(disch:=decide) only[qs,qb,if_true,if_false,reduceIte]) |refine AWP_sq rfl (fun K hK=>?_) |refine ct rfl ?_ |((try simp(disch:=omega) only[go_sem,Nat.reduceBEq,Nat.reduceAdd]);(first |apply hK |(clear hK;apply hK) |(clear hK;clear hK;apply hK));clear hK;(try clear K);(try dsimp only[behind,qs,qb])))
      refine wo rfl (fun k hk=>?_);simp(disch:=omega) only[go_sem,Nat.reduceBEq,Nat.reduceAdd]
      refine⟨uw xs,by simp[uw],fun hne=>?_,uw_all xs,fun junk=>?_⟩
      · obtain⟨ad',h1,h2⟩:=ha.cells h hne
        exact⟨ad',h1,h2⟩
      apply hk;clear hk k
      (repeat (first |(refine wo rfl (fun k hk=>?_);simp(disch:=omega) only[go_sem,Nat.reduceBEq,Nat.reduceAdd];apply hk;clear hk k) |refine wkt rfl ?_));(try refine wk0 ?_)
      (try (simp(disch:=omega) only[go_sem,Nat.reduceBEq,Nat.reduceAdd]));apply hK;clear hK;(try clear K);(try dsimp only[behind,qs])
      refine AWP_pub 1 ?_
      simp(disch:=omega) only[go_sem,Nat.reduceBEq,Nat.reduceAdd]
      intro b h1 hs1 hb
      refine AWP_ret ?_;simp(disch:=omega) only[go_sem,Nat.reduceBEq,Nat.reduceAdd]
      exact N16.of_pub (ds:=xs) (junk:=junk) hb hxs (by omega) rfl (by omega)
  · have hx0:¬xs.length=0:=fun e=>hz (.inl e)
    have hn0:¬n=0:=fun e=>hz (.inr e)
    have hp:2^(n % 16)≤32768:=Nat.pow_le_pow_right (show 0 < 2 by omega) (show n % 16≤15 by omega)
    have hp0:0 < 2^(n % 16):=Nat.pow_pos (by omega)
    have hrep:uw (List.replicate (n / 16+xs.length+1) 0)=uw (List.replicate (n / 16) 0) ++uw (List.replicate (xs.length+1) 0):=by
      rw[←uw_append,List.replicate_append_replicate,Nat.add_assoc]
    repeat (first |(refine wo rfl (fun k hk=>?_);simp(disch:=omega) only[go_sem,Nat.reduceBEq,Nat.reduceAdd];apply hk;clear hk k) |refine wkt rfl ?_ |refine wk0 ?_ |refine rg rfl rfl (fun K hK=>?_) |((first |refine AWP_exit ?_ |refine AWP_skip ?_);simp(disch:=decide) only[qs,qb,if_true,if_false,reduceIte]) |refine AWP_sq rfl (fun K hK=>?_) |refine ct rfl ?_ |((try simp(disch:=omega) only[go_sem,Nat.reduceBEq,Nat.reduceAdd]);(first |apply hK |(clear hK;apply hK) |(clear hK;clear hK;apply hK));clear hK;(try clear K);(try dsimp only[behind,qs,qb])))
    refine AWP_loopS (fun x:Nat×List Nat×List Value×Nat=>⟨[(1,.v (.int .i64 n)),(5,.s 0 0 x.2.1.length (x.2.1.length+x.2.2.1.length)),(6,.v (.int .u32 x.2.2.2)),(29,.v (.slice a xs.length c)),(30,.v (.int .i64 xs.length)),(31,.v (.int .i64 x.1))],[uw x.2.1 ++x.2.2.1]⟩)
      (fun x h'=>Le h0 h'∧x.1≤xs.length∧x.2.1.length=n / 16+x.1∧(∀d∈x.2.1,d < 65536)∧x.2.2.2 < 2^(n % 16)∧val 65536 x.2.1+65536^x.2.1.length*x.2.2.2=65536^(n / 16)*(2^(n % 16)*val 65536 (xs.take x.1))) (fun x=>xs.length - x.1) (0,List.replicate (n / 16) 0,uw (List.replicate (xs.length+1) 0),0) [0] ?_ ⟨inferInstance,by simp,by simp,lt_zeros (by decide),hp0,by simp[val,val_zeros]⟩ ?_
    · simp(disch:=omega) only[go_sem,Nat.reduceBEq,Nat.reduceAdd,hrep,←Nat.add_assoc]
    · rintro⟨i,ds,jk,cy⟩ h1 ⟨hle,hk,hdl,hlt,hcy,hi⟩
      dsimp only at hk hdl hlt hcy hi ⊢
      by_cases hkl:i < xs.length
      · obtain⟨ad,rfl,hat⟩:=ha.rd h1 (i:=i) (by omega)
        have hx:=getD_lt (by decide) hx16 i
        have hb:xs.getD i 0*2^(n % 16)≤65535*32768:=Nat.mul_le_mul (by omega) hp
        have hor:=or_add' (x:=xs.getD i 0) hcy
        repeat (first |(refine wo rfl (fun k hk=>?_);simp(disch:=omega) only[go_sem,Nat.reduceBEq,Nat.reduceAdd,hat,hor];apply hk;clear hk k) |refine wkt rfl ?_ |refine wk0 ?_ |refine rg rfl rfl (fun K hK=>?_) |((first |refine AWP_exit ?_ |refine AWP_skip ?_);simp(disch:=decide) only[qs,qb,if_true,if_false,reduceIte]) |refine AWP_sq rfl (fun K hK=>?_) |refine ct rfl ?_ |((try simp(disch:=omega) only[go_sem,Nat.reduceBEq,Nat.reduceAdd]);(first |apply hK |(clear hK;apply hK) |(clear hK;clear hK;apply hK));clear hK;(try clear K);(try dsimp only[behind,qs,qb])))
        refine wo rfl (fun k hk=>?_);simp(disch:=omega) only[go_sem,Nat.reduceBEq,Nat.reduceAdd]
        intro junk
        apply hk;clear hk k
        (repeat (first |(refine wo rfl (fun k hk=>?_);simp(disch:=omega) only[go_sem,Nat.reduceBEq,Nat.reduceAdd];apply hk;clear hk k) |refine wkt rfl ?_));(try refine wk0 ?_)
        repeat (first |(refine wo rfl (fun k hk=>?_);simp(disch:=omega) only[go_sem,Nat.reduceBEq,Nat.reduceAdd];apply hk;clear hk k) |refine wkt rfl ?_ |refine wk0 ?_ |refine rg rfl rfl (fun K hK=>?_) |((first |refine AWP_exit ?_ |refine AWP_skip ?_);simp(disch:=decide) only[qs,qb,if_true,if_false,reduceIte]) |refine AWP_sq rfl (fun K hK=>?_) |refine ct rfl ?_ |((try simp(disch:=omega) only[go_sem,Nat.reduceBEq,Nat.reduceAdd]);(first |apply hK |(clear hK;apply hK) |(clear hK;clear hK;apply hK));clear hK;(try clear K);(try dsimp only[behind,qs,qb])))
        refine⟨(i+1,ds ++[(xs.getD i 0*2^(n % 16)+cy) % 65536],junk,(xs.getD i 0*2^(n % 16)+cy) / 65536),[2],?_,⟨hle,by dsimp only;omega,by simp;omega,lt_snoc hlt (Nat.mod_lt _ (by decide)),?_,?_⟩,by simp;omega⟩
        · simp(disch:=omega) only[go_sem,Nat.reduceBEq,Nat.reduceAdd,uw_snoc]
        · dsimp only
          apply Nat.div_lt_of_lt_mul
          have:=Nat.mul_le_mul_right (2^(n % 16)) (show xs.getD i 0+1≤65536 by omega)
          rw[Nat.add_mul] at this
          omega
        · simp only[List.length_append,List.length_singleton]
          rw[val_snoc,val_take_succ' _ xs,Nat.pow_succ]
          refine shl16_step hi rfl ?_
          rw[hdl,Nat.pow_add]
      · have hkl':i=xs.length:=by omega
        subst hkl'
        rw[List.take_of_length_le (Nat.le_refl _),hm] at hi
        have hval:val 65536 (ds ++[cy])=m*2^n:=by
          rw[val_snoc,hi,←B16_pow,←Nat.mul_assoc,←Nat.pow_add,Nat.div_add_mod,Nat.mul_comm]
        have hlt':=lt_snoc hlt (show cy < 65536 by omega)
        repeat (first |(refine rg rfl rfl (fun K hK=>?_);(repeat (first |(refine wo rfl (fun k hk=>?_);simp(disch:=omega) only[go_sem,Nat.reduceBEq,Nat.reduceAdd];apply hk;clear hk k) |refine wkt rfl ?_));(try refine wk0 ?_);apply hK;clear hK K;(try dsimp only[behind,qs,qb])) |((first |refine AWP_exit ?_ |refine AWP_skip ?_);simp(disch:=decide) only[qs,qb,if_true,if_false,reduceIte]) |refine AWP_sq rfl (fun K hK=>?_) |refine ct rfl ?_ |((first |refine hK _ _ ?_ |(clear hK;refine hK _ _ ?_) |(clear hK;clear hK;refine hK _ _ ?_));clear hK;(try clear K)))
        refine AWP_rsp [.o 0,.o 1,.o 2,.o 3,.p 2,.o 4,.o 5] rfl rfl (fun K hK=>?_);(repeat (first |(refine wo rfl (fun k hk=>?_);simp(disch:=omega) only[go_sem,Nat.reduceBEq,Nat.reduceAdd];apply hk;clear hk k) |refine wkt rfl ?_));(try refine wk0 ?_)
        refine wo rfl (fun k hk=>?_);simp(disch:=omega) only[go_sem,Nat.reduceBEq,Nat.reduceAdd]
        intro junk
        apply hk;clear hk k
        refine wkp ?_;simp(disch:=omega) only[go_sem,Nat.reduceBEq,Nat.reduceAdd];intro b h2 hs2 hb;(repeat (first |(refine wo rfl (fun k hk=>?_);simp(disch:=omega) only[go_sem,Nat.reduceBEq,Nat.reduceAdd];apply hk;clear hk k) |refine wkt rfl ?_));(try refine wk0 ?_)
        simp only[uw_snoc] at hb
        have hA:Arr h2 (some ⟨b,0,none⟩) (ds.length+1+junk.length) (ds ++[cy]):=.of_app hb hlt' (by simp;omega) (by simp)
        refine cN rfl rfl rfl rfl (by exact trim_N hA hlt' (by simp)) ?_;rintro v3 h3 _ hv3;obtain⟨v3,v3_l,v3_c,rfl,hv3⟩:=hv3.sl;(repeat (first |(refine wo rfl (fun k hk=>?_);simp(disch:=omega) only[go_sem,Nat.reduceBEq,Nat.reduceAdd];apply hk;clear hk k) |refine wkt rfl ?_));(try refine wk0 ?_)
        (try (simp(disch:=omega) only[go_sem,Nat.reduceBEq,Nat.reduceAdd]));apply hK;clear hK;(try clear K);(try dsimp only[behind,qs])
        refine AWP_ret ?_;simp(disch:=omega) only[go_sem,Nat.reduceBEq,Nat.reduceAdd]
        rwa[hval] at hv3
theorem trim_view {h':PH} {b L c:Nat} {xs:List Nat} {junk:List Value} (hb:h' b=some (uw xs ++junk).toArray) (hlt:∀x∈xs,x < 65536) (hs:xs.length≤2^46) (hl:xs.length=L) (hc:xs.length≤c):
    Spec mach 34 #[.slice (some ⟨b,0,none⟩) L c] h' (fun v _=>v=.slice (some ⟨b,0,none⟩) (W 65536 (val 65536 xs)).length c) NP:=by
  subst hl
  exact trim_spec (h0:=h') (.of_app (fun _=>hb) hlt hs hc) hlt
theorem NatShl_own {h0 h:PH} [Le h0 h] {v:Value} {m n:Nat} (hv:N16 h0 v m) (hm0:m≠0) (bm:bl m+n≤2^40):SpecO mach 52 #[v,.int .i64 n] h (fun row len _=>∃junk,row=uw (W 65536 (m*2^n)) ++junk∧len=(W 65536 (m*2^n)).length):=by
  obtain⟨a,c,xs,rfl,ha,hxs,hm,hx16⟩:=hv.out
  have hs:xs.length+n≤2^40:=by have:=len16_le_bl m;rw[hxs] at this;omega
  have hx0:¬xs.length=0:=by intro e;exact hm0 (by rw[←hm,List.eq_nil_of_length_eq_zero e];rfl)
  refine SpecO.enter (args:=[_,_]) (n:=55) Tryz.func52 rfl (by kernel_rfl) rfl (by simp) 4 rfl (fun C _=>?_)
  by_cases hz:n=0
  · subst hz
    rw[Nat.pow_zero,Nat.mul_one]
    have huw:uw xs≠[]:=(uw_ne xs).2 (fun e=>hx0 (by rw[e];rfl))
    repeat (first |(refine wo rfl (fun k hk=>?_);simp(disch:=omega) only[go_sem,Nat.reduceBEq,Nat.reduceAdd];apply hk;clear hk k) |refine wkt rfl ?_ |refine wk0 ?_ |refine rg rfl rfl (fun K hK=>?_) |((first |refine AWP_exit ?_ |refine AWP_skip ?_);simp(disch:=decide) only[qs,qb,if_true,if_false,reduceIte]) |refine AWP_sq rfl (fun K hK=>?_) |refine ct rfl ?_ |((try simp(disch:=omega) only[go_sem,Nat.reduceBEq,Nat.reduceAdd]);(first |apply hK |(clear hK;apply hK) |(clear hK;clear hK;apply hK));clear hK;(try clear K);(try dsimp only[behind,qs,qb])))
    refine wo rfl (fun k hk=>?_);simp(disch:=omega) only[go_sem,Nat.reduceBEq,Nat.reduceAdd]
    refine⟨uw xs,by simp[uw],fun hne=>?_,uw_all xs,fun junk=>?_⟩
    · obtain⟨ad',h1,h2⟩:=ha.cells h hne
      exact⟨ad',h1,h2⟩
    apply hk;clear hk k
    (repeat (first |(refine wo rfl (fun k hk=>?_);simp(disch:=omega) only[go_sem,Nat.reduceBEq,Nat.reduceAdd];apply hk;clear hk k) |refine wkt rfl ?_));(try refine wk0 ?_)
    (try (simp(disch:=omega) only[go_sem,Nat.reduceBEq,Nat.reduceAdd]));apply hK;clear hK;(try clear K);(try dsimp only[behind,qs])
    refine AWP_ret ?_;simp(disch:=omega) only[go_sem,Nat.reduceBEq,Nat.reduceAdd]
    exact⟨by simp[huw],junk,by rw[hxs],by rw[hxs]⟩
  · have hn0:¬n=0:=hz
    have hp:2^(n % 16)≤32768:=Nat.pow_le_pow_right (show 0 < 2 by omega) (show n % 16≤15 by omega)
    have hp0:0 < 2^(n % 16):=Nat.pow_pos (by omega)
    have hrep:uw (List.replicate (n / 16+xs.length+1) 0)=uw (List.replicate (n / 16) 0) ++uw (List.replicate (xs.length+1) 0):=by
      rw[←uw_append,List.replicate_append_replicate,Nat.add_assoc]
    repeat (first |(refine wo rfl (fun k hk=>?_);simp(disch:=omega) only[go_sem,Nat.reduceBEq,Nat.reduceAdd];apply hk;clear hk k) |refine wkt rfl ?_ |refine wk0 ?_ |refine rg rfl rfl (fun K hK=>?_) |((first |refine AWP_exit ?_ |refine AWP_skip ?_);simp(disch:=decide) only[qs,qb,if_true,if_false,reduceIte]) |refine AWP_sq rfl (fun K hK=>?_) |refine ct rfl ?_ |((try simp(disch:=omega) only[go_sem,Nat.reduceBEq,Nat.reduceAdd]);(first |apply hK |(clear hK;apply hK) |(clear hK;clear hK;apply hK));clear hK;(try clear K);(try dsimp only[behind,qs,qb])))
    refine AWP_loopS (fun x:Nat×List Nat×List Value×Nat=>⟨[(1,.v (.int .i64 n)),(5,.s 0 0 x.2.1.length (x.2.1.length+x.2.2.1.length)),(6,.v (.int .u32 x.2.2.2)),(29,.v (.slice a xs.length c)),(30,.v (.int .i64 xs.length)),(31,.v (.int .i64 x.1))],[uw x.2.1 ++x.2.2.1]⟩)
      (fun x h'=>Le h0 h'∧x.1≤xs.length∧x.2.1.length=n / 16+x.1∧(∀d∈x.2.1,d < 65536)∧x.2.2.2 < 2^(n % 16)∧val 65536 x.2.1+65536^x.2.1.length*x.2.2.2=65536^(n / 16)*(2^(n % 16)*val 65536 (xs.take x.1))) (fun x=>xs.length - x.1) (0,List.replicate (n / 16) 0,uw (List.replicate (xs.length+1) 0),0) [0] ?_ ⟨inferInstance,by simp,by simp,lt_zeros (by decide),hp0,by simp[val,val_zeros]⟩ ?_
    · simp(disch:=omega) only[go_sem,Nat.reduceBEq,Nat.reduceAdd,hrep,←Nat.add_assoc]
    · rintro⟨i,ds,jk,cy⟩ h1 ⟨hle,hk,hdl,hlt,hcy,hi⟩
      dsimp only at hk hdl hlt hcy hi ⊢
      by_cases hkl:i < xs.length
      · obtain⟨ad,rfl,hat⟩:=ha.rd h1 (i:=i) (by omega)
        have hx:=getD_lt (by decide) hx16 i
        have hb:xs.getD i 0*2^(n % 16)≤65535*32768:=Nat.mul_le_mul (by omega) hp
        have hor:=or_add' (x:=xs.getD i 0) hcy
        repeat (first |(refine wo rfl (fun k hk=>?_);simp(disch:=omega) only[go_sem,Nat.reduceBEq,Nat.reduceAdd,hat,hor];apply hk;clear hk k) |refine wkt rfl ?_ |refine wk0 ?_ |refine rg rfl rfl (fun K hK=>?_) |((first |refine AWP_exit ?_ |refine AWP_skip ?_);simp(disch:=decide) only[qs,qb,if_true,if_false,reduceIte]) |refine AWP_sq rfl (fun K hK=>?_) |refine ct rfl ?_ |((try simp(disch:=omega) only[go_sem,Nat.reduceBEq,Nat.reduceAdd]);(first |apply hK |(clear hK;apply hK) |(clear hK;clear hK;apply hK));clear hK;(try clear K);(try dsimp only[behind,qs,qb])))
        refine wo rfl (fun k hk=>?_);simp(disch:=omega) only[go_sem,Nat.reduceBEq,Nat.reduceAdd]
        intro junk
        apply hk;clear hk k
        (repeat (first |(refine wo rfl (fun k hk=>?_);simp(disch:=omega) only[go_sem,Nat.reduceBEq,Nat.reduceAdd];apply hk;clear hk k) |refine wkt rfl ?_));(try refine wk0 ?_)
        repeat (first |(refine wo rfl (fun k hk=>?_);simp(disch:=omega) only[go_sem,Nat.reduceBEq,Nat.reduceAdd];apply hk;clear hk k) |refine wkt rfl ?_ |refine wk0 ?_ |refine rg rfl rfl (fun K hK=>?_) |((first |refine AWP_exit ?_ |refine AWP_skip ?_);simp(disch:=decide) only[qs,qb,if_true,if_false,reduceIte]) |refine AWP_sq rfl (fun K hK=>?_) |refine ct rfl ?_ |((try simp(disch:=omega) only[go_sem,Nat.reduceBEq,Nat.reduceAdd]);(first |apply hK |(clear hK;apply hK) |(clear hK;clear hK;apply hK));clear hK;(try clear K);(try dsimp only[behind,qs,qb])))
        refine⟨(i+1,ds ++[(xs.getD i 0*2^(n % 16)+cy) % 65536],junk,(xs.getD i 0*2^(n % 16)+cy) / 65536),[2],?_,⟨hle,by dsimp only;omega,by simp;omega,lt_snoc hlt (Nat.mod_lt _ (by decide)),?_,?_⟩,by simp;omega⟩
        · simp(disch:=omega) only[go_sem,Nat.reduceBEq,Nat.reduceAdd,uw_snoc]
        · dsimp only
          apply Nat.div_lt_of_lt_mul
          have:=Nat.mul_le_mul_right (2^(n % 16)) (show xs.getD i 0+1≤65536 by omega)
          rw[Nat.add_mul] at this
          omega
        · simp only[List.length_append,List.length_singleton]
          rw[val_snoc,val_take_succ' _ xs,Nat.pow_succ]
          refine shl16_step hi rfl ?_
          rw[hdl,Nat.pow_add]
      · have hkl':i=xs.length:=by omega
        subst hkl'
        rw[List.take_of_length_le (Nat.le_refl _),hm] at hi
        have hval:val 65536 (ds ++[cy])=m*2^n:=by
          rw[val_snoc,hi,←B16_pow,←Nat.mul_assoc,←Nat.pow_add,Nat.div_add_mod,Nat.mul_comm]
        have hlt':=lt_snoc hlt (show cy < 65536 by omega)
        repeat (first |(refine wo rfl (fun k hk=>?_);simp(disch:=omega) only[go_sem,Nat.reduceBEq,Nat.reduceAdd];apply hk;clear hk k) |refine wkt rfl ?_ |refine wk0 ?_ |refine rg rfl rfl (fun K hK=>?_) |((first |refine AWP_exit ?_ |refine AWP_skip ?_);simp(disch:=decide) only[qs,qb,if_true,if_false,reduceIte]) |refine AWP_sq rfl (fun K hK=>?_) |refine ct rfl ?_ |((try simp(disch:=omega) only[go_sem,Nat.reduceBEq,Nat.reduceAdd]);(first |apply hK |(clear hK;apply hK) |(clear hK;clear hK;apply hK));clear hK;(try clear K);(try dsimp only[behind,qs,qb])))
        refine wo rfl (fun k hk=>?_);simp(disch:=omega) only[go_sem,Nat.reduceBEq,Nat.reduceAdd]
        intro junk
        apply hk;clear hk k
        simp only[uw_snoc]
        refine wo rfl (fun k hk=>?_);simp(disch:=omega) only[go_sem,Nat.reduceBEq,Nat.reduceAdd]
        refine call_view (R:=fun x=>x=.s 2 0 (W 65536 (m*2^n)).length (ds.length+1+junk.length)) 2 rfl ?_ rfl (fun b h' hs hb=>?_) ?_
        · intro e
          have:=congrArg List.length e
          simp[AS.box,uw] at this
        · haveI:Step h1 h':=hs
          refine(trim_view (L:=ds.length+1) (c:=ds.length+1+junk.length) hb hlt' (by simp;omega) (by simp) (by simp)).mono (fun v h2 _ hv=>⟨_,rfl,rfl,?_⟩) (fun _ _ _ h=>h)
          rw[hv,hval];rfl
        rintro x rfl
        apply hk;clear hk k
        (repeat (first |(refine wo rfl (fun k hk=>?_);simp(disch:=omega) only[go_sem,Nat.reduceBEq,Nat.reduceAdd];apply hk;clear hk k) |refine wkt rfl ?_));(try refine wk0 ?_)
        (try (simp(disch:=omega) only[go_sem,Nat.reduceBEq,Nat.reduceAdd]));apply hK;clear hK;(try clear K);(try dsimp only[behind,qs])
        obtain⟨q,hq,hqW⟩:=W_prefix B16 (ds ++[cy]) hlt'
        rw[hval] at hqW
        refine AWP_ret ?_;simp(disch:=omega) only[go_sem,Nat.reduceBEq,Nat.reduceAdd]
        refine⟨by simp[uw],uw ((ds ++[cy]).drop q) ++junk,?_⟩
        rw[hqW,←List.append_assoc,←uw_append,List.take_append_drop]
theorem shr16_digit {t r:Nat} (hr:r≤16):(t % 65536+t / 65536 % 65536*65536) / 2^r % 65536=t / 2^r % 65536:=by
  have hp:0 < 2^r:=Nat.pow_pos (by omega)
  have e:(65536:Nat)=2^r*2^(16 - r):=by rw[←Nat.pow_add,show r+(16 - r)=16 by omega]
  have h1:t=2^r*(65536*(2^(16 - r)*(t / 65536 / 65536)))+(t % 65536+t / 65536 % 65536*65536):=by
    have:2^r*(65536*(2^(16 - r)*(t / 65536 / 65536)))=65536*65536*(t / 65536 / 65536):=by
      rw[Nat.mul_left_comm,←Nat.mul_assoc (2^r),←e,Nat.mul_assoc]
    omega
  conv=>rhs;rw[h1]
  rw[Nat.mul_add_div hp,Nat.mul_add_mod]
theorem addr_add (a:Addr) (j k:Nat):(a.add j).add k=a.add (j+k):=by
  unfold Addr.add
  by_cases h1:j=0<;>by_cases h2:k=0<;>simp[h1,h2,Nat.add_assoc]
theorem Arr.drop {h:PH} {ad:Addr} {c:Nat} {xs:List Nat} (r:Arr h (some ad) c xs) (k:Nat) (hk:k≤xs.length):Arr h (some (ad.add k)) (c - k) (xs.drop k):=
  ⟨by have:=r.cap;simp;omega,by have:=r.small;simp;omega,fun x hx=>r.lt x (List.mem_of_mem_drop hx),fun i x hx=>⟨_,rfl,by
    rw[List.getElem?_drop] at hx
    obtain⟨ad',h1,h2⟩:=r.at_ _ _ hx
    cases h1
    rw[←h2,addr_add]⟩⟩
theorem NatShr_spec {h0 h:PH} [Le h0 h] {v:Value} {m n:Nat} (hv:N16 h0 v m) (bm:bl m≤2^40) (hn:n≤2^40):Spec mach 54 #[v,.int .i64 n] h (fun v h'=>N16 h' v (m / 2^n)) NP:=by
  obtain⟨a,c,xs,rfl,ha,hxs,hm,hx16⟩:=hv.out
  have hs:xs.length≤2^40:=by have:=len16_le_bl m;rw[hxs] at this;omega
  have hp:0 < 2^(n % 16):=Nat.pow_pos (by omega)
  have h2n:2^n=65536^(n / 16)*2^(n % 16):=by rw[←B16_pow,←Nat.pow_add,Nat.div_add_mod]
  have hml:m < 65536^xs.length:=by rw[←hxs];exact lt_W_length (by decide) m
  have hdig:∀i,xs.getD i 0=m / 65536^i % 65536:=fun i=>by rw[←hxs,W_getD (by decide)]
  refine Spec.enter (args:=[_,_]) (n:=58) Tryz.func54 rfl (by kernel_rfl) rfl (by simp) [.tmp 4] rfl (fun C _=>?_)
  by_cases hx0:xs.length≤n / 16
  · repeat (first |(refine wo rfl (fun k hk=>?_);simp(disch:=omega) only[go_sem,Nat.reduceBEq,Nat.reduceAdd];apply hk;clear hk k) |refine wkt rfl ?_ |refine wk0 ?_ |refine rg rfl rfl (fun K hK=>?_) |((first |refine AWP_exit ?_ |refine AWP_skip ?_);simp(disch:=decide) only[qs,qb,if_true,if_false,reduceIte]) |refine AWP_sq rfl (fun K hK=>?_) |refine ct rfl ?_ |((try simp(disch:=omega) only[go_sem,Nat.reduceBEq,Nat.reduceAdd]);(first |apply hK |(clear hK;apply hK) |(clear hK;clear hK;apply hK));clear hK;(try clear K);(try dsimp only[behind,qs,qb])))
    refine AWP_ret ?_;simp(disch:=omega) only[go_sem,Nat.reduceBEq,Nat.reduceAdd]
    have:m / 2^n=0:=by
      rw[h2n]
      apply Nat.div_eq_of_lt
      have h1:=Nat.pow_le_pow_right (show 0 < 65536 by decide) hx0
      have h2:=Nat.mul_le_mul_left (65536^(n / 16)) hp
      omega
    rw[this];exact N16.zero _
  obtain⟨ad0,rfl,_⟩:=ha.get (i:=0) (by omega)
  have hcap:=ha.cap
  have hif:(if c=n / 16 then some ad0 else some (ad0.add (n / 16)))=some (ad0.add (n / 16)):=if_neg (by omega)
  have hlen:(xs.drop (n / 16)).length=xs.length - n / 16:=by simp
  have hA:=ha.drop (n / 16) (by omega)
  obtain⟨ys,hys⟩:∃ys,xs.drop (n / 16)=ys:=⟨_,rfl⟩
  rw[hys] at hlen hA
  have hdy:∀i,ys.getD i 0=m / 65536^(n / 16+i) % 65536:=fun i=>by rw[←hdig,←hys];simp[List.getD_eq_getElem?_getD,List.getElem?_drop]
  have hy16:∀x∈ys,x < 65536:=fun x hx=>hx16 x (by rw[←hys] at hx;exact List.mem_of_mem_drop hx)
  repeat (first |(refine rg rfl rfl (fun K hK=>?_);(repeat (first |(refine wo rfl (fun k hk=>?_);simp(disch:=omega) only[go_sem,Nat.reduceBEq,Nat.reduceAdd,hif];apply hk;clear hk k) |refine wkt rfl ?_));(try refine wk0 ?_);apply hK;clear hK K;(try dsimp only[behind,qs,qb])) |((first |refine AWP_exit ?_ |refine AWP_skip ?_);simp(disch:=decide) only[qs,qb,if_true,if_false,reduceIte]) |refine AWP_sq rfl (fun K hK=>?_) |refine ct rfl ?_ |((first |refine hK _ _ ?_ |(clear hK;refine hK _ _ ?_) |(clear hK;clear hK;refine hK _ _ ?_));clear hK;(try clear K)))
  rw[←hlen]
  refine AWP_loopS (fun x:List Nat×List Value=>⟨[(0,.v (.slice (some (ad0.add (n / 16))) ys.length (c - n / 16))),(1,.v (.int .i64 n)),(5,.s 0 0 x.1.length (x.1.length+x.2.length)),(25,.v (.int .i64 ys.length)),(26,.v (.int .i64 x.1.length))],[uw x.1 ++x.2]⟩)
      (fun x h'=>Le h0 h'∧x.1.length≤ys.length∧(∀d∈x.1,d < 65536)∧val 65536 x.1=(m / 2^n) % 65536^x.1.length) (fun x=>ys.length - x.1.length) ([],uw (List.replicate ys.length 0)) [0] ?_ ⟨inferInstance,by simp,by simp,by simp[val,Nat.mod_one]⟩ ?_
  · simp(disch:=omega) only[go_sem,Nat.reduceBEq,Nat.reduceAdd]
  · rintro⟨ds,jk⟩ h1 ⟨hle,hk,hlt,hi⟩
    dsimp only at hk hlt hi ⊢
    by_cases hkl:ds.length < ys.length
    · obtain⟨ad,hade,hat⟩:=hA.rd h1 (i:=ds.length) (by omega)
      obtain rfl:ad0.add (n / 16)=ad:=by simpa using hade
      have hx:=getD_lt (by decide) hy16 ds.length
      have hd:m / 2^n / 65536^ds.length=m / 65536^(n / 16+ds.length) / 2^(n % 16):=by
        rw[h2n,Nat.div_div_eq_div_mul,Nat.div_div_eq_div_mul,Nat.pow_add];congr 1;simp only[Nat.mul_assoc,Nat.mul_comm,Nat.mul_left_comm]
      have hdd:=shr16_digit (t:=m / 65536^(n / 16+ds.length)) (r:=n % 16) (by omega)
      rw[←hd,Nat.div_div_eq_div_mul m,←Nat.pow_succ,←hdy,Nat.succ_eq_add_one,Nat.add_assoc,←hdy] at hdd
      by_cases hk1:ds.length+1 < ys.length
      · obtain⟨ad',h',hat'⟩:=hA.rd h1 (i:=ds.length+1) (by omega)
        obtain rfl:ad0.add (n / 16)=ad':=by simpa using h'
        have hx':=getD_lt (by decide) hy16 (ds.length+1)
        simp(disch:=omega) only[go_sem,Nat.reduceBEq,Nat.reduceAdd] at hat'
        repeat (first |(refine wo rfl (fun k hk=>?_);simp(disch:=omega) only[go_sem,Nat.reduceBEq,Nat.reduceAdd,hat,hat'];apply hk;clear hk k) |refine wkt rfl ?_ |refine wk0 ?_ |refine rg rfl rfl (fun K hK=>?_) |((first |refine AWP_exit ?_ |refine AWP_skip ?_);simp(disch:=decide) only[qs,qb,if_true,if_false,reduceIte]) |refine AWP_sq rfl (fun K hK=>?_) |refine ct rfl ?_ |((try simp(disch:=omega) only[go_sem,Nat.reduceBEq,Nat.reduceAdd]);(first |apply hK |(clear hK;apply hK) |(clear hK;clear hK;apply hK));clear hK;(try clear K);(try dsimp only[behind,qs,qb])))
        refine wo rfl (fun k hk=>?_);simp(disch:=omega) only[go_sem,Nat.reduceBEq,Nat.reduceAdd]
        intro junk
        apply hk;clear hk k
        (repeat (first |(refine wo rfl (fun k hk=>?_);simp(disch:=omega) only[go_sem,Nat.reduceBEq,Nat.reduceAdd];apply hk;clear hk k) |refine wkt rfl ?_));(try refine wk0 ?_)
        repeat (first |(refine wo rfl (fun k hk=>?_);simp(disch:=omega) only[go_sem,Nat.reduceBEq,Nat.reduceAdd];apply hk;clear hk k) |refine wkt rfl ?_ |refine wk0 ?_ |refine rg rfl rfl (fun K hK=>?_) |((first |refine AWP_exit ?_ |refine AWP_skip ?_);simp(disch:=decide) only[qs,qb,if_true,if_false,reduceIte]) |refine AWP_sq rfl (fun K hK=>?_) |refine ct rfl ?_ |((try simp(disch:=omega) only[go_sem,Nat.reduceBEq,Nat.reduceAdd]);(first |apply hK |(clear hK;apply hK) |(clear hK;clear hK;apply hK));clear hK;(try clear K);(try dsimp only[behind,qs,qb])))
        refine⟨(ds ++[(ys.getD ds.length 0+ys.getD (ds.length+1) 0*65536) / 2^(n % 16) % 65536],junk),[2],?_,⟨hle,by simp;omega,lt_snoc hlt (Nat.mod_lt _ (by decide)),?_⟩,by simp;omega⟩
        · simp(disch:=omega) only[go_sem,Nat.reduceBEq,Nat.reduceAdd,uw_snoc]
        · simp only[List.length_append,List.length_singleton]
          rw[val_snoc,hi,Nat.mod_pow_succ,←hdd]
      · have hx':ys.getD (ds.length+1) 0=0:=getD_none (by omega)
        rw[hx',Nat.zero_mul,Nat.add_zero] at hdd
        repeat (first |(refine wo rfl (fun k hk=>?_);simp(disch:=omega) only[go_sem,Nat.reduceBEq,Nat.reduceAdd,hat];apply hk;clear hk k) |refine wkt rfl ?_ |refine wk0 ?_ |refine rg rfl rfl (fun K hK=>?_) |((first |refine AWP_exit ?_ |refine AWP_skip ?_);simp(disch:=decide) only[qs,qb,if_true,if_false,reduceIte]) |refine AWP_sq rfl (fun K hK=>?_) |refine ct rfl ?_ |((try simp(disch:=omega) only[go_sem,Nat.reduceBEq,Nat.reduceAdd]);(first |apply hK |(clear hK;apply hK) |(clear hK;clear hK;apply hK));clear hK;(try clear K);(try dsimp only[behind,qs,qb])))
        refine wo rfl (fun k hk=>?_);simp(disch:=omega) only[go_sem,Nat.reduceBEq,Nat.reduceAdd]
        intro junk
        apply hk;clear hk k
        (repeat (first |(refine wo rfl (fun k hk=>?_);simp(disch:=omega) only[go_sem,Nat.reduceBEq,Nat.reduceAdd];apply hk;clear hk k) |refine wkt rfl ?_));(try refine wk0 ?_)
        repeat (first |(refine wo rfl (fun k hk=>?_);simp(disch:=omega) only[go_sem,Nat.reduceBEq,Nat.reduceAdd];apply hk;clear hk k) |refine wkt rfl ?_ |refine wk0 ?_ |refine rg rfl rfl (fun K hK=>?_) |((first |refine AWP_exit ?_ |refine AWP_skip ?_);simp(disch:=decide) only[qs,qb,if_true,if_false,reduceIte]) |refine AWP_sq rfl (fun K hK=>?_) |refine ct rfl ?_ |((try simp(disch:=omega) only[go_sem,Nat.reduceBEq,Nat.reduceAdd]);(first |apply hK |(clear hK;apply hK) |(clear hK;clear hK;apply hK));clear hK;(try clear K);(try dsimp only[behind,qs,qb])))
        refine⟨(ds ++[ys.getD ds.length 0 / 2^(n % 16) % 65536],junk),[2],?_,⟨hle,by simp;omega,lt_snoc hlt (Nat.mod_lt _ (by decide)),?_⟩,by simp;omega⟩
        · simp(disch:=omega) only[go_sem,Nat.reduceBEq,Nat.reduceAdd,uw_snoc]
        · simp only[List.length_append,List.length_singleton]
          rw[val_snoc,hi,Nat.mod_pow_succ,←hdd]
    · have hkl':ds.length=ys.length:=by omega
      have hval:val 65536 ds=m / 2^n:=by
        rw[hi,Nat.mod_eq_of_lt]
        rw[h2n,←Nat.div_div_eq_div_mul]
        refine Nat.lt_of_le_of_lt (Nat.div_le_self _ _) ?_
        rw[Nat.div_lt_iff_lt_mul (Nat.pow_pos (by decide)),←Nat.pow_add,show ds.length+n / 16=xs.length by omega]
        exact hml
      repeat (first |(refine rg rfl rfl (fun K hK=>?_);(repeat (first |(refine wo rfl (fun k hk=>?_);simp(disch:=omega) only[go_sem,Nat.reduceBEq,Nat.reduceAdd];apply hk;clear hk k) |refine wkt rfl ?_));(try refine wk0 ?_);apply hK;clear hK K;(try dsimp only[behind,qs,qb])) |((first |refine AWP_exit ?_ |refine AWP_skip ?_);simp(disch:=decide) only[qs,qb,if_true,if_false,reduceIte]) |refine AWP_sq rfl (fun K hK=>?_) |refine ct rfl ?_ |((first |refine hK _ _ ?_ |(clear hK;refine hK _ _ ?_) |(clear hK;clear hK;refine hK _ _ ?_));clear hK;(try clear K)))
      refine AWP_rsp [.p 0,.o 0,.o 1,.o 2] rfl rfl (fun K hK=>?_);(repeat (first |(refine wo rfl (fun k hk=>?_);simp(disch:=omega) only[go_sem,Nat.reduceBEq,Nat.reduceAdd];apply hk;clear hk k) |refine wkt rfl ?_));(try refine wk0 ?_)
      refine wkp ?_;simp(disch:=omega) only[go_sem,Nat.reduceBEq,Nat.reduceAdd];intro b h2 hs2 hb;(repeat (first |(refine wo rfl (fun k hk=>?_);simp(disch:=omega) only[go_sem,Nat.reduceBEq,Nat.reduceAdd];apply hk;clear hk k) |refine wkt rfl ?_));(try refine wk0 ?_)
      have hA2:Arr h2 (some ⟨b,0,none⟩) (ds.length+jk.length) ds:=.of_app hb hlt (by omega) (by omega)
      refine cN rfl rfl rfl rfl (by exact trim_N hA2 hlt rfl) ?_;rintro v3 h3 _ hv3;obtain⟨v3,v3_l,v3_c,rfl,hv3⟩:=hv3.sl;(repeat (first |(refine wo rfl (fun k hk=>?_);simp(disch:=omega) only[go_sem,Nat.reduceBEq,Nat.reduceAdd];apply hk;clear hk k) |refine wkt rfl ?_));(try refine wk0 ?_)
      (try (simp(disch:=omega) only[go_sem,Nat.reduceBEq,Nat.reduceAdd]));apply hK;clear hK;(try clear K);(try dsimp only[behind,qs])
      refine AWP_ret ?_;simp(disch:=omega) only[go_sem,Nat.reduceBEq,Nat.reduceAdd]
      rwa[hval] at hv3
end Go.Q
namespace Go.Q
open Go.Proofs
set_option maxRecDepth 100000
set_option maxHeartbeats 4000000
theorem less_spec {h0 h:PH} [Le h0 h] {a:Option Addr} {c L:Nat} {xs:List Nat} {v:Value} {d g:Nat} (ha:Arr h0 a c xs) (hlt:∀x∈xs,x < 65536) (hl:xs.length=L) (hv:N16 h0 v d) (bd:bl d≤2^39) (hg:g < 65536):
    Spec mach 86 #[.slice a L c,v,.int .u64 g] h (fun r _=>r=.bool (decide (val 65536 xs < d*g))) NP:=by
  obtain⟨va,vl,vc,rfl,hv⟩:=hv.sl
  have bg:bl g≤16:=bl_le.2 hg
  refine Spec.enter (args:=[_,_,_]) (n:=17) Tryz.func86 rfl (by kernel_rfl) rfl (by simp) [.tmp 6] rfl (fun C _=>?_)
  repeat (first |(refine wo rfl (fun k hk=>?_);simp(disch:=omega) only[go_sem,Nat.reduceBEq,Nat.reduceAdd];apply hk;clear hk k) |refine wkt rfl ?_ |refine wk0 ?_ |refine rg rfl rfl (fun K hK=>?_) |((first |refine AWP_exit ?_ |refine AWP_skip ?_);simp(disch:=decide) only[qs,qb,if_true,if_false,reduceIte]) |refine AWP_sq rfl (fun K hK=>?_) |refine ct rfl ?_ |((try simp(disch:=omega) only[go_sem,Nat.reduceBEq,Nat.reduceAdd]);(first |apply hK |(clear hK;apply hK) |(clear hK;clear hK;apply hK));clear hK;(try clear K);(try dsimp only[behind,qs,qb])))
  refine cN rfl rfl rfl rfl (by exact NatOf_spec (n:=g) (by omega)) ?_;rintro v1 h1 _ hv1;obtain⟨v1,v1_l,v1_c,rfl,hv1⟩:=hv1.sl;(repeat (first |(refine wo rfl (fun k hk=>?_);simp(disch:=omega) only[go_sem,Nat.reduceBEq,Nat.reduceAdd];apply hk;clear hk k) |refine wkt rfl ?_));(try refine wk0 ?_)
  refine cN rfl rfl rfl rfl (by exact NatMul_spec (hv.to (h':=h1)) hv1 (by omega) (by omega)) ?_;rintro v2 h2 _ hv2;obtain⟨v2,v2_l,v2_c,rfl,hv2⟩:=hv2.sl;(repeat (first |(refine wo rfl (fun k hk=>?_);simp(disch:=omega) only[go_sem,Nat.reduceBEq,Nat.reduceAdd];apply hk;clear hk k) |refine wkt rfl ?_));(try refine wk0 ?_)
  (try (simp(disch:=omega) only[go_sem,Nat.reduceBEq,Nat.reduceAdd]));apply hK;clear hK;(try clear K);(try dsimp only[behind,qs])
  refine rg rfl rfl (fun K hK=>?_);(repeat (first |(refine wo rfl (fun k hk=>?_);simp(disch:=omega) only[go_sem,Nat.reduceBEq,Nat.reduceAdd];apply hk;clear hk k) |refine wkt rfl ?_));(try refine wk0 ?_)
  refine cN rfl rfl rfl rfl (by exact trim_N ha hlt hl) ?_;rintro v3 h3 _ hv3;obtain⟨v3,v3_l,v3_c,rfl,hv3⟩:=hv3.sl;(repeat (first |(refine wo rfl (fun k hk=>?_);simp(disch:=omega) only[go_sem,Nat.reduceBEq,Nat.reduceAdd];apply hk;clear hk k) |refine wkt rfl ?_));(try refine wk0 ?_)
  refine cN rfl rfl rfl rfl (by exact NatCmp_spec hv3 (hv2.to (h':=h3))) ?_;rintro v4 h4 s4 rfl;(repeat (first |(refine wo rfl (fun k hk=>?_);simp(disch:=omega) only[go_sem,Nat.reduceBEq,Nat.reduceAdd];apply hk;clear hk k) |refine wkt rfl ?_));(try refine wk0 ?_)
  by_cases hc:val 65536 xs < d*g
  · have e:cmp3 (val 65536 xs) (d*g) < 0:=by simp[cmp3,hc]
    (try (simp(disch:=omega) only[go_sem,Nat.reduceBEq,Nat.reduceAdd]));apply hK;clear hK;(try clear K);(try dsimp only[behind,qs])
    refine AWP_ret ?_;simp(disch:=omega) only[go_sem,Nat.reduceBEq,Nat.reduceAdd]
    all_goals simp[hc]
  · have e:¬cmp3 (val 65536 xs) (d*g) < 0:=by simp only[cmp3,if_neg hc];split<;>decide
    (try (simp(disch:=omega) only[go_sem,Nat.reduceBEq,Nat.reduceAdd]));apply hK;clear hK;(try clear K);(try dsimp only[behind,qs])
    refine AWP_ret ?_;simp(disch:=omega) only[go_sem,Nat.reduceBEq,Nat.reduceAdd]
    all_goals simp[hc]
theorem Arr.of_mid {h:PH} {b:Nat} {pre ws:List Nat} {jk:List Value} {k cap:Nat} (hb:h b=some (uw (pre ++ws) ++jk).toArray) (hlt:∀x∈ws,x < 65536) (hk:k≤ws.length) (hs:k≤2^46) (hc:k≤cap):Arr h (some ⟨b,pre.length,none⟩) cap (ws.take k):=by
  refine⟨by simp;omega,by simp;omega,fun x hx=>by have:=hlt x (List.mem_of_mem_take hx);omega,fun i x hi=>⟨_,rfl,?_⟩⟩
  have hik:i < k:=by
    have:=(List.getElem?_eq_some_iff.1 hi).1
    simp at this;omega
  rw[List.getElem?_take,if_pos hik] at hi
  have hiw:i < ws.length:=(List.getElem?_eq_some_iff.1 hi).1
  have hx:(uw (pre ++ws) ++jk)[pre.length+i]?=some (.int .u32 x):=by
    rw[List.getElem?_append_left (by simp[uw];omega),uw_append,List.getElem?_append_right (by simp[uw])]
    simp[uw,hi]
  simp[PH.at,add_none,hb,hx]
theorem dstep {P B V o X Y g x y r q:Nat} (hs:x+B*q=r+(o+g*y)) (hi:X+P*o=V+g*Y):X+P*x+P*B*q=V+P*r+g*(Y+P*y):=by
  have e:P*(x+B*q)=P*(r+(o+g*y)):=by rw[hs]
  rw[Nat.mul_add,Nat.mul_add,Nat.mul_add,←Nat.mul_assoc P B,Nat.mul_left_comm P g] at e
  rw[Nat.mul_add g]
  omega
theorem emod_toNat64 (s:Int):((s % 18446744073709551616).toNat % 65536:Nat)=(s % 65536).toNat:=by omega
theorem and_low {s:Int}:andI .i64 s 65535=s % 65536:=by
  unfold andI
  rw[BitVec.toNat_and]
  have e1:(BitVec.ofInt IntKind.i64.bits s).toNat=(s % 18446744073709551616).toNat:=by rw[BitVec.toNat_ofInt];rfl
  have e2:(BitVec.ofInt IntKind.i64.bits 65535).toNat=2^16 - 1:=by decide
  rw[e1,e2,Nat.and_two_pow_sub_one_eq_mod,show(2:Nat)^16=65536 from rfl,emod_toNat64,IntKind.wrap_i64]
  omega
theorem sub_low {u o t:Nat} (hu:u < 65536):andI .i64 ((u:Int)+ -(o:Int) - (t:Int)) 65535=((u+65536*((o+t+65535 - u) / 65536) - (o+t):Nat):Int):=by
  rw[and_low];omega
theorem sub_high {u o t:Nat} (hu:u < 65536):((u:Int)+ -(o:Int) - (t:Int)).fdiv (2^min (Int.toNat 16) 64)= -(((o+t+65535 - u) / 65536:Nat):Int):=by
  rw[show(2:Int)^min (Int.toNat 16) 64=65536 from rfl,Int.fdiv_eq_ediv_of_nonneg _ (by decide)];omega
theorem sub_low0 {u o:Nat} (hu:u < 65536):andI .i64 ((u:Int)+ -(o:Int)) 65535=((u+65536*((o+65535 - u) / 65536) - o:Nat):Int):=by
  rw[and_low];omega
theorem sub_high0 {u o:Nat} (hu:u < 65536):((u:Int)+ -(o:Int)).fdiv (2^min (Int.toNat 16) 64)= -(((o+65535 - u) / 65536:Nat):Int):=by
  rw[show(2:Int)^min (Int.toNat 16) 64=65536 from rfl,Int.fdiv_eq_ediv_of_nonneg _ (by decide)];omega
attribute [go_sem] Int.neg_zero
@[go_sem] theorem uw_getj {rs:List Nat} {jk:List Value} {k:Nat} (hk:k < rs.length):(uw rs ++jk)[k]?=some (.int .u32 (rs.getD k 0:Nat)):=by
  rw[List.getElem?_append_left (by simpa[uw] using hk),uw_get hk]
@[go_sem] theorem ldb_uwj {rs:List Nat} {jk:List Value} {k:Nat} (hk:k < rs.length):ldb none (uw rs ++jk) k=some (.int .u32 (rs.getD k 0:Nat)):=by
  simp only[ldb]
  rw[List.getElem?_append_left (by simpa[uw] using hk),uw_get hk]
@[go_sem] theorem spl_uwj {rs:List Nat} {jk:List Value} {k d:Nat} (hk:k < rs.length):spl (uw rs ++jk) k (uw [d])=uw (rs.set k d) ++jk:=by
  rw[←uw_set]
  simp only[spl,uw,List.map_cons,List.map_nil]
  rw[List.set_append_left _ _ (by simpa using hk)]
theorem digit16_spec {h0 h:PH} [Le h0 h] {a:Option Addr} {c cap:Nat} {ys pre ws:List Nat} {jk:List Value} (ha:Arr h0 a c ys) (hy16:∀x∈ys,x < 65536) (hyW:W 65536 (val 65536 ys)=ys) (hn:1≤ys.length) (hn':bl (val 65536 ys)≤2^39) (hlt:∀x∈ws,x < 65536) (hlen:ys.length+1≤ws.length)
    (hlen':pre.length+ws.length≤2^41) (hcap:ys.length+1≤cap) (hU:val 65536 (ws.take (ys.length+1)) < 65536*val 65536 ys):
    SpecL mach 53 [.s 0 pre.length (ys.length+1) cap,.v (.slice a ys.length c)] (uw (pre ++ws) ++jk) h
      (fun v row' _=>v=.int .u32 (val 65536 (ws.take (ys.length+1)) / val 65536 ys:Nat)∧∃ws',row'=uw (pre ++ws') ++jk∧ws'.length=ws.length∧(∀x∈ws',x < 65536)∧ws'.drop (ys.length+1)=ws.drop (ys.length+1)∧val 65536 (ws'.take (ys.length+1))=val 65536 (ws.take (ys.length+1)) % val 65536 ys):=by
  obtain⟨N,hN⟩:∃N,ys.length=N+1:=⟨ys.length - 1,by omega⟩
  obtain⟨ad,rfl,hd1⟩:=ha.rd h (i:=ys.length - 1) (by omega)
  have hb1:=getD_lt (by decide) hy16 (ys.length - 1)
  have hw0:=getD_lt (by decide) hlt ys.length
  have hw1:=getD_lt (by decide) hlt (ys.length - 1)
  have hpl:(pre ++ws).length=pre.length+ws.length:=List.length_append
  obtain⟨U,hUe⟩:∃U,val 65536 (ws.take (ys.length+1))=U:=⟨_,rfl⟩
  obtain⟨D,hDe⟩:∃D,val 65536 ys=D:=⟨_,rfl⟩
  obtain⟨d1,hd1e⟩:∃d,ys.getD (ys.length - 1) 0=d:=⟨_,rfl⟩
  obtain⟨T,hT⟩:∃T,ws.getD ys.length 0*65536+ws.getD (ys.length - 1) 0=T:=⟨_,rfl⟩
  obtain⟨P,hP⟩:∃P,65536^N=P:=⟨_,rfl⟩
  have hP0:0 < P:=by rw[←hP];exact Nat.pow_pos (by decide)
  have hv:N16 h0 (.slice (some ad) ys.length c) D:=⟨some ad,c,by rw[←hDe,hyW],by rw[←hDe,hyW];exact ha⟩
  have hD0:D≠0:=by
    intro e
    rw[←hDe] at e
    rw[e,W_zero] at hyW
    rw[←hyW] at hn
    simp at hn
  have hys:ys.length≤2^39:=by have:=len16_le_bl (val 65536 ys);rw[hyW] at this;omega
  rw[hd1e] at hd1 hb1
  have hd10:d1≠0:=by
    rw[←hd1e]
    have h1:=W_top B16 (n:=val 65536 ys) (by rw[hDe];exact hD0)
    rw[hyW] at h1
    intro e
    have h2:=Nat.div_pos h1.2.1 (Nat.pow_pos (by decide))
    omega
  have hlu:val 65536 (ws.take N) < P:=by
    have:=val_lt (B:=65536) (by decide) (ws.take N) (fun x hx=>hlt x (List.mem_of_mem_take hx))
    rwa[List.length_take,Nat.min_eq_left (by omega),hP] at this
  have eU:U=val 65536 (ws.take N)+P*T:=by
    rw[←hUe,hN,val_take_succ',val_take_succ']
    simp only[Nat.pow_succ,hP]
    rw[←hT,hN,show N+1 - 1=N by omega]
    simp only[Nat.mul_add,Nat.mul_assoc,Nat.mul_comm (ws.getD (N+1) 0)]
    omega
  have eD:D=val 65536 (ys.take N)+P*d1:=by
    rw[←hDe,←hd1e,hN,show N+1 - 1=N by omega]
    conv=>lhs;rw[←List.take_of_length_le (i:=N+1) (l:=ys) (by omega)]
    rw[val_take_succ',hP]
  rw[hUe,hDe] at hU ⊢
  refine SpecL.enter (n:=78) Tryz.func53 rfl (by kernel_rfl) rfl (by simp) (by simp(disch:=omega) only[go_sem,Nat.reduceBEq,Nat.reduceAdd]) [.tmp 4] rfl (fun C rest hC=>?_)
  have hTb:T < 4294967296:=by rw[←hT];omega
  obtain⟨g0,hg0⟩:∃g,T / d1=g:=⟨_,rfl⟩
  have hg0b:g0≤T:=by rw[←hg0];exact Nat.div_le_self _ _
  have hst:U < (g0+1)*D:=by
    rw[←hg0]
    have h1:T < (T / d1+1)*d1:=by rw[Nat.mul_comm];exact Nat.lt_mul_div_succ T (by omega)
    have h2:P*(T+1)≤P*((T / d1+1)*d1):=Nat.mul_le_mul_left _ h1
    have h3:P*((T / d1+1)*d1)≤(T / d1+1)*D:=by rw[eD,Nat.mul_left_comm];exact Nat.mul_le_mul_left _ (by omega)
    rw[Nat.mul_add] at h2
    omega
  repeat (first |((first |refine rg rfl rfl (fun K hK=>?_) |refine rd [.o 0,.o 1,.o 2,.o 3,.o 4,.o 5,.o 6,.o 7,.o 8,.o 9,.o 10,.o 11,.o 12,.o 13] rfl (by decide+kernel) rfl (fun K hK=>?_));(repeat (first |(refine wo rfl (fun k hk=>?_);simp(disch:=omega) only[go_sem,Nat.reduceBEq,Nat.reduceAdd,hd1,hT,hg0];apply hk;clear hk k) |refine wkt rfl ?_));(try refine wk0 ?_);apply hK;clear hK K;(try dsimp only[behind,qs,qb])) |((first |refine AWP_exit ?_ |refine AWP_skip ?_);simp(disch:=decide) only[qs,qb,if_true,if_false,reduceIte]) |refine AWP_sq rfl (fun K hK=>?_) |refine ct rfl ?_ |((first |refine hK _ _ ?_ |(clear hK;refine hK _ _ ?_) |(clear hK;clear hK;refine hK _ _ ?_));clear hK;(try clear K)))
  have rest1:∀(g:Nat) (S:AS),S.le ⟨[(0,.s 0 pre.length (ys.length+1) cap),(1,.v (.slice (some ad) ys.length c)),(5,.v (.int .i64 ys.length)),(7,.v (.int .u64 g))],(uw (pre ++ws) ++jk) :: rest⟩→g < 65536→U < (g+1)*D→K S h:=by
    intro g S hS hg hUg
    refine hK _ _ (AWP_leP _ (by simp[hC]) hS ?_)
    clear hK hS
    refine AWP_seqk (fun K hK=>?_)
    refine AWP_block ?_
    refine AWP_loopP (fun g:Nat=>⟨[(0,.s 0 pre.length (ys.length+1) cap),(1,.v (.slice (some ad) ys.length c)),(5,.v (.int .i64 ys.length)),(7,.v (.int .u64 g))],(uw (pre ++ws) ++jk) :: rest⟩)
      (fun g h'=>h'=h∧g < 65536∧U < (g+1)*D) (fun g=>g) g (fun _=>by simp[hC]) ?_ ⟨rfl,hg,hUg⟩ ?_
    · simp(disch:=omega) only[go_sem,Nat.reduceBEq,Nat.reduceAdd]
    · clear hUg hg g
      rintro g h1 ⟨rfl,hg,hUg⟩
      refine AWP_sqs (fun K hK=>?_)
      (first |refine rg rfl rfl (fun K hK=>?_) |refine rd [.o 0,.o 1,.o 2,.o 3,.o 4,.o 5,.o 6,.o 7,.o 8,.o 9,.o 10,.o 11,.o 12,.o 13] rfl (by decide+kernel) rfl (fun K hK=>?_));(repeat (first |(refine wo rfl (fun k hk=>?_);simp(disch:=omega) only[go_sem,Nat.reduceBEq,Nat.reduceAdd];apply hk;clear hk k) |refine wkt rfl ?_));(try refine wk0 ?_)
      refine wo rfl (fun k hk=>?_);simp(disch:=omega) only[go_sem,Nat.reduceBEq,Nat.reduceAdd]
      refine call_lend (R:=fun v=>v=.bool (decide (U < D*g))) 0 rfl ?_ rfl (fun b h' hs hb=>?_) ?_
      · intro e
        have:=congrArg List.length e
        simp only[AS.box,List.getD_cons_zero,uw,List.length_map,List.length_append,List.length_nil] at this
        omega
      · haveI:Step h1 h':=hs
        have hA:=Arr.of_mid (k:=ys.length+1) (cap:=cap) hb hlt hlen (by omega) hcap
        have:=less_spec (h:=h') (L:=ys.length+1) (hA.to (h':=h')) (fun x hx=>hlt x (List.mem_of_mem_take hx)) (by rw[List.length_take,Nat.min_eq_left hlen]) (hv.to (h':=h')) (by rw[←hDe];exact hn') hg
        rw[hUe] at this
        exact this
      rintro v rfl
      apply hk;clear hk k
      by_cases hless:U < D*g
      · have hg1:1≤g:=by
          rcases g with _ |g
          · simp at hless
          · omega
        (repeat (first |(refine wo rfl (fun k hk=>?_);simp(disch:=omega) only[go_sem,Nat.reduceBEq,Nat.reduceAdd];apply hk;clear hk k) |refine wkt rfl ?_));(try refine wk0 ?_)
        repeat (first |(refine wo rfl (fun k hk=>?_);simp(disch:=omega) only[go_sem,Nat.reduceBEq,Nat.reduceAdd];apply hk;clear hk k) |refine wkt rfl ?_ |refine wk0 ?_ |refine rg rfl rfl (fun K hK=>?_) |refine rd [.o 0,.o 1,.o 2,.o 3,.o 4,.o 5,.o 6,.o 7,.o 8,.o 9,.o 10,.o 11,.o 12,.o 13] rfl (by decide+kernel) rfl (fun K hK=>?_) |((first |refine AWP_exit ?_ |refine AWP_skip ?_);simp(disch:=decide) only[qs,qb,if_true,if_false,reduceIte]) |refine AWP_sq rfl (fun K hK=>?_) |refine ct rfl ?_ |((try simp(disch:=omega) only[go_sem,Nat.reduceBEq,Nat.reduceAdd]);(first |apply hK |(clear hK;apply hK) |(clear hK;clear hK;apply hK));clear hK;(try clear K);(try dsimp only[behind,qs,qb])))
        refine⟨g - 1,?_,⟨by trivial,by omega,by rw[show g - 1+1=g by omega,Nat.mul_comm];exact hless⟩,by omega⟩
        simp(disch:=omega) only[go_sem,Nat.reduceBEq,Nat.reduceAdd]
      · have hless':g*D≤U:=by rw[Nat.mul_comm];omega
        have e1:U / D=g:=Nat.div_eq_of_lt_le hless' hUg
        have e2:g*D+U % D=U:=by have:=Nat.div_add_mod U D;rw[e1,Nat.mul_comm] at this;exact this
        (repeat (first |(refine wo rfl (fun k hk=>?_);simp(disch:=omega) only[go_sem,Nat.reduceBEq,Nat.reduceAdd];apply hk;clear hk k) |refine wkt rfl ?_));(try refine wk0 ?_)
        repeat (first |(refine wo rfl (fun k hk=>?_);simp(disch:=omega) only[go_sem,Nat.reduceBEq,Nat.reduceAdd];apply hk;clear hk k) |refine wkt rfl ?_ |refine wk0 ?_ |refine rg rfl rfl (fun K hK=>?_) |refine rd [.o 0,.o 1,.o 2,.o 3,.o 4,.o 5,.o 6,.o 7,.o 8,.o 9,.o 10,.o 11,.o 12,.o 13] rfl (by decide+kernel) rfl (fun K hK=>?_) |((first |refine AWP_exit ?_ |refine AWP_skip ?_);simp(disch:=decide) only[qs,qb,if_true,if_false,reduceIte]) |refine AWP_sq rfl (fun K hK=>?_) |refine ct rfl ?_ |((try simp(disch:=omega) only[go_sem,Nat.reduceBEq,Nat.reduceAdd]);(first |apply hK |(clear hK;apply hK) |(clear hK;clear hK;apply hK));clear hK;(try clear K);(try dsimp only[behind,qs,qb])))
        refine AWP_loopP (fun x:Nat×List Nat×Nat=>⟨[(0,.s 0 pre.length (ys.length+1) cap),(1,.v (.slice (some ad) ys.length c)),(5,.v (.int .i64 ys.length)),(7,.v (.int .u64 g)),(8,.v (.int .i64 (-(x.2.2:Int)))),(43,.v (.int .i64 (ys.length+1:Nat))),(44,.v (.int .i64 x.1))],(uw (pre ++x.2.1) ++jk) :: rest⟩)
          (fun x h'=>h'=h1∧x.1≤ys.length+1∧x.2.1.length=ws.length∧(∀d∈x.2.1,d < 65536)∧x.2.1.drop x.1=ws.drop x.1∧x.2.2≤65536∧val 65536 (ws.take x.1)+65536^x.1*x.2.2=val 65536 (x.2.1.take x.1)+g*val 65536 (ys.take x.1)) (fun x=>ys.length+1 - x.1) (0,ws,0) (fun _=>by simp[hC]) ?_ ⟨rfl,by simp,rfl,hlt,rfl,by simp,by simp[val]⟩ ?_
        · simp(disch:=omega) only[go_sem,Nat.reduceBEq,Nat.reduceAdd]
        · rintro⟨i,ws',o⟩ h2 ⟨rfl,hi,hl',hlt',hdr,ho,hinv⟩
          dsimp only at hi hl' hlt' hdr ho hinv ⊢
          have hpl':(pre ++ws').length=pre.length+ws.length:=by rw[List.length_append,hl']
          by_cases hin:i < ys.length+1
          · have hu:ws'.getD i 0=ws.getD i 0:=drop_getD_eq hdr (Nat.le_refl _)
            have hub:=getD_lt (by decide) hlt' i
            by_cases hiy:i < ys.length
            · obtain⟨ad',h',hat⟩:=ha.rd h2 (i:=i) (by omega)
              obtain rfl:ad=ad':=by simpa using h'
              have hw:=getD_lt (by decide) hy16 i
              have hgw:g*ys.getD i 0≤65535*65535:=Nat.mul_le_mul (by omega) (by omega)
              have f1:=sub_low (o:=o) (t:=g*ys.getD i 0) hub
              have f2:=sub_high (o:=o) (t:=g*ys.getD i 0) hub
              obtain⟨o',ho'⟩:∃q,(o+g*ys.getD i 0+65535 - ws'.getD i 0) / 65536=q:=⟨_,rfl⟩
              rw[ho'] at f1 f2
              obtain⟨d,hd⟩:∃d,ws'.getD i 0+65536*o' - (o+g*ys.getD i 0)=d:=⟨_,rfl⟩
              rw[hd] at f1
              have hde:ws'.getD i 0+65536*o'=d+(o+g*ys.getD i 0):=by omega
              have hdl:d < 65536:=by omega
              have hol:o'≤65536:=by omega
              repeat (first |(refine wo rfl (fun k hk=>?_);simp(disch:=omega) only[go_sem,Nat.reduceBEq,Nat.reduceAdd,hat,f1,f2];apply hk;clear hk k) |refine wkt rfl ?_ |refine wk0 ?_ |refine rg rfl rfl (fun K hK=>?_) |refine rd [.o 0,.o 1,.o 2,.o 3,.o 4,.o 5,.o 6,.o 7,.o 8,.o 9,.o 10,.o 11,.o 12,.o 13] rfl (by decide+kernel) rfl (fun K hK=>?_) |((first |refine AWP_exit ?_ |refine AWP_skip ?_);simp(disch:=decide) only[qs,qb,if_true,if_false,reduceIte]) |refine AWP_sq rfl (fun K hK=>?_) |refine ct rfl ?_ |((try simp(disch:=omega) only[go_sem,Nat.reduceBEq,Nat.reduceAdd]);(first |apply hK |(clear hK;apply hK) |(clear hK;clear hK;apply hK));clear hK;(try clear K);(try dsimp only[behind,qs,qb])))
              refine⟨(i+1,ws'.set i d,o'),?_,⟨by trivial,by dsimp only;omega,by simp[hl'],lt_set hlt' hdl,drop_set_eq hdr,hol,?_⟩,by dsimp only;omega⟩
              · simp(disch:=omega) only[go_sem,Nat.reduceBEq,Nat.reduceAdd]
              · dsimp only
                rw[val_set_take (by omega),val_take_succ' _ ws,val_take_succ' _ ys,Nat.pow_succ,←hu]
                exact dstep hde hinv
            · have f1:=sub_low0 (o:=o) hub
              have f2:=sub_high0 (o:=o) hub
              obtain⟨o',ho'⟩:∃q,(o+65535 - ws'.getD i 0) / 65536=q:=⟨_,rfl⟩
              rw[ho'] at f1 f2
              obtain⟨d,hd⟩:∃d,ws'.getD i 0+65536*o' - o=d:=⟨_,rfl⟩
              rw[hd] at f1
              have hde:ws'.getD i 0+65536*o'=d+o:=by omega
              have hdl:d < 65536:=by omega
              have hol:o'≤65536:=by omega
              repeat (first |(refine wo rfl (fun k hk=>?_);simp(disch:=omega) only[go_sem,Nat.reduceBEq,Nat.reduceAdd,f1,f2];apply hk;clear hk k) |refine wkt rfl ?_ |refine wk0 ?_ |refine rg rfl rfl (fun K hK=>?_) |refine rd [.o 0,.o 1,.o 2,.o 3,.o 4,.o 5,.o 6,.o 7,.o 8,.o 9,.o 10,.o 11,.o 12,.o 13] rfl (by decide+kernel) rfl (fun K hK=>?_) |((first |refine AWP_exit ?_ |refine AWP_skip ?_);simp(disch:=decide) only[qs,qb,if_true,if_false,reduceIte]) |refine AWP_sq rfl (fun K hK=>?_) |refine ct rfl ?_ |((try simp(disch:=omega) only[go_sem,Nat.reduceBEq,Nat.reduceAdd]);(first |apply hK |(clear hK;apply hK) |(clear hK;clear hK;apply hK));clear hK;(try clear K);(try dsimp only[behind,qs,qb])))
              refine⟨(i+1,ws'.set i d,o'),?_,⟨by trivial,by dsimp only;omega,by simp[hl'],lt_set hlt' hdl,drop_set_eq hdr,hol,?_⟩,by dsimp only;omega⟩
              · simp(disch:=omega) only[go_sem,Nat.reduceBEq,Nat.reduceAdd]
              · dsimp only
                rw[val_set_take (by omega),val_take_succ' _ ws,val_take_succ' _ ys,Nat.pow_succ,←hu,getD_none (show ys.length≤i by omega)]
                exact dstep (by rw[Nat.mul_zero];exact hde) hinv
          · obtain rfl:i=ys.length+1:=by omega
            rw[hUe,List.take_of_length_le (show ys.length≤ys.length+1 by omega),hDe] at hinv
            have hVl:val 65536 (ws'.take (ys.length+1)) < 65536^(ys.length+1):=by
              have:=val_lt (B:=65536) (by decide) (ws'.take (ys.length+1)) (fun x hx=>hlt' x (List.mem_of_mem_take hx))
              rwa[List.length_take,Nat.min_eq_left (by omega)] at this
            obtain⟨Z,hZ⟩:∃Z,65536^(ys.length+1)=Z:=⟨_,rfl⟩
            rw[hZ] at hinv hVl
            have ho0:o=0:=by
              rcases Nat.eq_zero_or_pos o with h' |h'
              · exact h'
              · exfalso
                have:=Nat.le_mul_of_pos_right Z h'
                omega
            rw[ho0,Nat.mul_zero] at hinv
            repeat (first |(refine wo rfl (fun k hk=>?_);simp(disch:=omega) only[go_sem,Nat.reduceBEq,Nat.reduceAdd];apply hk;clear hk k) |refine wkt rfl ?_ |refine wk0 ?_ |refine rg rfl rfl (fun K hK=>?_) |refine rd [.o 0,.o 1,.o 2,.o 3,.o 4,.o 5,.o 6,.o 7,.o 8,.o 9,.o 10,.o 11,.o 12,.o 13] rfl (by decide+kernel) rfl (fun K hK=>?_) |((first |refine AWP_exit ?_ |refine AWP_skip ?_);simp(disch:=decide) only[qs,qb,if_true,if_false,reduceIte]) |refine AWP_sq rfl (fun K hK=>?_) |refine ct rfl ?_ |((try simp(disch:=omega) only[go_sem,Nat.reduceBEq,Nat.reduceAdd]);(first |apply hK |(clear hK;apply hK) |(clear hK;clear hK;apply hK));clear hK;(try clear K);(try dsimp only[behind,qs,qb])))
            refine AWP_ret ?_;simp(disch:=omega) only[go_sem,Nat.reduceBEq,Nat.reduceAdd]
            refine⟨by rw[e1],ws',rfl,hl',hlt',hdr,by omega⟩
  refine AWP_cond rfl (fun ht=>?_) (fun ht=>?_)
  · have:=of_decide_eq_true ht
    refine AWP_sk rfl ?_;(repeat (first |(refine wo rfl (fun k hk=>?_);simp(disch:=omega) only[go_sem,Nat.reduceBEq,Nat.reduceAdd];apply hk;clear hk k) |refine wkt rfl ?_));(try refine wk0 ?_);simp only[qs,qb,if_true,if_false,reduceIte]
    refine rest1 65535 _ ?_ (by decide) hU
    simp(disch:=omega) only[go_sem,Nat.reduceBEq,Nat.reduceAdd]
    rfl
  · have:=of_decide_eq_false ht
    refine AWP_skip ?_;simp only[qs,qb,if_true,if_false,reduceIte]
    refine rest1 g0 _ ?_ (by omega) hst
    simp(disch:=omega) only[go_sem,Nat.reduceBEq,Nat.reduceAdd]
end Go.Q
